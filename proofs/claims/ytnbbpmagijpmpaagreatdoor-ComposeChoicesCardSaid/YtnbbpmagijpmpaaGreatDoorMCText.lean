/-
  Texts: the plain part of writing and reading.
-/
import Derived.Lib.ItoaNum
import Derived.Lib.ParseIntB
import Derived.Lib.IndexMore
import Derived.Lib.Strings
import Derived.WalkKit
import Derived.Deep.OwnRows
import Derived.Deep.Draws
import Derived.Test.YtnbbpmagijpmpaaGreatDoorProg
import Derived.WalkSpells
import Derived.WalkLawsBesides
import Derived.Deep.QuietTactic
import Derived.BigQuiet
import Derived.IntWalk
import Derived.Lib.Hide
import Derived.Test.YtnbbpmagijpmpaaGreatDoorMBase
set_option linter.unusedVariables false
set_option linter.unusedSimpArgs false
namespace AC
open Go
def put(o:Option (List UInt8))(t:List UInt8):Option (List UInt8):=
 match o with
 | none=>none
 | some s=>if s.length+t.length<=262144 then some (s++t)else none
theorem gq{α:Type}:(∀(l:List α) (i:Nat),l.toArray[i]? = l[i]?)/\(∀(a:α) (l:List α),(a::l)[0]? = some a)/\(∀(a:α) (l:List α) (i:Nat),(a::l)[i+1]? = l[i]?):=
 ⟨fun _ _=>List.getElem?_toArray,fun _ _=>rfl,fun _ _ _=>List.getElem?_cons_succ⟩
def B:Nat:=1000000000
theorem uhn:B=1000000000:=rfl
theorem ucs:0<B:=by decide
theorem uH(k:Nat):0<B^k:=Nat.pow_pos ucs
def vs(f:Nat->Nat):Nat->Nat
 | 0=>0
 | n+1=>vs f n+f n*B^n
def dg(n i:Nat):Nat:=n/B^i%B
def dl(n:Nat):Nat:=if h:n=0 then 0 else dl (n/B)+1
termination_by n
decreasing_by exact Nat.div_lt_self (Nat.pos_of_ne_zero h) (by decide)
theorem uZ(n i:Nat):dg n i<B:=Nat.mod_lt _ ucs
theorem ukz{f g:Nat->Nat}{k:Nat}(h:∀i,i<k->f i=g i):vs f k=vs g k:=by
 induction k with
 | zero=>rfl
 | succ k ih=>simp only[vs];rw[ih (fun i hi=>h i (by omega)),h k (by omega)]
theorem usw{f:Nat->Nat}{k:Nat}(h:∀i,i<k->f i<B):vs f k<B^k:=by
 induction k with
 | zero=>simp[vs]
 | succ k ih=>
  have h1:=ih (fun i hi=>h i (by omega))
  have h2:f k+1<=B:=h k (by omega)
  have h3:(f k+1)*B^k<=B*B^k:=aF _ h2;simp only[vs];rw[Nat.pow_succ,Nat.mul_comm (B^k) B];rw[Nat.add_mul,Nat.one_mul]at h3;omega
theorem uF(n k:Nat):n%B^(k+1)=n%B^k+dg n k*B^k:=by
 unfold dg;rw[Nat.pow_succ,Nat.mod_mul,Nat.mul_comm (B^k)]
theorem uDa(n k:Nat):vs (dg n) k=n%B^k:=by
 induction k with
 | zero=>simp[vs,Nat.mod_one]
 | succ k ih=>rw[vs,ih,uF]
theorem uCb(f:Nat->Nat)(k:Nat):vs f (k+1)/B^k=f k+vs f k/B^k:=by
 rw[vs,Nat.add_mul_div_right _ _ (uH k),Nat.add_comm]
theorem ubm(n k:Nat):n/B^(k+1)=n/B^k/B:=by
 rw[Nat.pow_succ,Nat.div_div_eq_div_mul]
theorem uda(f:Nat->Nat)(k:Nat):vs f (k+1)/B^(k+1)=(f k+vs f k/B^k)/B:=by
 rw[ubm,uCb]
theorem uuu(f:Nat->Nat){i k:Nat}(h:i<k):dg (vs f k) i=dg (vs f (i+1)) i:=by
 induction k with
 | zero=>omega
 | succ k ih=>
  rcases ah i k with hk|hk
  ·rw[<-ih hk]
   unfold dg;rw[vs];obtain⟨d,rfl⟩:∃d,k=i+1+d:=⟨k-(i+1),by omega⟩
   have e:f (i+1+d)*B^(i+1+d)=f (i+1+d)*B^d*B*B^i:=by
    rw[Nat.pow_add,Nat.pow_succ];simp only[Nat.mul_comm,Nat.mul_left_comm,Nat.mul_assoc]
   rw[e,Nat.add_mul_div_right _ _ (uH i),Nat.add_mul_mod_self_right]
  ·obtain rfl:i=k:=by omega
   rfl
theorem ufe(f:Nat->Nat){i k:Nat}(h:i<k):dg (vs f k) i=(f i+vs f i/B^i)%B:=by
 rw[uuu f h];unfold dg;rw[uCb]
theorem uDb{f:Nat->Nat}{i k:Nat}(hf:∀j,j<k->f j<B)(h:i<k):dg (vs f k) i=f i:=by
 rw[ufe f h,Nat.div_eq_of_lt (usw (fun j hj=>hf j (by omega))),Nat.add_zero,aV (hf i h)]
theorem uV:dl 0=0:=by rw[dl];simp
theorem uCc{n:Nat}(h:n≠0):dl n=dl (n/B)+1:=by rw[dl];simp[h]
theorem ue4{n k:Nat}(h:n<B^k):dl n<=k:=by
 induction k generalizing n with
 | zero=>
  have:n=0:=by simpa using h
  subst this;rw[uV];exact ab
 | succ k ih=>
  by_cases h0:n=0
  ·subst h0;rw[uV];omega
  ·rw[uCc h0]
   have:n/B<B^k:=by
    rw[Nat.div_lt_iff_lt_mul ucs,<-Nat.pow_succ];exact h
   have:=ih this;omega
theorem ua2(n:Nat):n<B^(dl n):=by
 induction n using Nat.strongRecOn with
 | ind n ih=>
  by_cases h0:n=0
  ·subst h0;rw[uV];decide
  ·rw[uCc h0,Nat.pow_succ]
   have:=ih (n/B) (Nat.div_lt_self (Nat.pos_of_ne_zero h0) (by decide))
   rwa [Nat.div_lt_iff_lt_mul ucs]at this
theorem uDc{n k:Nat}(h:B^k<=n):k<dl n:=by
 rcases ah k (dl n)with h1|h1
 ·exact h1
 ·have h2:=ua2 n
  have h3:B^(dl n)<=B^k:=Nat.pow_le_pow_right ucs h1;omega
theorem uR{n:Nat}:dl n=0↔n=0:=by
 constructor
 ·intro h;have:=ua2 n;rw[h]at this;simpa using this
 ·rintro rfl;exact uV
theorem ump{n k:Nat}(h1:n<B^(k+1))(h2:B^k<=n):dl n=k+1:=by
 have:=ue4 h1;have:=uDc h2;omega
theorem ud2{n:Nat}(h:n≠0):B^(dl n-1)<=n:=by
 rcases ah n (B^(dl n-1))with h1|h1
 ·have:=ue4 h1
  have h2:dl n≠0:=fun e=>h (uR.1 e)
  omega
 ·exact h1
theorem uCd{n:Nat}(h:n≠0):dg n (dl n-1)≠0:=by
 have h1:=ud2 h;have h2:=ua2 n;have h3:dl n≠0:=fun e=>h (uR.1 e)
 obtain⟨d,hd⟩:∃d,dl n=d+1:=⟨dl n-1,by omega⟩
 rw[hd]at h1 h2 ⊢;simp only[Nat.add_sub_cancel]at h1 ⊢;unfold dg;have h4:n/B^d<B:=by
  rw[Nat.div_lt_iff_lt_mul (uH d),Nat.mul_comm,<-Nat.pow_succ];exact h2
 rw[aV h4];have:=(Nat.le_div_iff_mul_le (k:=B^d) (x:=1) (y:=n) (uH d)).2 (by omega)
 omega
theorem uh9{n i:Nat}(h:n<B^i):dg n i=0:=by
 unfold dg;rw[Nat.div_eq_of_lt h];exact Nat.zero_mod _
theorem uff{n i:Nat}(h:dl n<=i):dg n i=0:=
 uh9 (af (ua2 n) (Nat.pow_le_pow_right ucs h))
theorem ub8{n m:Nat}(h:n<=m):dl n<=dl m:=ue4 (Nat.lt_of_le_of_lt h (ua2 m))
theorem uF1(n:Nat):vs (dg n) (dl n)=n:=by rw[uDa,aV (ua2 n)]
theorem ud3{n k:Nat}(h:n<B^k)(ht:k=0\/dg n (k-1)≠0):dl n=k:=by
 have h1:=ue4 h;rcases ah (dl n) k with h2|h2
 ·exact absurd (uff (n:=n) (i:=k-1) (by omega)) (by rcases ht with ht|ht;omega;exact ht)
 ·omega
theorem uT(a b:Nat):dl (a*b)<=dl a+dl b:=by
 apply ue4;rw[Nat.pow_add];have h1:=ua2 a;have h2:=ua2 b;rcases aK a with h0|h0
 ·subst h0;rw[Nat.zero_mul];exact Nat.mul_pos (uH _) (uH _)
 ·exact Nat.mul_lt_mul_of_lt_of_le h1 (Nat.le_of_lt h2) (uH _)
theorem umq(a b:Nat):dl (a+b)<=max (dl a) (dl b)+1:=by
 apply ue4;have h1:=af (ua2 a) (Nat.pow_le_pow_right ucs (Nat.le_max_left (dl a) (dl b)));have h2:=af (ua2 b) (Nat.pow_le_pow_right ucs (Nat.le_max_right (dl a) (dl b)));rw[Nat.pow_succ];have h3:B^max (dl a) (dl b)*2<=B^max (dl a) (dl b)*B:=Nat.mul_le_mul_left _ (by decide)
 omega
theorem uia{a b:Nat}(h:dl a<dl b):a<b:=by
 rcases ah a b with h1|h1
 ·exact h1
 ·have:=ub8 h1;omega
open Go Go.RowKit
def uu(w:World)(lo:Nat)(v:Value)(k:Nat)(f:Nat->Nat):Prop:=
 (∀i,i<k->f i<4294967296)/\∃A c,v = .slice A k c/\k<=c/\c<=maxLen /\
  (0<k->∃b off,A=some ⟨b,off,none⟩/\lo<=b/\b<w.heap.size/\∀i,i<k->w.cell? ⟨b,off+i,none⟩=some (.int .u32 ((f i:Nat):Int)))
def uL(w:World)(lo:Nat)(v:Value)(n:Nat):Prop:=uu w lo v (dl n) (dg n)
section
variable {w w':World} {lo lo':Nat} {v:Value} {k n:Nat} {f g:Nat->Nat}
theorem uu.vAb(h:uu w lo v k f)(hs:w.heap.size<=w'.heap.size)(hk:∀b,lo<=b->b<w.heap.size->w'.heap[b]? = w.heap[b]?):uu w' lo v k f:=by
 obtain⟨h1,A,c,rfl,h2,h3,h4⟩:=h;refine⟨h1,A,c,rfl,h2,h3,fun h0=>?_⟩
 obtain⟨b,off,rfl,h5,h6,h7⟩:=h4 h0;exact⟨b,off,rfl,h5,by omega,fun i hi=>(World.cell?_of_block (a:=⟨b,off+i,none⟩) (hk b h5 h6)).trans (h7 i hi)⟩
theorem uu.below(h:uu w lo v k f)(hb:Below w.heap.size w w'):uu w' lo v k f:=h.vAb hb.size fun b _ a0=>hb.block b a0
theorem uu.lower(h:uu w lo v k f)(hl:lo'<=lo):uu w lo' v k f:=by
 obtain⟨h1,A,c,rfl,h2,h3,h4⟩:=h;refine⟨h1,A,c,rfl,h2,h3,fun h0=>?_⟩
 obtain⟨b,off,rfl,h5,h6,h7⟩:=h4 h0;exact⟨b,off,rfl,by omega,h6,h7⟩
theorem uu.drewN(h:uu w lo v k f)(m:Nat):uu (w.drewN m) lo v k f:=h
theorem uu.alloc(h:uu w lo v k f)(o:Obj):uu (w.alloc o) lo v k f:=
 h.vAb (by simp) fun b _ hb=>Below.heap_alloc w o b hb
theorem uu.setCell(h:uu w lo v k f){p:Addr}(hp:p.block<lo)(u:Value):uu (w.setCell p u) lo v k f:=
 h.vAb (by simp[World.setCell]) fun b hl _=>Below.heap_setCell w p u b (by omega)
theorem uu.nil(w:World)(lo:Nat)(f:Nat->Nat):uu w lo (.slice none 0 0) 0 f:=
 ⟨fun i hi=>absurd hi (by omega),none,0,rfl,ab,Nat.zero_le _,fun h=>absurd h (by omega)⟩
theorem uu.len(h:uu w lo v k f):∃A c,v = .slice A k c:=by
 obtain⟨_,A,c,rfl,_⟩:=h;exact⟨A,c,rfl⟩
theorem uL.below(h:uL w lo v n)(hb:Below w.heap.size w w'):uL w' lo v n:=uu.below h hb
theorem uL.lower(h:uL w lo v n)(hl:lo'<=lo):uL w lo' v n:=uu.lower h hl
theorem uL.drew(h:uL w lo v n):uL w.drew lo v n:=h
theorem uL.drewN(h:uL w lo v n)(m:Nat):uL (w.drewN m) lo v n:=h
theorem uL.alloc(h:uL w lo v n)(o:Obj):uL (w.alloc o) lo v n:=uu.alloc h o
theorem uL.zero(w:World)(lo:Nat):uL w lo (.slice none 0 0) 0:=by
 unfold uL;rw[uV];exact uu.nil _ _ _
theorem uL.of(h:uu w lo v k (dg n))(e:dl n=k):uL w lo v n:=by unfold uL;rw[e];exact h
end
def row(f:Nat->Nat)(k:Nat):List Value:=(List.range k).map fun i=>Value.int .u32 ((f i:Nat):Int)
theorem ujx(f:Nat->Nat)(k:Nat):(row f k).length=k:=by simp[row]
theorem uy1(f:Nat->Nat)(k:Nat):row f (k+1)=row f k++[.int .u32 ((f k:Nat):Int)]:=by simp[row,List.range_succ]
theorem uCe(f:Nat->Nat){k i:Nat}(h:i<k):(row f k)[i]? = some (.int .u32 ((f i:Nat):Int)):=by simp[row,h]
def Own(w:World)(base:Nat)(e:TypeId)(v:Value)(k:Nat)(f:Nat->Nat):Prop:=
 w.ownsRow base e 1 v k (row f k)
section
variable {w w':World} {base:Nat} {e:TypeId} {v:Value} {k:Nat} {f g:Nat->Nat}
theorem Own.vAs(h:Own w base e v k f)(hf:∀i,i<k->f i<4294967296):uu w base v k f:=by
 refine⟨hf,?_⟩;have hl:=h.lt;have hc:=fun b (hb:v.ownBlock=some b)=>h.cells hb
 rcases h.2 with⟨rfl,rfl⟩|⟨b,cap,cur,rfl,hb,hh,hkc,hcm,_,_⟩
 ·exact⟨none,0,rfl,ab,Nat.zero_le _,fun h=>absurd h (by omega)⟩
 ·refine⟨_,cap,rfl,hkc,hcm,fun _=>⟨b,0,rfl,hb,(hl b rfl).2,fun i hi=>?_⟩⟩
  have:=hc b rfl i _ (uCe f hi);rw[Addr.add_lit]at this;exact this
theorem Own.alloc(h:Own w base e v k f)(o:Obj):Own (w.alloc o) base e v k f:=World.ownsRow.alloc h o
end
theorem Own.below{w0 w w':World}{base:Nat}{e:TypeId}{v:Value}{k:Nat}{f:Nat->Nat}(h:Own w base e v k f)(hb:Below base w0 w)(hB:base<=w.heap.size)(hg:w.grownBy w' v.ownBlock):Below base w0 w':=
 hb.grown hg hB fun g a0=>(World.ownsRow.lt h g a0).1
theorem uI{P:Program}(wr:World){z:Int}{ops:Array Oper}{rest:List Oper}{o:Oper}{a:Act}{Q:Exit->Act->World->Prop}(a4:o.guard=none)(s x:Operand)(t:TypeId)
 (ho:o.op = .call { callee:= .builtin .append,args:=#[s,x],argTypes:=#[t,t] })
 (base:Nat) (e:TypeId) (ht:P.underlying t=some (.slice e)) (a5:(P.info? e).map (fun i=>(i.zero,i.size,i.bytes))=some (some (.int .u32 0),1,4))
 (v:Value) (k:Nat) (f:Nat->Nat) (hs:a.eval s=v) (a0:Own wr base e v k f)
 (hx:a.eval x = .slice (some ⟨wr.heap.size,0,none⟩) 1 1) (w0:World) (hb:Below base w0 wr) (a3:base<=wr.heap.size) (hk:k<=4294967296000) (hz:z=((f k:Nat):Int))
 (h:∀v' w',Own w' base e v' (k+1) f->Below base w0 w'->wpList P ops Q rest (a.put o.dst v') w'):wpList P ops Q (o::rest) a (wr.alloc (.cells #[.int .u32 z] e)):=by
 obtain⟨i,hi,a1⟩:=aL.1 a5;simp only[Prod.mk.injEq]at a1;obtain⟨a8,a7,a2⟩:=a1;subst hz;refine wpList_append_own _ a4 s x t ho base e i (.int .u32 0) 1 4 ht hi a8 a7 a2 rfl (by omega) v k (row f k) hs (World.ownsRow.alloc a0 _) ⟨wr.heap.size,0,none⟩ 1 1 [.int .u32 ((f k:Nat):Int)] hx rfl ?_ ?_ (by unfold maxLen;omega) (by omega) (by simp;omega) ?_
 ·intro j u hu
  rcases j with _|j
  ·simp at hu;subst hu;rw[Addr.add_lit,World.cell?_alloc_at _ _ _ _ rfl];rfl
  ·simp at hu
 ·intro u hu;simp at hu;subst hu;rfl
 ·intro v' w' a6 hg _
  refine h v' w' ?_ ?_
  ·unfold Own
   rw[uy1];exact a6
  ·exact(Own.alloc a0 _).below (hb.alloc a3 _) (by simp;omega) hg
theorem ujm{P:Program}(w:World){ops:Array Oper}{rest:List Oper}{o:Oper}{a:Act}{Q:Exit->Act->World->Prop}(a2:o.guard=none)(s x:Operand)(t:TypeId)
 (ho:o.op = .call { callee:= .builtin .append,args:=#[s,x],argTypes:=#[t,t] })
 (base:Nat) (e:TypeId) (ht:P.underlying t=some (.slice e)) (a6:(P.info? e).map (fun i=>(i.zero,i.size,i.bytes))=some (some (.int .u32 0),1,4))
 (hs:a.eval s = .slice none 0 0) (A:Option Addr) (k c:Nat) (f:Nat->Nat) (hx:a.eval x = .slice A k c) (lo:Nat) (hl:uu w lo (.slice A k c) k f)
 (w0:World) (hb:Below base w0 w) (a0:base<=w.heap.size) (hk:k<=4294967296000)
 (h:∀v' w',Own w' base e v' k f->Below base w0 w'->wpList P ops Q rest (a.put o.dst v') w'):wpList P ops Q (o::rest) a w:=by
 obtain⟨i,hi,a4⟩:=aL.1 a6;simp only[Prod.mk.injEq]at a4;obtain⟨b0,a9,a5⟩:=a4;obtain⟨_,A',c',hv,_,_,a1⟩:=hl;injection hv with hA _ hc;subst hA;subst hc;cases A with
 | none=>
  have a7:k=0:=by
   rcases aK k with h0|h0
   ·exact h0
   ·obtain⟨b,off,hA,_⟩:=a1 h0
    cases hA
  subst a7;refine wpList_plain a2 fun K hK=>?_
  have a8:(Builtin.append_ #[t,t] o.type #[.slice none 0 0,.slice none 0 c]).run P w = .ok (.slice none 0 0) w:=by
   simp[Builtin.append_,run_underlying ht,Go.sizeOf,typeInfo,hi,Builtin.lenOf,Builtin.firstCells]
  unfold Oper.wp;simp only[execOp,ho,resolve,invoke,builtin,aD,Sem.run_pure,aA,List.map_toArray,List.map_cons,List.map_nil,hs,hx,a8];exact hK _ _ (h _ _ (World.ownsRow_nil _ _ _ _) hb)
 | some ad=>
  refine wpList_append_own w a2 s x t ho base e i (.int .u32 0) 1 4 ht hi b0 a9 a5 rfl (by omega) (.slice none 0 0) 0 [] hs (World.ownsRow_nil _ _ _ _) ad k c (row f k) hx (by rw[ujx,Nat.mul_one]) ?_ ?_ (by unfold maxLen;omega) (by omega) a0 ?_
  ·intro j u hu
   have hj:j<k:=by
    rcases ah j k with h1|h1
    ·exact h1
    ·rw[List.getElem?_eq_none (by rw[ujx];exact h1)]at hu;cases hu
   rw[uCe f hj]at hu;obtain⟨b,off,hA,_,_,hc⟩:=a1 (by omega)
   injection hA with hA;subst hA;rw[Addr.add_lit,hc j hj];exact hu
  ·intro u hu
   obtain⟨_,_,rfl⟩:=List.mem_map.1 hu;rfl
  ·intro v' w' a3 hg _
   refine h v' w' ?_ (hb.grown hg a0 (by simp[Value.ownBlock]))
   have:(0+k)=k:=by omega
   rw[this,List.nil_append]at a3;exact a3
theorem uem{P:Program}(w:World){ops:Array Oper}{rest:List Oper}{o:Oper}{a:Act}{Q:Exit->Act->World->Prop}
 (hg:o.guard=none) (l c:Operand) (t:TypeId) (a5:o.op=Op.makeSlice t l c)
 (base:Nat) (e:TypeId) (ht:P.underlying t=some (.slice e)) (a4:(P.info? e).map (fun i=>(i.zero,i.size,i.bytes))=some (some (.int .u32 0),1,4))
 (kl kc:IntKind) (C:Int) (n:Nat) (hl:a.eval l = .int kl 0) (hc:a.eval c = .int kc C) (hC:C=(n:Int)) (hn:n<=4294967296000) (a2:base<=w.heap.size)
 (hK:∀v w',(∀f,Own w' base e v 0 f)->w.grownBy w' none->wpList P ops Q rest (a.put o.dst v) w') :
 wpList P ops Q (o::rest) a w:=by
 obtain⟨i,hi,a0⟩:=aL.1 a4;simp only[Prod.mk.injEq]at a0;obtain⟨a8,a7,a1⟩:=a0;refine wpList_make_own w hg l c t a5 base e i (.int .u32 0) 1 ht hi a8 a7 kl kc C n hl hc hC (by rw[a1];omega) (by unfold maxLen;omega) a2 ?_
 intro w' a6 a3;exact hK _ w' (fun f=>a6) a3
def uaw(w:World)(b:Nat)(e:TypeId)(n:Nat)(f:Nat->Nat):Prop:=w.rowIs b e n (fun i=> .int .u32 ((f i:Nat):Int))
def upd(f:Nat->Nat)(i z:Nat):Nat->Nat:=fun j=>if j=i then z else f j
theorem uad(f:Nat->Nat)(i z:Nat):upd f i z i=z:=by simp[upd]
theorem uD(f:Nat->Nat){i j:Nat}(z:Nat)(h:j≠i):upd f i z j=f j:=by simp[upd,h]
theorem uCf(f:Nat->Nat){i k:Nat}(z:Nat)(h:k<=i):vs (upd f i z) k=vs f k:=ukz fun j hj=>uD f z (by omega)
section
variable {w w':World} {b:Nat} {e:TypeId} {n:Nat} {f g:Nat->Nat}
theorem uaw.cell(h:uaw w b e n f){i:Nat}(hi:i<n):w.cell? ⟨b,i,none⟩=some (.int .u32 ((f i:Nat):Int)):=World.rowIs.cell h hi
theorem uaw.frozen(h:uaw w b e n f)(i:Nat):w.frozen? ⟨b,i,none⟩=false:=World.rowIs.frozen h i
theorem uaw.lt(h:uaw w b e n f):b<w.heap.size:=World.rowIs.lt h
theorem uaw.congr(h:uaw w b e n f)(hc:∀i,i<n->f i=g i):uaw w b e n g:=World.rowIs.congr h fun i hi=>by rw[hc i hi]
theorem uaw.set(h:uaw w b e n f)(i:Nat){x:Int}{z:Nat}(hx:x=(z:Int)):uaw (w.setCell ⟨b,i,none⟩ (.int .u32 x)) b e n (upd f i z):=by
 subst hx;refine World.rowIs.congr (World.rowIs.set h i (.int .u32 (z:Int))) fun j _=>?_
 by_cases hj:j=i
 ·subst hj;simp[upd]
 ·simp[upd,hj]
theorem uaw.drewN(h:uaw w b e n f)(m:Nat):uaw (w.drewN m) b e n f:=h
theorem uaw.of_block(h:uaw w b e n f)(hb:w'.heap[b]? = w.heap[b]?):uaw w' b e n f:=World.rowIs.of_block h hb
theorem uaw.below(h:uaw w b e n f)(hb:Below w.heap.size w w'):uaw w' b e n f:=h.of_block (hb.block b h.lt)
theorem uaw.setOther(h:uaw w b e n f){p:Addr}(hp:b≠p.block)(u:Value):uaw (w.setCell p u) b e n f:=h.of_block (Below.heap_setCell w p u b hp)
theorem uaw.grown(h:uaw w b e n f){g':Nat}(hg:w.grownBy w' (some g'))(a0:b≠g'):uaw w' b e n f:=h.of_block (hg.block b h.lt (fun e=>a0 (by injection e)))
theorem uaw.part(h:uaw w b e n f){lo k:Nat}(hl:lo<=b)(hk:k<=n)(hn:n<=4294967296000)(hf:∀i,i<k->f i<4294967296):uu w lo (.slice (some ⟨b,0,none⟩) k n) k f:=
 ⟨hf,_,n,rfl,hk,by unfold maxLen;omega,fun _=>⟨b,0,rfl,hl,h.lt,fun i hi=>by rw[Nat.zero_add];exact h.cell (by omega)⟩⟩
theorem uaw.vAs(h:uaw w b e n f){lo:Nat}(hl:lo<=b)(hn:n<=4294967296000)(hf:∀i,i<n->f i<4294967296):uu w lo (.slice (some ⟨b,0,none⟩) n n) n f:=
 ⟨hf,_,n,rfl,ab,by unfold maxLen;omega,fun _=>⟨b,0,rfl,hl,h.lt,fun i hi=>by rw[Nat.zero_add];exact h.cell hi⟩⟩
end
theorem uen{P:Program}(w:World){ops:Array Oper}{rest:List Oper}{o:Oper}{a:Act}{Q:Exit->Act->World->Prop}
 (hg:o.guard=none) (l c:Operand) (t:TypeId) (a4:o.op=Op.makeSlice t l c)
 (base:Nat) (e:TypeId) (ht:P.underlying t=some (.slice e)) (a3:(P.info? e).map (fun i=>(i.zero,i.size,i.bytes))=some (some (.int .u32 0),1,4))
 (kl kc:IntKind) (L C:Int) (n:Nat) (hl:a.eval l = .int kl L) (hc:a.eval c = .int kc C) (hL:L=(n:Int)) (hC:C=(n:Int)) (hn:n<=4294967296000)
 (w0:World) (hb:Below base w0 w) (a0:base<=w.heap.size)
 (hK:∀b w',base<=b->w.heap.size<=b->uaw w' b e n (fun _=>0)->Below base w0 w'->Below w.heap.size w w'->wpList P ops Q rest (a.put o.dst (.slice (some ⟨b,0,none⟩) n n)) w') :
 wpList P ops Q (o::rest) a w:=by
 obtain⟨i,hi,a1⟩:=aL.1 a3;simp only[Prod.mk.injEq]at a1;obtain⟨a6,a5,a2⟩:=a1;subst hL;subst hC;refine wpList_make_row w hg l c t a4 e i (.int .u32 0) ht hi a6 a5 rfl kl kc n hl hc (by rw[a2];omega) (by omega) ?_
 exact hK _ _ a0 ab (World.rowIs_made w (.int .u32 0) n e) (hb.alloc a0 _) (aa.alloc ab _)
end AC
namespace Go
open Go.RowKit AC
theorem World.grownBy.drewN{a w:World}{r:Option Nat}(h:a.grownBy w r)(n:Nat):a.grownBy (w.drewN n) r:=⟨h.os,h.tape,h.output,h.size,h.block⟩
theorem World.grownBy.setAt{a w:World}{g:Nat}(h:a.grownBy w (some g))(i:Nat)(u:Value):a.grownBy (w.setCell ⟨g,i,none⟩ u) (some g):=
 ⟨h.os,h.tape,h.output,by simpa[World.setCell]using h.size,fun k hk a0=>(Below.heap_setCell w ⟨g,i,none⟩ u k (by rintro rfl;exact a0 rfl)).trans (h.block k hk a0)⟩
theorem World.grownBy.then{a b c:World}{r:Option Nat}(h:a.grownBy b r)(k:b.grownBy c r):a.grownBy c r:=
 ⟨k.os.trans h.os,k.tape.trans h.tape,k.output.trans h.output,ag h.size k.size,fun i hi a0=>(k.block i (af hi h.size) a0).trans (h.block i hi a0)⟩
theorem World.grownBy.vC5{a w:World}(h:Below a.heap.size a w)(r:Option Nat):a.grownBy w r:=⟨h.os,h.tape,h.output,h.size,fun i hi _=>h.block i hi⟩
theorem World.grownBy.vC3{a w:World}{g B:Nat}(h:a.grownBy w (some g))(hg:B<=g)(hB:B<=a.heap.size):Below B a w:=
 ⟨h.os,h.tape,h.output,h.size,fun k hk=>h.block k (by omega) (fun e=>by injection e;omega)⟩
end Go
namespace Go.RowKit
theorem Below.drewN{b:Nat}{a w:World}(h:Below b a w)(n:Nat):Below b a (w.drewN n):=⟨h.os,h.tape,h.output,h.size,h.block⟩
end Go.RowKit
namespace AC
open Go Go.RowKit
def Qt(w w':World):Prop:=∃q,w'=w.drewN q
theorem Qt.refl(w:World):Qt w w:=⟨0,rfl⟩
theorem Qt.drewN{w w':World}(h:Qt w w')(n:Nat):Qt w (w'.drewN n):=by
 obtain⟨q,rfl⟩:=h;exact⟨q+n,World.drewN_drewN _ _ _⟩
theorem Qt.of(w:World)(n:Nat):Qt w (w.drewN n):=⟨n,rfl⟩
theorem Qt.below{w w':World}(h:Qt w w')(b:Nat):Below b w w':=by
 obtain⟨q,rfl⟩:=h;exact⟨rfl,rfl,rfl,ab,fun _ _=>rfl⟩
end AC
namespace Go.Proofs.YtnbbpmagijpmpaaGreatDoor
open Go.Lib (hid)
open Go.RowKit AC
def Ret(R:Value->World->Prop)(e:Ending)(w':World):Prop:=∃v,e = .returned v/\R v w'
theorem uo2{N j:Nat}(h:N<B^(j+1))(h0:dg N j=0):N<B^j:=by
 have h1:=uF N j;rw[h0,aV h]at h1;have:=Nat.mod_lt N (uH j);omega
set_option maxHeartbeats 16000000
theorem udb(w:World)(lo:Nat)(v:Value)(k N:Nat)(hv:uu w lo v k (dg N))(hN:N<B^k) :
 Calls Tryz.prog 134 #[v] w (Ret fun v' w'=>uL w lo v' N/\w=w'):=by
 obtain⟨a2,A,c,rfl,a5,a3,hb⟩:=hv;have hv:Hid (uu w lo (.slice A k c) k (dg N)):=⟨a2,A,c,rfl,a5,a3,hb⟩;have HN:=hid hN;have HB:=hid hb;have HL:=hid a2;unfold maxLen at a3;clear hN hb a2;go_enter Tryz.func134,Tryz.ntmps134
 go_wp2;go_loop [3] (fun t=>∃j:Nat,j<=k/\t = .int .i64 j/\Hid (N<B^j)) (fun t=>(intOf t).toNat)
 case atStart=>exact⟨k,ab,rfl,HN⟩
 case round=>
  obtain⟨j,hj,rfl,a0⟩:=hrel;rcases j with _|j
  ·go_wp2
   go_ret
   refine⟨.slice A 0 c,rfl,?_,rfl⟩;have h0:N=0:=by simpa using a0.out
   subst h0;refine⟨fun i hi=>?_,A,c,by rw[uV],by rw[uV];omega,by unfold maxLen;omega,fun h=>?_⟩
   ·rw[uV]at hi;omega
   ·rw[uV]at h;omega
  ·obtain⟨b,off,rfl,a6,a4,a1⟩:=HB.out (by omega)
   have a7:=a1 j (by omega)
   have HC:=hid a1;clear a1;by_cases h0:dg N j=0
   ·have h1:(((dg N j:Nat):Int)==0)=true:=by rw[h0];rfl
    have H0:=hid h0;clear h0;go_wp2;go_round
    case rel=>exact⟨j,by omega,rfl,uo2 a0.out H0.out⟩
    case measure=>simp[intOf]
   ·have h1:(((dg N j:Nat):Int)==0)=false:=by rw[aw];omega
    have H0:=hid h0;clear h0;go_wp2;go_ret
    have e:=ud3 (k:=j+1) a0.out (.inr (by simpa using H0.out))
    refine⟨.slice (some ⟨b,off,none⟩) (j+1) c,rfl,?_,rfl⟩;refine uL.of (k:=j+1) ⟨fun i hi=>HL.out i (by omega),_,c,rfl,by omega,by unfold maxLen;omega,fun _=>⟨b,off,rfl,a6,a4,fun i hi=>HC.out i (by omega)⟩⟩ e
set_option maxHeartbeats 200000
theorem uG:(Tryz.prog.info? 102).map (fun i=>(i.zero,i.size,i.bytes))=some (some (.int .u32 0),1,4):=by kernel_rfl
theorem uib(f:Nat->Nat)(k:Nat)(h:∀i,i<k->f i<4294967296):∀j,j<=k->vs f j/B^j<=4:=by
 intro j;induction j with
 | zero=>intro _;simp[vs]
 | succ j ih=>
  intro hj;have h1:=ih (by omega)
  have h2:=h j (by omega)
  rw[uda];generalize vs f j/B^j=q at *;rw[uhn];omega
set_option maxHeartbeats 16000000
theorem ujy(w:World)(lo:Nat)(v:Value)(k:Nat)(f:Nat->Nat)(hv:uu w lo v k f)(hk:k<=4294967296) :
 Calls Tryz.prog 133 #[v] w (Ret fun v' w'=>uL w' w.heap.size v' (vs f k)/\Below w.heap.size w w'):=by
 obtain⟨a0,A,c,rfl,c4,b4,hb⟩:=hv;have HC:=hid (uib f k a0);have HB:=hid hb;have HL:=hid a0;obtain⟨N,HN⟩:∃N,Hid (N=vs f k):=⟨_,rfl⟩;unfold maxLen at b4;clear hb a0;go_enter Tryz.func133,Tryz.ntmps133
 go_wp2_with (at_make;refine uem _ rfl _ _ 100 rfl w.heap.size 102 Tryz.underlying100 uG _ _ _ (k+1) rfl rfl (by omega) (by omega) ab ?_;intro v0 w0 b8 b7)
 have b0:Below w.heap.size w w0:=aa.grown b7 ab (by simp)
 go_loopw [3,4,13] (fun o cv i wr=>∃j c:Nat,j<=k/\c<=4/\i = .int .i64 j/\cv = .int .u64 c/\Hid (c=vs f j/B^j)/\Own wr w.heap.size 102 o j (dg N)/\Below w.heap.size w wr) (fun _ _ i _=>k-(intOf i).toNat)
 case atStart=>exact⟨0,0,by omega,by omega,rfl,rfl,by simp[vs,Hid],b8 _,b0⟩
 case round=>
  obtain⟨j,c,hj,hc,rfl,rfl,a4,a7,a1⟩:=hrel;by_cases a0:j<k
  ·obtain⟨b,off,rfl,c5,b1,a9⟩:=HB.out (by omega)
   have c2:=(a1.cell (p:=⟨b,off+j,none⟩) b1).trans (a9 j a0);have c3:=HL.out j a0;have b6:Hid ((f j+c)%1000000000=dg N j):=by
    have h1:=ufe f a0;rw[<-a4.out,<-HN.out,uhn]at h1;exact h1.symm
   have b5:Hid ((f j+c)/1000000000=vs f (j+1)/B^(j+1)):=by
    have h1:=uda f j;rw[<-a4.out]at h1;exact h1.symm
   have b2:(f j+c)/1000000000<=4:=by omega
   clear a9;go_wp2_with (at_builtin;refine uI wr rfl _ _ 100 rfl w.heap.size 102 Tryz.underlying100 uG _ j (dg N) (by rfl) a7 (by rfl) w a1 a1.size (by omega) ?c1 ?_)
   case c1=>rw[<-b6.out];omega
   intro v1 w1 a8 a3;go_wp2;go_roundw
   case rel=>exact⟨j+1,(f j+c)/1000000000,by omega,b2,by go_num,by go_num,b5,a8,a3⟩
   case measure=>simp[intOf];omega
  ·obtain rfl:j=k:=by omega
   have b9:Hid (N=vs f j):=HN;have a5:Hid (c=N/B^j):=by rw[a4.out,HN.out];rfl
   by_cases c0:0<c
   ·have b3:Hid (dg N j=c):=by
     show N/B^j%B=c
     rw[<-a5.out,uhn];omega
    have a2:Hid (N<B^(j+1)):=by
     show N<B^(j+1)
     rw[Nat.pow_succ,Nat.mul_comm,<-Nat.div_lt_iff_lt_mul (uH j),<-a5.out,uhn];omega
    go_wp2_with (at_builtin;refine uI wr rfl _ _ 100 rfl w.heap.size 102 Tryz.underlying100 uG _ j (dg N) (by rfl) a7 (by rfl) w a1 a1.size (by omega) ?c1 ?_)
    case c1=>rw[b3.out]
    intro v1 w1 a8 a3;go_wp2_with fail
    refine(udb _ _ _ _ _ (a8.vAs fun i _=>Nat.lt_trans (uZ N i) (by decide)) a2.out).mono ?_
    rintro e w'⟨v',rfl,a6,rfl⟩;go_wp2;go_ret
    exact⟨v',rfl,by rw[<-HN.out];exact a6,a3⟩
   ·have a2:Hid (N<B^j):=by
     have h0:N/B^j=0:=by rw[<-a5.out];omega
     exact(Nat.div_eq_zero_iff_lt (uH j)).1 h0
    go_wp2_with fail
    refine(udb _ _ _ _ _ (a7.vAs fun i _=>Nat.lt_trans (uZ N i) (by decide)) a2.out).mono ?_
    rintro e w'⟨v',rfl,a6,rfl⟩;go_wp2;go_ret
    exact⟨v',rfl,by rw[<-HN.out];exact a6,a1⟩
set_option maxHeartbeats 200000
theorem usx(n j:Nat):n/B^j=n/B^(j+1)*B+dg n j:=by
 have h:=ubm n j;unfold dg;rw[h,Nat.mul_comm];exact(Nat.div_add_mod _ _).symm
set_option maxHeartbeats 16000000
theorem uqs(w:World)(lo:Nat)(v:Value)(n:Nat)(hv:uL w lo v n)(hn:n<18446744073709551616) :
 Calls Tryz.prog 207 #[v] w (fun e w'=>e = .returned (.tuple #[.int .u64 n,.bool true])/\w=w'):=by
 obtain⟨_,A,c,rfl,a6,a4,hb⟩:=hv;unfold maxLen at a4;have HB:=hid hb;have HN:=hid hn;clear hb hn;obtain⟨k,hk⟩:∃k,k=dl n:=⟨_,rfl⟩;rw[<-hk]at HB a6 ⊢;have HK:=hid hk;clear hk;go_enter Tryz.func207,Tryz.ntmps207
 go_wp2;go_loop [4,9] (fun x i=>∃j y:Nat,j<=k/\y<18446744073709551616/\i = .int .i64 j/\x = .int .u64 y/\Hid (y=n/B^(k-j))) (fun _ i=>k-(intOf i).toNat)
 case atStart=>exact⟨0,0,by omega,by omega,rfl,rfl,by show 0=n/B^(k-0);rw[Nat.sub_zero,HK.out,Nat.div_eq_of_lt (ua2 n)]⟩
 case round=>
  obtain⟨j,y,hj,hy,rfl,rfl,a2⟩:=hrel;by_cases b1:j<k
  ·obtain⟨b,off,rfl,b0,a8,a0⟩:=HB.out (by omega)
   have a9:=a0 (k-1-j) (by omega)
   clear a0;have hd:=uZ n (k-1-j);rw[uhn]at hd;have a1:y*1000000000+dg n (k-1-j)=n/B^(k-(j+1)):=by
    have h1:=usx n (k-1-j);rw[show k-1-j+1=k-j by omega,<-a2.out,uhn]at h1
    rw[<-h1,show k-(j+1)=k-1-j by omega];rfl
   have a7:n/B^(k-(j+1))<=n:=Nat.div_le_self _ _;have a3:=hid a1;have hs:y*1000000000+dg n (k-1-j)<=18446744073709551615:=by have:=HN.out;omega
   clear a7 a1;generalize dg n (k-1-j)=d at *;have hq:¬((18446744073709551615-(d:Int))/1000000000<(y:Int)):=by omega
   go_wp2;go_round
   case rel=>exact⟨j+1,y*1000000000+d,by omega,by omega,by go_num,by go_num,a3⟩
   case measure=>simp[intOf];omega
  ·obtain rfl:j=k:=by omega
   have a5:Hid (y=n):=by have:=a2.out;rw[Nat.sub_self,Nat.pow_zero,Nat.div_one]at this;exact this
   go_wp2;go_ret2
   exact⟨by rw[<-a5.out];rfl,rfl⟩
set_option maxHeartbeats 200000
def uho(n m:Nat):Int:=if n<m then -1 else if n=m then 0 else 1
theorem uk0{n m:Nat}(h:n<m):uho n m = -1:=by unfold uho;rw[if_pos h]
theorem uk1{n m:Nat}(h:n=m):uho n m=0:=by unfold uho;rw[if_neg (by omega),if_pos h]
theorem uic{n m:Nat}(h:m<n):uho n m=1:=by unfold uho;rw[if_neg (by omega),if_neg (by omega)]
theorem umr(n j:Nat):n/B^j=n/B^(j+1)*B+dg n j:=by
 have h:=ubm n j;unfold dg;rw[h,Nat.mul_comm];exact(Nat.div_add_mod _ _).symm
theorem ug3{n m k:Nat}(h:n/k<m/k):n<m:=by
 rcases ah n m with h1|h1
 ·exact h1
 ·have:=Nat.div_le_div_right (c:=k) h1;omega
set_option maxHeartbeats 16000000
theorem ubn(w:World)(lo lo':Nat)(v v':Value)(n m:Nat)(hv:uL w lo v n)(b3:uL w lo' v' m) :
 Calls Tryz.prog 77 #[v,v'] w (fun e w'=>e = .returned (.int .i64 (uho n m))/\Qt w w'):=by
 obtain⟨_,A,c,rfl,a9,a7,hb⟩:=hv;obtain⟨_,A',c',rfl,b0,a8,a4⟩:=b3;unfold maxLen at a7 a8;have HB:=hid hb;have a3:=hid a4;clear hb a4;rcases Nat.lt_trichotomy (dl n) (dl m)with h|h|h
 ·have b1:(((dl n:Nat):Int) != ((dl m:Nat):Int))=true:=by rw[bne_iff_ne];omega
  go_enter Tryz.func77,Tryz.ntmps77
  go_wp2;go_ret
  exact⟨by rw[uk0 (uia h)];rfl,Qt.refl _⟩
 ·obtain⟨k,hk⟩:∃k,k=dl n:=⟨_,rfl⟩
  have hm:=hk.trans h;rw[<-hk]at HB a9 ⊢;rw[<-hm]at a3 b0 ⊢;have HK:=hid hk;have HM:=hid hm;clear hk hm h;go_enter Tryz.func77,Tryz.ntmps77
  go_wp2;go_loopw [5] (fun i wr=>∃j q:Nat,j<=k/\i = .int .i64 (↑j-1)/\Hid (n/B^j=m/B^j)/\wr=w.drewN q) (fun i _=>(intOf i+1).toNat)
  case atStart=>
   refine⟨k,0,ab,rfl,?_,rfl⟩;have h1:=ua2 n;have h2:=ua2 m;rw[<-HK.out]at h1;rw[<-HM.out]at h2;show n/B^k=m/B^k
   rw[Nat.div_eq_of_lt h1,Nat.div_eq_of_lt h2]
  case round=>
   obtain⟨j,q,hj,rfl,hd,rfl⟩:=hrel;rcases j with _|j
   ·go_wp2
    go_ret
    refine⟨?_,Qt.of _ _⟩;have h1:n=m:=by simpa using hd.out
    rw[uk1 h1];rfl
   ·obtain⟨b,off,rfl,b8,b4,a5⟩:=HB.out (by omega)
    obtain⟨b',c1,rfl,b9,b5,a6⟩:=a3.out (by omega)
    have b6:=a5 j (by omega)
    have b7:=a6 j (by omega)
    clear a5 a6;have a1:=hid (umr n j);have a2:=hid (umr m j);rcases Nat.lt_trichotomy (dg n j) (dg m j)with h|h|h
    ·have a0:Hid (n<m):=ug3 (k:=B^j) (by rw[a1.out,a2.out,hd.out];omega)
     go_wp2;go_quiet (fail)
     go_wp2;go_ret
     exact⟨by rw[uk0 a0.out];rfl,(Qt.of _ _).drewN _⟩
    ·have a0:Hid (n/B^j=m/B^j):=by show n/B^j=m/B^j;rw[a1.out,a2.out,hd.out,h]
     have b2:decide (dg n j<dg m j)=false:=by simp;omega
     have c0:decide (dg m j<dg n j)=false:=by simp;omega
     clear h;go_wp2;go_quiet (fail)
     go_wp2;go_quiet (fail)
     go_wp2;go_roundw
     case rel=>exact⟨j,_,by omega,by go_num,a0,rfl⟩
     case measure=>simp[intOf]
    ·have a0:Hid (m<n):=ug3 (k:=B^j) (by rw[a1.out,a2.out,hd.out];omega)
     have b2:decide (dg n j<dg m j)=false:=by simp;omega
     go_wp2;go_quiet (fail)
     go_wp2;go_quiet (fail)
     go_wp2;go_ret
     exact⟨by rw[uic a0.out];rfl,((Qt.of _ _).drewN _).drewN _⟩
 ·have b1:(((dl n:Nat):Int) != ((dl m:Nat):Int))=true:=by rw[bne_iff_ne];omega
  go_enter Tryz.func77,Tryz.ntmps77
  go_wp2;go_ret
  exact⟨by rw[uic (uia h)];rfl,Qt.refl _⟩
set_option maxHeartbeats 200000
theorem ums(n m k:Nat):vs (fun i=>dg n i+dg m i) k=n%B^k+m%B^k:=by
 induction k with
 | zero=>simp[vs,Nat.mod_one]
 | succ k ih=>rw[vs,ih,uF,uF m,Nat.add_mul];omega
theorem uuv(n m j:Nat):vs (fun i=>dg n i+dg m i) j/B^j<=1:=by
 rw[ums];have h1:=Nat.mod_lt n (uH j);have h2:=Nat.mod_lt m (uH j);have:(n%B^j+m%B^j)/B^j<2:=by
  rw[Nat.div_lt_iff_lt_mul (uH j)];omega
 omega
theorem ufg(n m j:Nat):dg (n+m) j=(dg n j+dg m j+vs (fun i=>dg n i+dg m i) j/B^j)%B:=by
 have h:=ufe (fun i=>dg n i+dg m i) (Nat.lt_succ_self j)
 rw[<-h,ums];unfold dg;generalize hk:B^j=K;have e:B^(j+1)=K*B:=by rw[Nat.pow_succ,hk]
 rw[e];have hK:0<K:=hk▸uH j;rw[<-Nat.mod_mul_right_div_self,<-Nat.mod_mul_right_div_self,<-Nat.add_mod]
theorem uhp(n m j:Nat):vs (fun i=>dg n i+dg m i) (j+1)/B^(j+1)=(dg n j+dg m j+vs (fun i=>dg n i+dg m i) j/B^j)/B:=
 uda (fun i=>dg n i+dg m i) j
set_option maxHeartbeats 16000000
theorem uF2(w:World)(lo lo':Nat)(v v':Value)(n m:Nat)(hv:uL w lo v n)(c7:uL w lo' v' m)(hk:dl n<=4294967296)(d2:dl m<=4294967296)(h:dl m<=dl n) :
 Calls Tryz.prog 154 #[v,v'] w (Ret fun v2 w'=>uL w' w.heap.size v2 (n+m)/\Below w.heap.size w w'):=by
 obtain⟨_,A,c,rfl,d3,b9,hb⟩:=hv;obtain⟨_,A',c',rfl,d4,c0,b0⟩:=c7;unfold maxLen at b9 c0;have HB:=hid hb;have b5:=hid b0;clear hb b0;go_enter Tryz.func154,Tryz.ntmps154
 go_wp2_with (at_make;refine uem _ rfl _ _ 100 rfl w.heap.size 102 Tryz.underlying100 uG _ _ _ (dl n+1) rfl rfl (by omega) (by omega) ab ?_;intro v0 w0 c6 c3)
 have b6:Below w.heap.size w w0:=aa.grown c3 ab (by simp)
 go_loopw [5,6,22] (fun o cv i wr=>∃j c:Nat,j<=dl n/\c<=1/\i = .int .i64 j/\cv = .int .u32 c/\Hid (c=vs (fun i=>dg n i+dg m i) j/B^j)/\Own wr w.heap.size 102 o j (dg (n+m))/\Below w.heap.size w wr) (fun _ _ i _=>dl n-(intOf i).toNat)
 case atStart=>exact⟨0,0,by omega,by omega,rfl,rfl,by simp[vs,Hid],c6 _,b6⟩
 case round=>
  obtain⟨j,c,hj,hc,rfl,rfl,a7,a6,a0⟩:=hrel;have b3:dg n j<1000000000:=uZ n j;have c2:dg m j<1000000000:=uZ m j;by_cases c5:j<dl n
  ·obtain⟨b,off,rfl,d5,b7,b1⟩:=HB.out (by omega)
   have d0:=(a0.cell (p:=⟨b,off+j,none⟩) b7).trans (b1 j c5);have a5:Hid ((dg n j+dg m j+c)%1000000000=dg (n+m) j):=by
    have h1:=ufg n m j;rw[<-a7.out]at h1;exact h1.symm
   have a4:Hid ((dg n j+dg m j+c)/1000000000=vs (fun i=>dg n i+dg m i) (j+1)/B^(j+1)):=by
    have h1:=uhp n m j;rw[<-a7.out]at h1;exact h1.symm
   have a3:(dg n j+dg m j+c)/1000000000<=1:=by omega
   clear b1;by_cases c4:j<dl m
   ·obtain⟨b',c8,rfl,d6,b8,b2⟩:=b5.out (by omega)
    have d1:=(a0.cell (p:=⟨b',c8+j,none⟩) b8).trans (b2 j c4);clear b2;go_wp2_with (at_builtin;refine uI wr rfl _ _ 100 rfl w.heap.size 102 Tryz.underlying100 uG _ j (dg (n+m)) (by rfl) a6 (by rfl) w a0 a0.size (by omega) ?c1 ?_)
    case c1=>rw[<-a5.out];omega
    intro v1 w1 a2 a1;go_wp2;go_roundw
    case rel=>exact⟨j+1,(dg n j+dg m j+c)/1000000000,by omega,a3,by go_num,by go_num,a4,a2,a1⟩
    case measure=>simp[intOf];omega
   ·have hz:=uff (n:=m) (i:=j) (by omega)
    rw[hz]at a5 a4 a3;clear b3 c2;have b3:dg n j<1000000000:=uZ n j;clear hz;simp only[Nat.add_zero]at a5 a4 a3;go_wp2_with (at_builtin;refine uI wr rfl _ _ 100 rfl w.heap.size 102 Tryz.underlying100 uG _ j (dg (n+m)) (by rfl) a6 (by rfl) w a0 a0.size (by omega) ?c1 ?_)
    case c1=>rw[<-a5.out];omega
    intro v1 w1 a2 a1;go_wp2;go_roundw
    case rel=>exact⟨j+1,(dg n j+c)/1000000000,by omega,a3,by go_num,by go_num,a4,a2,a1⟩
    case measure=>simp[intOf];omega
  ·obtain rfl:j=dl n:=by omega
   have a9:Hid ((n+m)/B^dl n=c):=by
    have h1:=ua2 n;have h2:m<B^dl n:=af (ua2 m) (Nat.pow_le_pow_right ucs (by omega))
    have h3:=a7.out;rw[ums,aV (a:=n) h1,aV (a:=m) h2]at h3;exact h3.symm
   by_cases c9:0<c
   ·obtain rfl:c=1:=by omega
    have b4:Hid (dg (n+m) (dl n)=1):=by
     show(n+m)/B^dl n%B=1
     rw[a9.out];rfl
    have a8:Hid (dl (n+m)=dl n+1):=by
     refine ud3 ?_ (.inr ?_)
     ·rw[Nat.pow_succ,Nat.mul_comm,<-Nat.div_lt_iff_lt_mul (uH _),a9.out];decide
     ·rw[Nat.add_sub_cancel,b4.out];decide
    go_wp2_with (at_builtin;refine uI wr rfl _ _ 100 rfl w.heap.size 102 Tryz.underlying100 uG _ (dl n) (dg (n+m)) (by rfl) a6 (by rfl) w a0 a0.size (by omega) ?c1 ?_)
    case c1=>rw[b4.out];rfl
    intro v1 w1 a2 a1;go_wp2;go_ret
    exact⟨v1,rfl,uL.of (a2.vAs fun i _=>Nat.lt_trans (uZ _ i) (by decide)) a8.out,a1⟩
   ·obtain rfl:c=0:=by omega
    have a8:Hid (dl (n+m)=dl n):=by
     refine Nat.le_antisymm (ue4 ?_) (ub8 (by omega))
     exact(Nat.div_eq_zero_iff_lt (uH _)).1 a9.out
    go_wp2;go_ret
    exact⟨_,rfl,uL.of (a6.vAs fun i _=>Nat.lt_trans (uZ _ i) (by decide)) a8.out,a0⟩
theorem uF3(w:World)(lo lo':Nat)(v v':Value)(n m:Nat)(hv:uL w lo v n)(c7:uL w lo' v' m)(hk:dl n<=4294967296)(d2:dl m<=4294967296)(h:dl n<dl m) :
 Calls Tryz.prog 154 #[v,v'] w (Ret fun v2 w'=>uL w' w.heap.size v2 (n+m)/\Below w.heap.size w w'):=by
 obtain⟨_,A',c',rfl,d3,b9,hb⟩:=c7;obtain⟨_,A,c,rfl,d4,c0,b0⟩:=hv;unfold maxLen at b9 c0;have HB:=hid hb;have b5:=hid b0;clear hb b0;go_enter Tryz.func154,Tryz.ntmps154
 go_wp2_with (at_make;refine uem _ rfl _ _ 100 rfl w.heap.size 102 Tryz.underlying100 uG _ _ _ (dl m+1) rfl rfl (by omega) (by omega) ab ?_;intro v0 w0 c6 c3)
 have b6:Below w.heap.size w w0:=aa.grown c3 ab (by simp)
 go_loopw [5,6,22] (fun o cv i wr=>∃j c:Nat,j<=dl m/\c<=1/\i = .int .i64 j/\cv = .int .u32 c/\Hid (c=vs (fun i=>dg n i+dg m i) j/B^j)/\Own wr w.heap.size 102 o j (dg (n+m))/\Below w.heap.size w wr) (fun _ _ i _=>dl m-(intOf i).toNat)
 case atStart=>exact⟨0,0,by omega,by omega,rfl,rfl,by simp[vs,Hid],c6 _,b6⟩
 case round=>
  obtain⟨j,c,hj,hc,rfl,rfl,a7,a6,a0⟩:=hrel;have b3:dg n j<1000000000:=uZ n j;have c2:dg m j<1000000000:=uZ m j;by_cases c5:j<dl m
  ·obtain⟨b,off,rfl,d5,b7,b1⟩:=HB.out (by omega)
   have d0:=(a0.cell (p:=⟨b,off+j,none⟩) b7).trans (b1 j c5);have a5:Hid ((dg n j+dg m j+c)%1000000000=dg (n+m) j):=by
    have h1:=ufg n m j;rw[<-a7.out]at h1;exact h1.symm
   have a4:Hid ((dg n j+dg m j+c)/1000000000=vs (fun i=>dg n i+dg m i) (j+1)/B^(j+1)):=by
    have h1:=uhp n m j;rw[<-a7.out]at h1;exact h1.symm
   have a3:(dg n j+dg m j+c)/1000000000<=1:=by omega
   clear b1;by_cases c4:j<dl n
   ·obtain⟨b',c8,rfl,d6,b8,b2⟩:=b5.out (by omega)
    have d1:=(a0.cell (p:=⟨b',c8+j,none⟩) b8).trans (b2 j c4);clear b2;go_wp2_with (at_builtin;refine uI wr rfl _ _ 100 rfl w.heap.size 102 Tryz.underlying100 uG _ j (dg (n+m)) (by rfl) a6 (by rfl) w a0 a0.size (by omega) ?c1 ?_)
    case c1=>rw[<-a5.out];omega
    intro v1 w1 a2 a1;go_wp2;go_roundw
    case rel=>exact⟨j+1,(dg n j+dg m j+c)/1000000000,by omega,a3,by go_num,by go_num,a4,a2,a1⟩
    case measure=>simp[intOf];omega
   ·have hz:=uff (n:=n) (i:=j) (by omega)
    rw[hz]at a5 a4 a3;clear b3 c2;have b3:dg m j<1000000000:=uZ m j;clear hz;simp only[Nat.zero_add]at a5 a4 a3;go_wp2_with (at_builtin;refine uI wr rfl _ _ 100 rfl w.heap.size 102 Tryz.underlying100 uG _ j (dg (n+m)) (by rfl) a6 (by rfl) w a0 a0.size (by omega) ?c1 ?_)
    case c1=>rw[<-a5.out];omega
    intro v1 w1 a2 a1;go_wp2;go_roundw
    case rel=>exact⟨j+1,(dg m j+c)/1000000000,by omega,a3,by go_num,by go_num,a4,a2,a1⟩
    case measure=>simp[intOf];omega
  ·obtain rfl:j=dl m:=by omega
   have a9:Hid ((n+m)/B^dl m=c):=by
    have h1:=ua2 m;have h2:n<B^dl m:=af (ua2 n) (Nat.pow_le_pow_right ucs (by omega))
    have h3:=a7.out;rw[ums,aV (a:=m) h1,aV (a:=n) h2]at h3;exact h3.symm
   by_cases c9:0<c
   ·obtain rfl:c=1:=by omega
    have b4:Hid (dg (n+m) (dl m)=1):=by
     show(n+m)/B^dl m%B=1
     rw[a9.out];rfl
    have a8:Hid (dl (n+m)=dl m+1):=by
     refine ud3 ?_ (.inr ?_)
     ·rw[Nat.pow_succ,Nat.mul_comm,<-Nat.div_lt_iff_lt_mul (uH _),a9.out];decide
     ·rw[Nat.add_sub_cancel,b4.out];decide
    go_wp2_with (at_builtin;refine uI wr rfl _ _ 100 rfl w.heap.size 102 Tryz.underlying100 uG _ (dl m) (dg (n+m)) (by rfl) a6 (by rfl) w a0 a0.size (by omega) ?c1 ?_)
    case c1=>rw[b4.out];rfl
    intro v1 w1 a2 a1;go_wp2;go_ret
    exact⟨v1,rfl,uL.of (a2.vAs fun i _=>Nat.lt_trans (uZ _ i) (by decide)) a8.out,a1⟩
   ·obtain rfl:c=0:=by omega
    have a8:Hid (dl (n+m)=dl m):=by
     refine Nat.le_antisymm (ue4 ?_) (ub8 (by omega))
     exact(Nat.div_eq_zero_iff_lt (uH _)).1 a9.out
    go_wp2;go_ret
    exact⟨_,rfl,uL.of (a6.vAs fun i _=>Nat.lt_trans (uZ _ i) (by decide)) a8.out,a0⟩
set_option maxHeartbeats 200000
theorem uDd(w:World)(lo lo':Nat)(v v':Value)(n m:Nat)(hv:uL w lo v n)(a1:uL w lo' v' m)(hk:dl n<=4294967296)(a0:dl m<=4294967296) :
 Calls Tryz.prog 154 #[v,v'] w (Ret fun v2 w'=>uL w' w.heap.size v2 (n+m)/\Below w.heap.size w w'):=by
 rcases ah (dl n) (dl m)with h|h
 ·exact uF3 w lo lo' v v' n m hv a1 hk a0 h
 ·exact uF2 w lo lo' v v' n m hv a1 hk a0 h
theorem uy2{n m N j c:Nat}(hn:n=m+N)(hc:c=vs (fun i=>dg m i+dg N i) j/B^j) :
 ∃c',c'<=1/\c'=vs (fun i=>dg m i+dg N i) (j+1)/B^(j+1)/\dg m j+dg N j+c=c'*1000000000+dg n j:=by
 have h1:=ufg m N j;have h2:=uhp m N j;rw[<-hn,<-hc,uhn]at h1;rw[<-hc,uhn]at h2;refine⟨_,uuv m N (j+1),rfl,?_⟩;rw[h1];rw[uhn];rw[h2];omega
set_option maxHeartbeats 16000000
theorem ug4(w:World)(lo lo':Nat)(v v':Value)(n m N:Nat)(hv:uL w lo v n)(c5:uL w lo' v' m)(hk:dl n<=4294967296)(hn:n=m+N) :
 Calls Tryz.prog 155 #[v,v'] w (Ret fun v2 w'=>uL w' w.heap.size v2 N/\Below w.heap.size w w'):=by
 obtain⟨_,A,c,rfl,d3,b4,hb⟩:=hv;obtain⟨_,A',c',rfl,d4,b5,a4⟩:=c5;unfold maxLen at b4 b5;have HB:=hid hb;have a9:=hid a4;have d7:dl m<=dl n:=ub8 (by omega)
 have HN:=hid hn;clear hb a4 hn;go_enter Tryz.func155,Tryz.ntmps155
 go_wp2_with (at_make;refine uem _ rfl _ _ 100 rfl w.heap.size 102 Tryz.underlying100 uG _ _ _ (dl n) rfl rfl (by omega) (by omega) ab ?_;intro v0 w0 c4 b7)
 have b1:Below w.heap.size w w0:=aa.grown b7 ab (by simp)
 go_loopw [5,6,14] (fun o cv i wr=>∃j c:Nat,j<=dl n/\c<=1/\i = .int .i64 j/\cv = .int .i64 c/\Hid (c=vs (fun i=>dg m i+dg N i) j/B^j)/\Own wr w.heap.size 102 o j (dg N)/\Below w.heap.size w wr) (fun _ _ i _=>dl n-(intOf i).toNat)
 case atStart=>exact⟨0,0,by omega,by omega,rfl,rfl,by simp[vs,Hid],c4 _,b1⟩
 case round=>
  obtain⟨j,c,hj,hc,rfl,rfl,b6,a3,a0⟩:=hrel;have d0:dg n j<1000000000:=uZ n j;have d1:dg m j<1000000000:=uZ m j;have d2:dg N j<1000000000:=uZ N j;by_cases b9:j<dl n
  ·obtain⟨b,off,rfl,d5,b2,a6⟩:=HB.out (by omega)
   have c8:=(a0.cell (p:=⟨b,off+j,none⟩) b2).trans (a6 j b9);clear a6;obtain⟨c2,c7,a5,a8⟩:=uy2 HN.out b6.out;have HS:=hid a8;have HV:=hid a5;clear a8 a5;by_cases b8:j<dl m
   ·obtain⟨b',c6,rfl,d6,b3,a7⟩:=a9.out (by omega)
    have c9:=(a0.cell (p:=⟨b',c6+j,none⟩) b3).trans (a7 j b8);clear a7;by_cases c3:((dg n j:Nat):Int)-c-dg m j<0
    ·obtain rfl:c2=1:=by have:=HS.out;omega
     go_wp2_with (at_builtin;refine uI wr rfl _ _ 100 rfl w.heap.size 102 Tryz.underlying100 uG _ j (dg N) (by rfl) a3 (by rfl) w a0 a0.size (by omega) ?c1 ?_)
     case c1=>have:=HS.out;omega
     intro v1 w1 a2 a1;go_wp2;go_roundw
     case rel=>exact⟨j+1,1,by omega,by omega,by go_num,by go_num,HV,a2,a1⟩
     case measure=>simp[intOf];omega
    ·obtain rfl:c2=0:=by have:=HS.out;omega
     go_wp2_with (at_builtin;refine uI wr rfl _ _ 100 rfl w.heap.size 102 Tryz.underlying100 uG _ j (dg N) (by rfl) a3 (by rfl) w a0 a0.size (by omega) ?c1 ?_)
     case c1=>have:=HS.out;omega
     intro v1 w1 a2 a1;go_wp2;go_roundw
     case rel=>exact⟨j+1,0,by omega,by omega,by go_num,by go_num,HV,a2,a1⟩
     case measure=>simp[intOf];omega
   ·have hz:Hid (dg m j=0):=uff (n:=m) (i:=j) (by omega)
    by_cases c3:((dg n j:Nat):Int)-c<0
    ·obtain rfl:c2=1:=by have:=HS.out;have:=hz.out;omega
     go_wp2_with (at_builtin;refine uI wr rfl _ _ 100 rfl w.heap.size 102 Tryz.underlying100 uG _ j (dg N) (by rfl) a3 (by rfl) w a0 a0.size (by omega) ?c1 ?_)
     case c1=>have:=HS.out;have:=hz.out;omega
     intro v1 w1 a2 a1;go_wp2;go_roundw
     case rel=>exact⟨j+1,1,by omega,by omega,by go_num,by go_num,HV,a2,a1⟩
     case measure=>simp[intOf];omega
    ·obtain rfl:c2=0:=by have:=HS.out;have:=hz.out;omega
     go_wp2_with (at_builtin;refine uI wr rfl _ _ 100 rfl w.heap.size 102 Tryz.underlying100 uG _ j (dg N) (by rfl) a3 (by rfl) w a0 a0.size (by omega) ?c1 ?_)
     case c1=>have:=HS.out;have:=hz.out;omega
     intro v1 w1 a2 a1;go_wp2;go_roundw
     case rel=>exact⟨j+1,0,by omega,by omega,by go_num,by go_num,HV,a2,a1⟩
     case measure=>simp[intOf];omega
  ·obtain rfl:j=dl n:=by omega
   have b0:Hid (N<B^dl n):=Nat.lt_of_le_of_lt (by have:=HN.out;omega) (ua2 n)
   go_wp2_with fail
   refine(udb _ _ _ _ _ (a3.vAs fun i _=>Nat.lt_trans (uZ N i) (by decide)) b0.out).mono ?_
   rintro e w'⟨v',rfl,c0,rfl⟩;go_wp2;go_ret
   exact⟨v',rfl,c0,a0⟩
set_option maxHeartbeats 200000
theorem umt:dl 1=1:=ump (k:=0) (by decide) (by decide)
theorem ueo{n:Nat}(h:n<B):dg n 0=n:=by unfold dg;rw[Nat.pow_zero,Nat.div_one,aV h]
theorem umu(w:World)(lo:Nat)(v:Value)(hv:uL w lo v 1) :
 Calls Tryz.prog 156 #[v] w (fun e w'=>e = .returned (.bool true)/\w=w'):=by
 obtain⟨_,A,c,rfl,a2,a4,hb⟩:=hv;rw[umt]at a2 hb ⊢;obtain⟨b,off,rfl,a5,a3,a0⟩:=hb (by omega)
 have a1:=a0 0 (by omega)
 rw[ueo (by decide),Nat.add_zero]at a1
 clear a0 hb;go_enter Tryz.func156,Tryz.ntmps156
 go_wp2;go_ret
 exact⟨rfl,rfl⟩
theorem uqt(w:World)(lo:Nat)(v:Value)(n:Nat)(hv:uL w lo v n)(hn:n≠1) :
 Calls Tryz.prog 156 #[v] w (fun e w'=>e = .returned (.bool false)/\w=w'):=by
 obtain⟨_,A,c,rfl,a3,a2,hb⟩:=hv;unfold maxLen at a2;by_cases h1:dl n=1
 ·rw[h1]at a3 hb ⊢
  obtain⟨b,off,rfl,a6,a5,a0⟩:=hb (by omega)
  have a1:=a0 0 (by omega)
  have hB:n<B:=by have:=ua2 n;rw[h1]at this;simpa using this
  rw[ueo hB,Nat.add_zero]at a1;have a4:(((n:Nat):Int)==1)=false:=by rw[aw];omega
  clear a0 hb h1 hB;go_enter Tryz.func156,Tryz.ntmps156
  go_wp2;go_ret
  exact⟨rfl,rfl⟩
 ·have a4:(((dl n:Nat):Int)==1)=false:=by rw[aw];omega
  clear hb;go_enter Tryz.func156,Tryz.ntmps156
  go_wp2;go_ret
  exact⟨rfl,rfl⟩
set_option maxHeartbeats 16000000
theorem ucj(w:World)(n:Nat)(hn:n<18446744073709551616) :
 Calls Tryz.prog 95 #[.int .u64 n] w (Ret fun v2 w'=>uL w' w.heap.size v2 n/\Below w.heap.size w w'):=by
 go_enter Tryz.func95,Tryz.ntmps95
 go_wp2;go_loopw [0,3] (fun x o wr=>∃j r:Nat,j<=3/\r<18446744073709551616/\x = .int .u64 r/\Hid (r=n/B^j)/\Hid (j=0\/B^(j-1)<=n)/\Own wr w.heap.size 102 o j (dg n)/\Below w.heap.size w wr) (fun x _ _=>(intOf x).toNat)
 case atStart=>exact⟨0,n,by omega,hn,rfl,by simp[Hid],.inl rfl,World.ownsRow_nil _ _ _ _,aa⟩
 case round=>
  obtain⟨j,r,hj,hr,rfl,a0,a6,a3,a1⟩:=hrel;by_cases h0:0<r
  ·have a2:Hid (B^j<=n):=by
    rcases ah n (B^j)with h|h
    ·have:=a0.out;rw[Nat.div_eq_of_lt h]at this;omega
    ·exact h
   have b0:j<=2:=by
    rcases ah 2 j with h|h
    ·exfalso
     have h1:B^3<=B^j:=Nat.pow_le_pow_right ucs (by omega)
     have h2:=a2.out;have h3:B^3=1000000000000000000000000000:=by decide
     omega
    ·exact h
   have a5:Hid (r%1000000000=dg n j):=by show _=n/B^j%B;rw[<-a0.out];rfl
   have a8:Hid (r/1000000000=n/B^(j+1)):=by show _=_;rw[ubm,<-a0.out];rfl
   go_wp2_with (at_builtin;refine uI wr rfl _ _ 100 rfl w.heap.size 102 Tryz.underlying100 uG _ j (dg n) (by rfl) a3 (by rfl) w a1 a1.size (by omega) ?c1 ?_)
   case c1=>rw[<-a5.out];omega
   intro v1 w1 a9 a4;go_wp2;go_roundw
   case rel=>exact⟨j+1,r/1000000000,by omega,by omega,by go_num,a8,.inr (by simpa using a2.out),a9,a4⟩
   case measure=>simp[intOf];omega
  ·obtain rfl:r=0:=by omega
   have a7:Hid (dl n=j):=by
    have h1:n<B^j:=(Nat.div_eq_zero_iff_lt (uH j)).1 a0.out.symm;refine Nat.le_antisymm (ue4 h1) ?_;rcases a6.out with h|h
    ·omega
    ·have:=uDc h;omega
   go_wp2;go_ret
   exact⟨_,rfl,uL.of (a3.vAs fun i _=>Nat.lt_trans (uZ _ i) (by decide)) a7.out,a1⟩
end Go.Proofs.YtnbbpmagijpmpaaGreatDoor
