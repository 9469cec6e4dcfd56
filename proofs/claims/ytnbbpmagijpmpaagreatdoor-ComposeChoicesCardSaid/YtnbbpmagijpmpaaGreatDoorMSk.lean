/-
  Symbolic regions: a call of a function that is a value.
-/
import Derived.Test.YtnbbpmagijpmpaaGreatDoorMDm
set_option linter.unusedVariables false
set_option linter.unusedSimpArgs false
namespace Go.Proofs.YtnbbpmagijpmpaaGreatDoor
open Go.Lib (hid)
open Go Go.RowKit AC
section
variable {P:Program} {ops:Array Oper} {Q:Exit->Act->World->Prop} {I:Act->World->Prop} {i:Nat} {o:Oper} {a:Act} {w:World}
theorem uBv(ho:ops[i]? = some o)(hw:Region.wanted o (yielded ops a.tmps)=true)(y:Operand)(args:List Operand)(a0:Array TypeId)(a2:o.op = .call { callee:= .value y,args:=args.toArray,argTypes:=a0 }) (g:FuncId) (hy:a.eval y = .func (.func g) #[] #[]) (he:Enters P g) (vs:List Value) (a1:args.map a.eval=vs)
 {R:Ending->World->Prop} (K:Calls P g vs.toArray w R) (h:∀e w',R e w'->∃v,e = .returned v/\I (a.put o.dst v) w'):ua5 P ops Q i I a w:=by
 refine uvh ho hw ?_;unfold Oper.wp execOp;rw[a2];have hm:args.toArray.map a.eval=vs.toArray:=by rw[<-a1];simp
 simp only[resolve,hm,aD];have hr:=he vs.toArray w;simp[Deferred.ofValue,hy,invoke,hr];rw[Oper.upon_enter];refine K.mono ?_;intro e w' hR;obtain⟨v,rfl,hI⟩:=h e w' hR;exact hI
variable {E:Sp} {vAa:List Nat} {W:World} {s:Sy}
theorem ukw(ss:List Sy){o:Oper}(ho:ops[i]? = some o){y:Operand}{args:List Operand}{a1:Array TypeId}(a4:o.op = .call { callee:= .value y,args:=args.toArray,argTypes:=a1 }) {g:FuncId} (hy:E.opC P ops vAa i y=some (.v (.func (.func g) #[] #[]))) (he:Enters P g) (hA:(args.map (E.opC P ops vAa i))=ss.map some)
 (K:∀(x:World) (vs:List Value),Below W.heap.size W x->(E.cnd P ops vAa i).ev E.bs=true->E.vC0 x ss vs->Calls P g vs.toArray x (fun e w'=>∃v,e = .returned v/\E.sat s v w'/\Below x.heap.size x w')):E.vB9 P ops Q vAa W i s:=by
 intro o' x a a0 a3 hC hw a2;rw[ho]at a0;injection a0 with a0;subst a0;refine uBv ho hw y args a1 a4 g (a2 y _ hy) he _ rfl (K x _ a3 hC (ulk a2 hA)) ?_;rintro e w'⟨v,he,hs,hb⟩;exact⟨v,he,v,rfl,hs,hb⟩
theorem umi{o:Oper}(ho:ops[i]? = some o){T U:TypeId}{x y:Operand}(a3:o.op = .binOp .add T x y U)(t u v:ByteArray)(hA:[E.opC P ops vAa i x,E.opC P ops vAa i y]=[some (.v (.string t)),some (.v (.string u))])(h:t++u=v)(hl:v.size<=1000000):E.vB9 P ops Q vAa W i (.v (.string v)):=by
 intro o' w a a0 a4 hC hw a1;rw[ho]at a0;injection a0 with a0;subst a0;simp only[List.cons.injEq,and_true]at hA;have hx:a.eval x = .string t:=a1 x _ hA.1;have hy:a.eval y = .string u:=a1 y _ hA.2;refine ubr ho hw (v:= .string v) ?_ ⟨_,rfl,rfl,aa⟩;unfold execOp;rw[a3];simp only[hx,hy];subst h;rw[ByteArray.size_append]at hl;have a2:(t.size:Int)+u.size<=9223372036854775807:=by omega
 simp[eqGuard,binOp,Op.stringOp,aD,a2]
end
end Go.Proofs.YtnbbpmagijpmpaaGreatDoor
namespace AC
open Go Go.RowKit
def uHh(B:Array Nat)(ops:Array Oper)(n e:Nat):Bool:=
 (List.range ops.size).all fun i=>decide (i<n)||(List.range i).all fun j=>decide (i=n/\j=e)||uP B i j
section
variable {P:Program} {ops:Array Oper} {Q:Exit->Act->World->Prop}
theorem uju{id:Nat}{a0:Act}{w0:World}(hm:P.follows .mixedOrders=true)
 (c5:uyu ops=true) (vAa:List Nat) (e:Nat) (oe:Oper) (b0:ops[e]? = some oe) (c8:e<vAa.length) (c9:vAa.length<ops.size) (b6:(ucw ops vAa&&uHh (ua8 ops) ops vAa.length e&&decide vAa.Nodup&&decide (vAa.length<=ops.size))=true)
 (R:(Nat->Bool)->World->Prop) (G:Nat->World->World->Prop) (F:(Nat->Bool)->Nat->Value->World->Prop) (h0:R (fun _=>false) w0.drew) (hR:∀d j x x',R d x->d j=false->G j x x'->R (uq2 d j) x')
 (c6:∀d i j v x x',i<vAa.length->j<vAa.length->i≠j->d i=true->d j=false->(∀k,uP (ua8 ops) j k=true->d k=true)->F d i v x->G j x x'->F (uq2 d j) i v x')
 (step:∀(i:Nat) (o:Oper) (s:Nat->Value) (d:Nat->Bool) (x:World),ops[i]? = some o->i<vAa.length->d i=false->R d x ->
  (∀j,uP (ua8 ops) i j=true->j<vAa.length->d j=true/\F d j (s j) x) ->
  ua5 P ops Q i (fun a' x'=>∃v,a'=(uj a0 vAa 0 s).put (some (vAa.getD i 0)) v/\F (uq2 d i) i v x'/\G i x x') (uj a0 vAa 0 s) x)
 (fin:∀(s:Nat->Value) (d:Nat->Bool) (x:World),R d x->(∀i,i<vAa.length->d i=true/\F d i (s i) x)->wpList P ops Q (ops.toList.drop vAa.length) (uj a0 vAa 0 s) x)
 (b8:∀(s:Nat->Value) (d:Nat->Bool) (x:World),R d x->d e=false->(∀i,i<vAa.length->i≠e->d i=true/\F d i (s i) x)->∀on,ops[vAa.length]? = some on->wpList P ops Q (on::oe::ops.toList.drop (vAa.length+1)) (uj a0 vAa 0 s) x) :
 (Code.region id ops true).wp P Q a0 w0:=by
 simp only[ax,aP]at b6;obtain⟨⟨⟨c7,c4⟩,b5⟩,d0⟩:=b6;have hl:=ufo c5;have b4:∀i,i<ops.size->vAa.length<=i->∀j,j<i->(i=vAa.length/\j=e)\/uP (ua8 ops) i j=true:=by
  intro i hi hn j hj;have h1:=aT.1 c4 i (aX.2 hi);simp only[aU,aP]at h1;rcases h1 with h1|h1
  ·omega
  ·have h2:=aT.1 h1 j (aX.2 hj)
   simp only[aU,aP]at h2;exact h2
 refine vAn hm hl (fun d a x=>vAp ops d /\
  (((∀j,vAa.length<=j->d j=false)/\RlD a0 R vAa F d a x)\/(((∀j,d j=decide (j<=vAa.length/\j≠e))/\wpList P ops Q (oe::ops.toList.drop (vAa.length+1)) a x)\/(∃k,vAa.length<k/\(∀j,d j=decide (j<k))/\wpList P ops Q (ops.toList.drop k) a x)))) ?_ ?_ ?_
 ·refine⟨(fun i o _ h=>by cases h),.inl ⟨fun _ _=>rfl,?_⟩⟩
  obtain⟨s,hs⟩:=ua4 vAa a0 0 b5;exact⟨s,hs.symm,h0,fun i _ h=>by cases h⟩
 ·rintro d i o a x ho a1 a6 ⟨a5,hI⟩
  have hi:i<ops.size:=(au.1 ho).1;have a7:vAp ops (fun k=>d k||k==i):=by
   intro k o' a8 hk e he hb;rw[aU]at hk ⊢;rcases hk with hk|hk
   ·exact .inl (a5 k o' a8 hk e he hb)
   ·have:k=i:=by simpa using hk
    subst this;rw[ho]at a8;injection a8 with a8;subst a8;exact .inl (a6 e he hb)
  rcases ah i vAa.length with hin|hin
  ·rcases hI with⟨hnone,s,rfl,hbx,hF⟩|⟨hdk,hw⟩|⟨k,hk,hdk,hw⟩
   ·refine wpOp_mono ?_ (step i o s d x ho hin a1 hbx fun j hj c2=>⟨uM a5 ho a6 hj,hF j c2 (uM a5 ho a6 hj)⟩).out
    rintro a' x'⟨v,rfl,b9,b2⟩;refine⟨a7,.inl ⟨fun j hj=>?_,?_⟩⟩
    ·have:(j==i)=false:=by rw[aw];omega
     show(d j||j==i)=false
     rw[hnone j hj,this];rfl
    ·refine⟨fun j=>if j=i then v else s j,?_,hR d i x x' hbx a1 b2,?_⟩
     ·have ht:vAa[i]? = some (vAa.getD i 0):=by rw[aj,ai hin];rfl
      rw[ubi vAa a0 0 i s (vAa.getD i 0) v b5 ht,Nat.zero_add]
     ·intro j hj a9
      by_cases a4:j=i
      ·subst a4
       simp only[if_true];exact b9
      ·simp only[if_neg a4]
       have b3:d j=true:=by
        rw[aU]at a9;rcases a9 with h|h
        ·exact h
        ·exact absurd (by simpa using h) a4
       exact c6 d j i _ x x' hj hin a4 b3 a1 (fun k hk=>uM a5 ho a6 hk) (hF j hj b3) b2
   ·rw[hdk i]at a1
    have c0:i=e:=by
     rcases Nat.decEq i e with h|h
     ·rw[decide_eq_true ⟨by omega,h⟩]at a1;cases a1
     ·exact h
    subst c0;rw[ho]at b0;injection b0 with b0;subst b0;refine wpOp_mono ?_ (vAd ho hw);intro a' x' hw;refine⟨a7,.inr (.inr ⟨vAa.length+1,by omega,fun j=>?_,hw⟩)⟩
    show(d j||j==i)=_
    rw[hdk j];by_cases a4:j=i
    ·subst a4;simp;omega
    ·have:(j==i)=false:=by rw[aw];exact a4
     rw[this,Bool.or_false];by_cases hj:j<=vAa.length
     ·rw[decide_eq_true ⟨hj,a4⟩,decide_eq_true (by omega)]
     ·rw[aQ (by omega),aQ (by omega)]
   ·rw[hdk i]at a1
    simp at a1;omega
  ·rcases Nat.eq_or_lt_of_le hin with hin'|hgt
   ·
    have b1:∀j,j<i->j≠e->d j=true:=fun j hj a3=>by
     rcases b4 i hi hin j hj with⟨_,h⟩|h
     ·exact absurd h a3
     ·exact uM a5 ho a6 h
    have b7:∀j,i<j->d j=false:=fun j hj=>by
     rcases hI with⟨hnone,_⟩|⟨hdk,_⟩|⟨k,hk,hdk,_⟩
     ·exact hnone j (by omega)
     ·rw[hdk i,decide_eq_true ⟨by omega,by omega⟩]at a1;cases a1
     ·rw[hdk i]at a1;simp at a1;omega
    rcases hI with⟨hnone,s,rfl,hbx,hF⟩|⟨hdk,hw⟩|⟨k,hk,hdk,hw⟩
    ·cases hde:d e with
     | true=>
      have a2:∀j,j<i->d j=true:=fun j hj=>by
       by_cases a3:j=e
       ·subst a3;exact hde
       ·exact b1 j hj a3
      have key:=fin s d x hbx fun j hj=>⟨a2 j (by omega),hF j hj (a2 j (by omega))⟩
      rw[hin',vA1 ho]at key;refine wpOp_mono ?_ (vAd ho key);intro a' x' hw;refine⟨a7,.inr (.inr ⟨i+1,by omega,fun j=>?_,hw⟩)⟩
      show(d j||j==i)=_
      rcases Nat.lt_trichotomy j i with h|h|h
      ·rw[a2 j h];simp;omega
      ·subst h;simp
      ·rw[b7 j h]
       have:(j==i)=false:=by rw[aw];omega
       rw[this];simp;omega
     | false=>
      have key:=b8 s d x hbx hde (fun j hj a3=>⟨b1 j (by omega) a3,hF j hj (b1 j (by omega) a3)⟩) o (by rw[hin'];exact ho)
      refine wpOp_mono ?_ (vAd ho key);intro a' x' hw;refine⟨a7,.inr (.inl ⟨fun j=>?_,hw⟩)⟩
      show(d j||j==i)=_
      by_cases a3:j=e
      ·subst a3
       have:(j==i)=false:=by rw[aw];omega
       rw[hde,this];simp
      ·rcases Nat.lt_trichotomy j i with h|h|h
       ·rw[b1 j h a3,decide_eq_true ⟨by omega,a3⟩];rfl
       ·subst h;rw[decide_eq_true ⟨by omega,a3⟩];simp
       ·rw[b7 j h,aQ (by omega)]
        have:(j==i)=false:=by rw[aw];omega
        rw[this];rfl
    ·rw[hdk i,decide_eq_true ⟨by omega,by omega⟩]at a1;cases a1
    ·rw[hdk i]at a1;simp at a1;omega
   ·have a2:∀j,j<i->d j=true:=fun j hj=>by
     rcases b4 i hi hin j hj with⟨h,_⟩|h
     ·omega
     ·exact uM a5 ho a6 h
    rcases hI with⟨hnone,s,rfl,hbx,hF⟩|⟨hdk,hw⟩|⟨k,hk,hdk,hw⟩
    ·have:=a2 vAa.length hgt;rw[hnone _ ab]at this;cases this
    ·have:=a2 e (by omega);rw[hdk e]at this;simp at this
    ·have c1:i=k:=by
      rcases Nat.lt_trichotomy i k with h|h|h
      ·rw[hdk i]at a1;simp at a1;omega
      ·exact h
      ·have:=a2 k h;rw[hdk k]at this;simp at this
     have key:=hw;rw[<-c1,vA1 ho]at key;refine wpOp_mono ?_ (vAd ho key);intro a' x' hw;refine⟨a7,.inr (.inr ⟨i+1,by omega,fun j=>?_,hw⟩)⟩
     show(d j||j==i)=_
     rcases Nat.lt_trichotomy j i with h|h|h
     ·rw[a2 j h];simp;omega
     ·subst h;simp
     ·have a9:d j=false:=by rw[hdk j];simp;omega
      rw[a9];have:(j==i)=false:=by rw[aw];omega
      rw[this];simp;omega
 ·rintro d a x a2 ⟨a5,hI⟩
  rcases hI with⟨hnone,s,rfl,hbx,hF⟩|⟨hdk,_⟩|⟨k,hk,hdk,hw⟩
  ·have hn:vAa.length=ops.size:=by
    rcases ah vAa.length ops.size with h|h
    ·have:=a2 _ h;rw[hnone _ ab]at this;cases this
    ·omega
   have:=fin s d x hbx fun j hj=>⟨a2 j (by omega),hF j hj (a2 j (by omega))⟩
   rw[hn,List.drop_of_length_le (by simp)]at this
   exact this
  ·have:=a2 e (by omega);rw[hdk e]at this;simp at this
  ·have c3:ops.size<=k:=by
    rcases ah k ops.size with h|h
    ·have:=a2 k h;rw[hdk k]at this;simp at this
    ·exact h
   rw[List.drop_of_length_le (by simpa using c3)]at hw
   exact hw
end
end AC
namespace Go.Proofs.YtnbbpmagijpmpaaGreatDoor
open Go.Lib (hid)
open Go Go.RowKit AC
section
variable {P:Program} {ops:Array Oper} {Q:Exit->Act->World->Prop}
theorem uss{E:Sp}{vAa:List Nat}{S:Nat->Value}{x:World}{e:Nat}(h:∀j,j<vAa.length->j≠e->E.fact P ops vAa j (S j) x):∀ {l:List (Nat×Sy)},(l.all fun z=>decide (z.1≠e))=true->(l.map fun z=>E.tab P ops vAa z.1)=(l.map fun z=>some (.t,z.2))->E.vCy S x l
 | [],_,_=>trivial
 | z::l,hne,he=>by
  simp only[List.map_cons,List.cons.injEq]at he;rw[List.all_cons,ax,aP]at hne;refine⟨?_,uss h hne.2 he.2⟩;have hj:z.1<vAa.length:=by
   rcases ah z.1 vAa.length with h1|h1
   ·exact h1
   ·exfalso
    have e:=he.1;unfold Sp.tab at e;split at e
    ·unfold ent at e;rw[if_neg (by omega)]at e;cases e
    ·cases e
  have:=h z.1 hj hne.1;unfold Sp.fact at this;rw[he.1]at this;exact this
def uyc(P:Program)(E:Sp)(ops:Array Oper)(vAa:List Nat)(e:Nat):Bool:=
 uCo E.ext&&uyu ops&&(ucw ops vAa&&uHh (ua8 ops) ops vAa.length e&&decide vAa.Nodup&&decide (vAa.length<=ops.size))&&(uj4 P E ops vAa).isSome&&decide ((ua8 ops).size=ops.size)&&decide (e<vAa.length)&&decide (vAa.length<ops.size)
theorem ujv{id:Nat}{a0:Act}{w0:World}(e:Nat)(oe:Oper)(c1:ops[e]? = some oe)(E:Sp)(vAa:List Nat)(W:World)(hW:Below W.heap.size W w0.drew)(hm:P.follows .mixedOrders=true)(a2:uyc P E ops vAa e=true)(c4:vAa.all (fun t=>decide (t<a0.tmps.size))=true)
 (a5:stays E.fs) (b2:(E.ext.map fun z=>a0.eval (.tmp z.1))=E.ext.map fun z=>E.den z.2) (b8:∀x,Below W.heap.size W x->ufq x E.mem) (b1:E.vBl P ops Q vAa W E.hint)
 (fin:∀(s:Nat->Value) (x:World),Below W.heap.size W x->(∀ {l:List (Nat×Sy)},(l.map fun z=>E.tab P ops vAa z.1)=(l.map fun z=>some (.t,z.2))->E.vCy s x l)->wpList P ops Q (ops.toList.drop vAa.length) (uj a0 vAa 0 s) x)
 (a8:∀(s:Nat->Value) (x:World),Below W.heap.size W x->(∀ {l:List (Nat×Sy)},(l.all fun z=>decide (z.1≠e))=true->(l.map fun z=>E.tab P ops vAa z.1)=(l.map fun z=>some (.t,z.2))->E.vCy s x l)->∀on,ops[vAa.length]? = some on->wpList P ops Q (on::oe::ops.toList.drop (vAa.length+1)) (uj a0 vAa 0 s) x) :
 (Code.region id ops true).wp P Q a0 w0:=by
 unfold uyc at a2;rw[ax,ax,ax,ax,ax,ax]at a2;obtain⟨⟨⟨⟨⟨⟨b3,b7⟩,a6⟩,c3⟩,_⟩,a3⟩,a4⟩:=a2;have a3:=of_decide_eq_true a3;have a4:=of_decide_eq_true a4;obtain⟨T,hT⟩:=Option.isSome_iff_exists.1 c3;have a7:=a6;simp only[ax,aP]at a7;obtain⟨⟨⟨b0,_⟩,b9⟩,b6⟩:=a7;have c5:∀(d:Nat->Bool) i j v x x',i<vAa.length->j<vAa.length->i≠j->d i=true->d j=false->(∀k,uP (ua8 ops) j k=true->d k=true)->E.fact P ops vAa i v x->Below x.heap.size x x'->E.fact P ops vAa i v x':=by
  intro d i j v x x' _ _ _ _ _ _ h hb;unfold Sp.fact at h ⊢;split at h
  ·exact uj6 a5 h hb
  ·exact h.elim
 have b4:∀t∈vAa,t<a0.tmps.size:=fun t ht=>by
  have:=aT.1 c4 t ht;simpa using this
 refine uju hm b7 vAa e oe c1 a3 a4 a6 (fun _ x=>Below W.heap.size W x) (fun _ x x'=>Below x.heap.size x x') (fun _ i v x=>E.fact P ops vAa i v x) hW (fun d j x x' h _ hg=>h.trans (hg.mono h.size)) c5 ?_ ?_ ?_
 ·intro i o s d x ho hi hd a1 a9
  refine ulj hT b6 a5 b2 b3 b8 b0 b1 i o s d x _ ho hi a1 a9 (fun j hj=>?_) fun t ht=>ucy vAa a0 0 s t ht
  have ht:vAa[j]? = some (vAa.getD j 0):=by rw[aj,ai hj];rfl
  have:=ucx vAa a0 0 j s _ b9 b4 ht;rw[Nat.zero_add]at this;exact this
 ·intro s d x a1 hF
  exact fin s x a1 fun {l} hl=>Sp.vA8 (fun j hj=>(hF j hj).2) hl
 ·intro s d x a1 c6 hF on c2
  exact a8 s x a1 (fun {l} c0 hl=>uss (fun j hj b5=>(hF j hj b5).2) c0 hl) on c2
end
open Go.RowKit AC
def uH7(g:FuncId)(sel:Rat->Rat->Bool):Prop:=Enters Tryz.prog g/\∀(X:Ctx) (p q:List Ter) (xv:List Value) (A:Option Addr) (n c:Nat) (B:Option Addr) (m k:Nat) (w:World),uok w (· < w.heap.size) X xv->uB w (· < w.heap.size) p A n c->uB w (· < w.heap.size) q B m k->uz p->uz q->Gp w ->
 Calls Tryz.prog g #[.agg xv.toArray,.slice A n c,.slice B m k] w (uc8 X sel p q w)
set_option maxHeartbeats 16000000
set_option maxRecDepth 100000
theorem ust:uH7 14 urk:=by
 refine⟨enters_of Tryz.func14 (by kernel_rfl) rfl,fun X p q xv A n c B m k w hx hp hq a2 a3 hg=>?_⟩
 have KM:Hid (∀x,Below w.heap.size w x->Calls Tryz.prog 37 #[.agg xv.toArray,.slice A n c,.slice B m k,.func (.func 38) #[] #[]] x (uH6 (vBz X urk p q) (vAh urk p q) x)):=fun x hb=>
  uom uv7 p q xv A n c B m k x ((hx.vAb (uc.of hb)).sub fun b a0 _=>a0) ((uB.vAb (uc.of hb) hp).sub fun b a0 _=>a0) ((uB.vAb (uc.of hb) hq).sub fun b a0 _=>a0) a2 a3 (hg.below hb hg.2)
 unfold uc8;generalize vBz X urk p q=er at *;generalize vAh urk p q=ml at *;obtain⟨dA,dn,dc,vA,vn,vc,rk,rm,rA,rn,rc,rfl⟩:=hx.form;clear hx hp hq a2 a3 hg;show Calls Tryz.prog 14 #[.agg #[.slice dA dn dc,.slice vA vn vc,.int .i64 rk,.int .i64 rm,.slice rA rn rc],.slice A n c,.slice B m k] w _
 go_enter Tryz.func14,Tryz.ntmps14
 go_upto_region 1 with(fail)
 obtain⟨W,hW⟩:∃W,W=w.alloc (.cells #[.slice dA dn dc,.slice vA vn vc,.int .i64 rk,.int .i64 rm,.slice rA rn rc] 27):=⟨_,rfl⟩;have a1:Hid (Below w.heap.size w W):=by rw[hW];exact aa.alloc ab _
 have HX:Hid (Bk W w.heap.size 27 #[.slice dA dn dc,.slice vA vn vc,.int .i64 rk,.int .i64 rm,.slice rA rn rc]):=by rw[hW];exact Bk.new _ _ _
 rw[<-hW];clear hW;obtain⟨a6,_,_⟩:=HX.out.facts;go_wp2_with fail
 refine(KM.out W a1.out).mono ?_;rintro e w1⟨C,l,d,rfl,hb,hr⟩;have a4:=hid (a1.out.trans (hb.mono a1.out.size));have HR:=hid hr;clear hb a6 hr;go_wp2;go_ret2
 have a5:w.heap.size<=W.heap.size:=a1.out.size;exact⟨_,_,_,rfl,a4.out,fun h=>(HR.out h).sub fun b _ hb=>ag a5 hb⟩
theorem usu:uH7 15 url:=by
 refine⟨enters_of Tryz.func15 (by kernel_rfl) rfl,fun X p q xv A n c B m k w hx hp hq a2 a3 hg=>?_⟩
 have KM:Hid (∀x,Below w.heap.size w x->Calls Tryz.prog 37 #[.agg xv.toArray,.slice A n c,.slice B m k,.func (.func 40) #[] #[]] x (uH6 (vBz X url p q) (vAh url p q) x)):=fun x hb=>
  uom uv8 p q xv A n c B m k x ((hx.vAb (uc.of hb)).sub fun b a0 _=>a0) ((uB.vAb (uc.of hb) hp).sub fun b a0 _=>a0) ((uB.vAb (uc.of hb) hq).sub fun b a0 _=>a0) a2 a3 (hg.below hb hg.2)
 unfold uc8;generalize vBz X url p q=er at *;generalize vAh url p q=ml at *;obtain⟨dA,dn,dc,vA,vn,vc,rk,rm,rA,rn,rc,rfl⟩:=hx.form;clear hx hp hq a2 a3 hg;show Calls Tryz.prog 15 #[.agg #[.slice dA dn dc,.slice vA vn vc,.int .i64 rk,.int .i64 rm,.slice rA rn rc],.slice A n c,.slice B m k] w _
 go_enter Tryz.func15,Tryz.ntmps15
 go_upto_region 1 with(fail)
 obtain⟨W,hW⟩:∃W,W=w.alloc (.cells #[.slice dA dn dc,.slice vA vn vc,.int .i64 rk,.int .i64 rm,.slice rA rn rc] 27):=⟨_,rfl⟩;have a1:Hid (Below w.heap.size w W):=by rw[hW];exact aa.alloc ab _
 have HX:Hid (Bk W w.heap.size 27 #[.slice dA dn dc,.slice vA vn vc,.int .i64 rk,.int .i64 rm,.slice rA rn rc]):=by rw[hW];exact Bk.new _ _ _
 rw[<-hW];clear hW;obtain⟨a6,_,_⟩:=HX.out.facts;go_wp2_with fail
 refine(KM.out W a1.out).mono ?_;rintro e w1⟨C,l,d,rfl,hb,hr⟩;have a4:=hid (a1.out.trans (hb.mono a1.out.size));have HR:=hid hr;clear hb a6 hr;go_wp2;go_ret2
 have a5:w.heap.size<=W.heap.size:=a1.out.size;exact⟨_,_,_,rfl,a4.out,fun h=>(HR.out h).sub fun b _ hb=>ag a5 hb⟩
set_option maxHeartbeats 200000
set_option maxRecDepth 512
def uuk(w:World)(D:Nat->Prop)(b:List Ter×List Ter)(v:List Value):Prop:=∃A n c B m k,v=[.slice A n c,.slice B m k]/\uB w D b.1 A n c/\uB w D b.2 B m k
abbrev umo(w:World)(D:Nat->Prop)(l:List (List Ter×List Ter))(A:Option Addr)(n c:Nat):Prop:=Sl 2 (uuk w D) w D l A n c
theorem uuk.vAb{w w':World}{D:Nat->Prop}(hk:uc D w w'){b:List Ter×List Ter}{v:List Value}(h:uuk w D b v):uuk w' D b v:=by
 obtain⟨A,n,c,B,m,k,e,h1,h2⟩:=h;exact⟨A,n,c,B,m,k,e,uB.vAb hk h1,uB.vAb hk h2⟩
theorem umo.vAb{w w':World}{D:Nat->Prop}(hk:uc D w w'){l:List (List Ter×List Ter)}{A:Option Addr}{n c:Nat}(h:umo w D l A n c):umo w' D l A n c:=Sl.vAb hk (fun _ _ h=>uuk.vAb hk h) h
theorem uuk.sub{w:World}{D D':Nat->Prop}(hd:∀b,b<w.heap.size->D b->D' b){b:List Ter×List Ter}{v:List Value}(h:uuk w D b v):uuk w D' b v:=by
 obtain⟨A,n,c,B,m,k,e,h1,h2⟩:=h;exact⟨A,n,c,B,m,k,e,h1.sub hd,h2.sub hd⟩
theorem umo.sub{w:World}{D D':Nat->Prop}(hd:∀b,b<w.heap.size->D b->D' b){l:List (List Ter×List Ter)}{A:Option Addr}{n c:Nat}(h:umo w D l A n c):umo w D' l A n c:=Sl.sub hd (fun _ _ h=>uuk.sub hd h) h
def uH8(g:FuncId)(pk:List Ter×List Ter->List Ter):Prop:=Enters Tryz.prog g/\∀(w:World) (D:Nat->Prop) (b:List Ter×List Ter) (v:List Value),uuk w D b v->∃A n c,uB w D (pk b) A n c/\∀x,Calls Tryz.prog g #[.agg v.toArray] x (uY (.slice A n c) x)
set_option maxHeartbeats 16000000
theorem uon:uH8 17 Prod.fst:=by
 refine⟨enters_of Tryz.func17 (by kernel_rfl) rfl,fun w D b v h=>?_⟩
 obtain⟨A,n,c,B,m,k,rfl,h1,h2⟩:=h;refine⟨A,n,c,h1,fun x=>?_⟩
 clear h1 h2;show Calls Tryz.prog 17 #[.agg #[.slice A n c,.slice B m k]] x _
 go_enter Tryz.func17,Tryz.ntmps17
 go_wp2;go_ret
 exact⟨rfl,aa.alloc ab _⟩
theorem uoo:uH8 18 Prod.snd:=by
 refine⟨enters_of Tryz.func18 (by kernel_rfl) rfl,fun w D b v h=>?_⟩
 obtain⟨A,n,c,B,m,k,rfl,h1,h2⟩:=h;refine⟨B,m,k,h2,fun x=>?_⟩
 clear h1 h2;show Calls Tryz.prog 18 #[.agg #[.slice A n c,.slice B m k]] x _
 go_enter Tryz.func18,Tryz.ntmps18
 go_wp2;go_ret
 exact⟨rfl,aa.alloc ab _⟩
set_option maxHeartbeats 200000
theorem uyd{sel:Rat->Rat->Bool}{p q:List Ter}(hp:uz p)(hq:uz q):uz (vAh sel p q):=fun t ht=>by
 rcases udi sel _ p q ab t ht with h|h
 ·exact hp t h
 ·exact hq t h
def uey(X:Ctx)(j:Bool)(pk:List Ter×List Ter->List Ter)(l:List (List Ter×List Ter))(w:World)(e:Ending)(w':World):Prop:=∃C n c er,e = .returned (.tuple #[.slice C n c,.int .i64 er])/\Below w.heap.size w w' /\
 (er=0->∃r,X.okP/\X.vAl r/\uz r/\(∀b∈l,X.vAl (pk b)/\uui j r (pk b))/\uB w' (w.heap.size <= ·) r C n c)
def FoI(X:Ctx)(j:Bool)(pk:List Ter×List Ter->List Ter)(l:List (List Ter×List Ter))(i:Nat)(r:List Ter):Prop:=uz r/\(i=0->∃h:0<l.length,r=pk l[0])/\(0<i->X.okP/\X.vAl r/\∀k (h:k<l.length),k<i->X.vAl (pk l[k])/\uui j r (pk l[k]))
theorem FoI.next{X:Ctx}{j:Bool}{pk:List Ter×List Ter->List Ter}{l:List (List Ter×List Ter)}{i:Nat}{r:List Ter}(h:FoI X j pk l i r)(hi:i<l.length)(hs:uz (pk l[i]))(a0:X.okP)(hr:X.vAl r)(hq:X.vAl (pk l[i]))(hl:(vAh (slB j) r (pk l[i])).length<=1000):FoI X j pk l (i+1) (vAh (slB j) r (pk l[i])):=by
 obtain⟨h1,h2⟩:=uBt j hr hq;refine⟨uyd h.1 hs,fun e=>absurd e (by omega),fun _=>⟨a0,uBr _ hr hq hl,fun k hk a1=>?_⟩⟩
 rcases ah k i with h3|h3
 ·obtain⟨h4,h5⟩:=(h.2.2 (by omega)).2.2 k hk h3
  exact⟨h4,h1.trans h5⟩
 ·obtain rfl:k=i:=by omega
  exact⟨hq,h2⟩
def MgT(base:Nat)(z:Int)(l:List Ter)(v:Value)(x:World):Prop:=∃C n c,v = .tuple #[.slice C n c,.int .i64 z]/\(z=0->uB x (base <= ·) l C n c)
theorem MgT.stays{base:Nat}{z:Int}{l:List Ter}:∀v x x',MgT base z l v x->Below x.heap.size x x'->MgT base z l v x':=fun v x x' h hb=>by
 obtain⟨C,n,c,h1,h2⟩:=h;exact⟨C,n,c,h1,fun h=>uB.vAb (uc.of hb) (h2 h)⟩
def MgS(base:Nat)(z:Int)(l:List Ter)(v:Value)(x:World):Prop:=∃C n c,v = .slice C n c/\(z=0->uB x (base <= ·) l C n c)
theorem MgS.stays{base:Nat}{z:Int}{l:List Ter}:∀v x x',MgS base z l v x->Below x.heap.size x x'->MgS base z l v x':=fun v x x' h hb=>by
 obtain⟨C,n,c,h1,h2⟩:=h;exact⟨C,n,c,h1,fun h=>uB.vAb (uc.of hb) (h2 h)⟩
set_option maxHeartbeats 16000000
set_option maxRecDepth 100000
theorem uBw{X:Ctx}{j:Bool}{g gp:FuncId}{pk:List Ter×List Ter->List Ter}(b2:uH7 g (slB j))(b3:uH8 gp pk)(l:List (List Ter×List Ter))(xv:List Value)(A:Option Addr)(n c:Nat)(w:World)(hx:uok w (· < w.heap.size) X xv)(hl:umo w (· < w.heap.size) l A n c)(g0:0<n)(d7:∀b∈l,uz (pk b))(hg:Gp w) :
 Calls Tryz.prog 16 #[.agg xv.toArray,.slice A n c,.func (.func g) #[] #[],.func (.func gp) #[] #[]] w (uey X j pk l w):=by
 obtain⟨he,b2⟩:=b2;obtain⟨d4,b3⟩:=b3;have hn:n=l.length:=hl.1;have g1:=hl.2.1;have f2:c<=maxLen:=hl.2.2.1;unfold maxLen at f2;have KM:Hid (∀(x:World) (p q:List Ter) (A B:Option Addr) (n c m k:Nat),Below w.heap.size w x->uB x (· < x.heap.size) p A n c->uB x (· < x.heap.size) q B m k->uz p->uz q->Calls Tryz.prog g #[.agg xv.toArray,.slice A n c,.slice B m k] x (uc8 X (slB j) p q x)):=fun x p q A B n c m k hb hp hq f3 f4=>
  b2 X p q xv A n c B m k x ((hx.vAb (uc.of hb)).sub fun b a7 _=>a7) hp hq f3 f4 (hg.below hb hg.2)
 obtain⟨dA,dn,dc,vA,vn,vc,rk,rm,rA,rn,rc,rfl⟩:=hx.form;have HL:=hid hl;have HN:=hid hn;have b5:Hid (∀i (h:i<l.length),uz (pk l[i])):=fun i h=>d7 _ (aq h)
 have c8:=hid b3;have d8:=hid d4;have HE:=hid he;unfold Enters at he d4;clear hx hl d7 hg b2 b3 hn;have c3:0<l.length:=by have:=HN.out;omega
 obtain⟨b,off,v,rfl,hD,hb,hc,hr⟩:=HL.out.get c3;obtain⟨PA,pn,pc,d5,KP⟩:=c8.out _ _ _ _ hr;obtain⟨A1,n1,c1,A2,n2,c2,rfl,_,_⟩:=hr;have e9:=hid KP;have e0:=hid d5;have c0:=hc 0 _ rfl;rw[Nat.add_zero]at c0;have b9:=hc 1 _ rfl;have f5:=hid hb;clear KP d5 hc hD;show Calls Tryz.prog 16 #[.agg #[.slice dA dn dc,.slice vA vn vc,.int .i64 rk,.int .i64 rm,.slice rA rn rc],.slice (some ⟨b,off,none⟩) n c,.func (.func g) #[] #[],.func (.func gp) #[] #[]] w _
 go_enter Tryz.func16,Tryz.ntmps16
 go_upto_region 1 with(fail)
 obtain⟨W,hW⟩:∃W,W=w.alloc (.cells #[.slice dA dn dc,.slice vA vn vc,.int .i64 rk,.int .i64 rm,.slice rA rn rc] 27):=⟨_,rfl⟩;have a8:Hid (Below w.heap.size w W):=by rw[hW];exact aa.alloc ab _
 have HX:Hid (Bk W w.heap.size 27 #[.slice dA dn dc,.slice vA vn vc,.int .i64 rk,.int .i64 rm,.slice rA rn rc]):=by rw[hW];exact Bk.new _ _ _
 replace c0:=ux c0 a8.out hb
 replace b9:=ux b9 a8.out hb
 have f6:b<W.heap.size:=af hb a8.out.size;rw[<-hW];clear hW hb;go_wp2_with fail
 refine(e9.out W).mono ?_;rintro e w1⟨rfl,hb⟩;have c7:=hid (a8.out.trans (hb.mono a8.out.size));have e6:=hid (HX.out.below hb HX.out.lt);have e1:=hid (uB.vAb (uc.of c7.out) e0.out);have d9:Hid (FoI X j pk l 0 (pk l[0])):=⟨b5.out 0 c3,fun _=>⟨c3,rfl⟩,fun h=>absurd h (by omega)⟩
 clear hb c0 b9;go_wp2;go_loopw [10,21] (fun pv iv wr=>∃(i:Nat) (r:List Ter) (RA:Option Addr) (rl a2:Nat),i<=n/\iv = .int .i64 i/\pv = .slice RA rl a2/\Hid (Below w.heap.size w wr)/\Hid (Bk wr w.heap.size 27 #[.slice dA dn dc,.slice vA vn vc,.int .i64 rk,.int .i64 rm,.slice rA rn rc])/\Hid (uB wr (fun _=>True) r RA rl a2)/\Hid (0<i->uB wr (w.heap.size <= ·) r RA rl a2)/\Hid (FoI X j pk l i r)) (fun _ iv _=>n-(intOf iv).toNat)
 case atStart=>exact⟨0,pk l[0],PA,pn,pc,by omega,rfl,rfl,c7,e6,hid (e1.out.sub fun _ _ _=>trivial),hid fun h=>absurd h (by omega),d9⟩
 case round=>
  obtain⟨i,r,RA,rl,a2,hi,rfl,rfl,HB,c9,HR,e3,HI⟩:=hrel;by_cases f9:i<n
  ·have b1:i<l.length:=by have:=HN.out;omega
   have f1:umo wr (· < w.heap.size) l (some ⟨b,off,none⟩) n c:=umo.vAb (uc.of HB.out) HL.out
   obtain⟨b',g2,v,eA,hD,hb,hc,hr⟩:=f1.get b1;injection eA with eA;injection eA with ea eb;subst ea;subst eb;obtain⟨QA,qn,qc,d6,KP⟩:=c8.out _ _ _ _ hr;obtain⟨B1,m1,k1,B2,m2,k2,rfl,_,_⟩:=hr;have f0:=hid KP;have e2:=hid d6;have d0:=hc 0 _ rfl;rw[Nat.add_zero]at d0;have d1:=hc 1 _ rfl;have b0:Hid (X.okP->X.vAl r->X.vAl (pk l[i])->(vAh (slB j) r (pk l[i])).length<=1000->FoI X j pk l (i+1) (vAh (slB j) r (pk l[i]))):=HI.out.next b1 (b5.out i b1);have e4:=hid (b5.out i b1);clear hc KP d6 hD;generalize pk l[i]=q at *;go_upto_region 6 with(fail)
   obtain⟨C,hC⟩:∃C,C=wr.alloc (.cells #[.slice B1 m1 k1,.slice B2 m2 k2] 34):=⟨_,rfl⟩;have a0:Hid (Below wr.heap.size wr C):=by rw[hC];exact aa.alloc ab _
   have HY:Hid (Bk C wr.heap.size 34 #[.slice B1 m1 k1,.slice B2 m2 k2]):=by rw[hC];exact Bk.new _ _ _
   have a4:=hid (c9.out.below a0.out c9.out.lt);rw[<-hC];clear hC d0 d1;have d2:Hid (∀x,Below C.heap.size C x->Calls Tryz.prog g #[.agg #[.slice dA dn dc,.slice vA vn vc,.int .i64 rk,.int .i64 rm,.slice rA rn rc],.slice RA rl a2,.slice QA qn qc] x (uH6 (vBz X (slB j) r q) (vAh (slB j) r q) x)):=fun x hx=>by
    have h1:=a0.out.trans (hx.mono a0.out.size);exact KM.out x r q RA QA rl a2 qn qc (HB.out.trans (h1.mono HB.out.size)) ((uB.vAb (uc.of h1) (uB.sub (D':=(· < wr.heap.size)) (fun b hb _=>hb) HR.out)).sub fun b a7 _=>a7) ((uB.vAb (uc.of h1) e2.out).sub fun b a7 hD=>a7) HI.out.1 e4.out
   replace b0:Hid (vBz X (slB j) r q=0->FoI X j pk l (i+1) (vAh (slB j) r q)):=fun h=>by
    obtain⟨r1,r2,r3,r4⟩:=uHg h;exact b0.out r1 r2 r3 r4
   have e8:=d2;clear d2;generalize vBz X (slB j) r q=z at *;generalize vAh (slB j) r q=ml at *;refine ujv 9 _ rfl (⟨[(w.heap.size,0,[.slice dA dn dc,.slice vA vn vc,.int .i64 rk,.int .i64 rm,.slice rA rn rc]),(wr.heap.size,0,[.slice B1 m1 k1,.slice B2 m2 k2])],[],[MgT C.heap.size z ml,MgS C.heap.size z ml],[(2,.v (.func (.func g) #[] #[])),(3,.v (.func (.func gp) #[] #[])),(4,.p 0 0),(10,.v (.slice RA rl a2)),(12,.p 1 0)],[(5,.v (.slice QA qn qc)),(6,.f 0),(8,.f 1),(9,.v (.int .i64 z))]⟩:Sp) [26,27,28,29,30,31,32,25,33,34] C (aa.drew) (by kernel_rfl) (by kernel_rfl) (by kernel_rfl) (sI (MgT.stays) (sI (MgS.stays) sN)) (by kernel_rfl)
    (fun x hx=>(mI (ud (a4.out.below hx a4.out.lt)) (mI (ud (HY.out.below hx HY.out.lt)) mN))) (dI (ukw [.v (.agg #[.slice B1 m1 k1,.slice B2 m2 k2])] rfl rfl (by kernel_rfl) d8.out (by kernel_rfl) fun x vs hx hC hv=>by
     obtain⟨v1,rfl,h1⟩:=ubg hv;obtain rfl:v1 = .agg #[.slice B1 m1 k1,.slice B2 m2 k2]:=h1;refine(f0.out x).mono ?_;rintro en w2⟨rfl,hb⟩;exact⟨_,rfl,rfl,hb⟩) (
    dI (ukw [.v (.agg #[.slice dA dn dc,.slice vA vn vc,.int .i64 rk,.int .i64 rm,.slice rA rn rc]),.v (.slice RA rl a2),.v (.slice QA qn qc)] rfl rfl (by kernel_rfl) HE.out (by kernel_rfl) fun x vs hx hC hv=>by
     obtain⟨v1,v2,v3,rfl,h1,h2,h3⟩:=um8 hv;obtain rfl:v1 = .agg #[.slice dA dn dc,.slice vA vn vc,.int .i64 rk,.int .i64 rm,.slice rA rn rc]:=h1;obtain rfl:v2 = .slice RA rl a2:=h2;obtain rfl:v3 = .slice QA qn qc:=h3;refine(e8.out x hx).mono ?_;rintro en w2⟨C3,l3,d3,rfl,hb,ht⟩;exact⟨_,rfl,⟨C3,l3,d3,rfl,fun h=>(ht h).sub fun b _ hb=>ag hx.size hb⟩,hb⟩) (
    dI (ub4 rfl rfl 0 (by kernel_rfl) (fun v x h=>by obtain⟨C3,l3,d3,h1,h2⟩:=(h:MgT C.heap.size z ml v x);exact⟨_,_,h1,rfl,C3,l3,d3,rfl,h2⟩)) (
    dI (ub4 rfl rfl 0 (by kernel_rfl) (fun v x h=>by obtain⟨C3,l3,d3,h1,h2⟩:=(h:MgT C.heap.size z ml v x);exact⟨_,_,h1,rfl,rfl⟩)) (dN))))) ?_ ?_
   ·intro S x1 a3 hS
    obtain⟨f7,f8,g9,_⟩:(MgT C.heap.size z ml:Value->World->Prop) (S 7) x1/\(MgS C.heap.size z ml:Value->World->Prop) (S 8) x1/\S 9 = .int .i64 z/\True:=hS (l:=[(7,.f 0),(8,.f 1),(9,.v (.int .i64 z))]) (by kernel_rfl)
    clear hS;simp only[nv,Nat.reduceAdd,aB,aE,aC,List.drop_zero,g9];clear g9;obtain⟨R0,n0,m0,e7,_⟩:=(f7:MgT C.heap.size z ml (S 7) x1);rw[e7];clear e7;obtain⟨RC,nl,mc,e5,a9⟩:=(f8:MgS C.heap.size z ml (S 8) x1);rw[e5];have a5:Hid (Below w.heap.size w x1):=HB.out.trans ((a0.out.trans (a3.mono a0.out.size)).mono HB.out.size);have b8:=hid (a4.out.below a3 a4.out.lt);have b6:=hid a9;clear a3 a9;by_cases a1:z=0
    ·have b4:=hid (b0.out a1)
     have a6:=hid (b6.out a1);have c4:w.heap.size<=C.heap.size:=ag HB.out.size a0.out.size;have b7:Hid (uB x1 (w.heap.size <= ·) ml RC nl mc):=a6.out.sub fun b _ hb=>ag c4 hb
     subst a1;go_wp2;go_roundw
     case rel=>exact⟨i+1,ml,RC,nl,mc,by omega,by go_num,rfl,a5,b8,hid (a6.out.sub fun _ _ _=>trivial),hid fun _=>b7.out,b4⟩
     case measure=>simp[intOf];omega
    ·go_wp2
     go_ret2
     exact⟨_,_,_,_,rfl,a5.out,fun h=>absurd h a1⟩
   ·intro S x1 a3 hS on c5
    injection c5 with c5;subst c5;obtain⟨f7,f8,_⟩:(MgT C.heap.size z ml:Value->World->Prop) (S 7) x1/\(MgS C.heap.size z ml:Value->World->Prop) (S 8) x1/\True:=hS (l:=[(7,.f 0),(8,.f 1)]) (by kernel_rfl) (by kernel_rfl)
    clear hS;simp only[nv,Nat.reduceAdd,aB,aE,aC,List.drop_zero];obtain⟨R0,n0,m0,e7,_⟩:=(f7:MgT C.heap.size z ml (S 7) x1);rw[e7];clear e7;obtain⟨RC,nl,mc,e5,a9⟩:=(f8:MgS C.heap.size z ml (S 8) x1);rw[e5];have a5:Hid (Below w.heap.size w x1):=HB.out.trans ((a0.out.trans (a3.mono a0.out.size)).mono HB.out.size);have b8:=hid (a4.out.below a3 a4.out.lt);have b6:=hid a9;clear a3 a9;by_cases a1:z=0
    ·have b4:=hid (b0.out a1)
     have a6:=hid (b6.out a1);have c4:w.heap.size<=C.heap.size:=ag HB.out.size a0.out.size;have b7:Hid (uB x1 (w.heap.size <= ·) ml RC nl mc):=a6.out.sub fun b _ hb=>ag c4 hb
     subst a1;go_wp2;go_roundw
     case rel=>exact⟨i+1,ml,RC,nl,mc,by omega,by go_num,rfl,a5,b8,hid (a6.out.sub fun _ _ _=>trivial),hid fun _=>b7.out,b4⟩
     case measure=>simp[intOf];omega
    ·go_wp2
     go_ret2
     exact⟨_,_,_,_,rfl,a5.out,fun h=>absurd h a1⟩
  ·obtain rfl:i=n:=by omega
   obtain⟨r1,r2,r3⟩:=HI.out.2.2 (by omega)
   have HF:Hid (∀b∈l,X.vAl (pk b)/\uui j r (pk b)):=fun b hb=>by
    obtain⟨k,hk,rfl⟩:=aW hb;exact r3 k hk (by have:=HN.out;omega)
   have c6:=hid (And.intro r1 r2);clear r1 r2 r3;go_wp2;go_ret2
   exact⟨_,_,_,_,rfl,HB.out,fun _=>⟨r,c6.out.1,c6.out.2,HI.out.1,HF.out,e3.out (by omega)⟩⟩
open Go.RowKit AC Go.ChangeShapes Go.WideShapes Go.Deep
set_option maxHeartbeats 200000
set_option maxRecDepth 512
theorem z_b:Tryz.prog.cellsOf 4=1:=by kernel_rfl
theorem z_i:Tryz.prog.cellsOf 3=1:=by kernel_rfl
theorem uHi:Tryz.prog.cellsOf 2=1:=by kernel_rfl
theorem uJ7:Tryz.prog.cellsOf 60=1:=by kernel_rfl
theorem uJ8:Tryz.prog.cellsOf 118=1:=by kernel_rfl
theorem uJc:Tryz.prog.cellsOf 124=1:=by kernel_rfl
theorem uJ9:Tryz.prog.cellsOf 80=1:=by kernel_rfl
theorem uKa:Tryz.prog.cellsOf 81=1:=by kernel_rfl
theorem uKb:Tryz.prog.cellsOf 32=1:=by kernel_rfl
theorem uKc:Tryz.prog.cellsOf 22=1:=by kernel_rfl
theorem uKd:Tryz.prog.cellsOf 23=1:=by kernel_rfl
theorem z_x:Tryz.prog.cellsOf 120=2:=by kernel_rfl
theorem z_f:Tryz.prog.cellsOf 122=3:=by kernel_rfl
theorem uJs:Tryz.prog.cellsOf 131=2:=by kernel_rfl
theorem z_l:Tryz.prog.cellsOf 126=2:=by kernel_rfl
theorem z_a:Tryz.prog.cellsOf 128=3:=by kernel_rfl
theorem z_m:Tryz.prog.cellsOf 83=2:=by kernel_rfl
theorem z_q:Tryz.prog.cellsOf 62=3:=by kernel_rfl
theorem z_t:Tryz.prog.cellsOf 85=5:=by kernel_rfl
theorem uJt:Tryz.prog.cellsOf 34=2:=by kernel_rfl
theorem uKe:Tryz.prog.cellsOf 25=3:=by kernel_rfl
theorem z_c:Tryz.prog.cellsOf 27=5:=by kernel_rfl
section
variable {H:Type} {enc:TypeId×Value->H} {W:World} {base:Nat} {spare:Nat->Bool} {held:Bool}
theorem uqj{α:Type}{R:α->List Value->Prop}{t e:TypeId}{F sz:Nat}{cs:List Value}{x:DataW H×List MemPlace}(hu:Tryz.prog.underlying t=some (.slice e))(a0:Tryz.prog.cellsOf e=sz)(a3:0<sz)(hx:DataW.trod enc Tryz.prog W base spare held F t cs=some x)
 (ho:∀(n:Nat) (u:List Value) (y:DataW H×List MemPlace),n<F->DataW.trod enc Tryz.prog W base spare held n e u=some y->∃a,R a u):∃A len cap l,cs=[.slice A len cap]/\Sl sz R W (fun _=>True) l A len cap:=by
 obtain⟨A,len,cap,n,hn,e5,h1,h2,h3⟩:=ud9 hu a0 a3 hx;rcases aK len with h0|h0
 ·subst h0
  exact⟨A,0,cap,[],e5,rfl,h1,h2,fun h=>absurd h (by omega)⟩
 ·obtain⟨b,off,hA,hb,a1⟩:=h3 h0
  obtain⟨l,a2,hp⟩:=uk3 (n:=len) (P:=fun i a=>∃u,um W b (off+i*sz) u/\R a u) fun i hi=>by
   obtain⟨u,y,_,hc,hy⟩:=a1 i hi;obtain⟨a,ha⟩:=ho n u y hn hy;exact⟨a,u,hc,ha⟩
  exact⟨A,len,cap,l,e5,a2.symm,h1,h2,fun _=>⟨b,off,hA,trivial,hb,hp⟩⟩
set_option maxRecDepth 100000
theorem uye:∀(N F:Nat),F<=N->∀(cs:List Value) (x:DataW H×List MemPlace),DataW.trod enc Tryz.prog W base spare held F 120 cs=some x->∃t,IxR W (fun _=>True) t cs
 | 0,F,hF,cs,x,hx=>by
  obtain rfl:F=0:=by omega
  simp[DataW.trod]at hx
 | N+1,F,hF,cs,x,hx=>by
  obtain⟨xs,n,rfl,_,hl,a0,hf⟩:=DataW.trod_struct Tryz.underlying120 hx;rw[z_x]at hl;match xs,a0,cs,hl with
  | [y0,y1],_,[c0,c1],_=>
   have e0:=hf 0 _ rfl;have e1:=hf 1 _ rfl;simp only[z_i,uJ8,List.drop_zero,List.take_succ_cons,List.take_zero,aC,List.getElem?_cons_zero,List.getElem?_cons_succ]at e0 e1;obtain⟨k,e3,_,hk⟩:=DataW.trod_int Tryz.underlying3 e0;obtain⟨A,len,cap,l,e5,hS⟩:=uqj (R:=IxR W (fun _=>True)) Tryz.underlying118 z_x (by decide) e1 fun m u y hm hy=>uye N m (by omega) u y hy
   injection e3 with e3 _;injection e5 with e5 _;subst e3;subst e5;exact⟨.n k l,IxR.mk (udf hk rfl) hS⟩
theorem uBx{F:Nat}{cs:List Value}{x:DataW H×List MemPlace}(hx:DataW.trod enc Tryz.prog W base spare held F 122 cs=some x):∃t,ujk W (fun _=>True) t cs:=by
 obtain⟨xs,n,rfl,_,hl,a0,hf⟩:=DataW.trod_struct Tryz.underlying122 hx;rw[z_f]at hl;match xs,a0,cs,hl with
 | [y0,y1],_,[c0,c1,c2],_=>
  have e0:=hf 0 _ rfl;have e1:=hf 1 _ rfl;simp only[z_i,z_x,List.drop_zero,List.take_succ_cons,List.take_zero,aC,List.getElem?_cons_zero,List.getElem?_cons_succ]at e0 e1;obtain⟨k,e3,_,hk⟩:=DataW.trod_int Tryz.underlying3 e0;obtain⟨t,ht⟩:=uye n n ab _ _ e1;obtain⟨A,len,cap,e4,h2,h3⟩:=ht.form;injection e3 with e3 _;injection e4 with e4 e5;injection e5 with e5 _;subst e3;subst e4;subst e5;exact⟨⟨k,t⟩,udf hk rfl,A,len,cap,rfl,ht⟩
theorem uFj{F:Nat}{cs:List Value}{x:DataW H×List MemPlace}(hx:DataW.trod enc Tryz.prog W base spare held F 131 cs=some x):∃t,LtR t cs:=by
 obtain⟨xs,n,rfl,_,hl,a0,hf⟩:=DataW.trod_struct Tryz.underlying131 hx;rw[uJs]at hl;match xs,a0,cs,hl with
 | [y0,y1],_,[c0,c1],_=>
  have e0:=hf 0 _ rfl;have e1:=hf 1 _ rfl;simp only[z_i,uHi,List.drop_zero,List.take_succ_cons,List.take_zero,aC,List.getElem?_cons_zero,List.getElem?_cons_succ]at e0 e1;obtain⟨k,e3,_,hk⟩:=DataW.trod_int Tryz.underlying3 e0;obtain⟨m,e4,_,hm⟩:=DataW.trod_int Tryz.underlying2 e1;injection e3 with e3 _;injection e4 with e4 _;subst e3;subst e4;exact⟨(k,m),udf hk rfl,udf hm rfl,rfl⟩
theorem uBy{F:Nat}{cs:List Value}{x:DataW H×List MemPlace}(hx:DataW.trod enc Tryz.prog W base spare held F 126 cs=some x):∃t,uoz W (fun _=>True) t cs:=by
 obtain⟨xs,n,rfl,_,hl,a0,hf⟩:=DataW.trod_struct Tryz.underlying126 hx;rw[z_l]at hl;match xs,a0,cs,hl with
 | [y0,y1],_,[c0,c1],_=>
  have e0:=hf 0 _ rfl;have e1:=hf 1 _ rfl;simp only[uHi,uJc,List.drop_zero,List.take_succ_cons,List.take_zero,aC,List.getElem?_cons_zero,List.getElem?_cons_succ]at e0 e1;obtain⟨k,e3,_,hk⟩:=DataW.trod_int Tryz.underlying2 e0;obtain⟨A,len,cap,l,e5,hS⟩:=uqj (R:=LtR) Tryz.underlying124 uJs (by decide) e1 fun m u y hm hy=>uFj hy
  injection e3 with e3 _;injection e5 with e5 _;subst e3;subst e5;exact⟨⟨k,l⟩,udf hk rfl,A,len,cap,rfl,hS⟩
theorem uBz{F:Nat}{cs:List Value}{x:DataW H×List MemPlace}(hx:DataW.trod enc Tryz.prog W base spare held F 128 cs=some x):∃t,ujl W (fun _=>True) t cs:=by
 obtain⟨xs,n,rfl,_,hl,a0,hf⟩:=DataW.trod_struct Tryz.underlying128 hx;rw[z_a]at hl;match xs,a0,cs,hl with
 | [y0,y1],_,[c0,c1,c2],_=>
  have e0:=hf 0 _ rfl;have e1:=hf 1 _ rfl;simp only[z_l,z_i,List.drop_zero,List.take_succ_cons,List.take_zero,aC,List.getElem?_cons_zero,List.getElem?_cons_succ]at e0 e1;obtain⟨t,ht⟩:=uBy e0;obtain⟨k,e3,_,hk⟩:=DataW.trod_int Tryz.underlying3 e1;have a1:=ht;obtain⟨h2,A,len,cap,e4,h3⟩:=ht;injection e3 with e3 _;injection e4 with e4 e5;injection e5 with e5 _;subst e3;subst e4;subst e5;exact⟨⟨t,k⟩,udf hk rfl,A,len,cap,rfl,a1⟩
theorem uB0{F:Nat}{cs:List Value}{x:DataW H×List MemPlace}(hx:DataW.trod enc Tryz.prog W base spare held F 83 cs=some x):∃t,uU W (fun _=>True) t cs:=by
 obtain⟨xs,n,rfl,_,hl,a2,hf⟩:=DataW.trod_struct Tryz.underlying83 hx;rw[z_m]at hl;match xs,a2,cs,hl with
 | [y0,y1],_,[c0,c1],_=>
  have e0:=hf 0 _ rfl;have e1:=hf 1 _ rfl;simp only[uJ9,uKa,List.drop_zero,List.take_succ_cons,List.take_zero,aC,List.getElem?_cons_zero,List.getElem?_cons_succ]at e0 e1;obtain⟨A,len,cap,l,e3,hS⟩:=uqj (R:=ujk W (fun _=>True)) Tryz.underlying80 z_f (by decide) e0 fun m u y hm hy=>uBx hy
  obtain⟨A',a3,a0,l',e4,a1⟩:=uqj (R:=ujl W (fun _=>True)) Tryz.underlying81 z_a (by decide) e1 fun m u y hm hy=>uBz hy
  injection e3 with e3 _;injection e4 with e4 _;subst e3;subst e4;exact⟨⟨l,l'⟩,A,len,cap,A',a3,a0,rfl,hS,a1⟩
set_option maxRecDepth 512
theorem uop{F:Nat}{cs:List Value}{x:DataW H×List MemPlace}(hx:DataW.trod enc Tryz.prog W base spare held F 60 cs=some x):∃A len cap l,cs=[.slice A len cap]/\upc W (fun _=>True) l A len cap:=by
 have cu:Tryz.prog.cellsOf 102=1:=by kernel_rfl
 obtain⟨A,len,cap,l,e,hS⟩:=uqj (R:=fun(x : {x:Nat // x<4294967296}) v=>v=[.int .u32 (x.1:Nat)]) Tryz.underlying60 cu (by decide) hx fun m u y hm hy=>by
  obtain⟨k,e3,_,hk⟩:=DataW.trod_int Tryz.underlying102 hy;have hb:=bounds_u32 hk;exact⟨⟨k.toNat,by omega⟩,by rw[e3];simp only[Int.toNat_of_nonneg hb.1]⟩
 refine⟨A,len,cap,l.map (·.1),e,fun x hx=>?_,by rw[List.length_map];exact hS.1,hS.2.1,hS.2.2.1,fun hp=>?_⟩
 ·obtain⟨a,_,rfl⟩:=List.mem_map.1 hx
  exact a.2
 ·obtain⟨b,off,h1,h2,h3,h4⟩:=hS.2.2.2 hp
  refine⟨b,off,h1,h2,h3,fun i hi=>?_⟩
  obtain⟨v,h5,h6⟩:=h4 i (by simpa using hi)
  exact⟨v,h5,by rw[List.getElem_map];exact h6⟩
set_option maxRecDepth 100000
theorem uB1{F:Nat}{cs:List Value}{x:DataW H×List MemPlace}(hx:DataW.trod enc Tryz.prog W base spare held F 62 cs=some x):∃t,ub2 W (fun _=>True) t cs:=by
 obtain⟨xs,n,rfl,_,hl,a2,hf⟩:=DataW.trod_struct Tryz.underlying62 hx;rw[z_q]at hl;match xs,a2,cs,hl with
 | [y0,y1,y2],_,[c0,c1,c2],_=>
  have e0:=hf 0 _ rfl;have e1:=hf 1 _ rfl;have e2:=hf 2 _ rfl;simp only[z_b,uJ7,List.drop_zero,List.take_succ_cons,List.take_zero,aC,List.getElem?_cons_zero,List.getElem?_cons_succ]at e0 e1 e2;obtain⟨k,e3,_⟩:=DataW.trod_bool Tryz.underlying4 e0;obtain⟨A,len,cap,l,e4,hS⟩:=uop e1;obtain⟨A',a3,a0,l',e5,a1⟩:=uop e2;injection e3 with e3 _;injection e4 with e4 _;injection e5 with e5 _;subst e3;subst e4;subst e5;exact⟨⟨k,l,l'⟩,A,len,cap,A',a3,a0,rfl,hS,a1⟩
theorem uB2{F:Nat}{cs:List Value}{x:DataW H×List MemPlace}(hx:DataW.trod enc Tryz.prog W base spare held F 85 cs=some x):∃t,uk9 W (fun _=>True) t cs:=by
 obtain⟨xs,n,rfl,_,hl,a0,hf⟩:=DataW.trod_struct Tryz.underlying85 hx;rw[z_t]at hl;match xs,a0,cs,hl with
 | [y0,y1],_,[c0,c1,c2,c3,c4],_=>
  have e0:=hf 0 _ rfl;have e1:=hf 1 _ rfl;simp only[z_q,z_m,List.drop_zero,List.take_succ_cons,List.take_zero,aC,List.getElem?_cons_zero,List.getElem?_cons_succ]at e0 e1;obtain⟨q,hq⟩:=uB1 e0;obtain⟨m,hm⟩:=uB0 e1;have a2:=hq;have a1:=hm;obtain⟨A,n1,a3,A',n2,a4,e2,_,_⟩:=hq;obtain⟨B,m1,d1,B',m2,d2,e3,_,_⟩:=hm;injection e2 with e4 e2;injection e2 with e5 e2;injection e2 with e6 _;injection e3 with e7 e3;injection e3 with e8 _;subst e4;subst e5;subst e6;subst e7;subst e8;exact⟨⟨q,m⟩,_,_,_,_,_,_,_,_,_,_,_,_,rfl,a2,a1⟩
set_option maxRecDepth 512
theorem uoq{F:Nat}{cs:List Value}{x:DataW H×List MemPlace}(hx:DataW.trod enc Tryz.prog W base spare held F 32 cs=some x):∃A len cap l,cs=[.slice A len cap]/\uB W (fun _=>True) l A len cap:=
 uqj (R:=uk9 W (fun _=>True)) Tryz.underlying32 z_t (by decide) hx fun m u y hm hy=>uB2 hy
set_option maxRecDepth 100000
theorem uB3{F:Nat}{cs:List Value}{x:DataW H×List MemPlace}(hx:DataW.trod enc Tryz.prog W base spare held F 34 cs=some x):∃t,uuk W (fun _=>True) t cs:=by
 obtain⟨xs,n,rfl,_,hl,a2,hf⟩:=DataW.trod_struct Tryz.underlying34 hx;rw[uJt]at hl;match xs,a2,cs,hl with
 | [y0,y1],_,[c0,c1],_=>
  have e0:=hf 0 _ rfl;have e1:=hf 1 _ rfl;simp only[uKb,List.drop_zero,List.take_succ_cons,List.take_zero,aC,List.getElem?_cons_zero,List.getElem?_cons_succ]at e0 e1;obtain⟨A,len,cap,l,e3,hS⟩:=uoq e0;obtain⟨A',a3,a0,l',e4,a1⟩:=uoq e1;injection e3 with e3 _;injection e4 with e4 _;subst e3;subst e4;exact⟨(l,l'),A,len,cap,A',a3,a0,rfl,hS,a1⟩
set_option maxRecDepth 512
theorem uyf{F:Nat}{cs:List Value}{x:DataW H×List MemPlace}(hx:DataW.trod enc Tryz.prog W base spare held F 28 cs=some x):∃A len cap l,cs=[.slice A len cap]/\umo W (fun _=>True) l A len cap:=
 uqj (R:=uuk W (fun _=>True)) Tryz.underlying28 uJt (by decide) hx fun m u y hm hy=>uB3 hy
set_option maxRecDepth 100000
theorem uB4{F:Nat}{cs:List Value}{x:DataW H×List MemPlace}(hx:DataW.trod enc Tryz.prog W base spare held F 27 cs=some x):∃X,uok W (fun _=>True) X cs:=by
 obtain⟨xs,n,rfl,_,hl,a1,hf⟩:=DataW.trod_struct Tryz.underlying27 hx;rw[z_c]at hl;match xs,a1,cs,hl with
 | [y0,y1,y2],_,[c0,c1,c2,c3,c4],_=>
  have e0:=hf 0 _ rfl;have e1:=hf 1 _ rfl;have e2:=hf 2 _ rfl;simp only[uKc,uKd,uKe,List.drop_zero,List.take_succ_cons,List.take_zero,aC,List.getElem?_cons_zero,List.getElem?_cons_succ]at e0 e1 e2;obtain⟨A,len,cap,l,e3,hS⟩:=us9 e0;obtain⟨A',a4,a3,l',e4,a0⟩:=umz e1;obtain⟨t,ht⟩:=uk4 n n ab _ _ e2;have a2:=ht;obtain⟨k,m,r⟩:=t;rw[TrR]at ht;obtain⟨_,_,B,bn,bc,e5,_⟩:=ht;injection e3 with e3 _;injection e4 with e4 _;injection e5 with e6 e5;injection e5 with e7 e5;injection e5 with e8 _;subst e3;subst e4;subst e6;subst e7;subst e8;exact⟨⟨l,l',.n k m r⟩,_,_,_,_,_,_,_,_,_,_,_,rfl,hS,a0,a2⟩
end
end Go.Proofs.YtnbbpmagijpmpaaGreatDoor
