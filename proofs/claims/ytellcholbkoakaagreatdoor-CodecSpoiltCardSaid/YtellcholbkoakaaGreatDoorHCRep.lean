/-
  Values in memory and their texts.
-/
import Derived.Test.YtellcholbkoakaaGreatDoorHNum
import Derived.Test.YtellcholbkoakaaGreatDoorHWalkI
import Derived.Test.YtellcholbkoakaaGreatDoorHMem
import Derived.Lib.LaidTab
import Derived.Lib.ItoaNum
import Derived.KernelRfl
namespace Go.Proofs.YtellcholbkoakaaGreatDoor
open Go.RowKit AC
set_option linter.unusedVariables false
set_option linter.unusedSimpArgs false
theorem ulu{w:World}{a:Addr}{v:Value}(h:w.cell? a=some v):a.block<w.heap.size:=by
 rcases Nat.lt_or_ge a.block w.heap.size with h1|h1
 ·exact h1
 ·unfold World.cell? at h
  rw[Array.getElem?_eq_none h1]at h;simp at h
def LimbsD(w:World)(D:Nat→Prop)(v:Value)(k:Nat)(f:Nat→Nat):Prop:=
 (∀i,i<k→f i<4294967296)∧∃A c,v = .slice A k c∧k≤c∧c≤maxLen ∧
  (0<k→∃b off,A=some ⟨b,off,none⟩∧D b∧∀i,i<k→w.cell? ⟨b,off+i,none⟩=some (.int .u32 ((f i:Nat):Int)))
def RatD(w:World)(D:Nat→Prop)(v:Value)(q:Rat):Prop:=
 ∃(neg:Bool) (kn kd:Nat) (fn fd:Nat→Nat) (vn vd:Value),v = .agg #[.bool neg,vn,vd]∧LimbsD w D vn kn fn∧LimbsD w D vd kd fd∧kn≤64∧kd≤64∧q=mkRat (sg neg (vs fn kn)) (vs fd kd)
def RatB(w:World)(D:Nat→Prop)(v:Value)(q:Rat):Prop:=
 ∃(neg:Bool) (kn kd:Nat) (fn fd:Nat→Nat) (vn vd:Value),v = .agg #[.bool neg,vn,vd]∧LimbsD w D vn kn fn∧LimbsD w D vd kd fd∧q=mkRat (sg neg (vs fn kn)) (vs fd kd)
theorem LimbsD.limbs{w:World}{D:Nat→Prop}{v:Value}{k:Nat}{f:Nat→Nat}(h:LimbsD w D v k f):Limbs w 0 v k f:=by
 obtain⟨h1,A,c,rfl,h2,h3,h4⟩:=h;refine⟨h1,A,c,rfl,h2,h3,fun h0=>?_⟩
 obtain⟨b,off,rfl,_,h7⟩:=h4 h0;exact⟨b,off,rfl,Nat.zero_le _,ulu (h7 0 h0),h7⟩
theorem Limbs.inD{w:World}{lo:Nat}{v:Value}{k:Nat}{f:Nat→Nat}(h:Limbs w lo v k f){D:Nat→Prop}(hD:∀b,lo≤b→b<w.heap.size→D b):LimbsD w D v k f:=by
 obtain⟨h1,A,c,rfl,h2,h3,h4⟩:=h;refine⟨h1,A,c,rfl,h2,h3,fun h0=>?_⟩
 obtain⟨b,off,rfl,h5,h6,h7⟩:=h4 h0;exact⟨b,off,rfl,hD b h5 h6,h7⟩
theorem RatD.ratV{w:World}{D:Nat→Prop}{v:Value}{q:Rat}(h:RatD w D v q):RatV w 0 v 64 q:=by
 obtain⟨neg,kn,kd,fn,fd,vn,vd,rfl,h1,h2,h3,h4,h5⟩:=h;exact⟨neg,kn,kd,fn,fd,vn,vd,rfl,h1.limbs,h2.limbs,h3,h4,h5⟩
theorem RatV.inD{w:World}{lo:Nat}{v:Value}{q:Rat}(h:RatV w lo v 64 q){D:Nat→Prop}(hD:∀b,lo≤b→b<w.heap.size→D b):RatD w D v q:=by
 obtain⟨neg,kn,kd,fn,fd,vn,vd,rfl,h1,h2,h3,h4,h5⟩:=h;exact⟨neg,kn,kd,fn,fd,vn,vd,rfl,Limbs.inD h1 hD,Limbs.inD h2 hD,h3,h4,h5⟩
theorem LimbsD.keep{w w':World}{D D':Nat→Prop}{v:Value}{k:Nat}{f:Nat→Nat}(h:LimbsD w D v k f)(hk:∀b,D b→b<w.heap.size→w'.heap[b]? = w.heap[b]? ∧ D' b):LimbsD w' D' v k f:=by
 obtain⟨h1,A,c,rfl,h2,h3,h4⟩:=h;refine⟨h1,A,c,rfl,h2,h3,fun h0=>?_⟩
 obtain⟨b,off,rfl,hD,h7⟩:=h4 h0;have:=hk b hD (ulu (h7 0 h0));exact⟨b,off,rfl,this.2,fun i hi=>(World.cell?_of_block (a:=⟨b,off+i,none⟩) this.1).trans (h7 i hi)⟩
theorem RatD.keep{w w':World}{D D':Nat→Prop}{v:Value}{q:Rat}(h:RatD w D v q)(hk:∀b,D b→b<w.heap.size→w'.heap[b]? = w.heap[b]? ∧ D' b):RatD w' D' v q:=by
 obtain⟨neg,kn,kd,fn,fd,vn,vd,rfl,h1,h2,h3,h4,h5⟩:=h;exact⟨neg,kn,kd,fn,fd,vn,vd,rfl,h1.keep hk,h2.keep hk,h3,h4,h5⟩
theorem RatB.keep{w w':World}{D D':Nat→Prop}{v:Value}{q:Rat}(h:RatB w D v q)(hk:∀b,D b→b<w.heap.size→w'.heap[b]? = w.heap[b]? ∧ D' b):RatB w' D' v q:=by
 obtain⟨neg,kn,kd,fn,fd,vn,vd,rfl,h1,h2,h5⟩:=h;exact⟨neg,kn,kd,fn,fd,vn,vd,rfl,h1.keep hk,h2.keep hk,h5⟩
def ugo(w:World)(b off:Nat)(u:List Value):Prop:=∀(j:Nat) (x:Value),u[j]? = some x→w.cell? ⟨b,off+j,none⟩=some x
def uas:Shape→List Value→Value
 | .rat,l=> .agg l.toArray
 | .big,l=> .agg l.toArray
 | .st _,l=> .agg l.toArray
 | .no s,l=>uas s l
 | _,l=>l.headD undef
def Ty:Shape→List Value→Prop
 | .int,l=>∃n:Int,l=[.int .i64 n] ∧ -9223372036854775808≤n∧n≤9223372036854775807
 | .bool,l=>∃b:Bool,l=[.bool b]
 | .rat,l=>∃(b:Bool) (A:Option Addr) (k c:Nat) (A':Option Addr) (k' c':Nat),l=[.bool b,.slice A k c,.slice A' k' c']
 | .big,l=>∃(b:Bool) (A:Option Addr) (k c:Nat) (A':Option Addr) (k' c':Nat),l=[.bool b,.slice A k c,.slice A' k' c']
 | .no s,l=>Ty s l
 | .fin,l=>l=[]
 | .list _,l=>∃(A:Option Addr) (k c:Nat),l=[.slice A k c]
 | .st f,l=>Ty f l
 | .and s f,l=>∃l1 l2,l=l1++l2∧Ty s l1∧Ty f l2
theorem Ty.len:∀ {s:Shape} {l:List Value},Ty s l→l.length=s.sz
 | .int,_,⟨n,h,_⟩=>by subst h;rfl
 | .bool,_,⟨n,h⟩=>by subst h;rfl
 | .rat,_,⟨b,A,k,c,A',k',c',h⟩=>by subst h;rfl
 | .big,_,⟨b,A,k,c,A',k',c',h⟩=>by subst h;rfl
 | .no s,_,h=>Ty.len (s:=s) h
 | .fin,_,h=>by cases h;rfl
 | .list s,_,⟨A,k,c,h⟩=>by subst h;rfl
 | .st f,_,h=>Ty.len (s:=f) h
 | .and s f,_,⟨l1,l2,h,h1,h2⟩=>by
  subst h;have g1:=Ty.len h1;have g2:=Ty.len h2;simp[Shape.sz,g1,g2]
def Rep(w:World)(D:Nat→Prop):Shape→List Value→List (List UInt8)→Prop
 | .int,l,ts=>∃n:Int,l=[.int .i64 n] ∧ -9223372036854775808≤n∧n≤9223372036854775807∧ts=[Lib.itoa n]
 | .bool,l,ts=>∃b:Bool,l=[.bool b]∧ts=[if b then [49]else [48]]
 | .rat,l,ts=>∃q,RatD w D (.agg l.toArray) q∧ts=[ues q]
 | .big,l,ts=>∃q,RatB w D (.agg l.toArray) q∧ts=[ues q]
 | .no _,_,_=>False
 | .fin,l,ts=>l=[]∧ts=[]
 | .list s,l,ts=>∃(A:Option Addr) (k c:Nat) (us:Nat→List Value) (tx:Nat→List UInt8),l=[.slice A k c]∧k≤c∧c≤maxLen∧ts=[par tx k] ∧
  (0<k→∃b off,A=some ⟨b,off,none⟩∧D b∧b<w.heap.size∧∀i,i<k→ugo w b (off+i*s.sz) (us i))∧∀i,i<k→Rep w D s (us i) [tx i]
 | .st f,l,ts=>∃tx,ts=[par (fun i=>tx.getD i []) tx.length]∧Rep w D f l tx
 | .and s f,l,ts=>∃l1 l2 t tr,l=l1++l2∧ts=t::tr∧Rep w D s l1 [t]∧Rep w D f l2 tr
theorem LimbsD.form{w:World}{D:Nat→Prop}{v:Value}{k:Nat}{f:Nat→Nat}(h:LimbsD w D v k f):∃A c,v = .slice A k c:=by
 obtain⟨h1,A,c,rfl,_⟩:=h;exact⟨A,c,rfl⟩
theorem RatD.form{w:World}{D:Nat→Prop}{v:Value}{q:Rat}(h:RatD w D v q):∃(b:Bool) (A:Option Addr) (k c:Nat) (A':Option Addr) (k' c':Nat),v = .agg #[.bool b,.slice A k c,.slice A' k' c']:=by
 obtain⟨neg,kn,kd,fn,fd,vn,vd,rfl,h1,h2,_⟩:=h;obtain⟨A,c,rfl⟩:=h1.form;obtain⟨A',c',rfl⟩:=h2.form;exact⟨_,_,_,_,_,_,_,rfl⟩
theorem RatB.form{w:World}{D:Nat→Prop}{v:Value}{q:Rat}(h:RatB w D v q):∃(b:Bool) (A:Option Addr) (k c:Nat) (A':Option Addr) (k' c':Nat),v = .agg #[.bool b,.slice A k c,.slice A' k' c']:=by
 obtain⟨neg,kn,kd,fn,fd,vn,vd,rfl,h1,h2,_⟩:=h;obtain⟨A,c,rfl⟩:=h1.form;obtain⟨A',c',rfl⟩:=h2.form;exact⟨_,_,_,_,_,_,_,rfl⟩
theorem Rep.ty{w:World}{D:Nat→Prop}:∀ {s:Shape} {l:List Value} {ts:List (List UInt8)},Rep w D s l ts→Ty s l
 | .int,_,_,⟨n,h,h1,h2,_⟩=>⟨n,h,h1,h2⟩
 | .bool,_,_,⟨b,h,_⟩=>⟨b,h⟩
 | .rat,l,_,⟨q,h2,_⟩=>by
  obtain⟨b,A,k,c,A',k',c',h⟩:=h2.form;injection h with h;have h':l=[.bool b,.slice A k c,.slice A' k' c']:=by simpa using congrArg Array.toList h
  exact⟨b,A,k,c,A',k',c',h'⟩
 | .big,l,_,⟨q,h2,_⟩=>by
  obtain⟨b,A,k,c,A',k',c',h⟩:=h2.form;injection h with h;have h':l=[.bool b,.slice A k c,.slice A' k' c']:=by simpa using congrArg Array.toList h
  exact⟨b,A,k,c,A',k',c',h'⟩
 | .no _,_,_,h=>False.elim h
 | .fin,_,_,h=>h.1
 | .list s,_,_,⟨A,k,c,_,_,h,_⟩=>⟨A,k,c,h⟩
 | .st f,_,_,⟨tx,_,h2⟩=>Rep.ty (s:=f) h2
 | .and s f,_,_,⟨l1,l2,t,tr,h,_,h1,h2⟩=>⟨l1,l2,h,Rep.ty h1,Rep.ty h2⟩
theorem Rep.keep{w w':World}{D D':Nat→Prop}(hk:∀b,D b→b<w.heap.size→w'.heap[b]? = w.heap[b]? ∧ D' b):∀ {s:Shape} {l:List Value} {ts:List (List UInt8)},Rep w D s l ts→Rep w' D' s l ts
 | .int,_,_,h=>h
 | .bool,_,_,h=>h
 | .rat,_,_,⟨q,h2,h3⟩=>⟨q,h2.keep hk,h3⟩
 | .big,_,_,⟨q,h2,h3⟩=>⟨q,h2.keep hk,h3⟩
 | .no _,_,_,h=>h
 | .fin,_,_,h=>h
 | .list s,_,_,⟨A,k,c,us,tx,h,h1,h2,h3,h4,h5⟩=>by
  refine⟨A,k,c,us,tx,h,h1,h2,h3,fun h0=>?_,fun i hi=>Rep.keep hk (h5 i hi)⟩
  obtain⟨b,off,h6,h7,h8,h9⟩:=h4 h0;have:=hk b h7 h8;refine⟨b,off,h6,this.2,?_,fun i hi j x hx=>(World.cell?_of_block (a:=⟨b,off+i*s.sz+j,none⟩) this.1).trans (h9 i hi j x hx)⟩
  rcases Nat.lt_or_ge b w'.heap.size with g|g
  ·exact g
  ·have e:=this.1
   rw[Array.getElem?_eq_none g,Array.getElem?_eq_getElem h8]at e;cases e
 | .st f,_,_,⟨tx,h1,h2⟩=>⟨tx,h1,Rep.keep (s:=f) hk h2⟩
 | .and s f,_,_,⟨l1,l2,t,tr,h,h1,h2,h3⟩=>⟨l1,l2,t,tr,h,h1,Rep.keep hk h2,Rep.keep hk h3⟩
theorem Rep.below{w w':World}{D:Nat→Prop}{s:Shape}{l:List Value}{ts:List (List UInt8)}(h:Rep w D s l ts)(hb:Below w.heap.size w w'):Rep w' D s l ts:=
 Rep.keep (fun b hD hlt=>⟨hb.block b hlt,hD⟩) h
theorem Rep.sub{w:World}{D D':Nat→Prop}{s:Shape}{l:List Value}{ts:List (List UInt8)}(h:Rep w D s l ts)(hd:∀b,D b→b<w.heap.size→D' b):Rep w D' s l ts:=
 Rep.keep (fun b hD hlt=>⟨rfl,hd b hD hlt⟩) h
def uH:Shape:= .st (.and .int (.and .int .fin))
def uX:Shape:= .st (.and .int (.and (.list uH) .fin))
def ut:Shape:= .st (.and (.list uX) (.and (.list uX) .fin))
def uM:Shape:= .st (.and (.list .int) (.and (.list .int) .fin))
def ua1:Nat→Shape
 | 0=> .no (.st (.and .int (.and .int (.and (.list .fin) .fin))))
 | n+1=> .st (.and .int (.and .int (.and (.list (ua1 n)) .fin)))
def uae(n:Nat):Shape:= .st (.and (ua1 n) (.and (.list .int) .fin))
def uaw(n:Nat):Shape:= .st (.and (.list (.list .int)) (.and (.list (.list .int)) (.and (.list (uae n)) .fin)))
def uy:Nat→Shape
 | 0=> .no (.st (.and .int (.and (.list .fin) .fin)))
 | n+1=> .st (.and .int (.and (.list (uy n)) .fin))
def uO(n:Nat):Shape:= .st (.and .int (.and (uy n) .fin))
def ua5:Shape:= .st (.and uX (.and .int .fin))
def uC(n:Nat):Shape:= .st (.and (.list (uO n)) (.and (.list ua5) .fin))
def un(n:Nat):Shape:= .st (.and .rat (.and (uC n) .fin))
def uan(n:Nat):Shape:= .st (.and .int (.and .rat (.and (uC n) .fin)))
def uD(n:Nat):Shape:= .st (.and .int (.and (.list (uan n)) (.and (.list (un n)) .fin)))
def axS:Shape:= .st (.and .int (.and uX (.and uX (.and .int .fin))))
def uax(n:Nat):Shape:= .st (.and axS (.and .rat (.and (uC n) (.and (.list .rat) (.and (.list .rat) .fin)))))
def uac(n:Nat):Shape:= .st (.and .int (.and .int (.and .bool (.and (.list (un n)) (.and (.list (un n)) (.and (.list (uD n)) (.and (.list (uan n)) (.and (.list (un n)) (.and (.list .int) (.and (.list .rat) (.and (.list (.list (uax n))) .fin)))))))))))
def uW:Shape:= .st (.and .int (.and .int .fin))
def ubb(n:Nat):Shape:= .st (.and .bool (.and uM (.and (.list ut) (.and (uaw n) (.and (.list (uac n)) (.and (.list uW) .fin))))))
def ugd(n:Nat):Shape:= .st (.and .big (.and (uC n) .fin))
def uus(n:Nat):Shape:= .st (.and .int (.and .big (.and (uC n) .fin)))
def ugp(n:Nat):Shape:= .st (.and .int (.and (.list (uus n)) (.and (.list (ugd n)) .fin)))
def uxo(n:Nat):Shape:= .st (.and axS (.and .big (.and (uC n) (.and (.list .big) (.and (.list .big) .fin)))))
def ur2(n:Nat):Shape:= .st (.and .int (.and .int (.and .bool (.and (.list (ugd n)) (.and (.list (ugd n)) (.and (.list (ugp n)) (.and (.list (uus n)) (.and (.list (ugd n)) (.and (.list .int) (.and (.list .big) (.and (.list (.list (uxo n))) .fin)))))))))))
def uj2(n:Nat):Shape:= .st (.and .bool (.and uM (.and (.list ut) (.and (uaw n) (.and (.list (ur2 n)) (.and (.list uW) .fin))))))
structure Fr (S:Nat→Prop) (w w':World):Prop where
 os:w'.os=w.os
 tape:w'.tape=w.tape
 output:w'.output=w.output
 size:w.heap.size≤w'.heap.size
 block:∀k,k<w.heap.size→¬S k→w'.heap[k]? = w.heap[k]?
section
variable {S S':Nat→Prop} {a b c w w':World}
theorem Fr.refl(S:Nat→Prop)(w:World):Fr S w w:=⟨rfl,rfl,rfl,Nat.le_refl _,fun _ _ _=>rfl⟩
theorem Fr.then(h:Fr S a b)(k:Fr S' b c)(hS:∀x,S' x→S x∨a.heap.size≤x):Fr S a c:=
 ⟨k.os.trans h.os,k.tape.trans h.tape,k.output.trans h.output,Nat.le_trans h.size k.size,fun i hi hn=>
  (k.block i (Nat.lt_of_lt_of_le hi h.size) (fun e=>by rcases hS i e with h1|h1;exact hn h1;omega)).trans (h.block i hi hn)⟩
theorem Fr.trans(h:Fr S a b)(k:Fr S b c):Fr S a c:=h.then k fun _ h=> .inl h
theorem Fr.mono(h:Fr S a b)(hS:∀x,S x→S' x):Fr S' a b:=⟨h.os,h.tape,h.output,h.size,fun i hi hn=>h.block i hi fun e=>hn (hS i e)⟩
theorem Fr.drew(h:Fr S a b):Fr S a b.drew:=⟨h.os,h.tape,h.output,h.size,h.block⟩
theorem Fr.drewN(h:Fr S a b)(n:Nat):Fr S a (b.drewN n):=⟨h.os,h.tape,h.output,h.size,h.block⟩
theorem Fr.alloc(h:Fr S a b)(o:Obj):Fr S a (b.alloc o):=
 h.then (S':=fun _=>False) ⟨rfl,rfl,rfl,by simp,fun k hk _=>Below.heap_alloc _ _ _ hk⟩ (fun _ h=>h.elim)
theorem Fr.setCell(h:Fr S a b){p:Addr}(hp:S p.block∨a.heap.size≤p.block)(u:Value):Fr S a (b.setCell p u):=
 h.then (S':=fun x=>x=p.block) ⟨rfl,rfl,rfl,by simp[World.setCell],fun k _ hk=>Below.heap_setCell _ _ _ _ hk⟩ (fun x hx=>by rw[hx];exact hp)
theorem Fr.wr{br:Nat}(h:Fr (· = br) a b)(i:Nat)(u:Value):Fr (· = br) a (b.setCell ⟨br,i,none⟩ u):=h.setCell (p:=⟨br,i,none⟩) (.inl rfl) u
theorem Fr.below(h:Fr S a b)(k:Below b.heap.size b c):Fr S a c:=
 h.then (S':=fun _=>False) ⟨k.os,k.tape,k.output,k.size,fun i hi _=>k.block i hi⟩ (fun _ h=>h.elim)
theorem Fr.grown(h:Fr S a b){r:Option Nat}(hg:b.grownBy c r)(hr:∀g,r=some g→S g∨a.heap.size≤g):Fr S a c:=
 h.then (S':=fun x=>r=some x) ⟨hg.os,hg.tape,hg.output,hg.size,fun i hi hn=>hg.block i hi fun e=>hn e.symm⟩ hr
theorem Fr.toBelow(h:Fr S a b){n:Nat}(hS:∀x,S x→n≤x)(hn:n≤a.heap.size):Below n a b:=
 ⟨h.os,h.tape,h.output,h.size,fun i hi=>h.block i (by omega) fun e=>by have:=hS i e;omega⟩
theorem _root_.AC.Bk.fr{i:Nat}{t:TypeId}{cs:Array Value}(h:Bk w i t cs)(f:Fr S w w')(hi:¬S i):Bk w' i t cs:=(f.block i h.lt hi).trans h
theorem Rep.fr{D:Nat→Prop}{s:Shape}{l:List Value}{ts:List (List UInt8)}(h:Rep w D s l ts)(f:Fr S w w')(hD:∀x,D x→¬S x):Rep w' D s l ts:=
 Rep.keep (fun i hi hlt=>⟨f.block i hlt (hD i hi),hi⟩) h
end
def ubd:List Shape→Shape
 | []=> .fin
 | s::l=> .and s (ubd l)
def Tys:List Shape→List (List Value)→Prop
 | [],vs=>vs=[]
 | s::l,vs=>∃v r,vs=v::r∧Ty s v∧Tys l r
theorem Tys.ty:∀ {ss:List Shape} {vs:List (List Value)},Tys ss vs→Ty (ubd ss) vs.flatten
 | [],_,h=>by cases h;rfl
 | s::l,_,⟨v,r,h,h1,h2⟩=>by subst h;exact⟨v,r.flatten,rfl,h1,Tys.ty h2⟩
theorem Tys.len:∀ {ss:List Shape} {vs:List (List Value)},Tys ss vs→vs.length=ss.length
 | [],_,h=>by cases h;rfl
 | s::l,_,⟨v,r,h,h1,h2⟩=>by subst h;simp[Tys.len h2]
theorem Tys.at:∀ {ss:List Shape} {vs:List (List Value)},Tys ss vs→∀ {i:Nat} {s:Shape} {v:List Value},ss[i]? = some s→vs[i]? = some v→Ty s v
 | s::l,_,⟨v,r,rfl,h1,h2⟩,0,s',v',e1,e2=>by simp at e1 e2;subst e1;subst e2;exact h1
 | s::l,_,⟨v,r,rfl,h1,h2⟩,i+1,s',v',e1,e2=>Tys.at h2 (by simpa using e1) (by simpa using e2)
 | [],_,h,i,s,v,e1,_=>by simp at e1
theorem Tys.set:∀ {ss:List Shape} {vs:List (List Value)},Tys ss vs→∀ {i:Nat} {s:Shape} {v:List Value},ss[i]? = some s→Ty s v→Tys ss (vs.set i v)
 | s::l,_,⟨v,r,rfl,h1,h2⟩,0,s',v',e1,e2=>by simp at e1;subst e1;exact⟨_,_,rfl,e2,h2⟩
 | s::l,_,⟨v,r,rfl,h1,h2⟩,i+1,s',v',e1,e2=>⟨_,_,rfl,h1,Tys.set h2 (by simpa using e1) e2⟩
 | [],_,h,i,s,v,e1,_=>by simp at e1
def uq(ss:List Shape)(i:Nat):Nat:=((ss.take i).map Shape.sz).sum
def splice(cs:Array Value)(off:Nat):List Value→Array Value
 | []=>cs
 | x::l=>splice (cs.setIfInBounds off x) (off+1) l
theorem uib:∀(l:List Value) (a m z:List Value),m.length=l.length→splice (a++m++z).toArray a.length l=(a++l++z).toArray
 | [],a,m,z,h=>by
  have:m=[]:=by simpa using h
  subst this;rfl
 | x::l,a,m,z,h=>by
  cases m with
  | nil=>simp at h
  | cons y m=>
   unfold splice;have e:((a++y::m++z).toArray).setIfInBounds a.length x=((a++[x])++m++z).toArray:=by
    simp[List.set_append_right]
   rw[e,show a.length+1=(a++[x]).length by simp,uib l (a++[x]) m z (by simpa using h)]
   simp
theorem Tys.splice:∀ {ss:List Shape} {vs:List (List Value)},Tys ss vs→∀ {i:Nat} {s:Shape} {v:List Value},ss[i]? = some s→Ty s v→∀a:List Value,
 splice (a++vs.flatten).toArray (a.length+uq ss i) v=(a++(vs.set i v).flatten).toArray
 | s::l,_,⟨u,r,rfl,h1,h2⟩,0,s',v',e1,e2,a=>by
  simp at e1;subst e1;have:=uib v' a u r.flatten (by rw[h1.len,e2.len])
  simpa[uq]using this
 | s::l,_,⟨u,r,rfl,h1,h2⟩,i+1,s',v',e1,e2,a=>by
  have:=Tys.splice h2 (by simpa using e1) e2 (a++u)
  have hu:=h1.len;have ho:uq (s::l) (i+1)=s.sz+uq l i:=by simp[uq]
  rw[ho];simp only[List.length_append,hu]at this;simp only[List.set_cons_succ,List.flatten_cons,←List.append_assoc,←Nat.add_assoc];exact this
 | [],_,h,i,s,v,e1,_,_=>by simp at e1
def Reps(w:World)(D:Nat→Prop)(ss:List Shape)(vs:List (List Value))(ts:Nat→List UInt8)(n:Nat):Prop:=
 ∀(i:Nat) (s:Shape) (v:List Value),i<n→ss[i]? = some s→vs[i]? = some v→Rep w D s v [ts i]
theorem Reps.keep{w w':World}{D D':Nat→Prop}{ss:List Shape}{vs:List (List Value)}{ts:Nat→List UInt8}{n:Nat}(h:Reps w D ss vs ts n)(hk:∀b,D b→b<w.heap.size→w'.heap[b]? = w.heap[b]? ∧ D' b):Reps w' D' ss vs ts n:=
 fun i s v hi e1 e2=>(h i s v hi e1 e2).keep hk
theorem Reps.fr{S:Nat→Prop}{w w':World}{D:Nat→Prop}{ss:List Shape}{vs:List (List Value)}{ts:Nat→List UInt8}{n:Nat}(h:Reps w D ss vs ts n)(f:Fr S w w')(hD:∀x,D x→¬S x):Reps w' D ss vs ts n:=
 fun i s v hi e1 e2=>(h i s v hi e1 e2).fr f hD
theorem Reps.all{w:World}{D:Nat→Prop}:∀ {ss:List Shape} {vs:List (List Value)} {ts:Nat→List UInt8},vs.length=ss.length→Reps w D ss vs ts ss.length→Rep w D (ubd ss) vs.flatten ((List.range ss.length).map ts)
 | [],vs,ts,hl,h=>by
  have:vs=[]:=by simpa using hl
  subst this;exact⟨rfl,rfl⟩
 | s::l,vs,ts,hl,h=>by
  cases vs with
  | nil=>simp at hl
  | cons v r=>
   refine⟨v,r.flatten,ts 0,(List.range l.length).map (fun i=>ts (i+1)),rfl,?_,h 0 s v (by simp) rfl rfl,Reps.all (ts:=fun i=>ts (i+1)) (by simpa using hl) fun i s' v' hi e1 e2=>h (i+1) s' v' (by simpa using hi) (by simpa using e1) (by simpa using e2)⟩
   rw[List.length_cons,List.range_succ_eq_map,List.map_cons,List.map_map];rfl
theorem Rep.split{w:World}{D:Nat→Prop}:∀ {ss:List Shape} {l:List Value} {tx:List (List UInt8)},Rep w D (ubd ss) l tx→tx.length=ss.length∧∃vs,l=vs.flatten∧Tys ss vs∧Reps w D ss vs (fun i=>tx.getD i []) ss.length
 | [],l,tx,h=>by
  obtain⟨rfl,rfl⟩:=h;exact⟨rfl,[],rfl,rfl,fun i s v hi=>absurd hi (by simp)⟩
 | s::ss,l,tx,h=>by
  obtain⟨l1,l2,t,tr,rfl,rfl,h1,h2⟩:=h;obtain⟨g1,vs,rfl,g3,g4⟩:=Rep.split h2;refine⟨by simp[g1],l1::vs,rfl,⟨_,_,rfl,h1.ty,g3⟩,fun i s' v' hi e1 e2=>?_⟩
  cases i with
  | zero=>simp at e1 e2;subst e1;subst e2;exact h1
  | succ i=>exact g4 i s' v' (by simpa using hi) (by simpa using e1) (by simpa using e2)
def GN:Nat:=6
theorem uxp:Tryz.prog.globals.size=GN:=by kernel_rfl
def Gl(w:World):Prop:=
 Lib.TabIs Tryz.prog w "internal/strconv.uint64pow10" .u64 Lib.pow10Tab∧(∃tp p,w.var? Tryz.prog "strconv.ErrSyntax" = some #[.iface tp p])∧(∃tp p,w.var? Tryz.prog "strconv.ErrRange" = some #[.iface tp p])∧(∃m,w.cell? ⟨0,0,none⟩=some (.int .i64 m))∧GN≤w.heap.size
theorem uho{P:Program}{name:String}{g:Nat}(h:P.globalNamed name=some g):g<P.globals.size:=by
 unfold Program.globalNamed at h;split at h
 ·rename_i g' hg
  injection h with h;subst h;have:g'∈(List.range P.globals.size).filter fun g=>(P.globals[g]?).any (·.name==name):=by rw[hg];exact List.mem_cons_self
  exact List.mem_range.1 (List.mem_filter.1 this).1
 ·cases h
theorem uiy{w w':World}(h:∀k,k<GN→w'.heap[k]? = w.heap[k]?)(name:String):w'.var? Tryz.prog name=w.var? Tryz.prog name:=by
 unfold World.var?;cases hg:Tryz.prog.globalNamed name with
 | none=>rfl
 | some g=>simp only[Option.bind_some];rw[h g (by have:=uho hg;rw[uxp]at this;exact this)]
theorem Gl.keep{w w':World}(h:Gl w)(hk:∀k,k<GN→w'.heap[k]? = w.heap[k]?)(hs:w.heap.size≤w'.heap.size):Gl w':=by
 obtain⟨h1,⟨tp,p,h2⟩,⟨tp',p',h3⟩,⟨m,h4⟩,h5⟩:=h;refine⟨?_,⟨tp,p,(uiy hk _).trans h2⟩,⟨tp',p',(uiy hk _).trans h3⟩,⟨m,?_⟩,Nat.le_trans h5 hs⟩
 ·unfold Lib.TabIs at *;exact(uiy hk _).trans h1
 ·have:0<GN:=by unfold GN;decide
  exact(World.cell?_of_block (a:=⟨0,0,none⟩) (hk _ this)).trans h4
theorem Gl.fr{S:Nat→Prop}{w w':World}(h:Gl w)(f:Fr S w w')(hS:∀k,k<GN→¬S k):Gl w':=
 h.keep (fun k hk=>f.block k (Nat.lt_of_lt_of_le hk h.2.2.2.2) (hS k hk)) f.size
theorem Gl.below{w w':World}(h:Gl w)(f:Below w.heap.size w w'):Gl w':=h.keep (fun k hk=>f.block k (Nat.lt_of_lt_of_le hk h.2.2.2.2)) f.size
theorem Gl.set{w:World}(h:Gl w){b:Nat}(hb:GN≤b)(i:Nat)(u:Value):Gl (w.setCell ⟨b,i,none⟩ u):=
 h.keep (fun k hk=>Below.heap_setCell _ _ _ _ (by show k≠b;omega)) (by simp[World.setCell])
theorem Gl.alloc{w:World}(h:Gl w)(o:Obj):Gl (w.alloc o):=h.below ((Below.refl _ _).alloc (Nat.le_refl _) o)
theorem Gl.drewN{w:World}(h:Gl w)(n:Nat):Gl (w.drewN n):=h
def uzw:List UInt8:=[40,48,32,40,40,41,32,40,41,41,32,40,41,32,40,40,41,32,40,41,32,40,41,41,32,40,41,32]
def uby(ct:List UInt8):List UInt8:=uzw++ct++[41]
theorem udp(w:World)(D:Nat→Prop)(s:Shape):Rep w D (.list s) [.slice none 0 0] [[40,41]]:=
 ⟨none,0,0,fun _=>[],fun _=>[],rfl,Nat.le_refl _,by unfold maxLen;omega,rfl,fun h=>absurd h (by omega),fun i hi=>absurd hi (by omega)⟩
theorem urp(w:World)(D:Nat→Prop):Rep w D uM [.slice none 0 0,.slice none 0 0] [[40,40,41,32,40,41,41]]:=
 ⟨[[40,41],[40,41]],rfl,[.slice none 0 0],[.slice none 0 0],_,_,rfl,rfl,udp _ _ _,[.slice none 0 0],[],_,_,rfl,rfl,udp _ _ _,rfl,rfl⟩
theorem uw0(w:World)(D:Nat→Prop)(n:Nat):Rep w D (uaw n) [.slice none 0 0,.slice none 0 0,.slice none 0 0] [[40,40,41,32,40,41,32,40,41,41]]:=
 ⟨[[40,41],[40,41],[40,41]],rfl,[.slice none 0 0],[.slice none 0 0,.slice none 0 0],_,_,rfl,rfl,udp _ _ _,[.slice none 0 0],[.slice none 0 0],_,_,rfl,rfl,udp _ _ _,[.slice none 0 0],[],_,_,rfl,rfl,udp _ _ _,rfl,rfl⟩
theorem uo7(w:World)(D:Nat→Prop)(n:Nat)(c:Value)(ct:List UInt8)(h:Rep w D (.list uW) [c] [ct]) :
 Rep w D (ubb n) [.bool false,.slice none 0 0,.slice none 0 0,.slice none 0 0,.slice none 0 0,.slice none 0 0,.slice none 0 0,.slice none 0 0,c] [uby ct]:=by
 refine⟨[[48],[40,40,41,32,40,41,41],[40,41],[40,40,41,32,40,41,32,40,41,41],[40,41],ct],?_,?_⟩
 ·simp[par,ube,uby,uzw]
 ·exact⟨[.bool false],_,_,_,rfl,rfl,⟨false,rfl,rfl⟩,[.slice none 0 0,.slice none 0 0],_,_,_,rfl,rfl,urp w D,[.slice none 0 0],_,_,_,rfl,rfl,udp _ _ _,[.slice none 0 0,.slice none 0 0,.slice none 0 0],_,_,_,rfl,rfl,uw0 w D n,[.slice none 0 0],_,_,_,rfl,rfl,udp _ _ _,[c],[],_,_,rfl,rfl,h,rfl,rfl⟩
theorem uyr:rd (ubb 262144) 0 (some (uby [40,41]))=some []:=by kernel_rfl
theorem uli:rd (ubb 262144) 0 (some (uby [40,41]++[32]))=some [32]:=by kernel_rfl
end Go.Proofs.YtellcholbkoakaaGreatDoor
