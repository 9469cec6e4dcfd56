/-
 The reference's reader: structs in boxes,lists in boxes or slots.
-/
import Derived.Test.YtellcholbkoakaaGreatDoorHVa
import Derived.Test.YtellcholbkoakaaGreatDoorHCRa
import Derived.Test.YtellcholbkoakaaGreatDoorHRegion
import Derived.Handy
namespace Go.Proofs.YtellcholbkoakaaGreatDoor
open Go.RowKit AC
set_option linter.unusedVariables false
set_option linter.unusedSimpArgs false
def stores(w:World)(b off:Nat):List Value→World
 | []=>w
 | x::l=>stores (w.setCell ⟨b,off,none⟩ x) b (off+1) l
def spl(cs:List Value)(off:Nat):List Value→List Value
 | []=>cs
 | x::l=>spl (cs.set off x) (off+1) l
theorem ucn{S:Nat→Prop}{b:Nat}(hb:S b):∀(l:List Value) {a w:World} (a0:Nat),Fr S a w→Fr S a (stores w b a0 l)
 | [],_,_,_,h=>h
 | x::l,_,_,a0,h=>ucn hb l (a0+1) (h.setCell (p:=⟨b,a0,none⟩) (.inl hb) x)
theorem Vst.stores{w:World}{br:Nat}{str:ByteArray}{o:Option (List UInt8)}(h:Vst w br str o){b:Nat}(a1:b≠br)(a0:Nat)(l:List Value):Vst (stores w b a0 l) br str o:=
 h.fr (ucn (S:=(· = b)) rfl l a0 (Fr.refl _ _)) (fun e=>a1 e.symm)
theorem uks{b:Nat}{T:TypeId}:∀ {w:World} {cs:List Value} (a0:Nat) (l:List Value),Bk w b T cs.toArray→Bk (stores w b a0 l) b T (spl cs a0 l).toArray
 | _,_,_,[],h=>h
 | w,cs,a0,x::l,h=>uks (cs:=cs.set a0 x) (a0+1) l (by have:=h.set a0 x;rwa [List.setIfInBounds_toArray]at this)
theorem _root_.AC.Bk.stores{b:Nat}{T:TypeId}{w:World}{cs:List Value}(a0:Nat)(l:List Value)(h:Bk w b T cs.toArray):Bk (stores w b a0 l) b T (spl cs a0 l).toArray:=uks a0 l h
theorem _root_.AC.Bk.storesFar{w:World}{b c:Nat}{T:TypeId}{cs:Array Value}(h:Bk w b T cs)(a1:b≠c)(a0:Nat)(l:List Value):Bk (stores w c a0 l) b T cs:=
 h.fr (ucn (S:=(· = c)) rfl l a0 (Fr.refl _ _)) a1
def Sb(br b:Nat)(x:Nat):Prop:=x=br∨x=b
theorem Sb.br{br b:Nat}:Sb br b br:= .inl rfl
theorem Sb.b{br b:Nat}:Sb br b b:= .inr rfl
theorem Sb.lt{br b n:Nat}(h1:br<n)(h2:b<n):∀x,Sb br b x→x<n:=by
 rintro x(rfl|rfl)
 ·exact h1
 ·exact h2
theorem Sb.new{br b n:Nat}(h:n≤b):∀x,Sb br b x→x=br∨n≤x:=by
 rintro x(rfl|rfl)
 ·exact .inl rfl
 ·exact .inr h
theorem Sb.new2{br b c n:Nat}(h:n≤b):∀x,Sb br b x→Sb br c x∨n≤x:=by
 rintro x(rfl|rfl)
 ·exact .inl (.inl rfl)
 ·exact .inr h
theorem Sb.not{br b x:Nat}(h1:x≠br)(h2:x≠b):¬Sb br b x:=by
 rintro(h|h)
 ·exact h1 h
 ·exact h2 h
theorem frb{br b:Nat}{w w':World}(h:Fr (· = br) w w'):Fr (Sb br b) w w':=h.mono fun _ h=> .inl h
section
variable {S:Nat→Prop} {ss:List Shape} {br:Nat} {str:ByteArray} {o o' o1:Option (List UInt8)} {w wr w1 w2 w3 w':World} {k:Nat} {vs:List (List Value)} {s:Shape} {v:List Value}
def QM(S:Nat→Prop)(ss:List Shape)(br:Nat)(str:ByteArray)(o:Option (List UInt8))(w:World)(k:Nat)(vs:List (List Value))(o1:Option (List UInt8))(wr:World):Prop:=
 ∃o' wq,QInv S ss br str o w k vs o' wq∧Fr S wq wr∧Vst wr br str o1∧(if k=0 then o' else want 32 o')=o1
theorem QM.start(h:Vst w1 br str (want 40 o))(f:Fr S w w1):QM S ss br str o w 0 [] (want 40 o) w1:=⟨_,_,QInv.start h f,Fr.refl _ _,h,if_pos rfl⟩
theorem QM.st(h:QM S ss br str o w k vs o1 wr):Vst wr br str o1:=by obtain⟨_,_,_,_,h,_⟩:=h;exact h
theorem QM.lim(h:QM S ss br str o w k vs o1 wr){L:Nat}(hL:∀r,o=some r→r.length≤L):∀r,o1=some r→r.length≤L-1:=by
 obtain⟨o',wq,h1,_,_,h2⟩:=h;rintro r rfl;exact(h1.limit hL h2).1
theorem QInv.space(h:QInv S ss br str o w (k+1) vs o' wr)(h1:Vst w1 br str (want 32 o'))(f:Fr S wr w1):QM S ss br str o w (k+1) vs (want 32 o') w1:=
 ⟨o',wr,h,f,h1,if_neg (by omega)⟩
theorem RP.mono{S':Nat→Prop}(h:RP S s br str o w v w')(hS:∀x,S x→S' x):RP S' s br str o w v w':=h.from (Fr.refl _ _) fun x hx=> .inl (hS x hx)
theorem QM.next(hs:ss[k]? = some s)(h:QM S ss br str o w k vs o1 wr)(hp:RP S s br str o1 wr v w2)(hS:∀x,S x→x<w.heap.size):QInv S ss br str o w (k+1) (vs++[v]) (rd s 0 o1) w2:=by
 obtain⟨o',wq,h1,h2,_,h3⟩:=h;exact h1.next hs h2 h3 hp hS
theorem QM.got{b:Nat}(hs:ss[k]? = some s)(h:QM (Sb br b) ss br str o w k vs o1 wr)(hp:RP (· = br) s br str o1 wr v w2)(hS:∀x,Sb br b x→x<w.heap.size)(a1:b≠br)(a0:Nat)(l:List Value):QInv (Sb br b) ss br str o w (k+1) (vs++[v]) (rd s 0 o1) (stores w2 b a0 l):=
 (h.next hs (hp.mono fun x hx=> .inl hx) hS).wrote (ucn (.inr rfl) l a0 (Fr.refl _ _)) (hp.2.1.stores a1 a0 l) hS
theorem RP.st(h:RP S s br str o w v w1):Vst w1 br str (rd s 0 o):=h.2.1
theorem RP.fr(h:RP S s br str o w v w1):Fr S w w1:=h.2.2.1
theorem RP.inner{b c:Nat}(h:RP (Sb br b) s br str o w v w1)(f:Fr (Sb br c) wr w)(hb:wr.heap.size≤b):RP (Sb br c) s br str o wr v w1:=h.from f (Sb.new2 hb)
theorem RP.inner0{b:Nat}(h:RP (Sb br b) s br str o w v w1)(f:Fr (· = br) wr w)(hb:wr.heap.size≤b):RP (· = br) s br str o wr v w1:=h.from f (Sb.new hb)
end
section
variable {S:Nat→Prop} {s:Shape} {e:TypeId} {br:Nat} {str:ByteArray} {o o' o1:Option (List UInt8)} {w wr w1 w2 w3:World} {lv:Value} {n:Nat} {v:List Value}
def LM(S:Nat→Prop)(s:Shape)(e:TypeId)(br:Nat)(str:ByteArray)(o:Option (List UInt8))(w:World)(lv:Value)(n:Nat)(o1:Option (List UInt8))(wr w1:World):Prop:=
 ∃r0,LI S s e br str o w lv n (some r0) wr∧r0.head? ≠ some 41∧(if n=0 then some r0 else want 32 (some r0))=o1∧Vst w1 br str o1∧Fr S wr w1∧∃r,o1=some r
theorem LM.st(h:LM S s e br str o w lv n o1 wr w1):Vst w1 br str o1:=by obtain⟨_,_,_,_,h,_⟩:=h;exact h
theorem LM.fr(h:LM S s e br str o w lv n o1 wr w1):Fr S wr w1:=by obtain⟨_,_,_,_,_,h,_⟩:=h;exact h
theorem LM.size(h:LM S s e br str o w lv n o1 wr w1):w.heap.size≤w1.heap.size:=by obtain⟨_,h1,_,_,_,h2,_⟩:=h;exact Nat.le_trans h1.fr.size h2.size
theorem LM.lim(h:LM S s e br str o w lv n o1 wr w1){L:Nat}(hL:∀r,o=some r→r.length≤L):(∀r,o1=some r→r.length≤L-1)∧0<L:=by
 obtain⟨r0,h1,_,h2,_,_,r,rfl⟩:=h;have:=h1.limit hL h2;exact⟨fun r' hr=>by injection hr with hr;subst hr;exact this.1,this.2⟩
theorem LI.more{first:Bool}(hS:∀x,S x→x<w.heap.size)(a0:S br)(h:LI S s e br str o w lv n o' wr)(hf:first=decide (n=0)){e':Ending}(hm:MorePost first br str o' wr e' w1) :
 (e' = .returned (.bool false)∧RP S (.list s) br str o w [lv] w1)∨(e' = .returned (.bool true)∧∃o1,LM S s e br str o w lv n o1 wr w1):=by
 obtain⟨b,o2,rfl,h1,h2,h3,h4⟩:=hm;have f:=h2.mono (S':=S) (fun x hx=>by rw[show x=br from hx];exact a0)
 cases b with
 | false=>
  refine .inl ⟨rfl,LI.last hS h ?_ h1 f⟩;rcases h3 rfl with h5|h5|⟨h5,h6⟩
  ·exact .inl h5
  ·exact .inr (.inl h5)
  ·refine .inr (.inr ⟨?_,h6⟩)
   rw[hf]at h5;simpa using h5
 | true=>
  obtain⟨r0,r,rfl,h5,h6,h7⟩:=h4 rfl;refine .inr ⟨rfl,o2,r0,h,h5,?_,h1,f,r,h7⟩;rw[←h6,hf];by_cases h0:n=0<;>simp[h0]
theorem LM.own(h:LM S s e br str o w lv n o1 wr w1)(hS:∀x,S x→x<w.heap.size)(f:Fr S w1 w2):∃xs,w2.ownsRow w.heap.size e s.sz lv n xs:=by
 obtain⟨_,h1,_,_,_,h2,_⟩:=h;exact h1.own hS (h2.trans f)
theorem LM.next(a5:s.one=true)(hS:∀x,S x→x<w.heap.size)(a2:br<w.heap.size)(h:LM S s e br str o w lv n o1 wr w1)(hp:RP S s br str o1 w1 v w2)
 {g a1:Nat} {xs:List Value} (a7:w2.ownsRow w.heap.size e s.sz lv n xs) (a6:w3.ownsRow w.heap.size e s.sz (.slice (some ⟨g,0,none⟩) (n+1) a1) (n+1) (xs++v)) (hg:(w2.alloc (.cells v.toArray e)).grownBy w3 lv.ownBlock) (a3:lv.ownBlock=some g∨g=w2.heap.size+1) (a4:g<w3.heap.size) :
 LI S s e br str o w (.slice (some ⟨g,0,none⟩) (n+1) a1) (n+1) (rd s 0 o1) w3:=by
 obtain⟨r0,h1,h2,h3,_,h4,_⟩:=h;have a0:=hp.from h4 (fun x hx=> .inl hx)
 exact h1.next a5 hS a2 h2 h3 a0.1 a0.2.1 a0.2.2.1 a0.2.2.2 a7 a6 hg a3 a4
theorem LM.box{b:Nat}{T:TypeId}{cs:Array Value}(h:LM S s e br str o w lv n o1 wr w1)(hb:Bk w2 b T cs)(a1:b<w.heap.size)(x:Obj)(hg:(w2.alloc x).grownBy w3 lv.ownBlock):Bk w3 b T cs:=by
 obtain⟨_,h1,_⟩:=h;obtain⟨us,tx,a0,h2,_⟩:=h1;refine(hb.alloc x).grown hg fun e=>?_
 have:=(h2.lt b e.symm).1;omega
end
end Go.Proofs.YtellcholbkoakaaGreatDoor
/-
  A region that draws its order: each operation but the last ones leaves a fact; a fact stays under the operations that do not stand ucm of its own.
-/
namespace AC
open Go Go.RowKit
set_option linter.unusedVariables false
set_option linter.unusedSimpArgs false
theorem nv:(∀(a:Act) (k:Nat) (s:Nat→Value),uF a [] k s=a)∧(∀(a:Act) (t:Nat) (r:List Nat) (k:Nat) (s:Nat→Value),uF a (t::r) k s=uF (a.put (some t) (s k)) r (k+1) s) ∧
 (∀(l:List Value) (d) (i:Nat) (v:Value),Act.put ⟨l.toArray,d⟩ (some i) v=⟨(l.set i v).toArray,d⟩)∧(∀(x y:Value) (l:List Value) (i:Nat),(x::l).set (i+1) y=x::l.set i y)∧(∀(x y:Value) (l:List Value),(x::l).set 0 y=y::l) ∧
 (∀(x y:Nat) (l:List Nat),(x::l).getD 0 y=x)∧(∀(x y i:Nat) (l:List Nat),(x::l).getD (i+1) y=l.getD i y)∧(∀n:Nat,0+n=n):=
 ⟨fun _ _ _=>rfl,fun _ _ _ _ _=>rfl,fun l d i v=>by simp[Act.put],fun _ _ _ _=>rfl,fun _ _ _=>rfl,fun _ _ _=>rfl,fun _ _ _ _=>rfl,Nat.zero_add⟩
section
variable {P:Program} {ops:Array Oper} {Q:Exit→Act→World→Prop}
def RlI(a0:Act)(R:(Nat→Bool)→World→Prop)(slots:List Nat)(F:Nat→Value→World→Prop)(d:Nat→Bool)(a:Act)(x:World):Prop:=
 ∃(s:Nat→Value),a=uF a0 slots 0 s∧R d x∧∀i,i<slots.length→d i=true→F i (s i) x
theorem udm{id:Nat}{a0:Act}{w0:World}(hm:P.follows .mixedOrders=true)
 (hlow:usr ops=true) (slots:List Nat) (f:Nat) (hok:(usy ops slots&&usx ops slots.length f&&decide slots.Nodup&&decide (slots.length≤ops.size))=true)
 (R:(Nat→Bool)→World→Prop) (G:Nat→World→World→Prop) (F:Nat→Value→World→Prop) (h0:R (fun _=>false) w0.drew) (hR:∀d j x x',R d x→d j=false→G j x x'→R (fun k=>d k||k==j) x')
 (stab:∀i j v x x',i<slots.length→j<slots.length→i≠j→ucm ops f i j=false→F i v x→G j x x'→F i v x')
 (step:∀(i:Nat) (o:Oper) (s:Nat→Value) (d:Nat→Bool) (x:World),ops[i]? = some o→i<slots.length→d i=false→R d x →
  (∀j,ucm ops f i j=true→j<slots.length→F j (s j) x) →
  opOk P ops Q i (fun a' x'=>∃v,a'=(uF a0 slots 0 s).put (some (slots.getD i 0)) v∧F i v x'∧G i x x') (uF a0 slots 0 s) x)
 (fin:∀(s:Nat→Value) (d:Nat→Bool) (x:World),R d x→(∀i,i<slots.length→F i (s i) x)→wpList P ops Q (ops.toList.drop slots.length) (uF a0 slots 0 s) x) :
 (Code.region id ops true).wp P Q a0 w0:=by
 simp only[Bool.and_eq_true,decide_eq_true_eq]at hok;obtain⟨⟨⟨hdst,hlast⟩,hnd⟩,hsz⟩:=hok;have hl:=uih hlow;have hlast':∀i,i<ops.size→slots.length≤i→∀j,j<i→ucm ops f i j=true:=by
  intro i hi hn j hj;have h1:=List.all_eq_true.1 hlast i (List.mem_range.2 hi);simp only[Bool.or_eq_true,decide_eq_true_eq]at h1;rcases h1 with h1|h1
  ·omega
  ·exact List.all_eq_true.1 h1 j (List.mem_range.2 hj)
 refine ufl hm hl (fun d a x=>(∀(i:Nat) (o:Oper),ops[i]? = some o→d i=true→∀e∈o.after,Region.binds .any e=true→d e.on=true) ∧
  (((∀j,slots.length≤j→d j=false)∧RlI a0 R slots F d a x)∨(∃k,slots.length<k∧(∀j,d j=decide (j<k))∧wpList P ops Q (ops.toList.drop k) a x))) ?_ ?_ ?_
 ·refine⟨(fun i o _ h=>by cases h),.inl ⟨fun _ _=>rfl,?_⟩⟩
  obtain⟨s,hs⟩:=ue3 slots a0 0 hnd;exact⟨s,hs.symm,h0,fun i _ h=>by cases h⟩
 ·rintro d i o a x ho hdi hed ⟨hcl,hI⟩
  have hi:i<ops.size:=(Array.getElem?_eq_some_iff.1 ho).1;have hcl':∀(k:Nat) (o':Oper),ops[k]? = some o'→(d k||k==i)=true→∀e∈o'.after,Region.binds .any e=true→(d e.on||e.on==i)=true:=by
   intro k o' ho' hk e he hb;rw[Bool.or_eq_true]at hk ⊢;rcases hk with hk|hk
   ·exact .inl (hcl k o' ho' hk e he hb)
   ·have:k=i:=by simpa using hk
    subst this;rw[ho]at ho';injection ho' with ho';subst ho';exact .inl (hed e he hb)
  rcases Nat.lt_or_ge i slots.length with hin|hin
  ·rcases hI with⟨hnone,s,rfl,hbx,hF⟩|⟨k,hk,hdk,hw⟩
   ·refine wpOp_mono ?_ (step i o s d x ho hin hdi hbx fun j hj hjn=>hF j hjn (ucc hcl f i j o ho hed hj)).out
    rintro a' x'⟨v,rfl,hFi,hb'⟩;refine⟨hcl',.inl ⟨fun j hj=>?_,?_⟩⟩
    ·have:(j==i)=false:=by rw[beq_eq_false_iff_ne];omega
     show(d j||j==i)=false
     rw[hnone j hj,this];rfl
    ·refine⟨fun j=>if j=i then v else s j,?_,hR d i x x' hbx hdi hb',?_⟩
     ·have ht:slots[i]? = some (slots.getD i 0):=by rw[List.getD_eq_getElem?_getD,List.getElem?_eq_getElem hin];rfl
      rw[ufy slots a0 0 i s (slots.getD i 0) v hnd ht,Nat.zero_add]
     ·intro j hj hdj
      by_cases hji:j=i
      ·subst hji
       simp only[if_true];exact hFi
      ·simp only[if_neg hji]
       have hdj':d j=true:=by
        rw[Bool.or_eq_true]at hdj;rcases hdj with h|h
        ·exact h
        ·exact absurd (by simpa using h) hji
       refine stab j i _ x x' hj hin hji ?_ (hF j hj hdj') hb';cases ha:ucm ops f j i with
       | false=>rfl
       | true=>
        exfalso;have hjs:j<ops.size:=by omega
        have hoj:ops[j]? = some ops[j]:=Array.getElem?_eq_getElem hjs;have:=ucc hcl f j i _ hoj (hcl j _ hoj hdj') ha;rw[hdi]at this;cases this
   ·rw[hdk i]at hdi
    simp at hdi;omega
  ·have hall:∀j,j<i→d j=true:=fun j hj=>ucc hcl f i j o ho hed (hlast' i hi hin j hj)
   have key:∃w',w'=wpList P ops Q (ops.toList.drop i) a x∧w':=by
    refine⟨_,rfl,?_⟩;rcases hI with⟨hnone,s,rfl,hbx,hF⟩|⟨k,hk,hdk,hw⟩
    ·have hin':i=slots.length:=by
      rcases Nat.lt_or_ge slots.length i with h|h
      ·have:=hall slots.length h;rw[hnone _ (Nat.le_refl _)]at this;cases this
      ·omega
     rw[hin'];exact fin s d x hbx fun j hj=>hF j hj (hall j (by omega))
    ·have:i=k:=by
      rcases Nat.lt_trichotomy i k with h|h|h
      ·rw[hdk i]at hdi;simp at hdi;omega
      ·exact h
      ·have:=hall k h;rw[hdk k]at this;simp at this
     rw[this];exact hw
   obtain⟨_,rfl,key⟩:=key;rw[drop_at ho]at key;refine wpOp_mono ?_ (ueo ho key);intro a' x' hw;refine⟨hcl',.inr ⟨i+1,by omega,fun j=>?_,hw⟩⟩
   show(d j||j==i)=_
   rcases Nat.lt_trichotomy j i with h|h|h
   ·rw[hall j h];simp;omega
   ·subst h;simp
   ·have hdj:d j=false:=by
     rcases hI with⟨hnone,_⟩|⟨k,hk,hdk,hw⟩
     ·exact hnone j (by omega)
     ·rw[hdk i]at hdi;rw[hdk j];simp at hdi ⊢;omega
    rw[hdj];have:(j==i)=false:=by rw[beq_eq_false_iff_ne];omega
    rw[this];simp;omega
 ·rintro d a x hall ⟨hcl,hI⟩
  rcases hI with⟨hnone,s,rfl,hbx,hF⟩|⟨k,hk,hdk,hw⟩
  ·have hn:slots.length=ops.size:=by
    rcases Nat.lt_or_ge slots.length ops.size with h|h
    ·have:=hall _ h;rw[hnone _ (Nat.le_refl _)]at this;cases this
    ·omega
   have:=fin s d x hbx fun j hj=>hF j hj (hall j (by omega))
   rw[hn,List.drop_of_length_le (by simp)]at this
   exact this
  ·have hks:ops.size≤k:=by
    rcases Nat.lt_or_ge k ops.size with h|h
    ·have:=hall k h;rw[hdk k]at this;simp at this
    ·exact h
   rw[List.drop_of_length_le (by simpa using hks)]at hw
   exact hw
end
end AC
/-
 The reference's reader: steps as the printed walks use them.
-/
namespace Go.Proofs.YtellcholbkoakaaGreatDoor
open Go.RowKit AC
set_option linter.unusedVariables false
set_option linter.unusedSimpArgs false
theorem VReads.go{g:FuncId}{s:Shape}(h:VReads g s 262144)(w:World)(br:Nat)(str:ByteArray)(o:Option (List UInt8))(hs:Vst w br str o):Calls Tryz.prog g #[.pointer (some ⟨br,0,none⟩)] w (VPost s br str o w):=
 h w br str o hs fun r hr=>by subst hr;exact hs.short
theorem VReads.zero{g:FuncId}{f f':Shape}(h:VReads g (.st f) 0)(ht:∀l,Ty (.st f) l→Ty (.st f') l):VReads g (.no (.st f')) 0:=by
 intro w br str o hs hl;refine(h w br str o hs hl).mono ?_;rintro e w'⟨v,rfl,h1,h2,h3,h4⟩;have hn:rd (.st f) 0 o=none:=by
  cases o with
  | none=>rw[udc]
  | some r=>
   have:r=[]:=List.length_eq_zero_iff.1 (Nat.le_zero.1 (hl r rfl));subst this;show want 41 (rd f 0 (want 40 (some [])))=none
   rw[show want 40 (some [])=none from rfl,udc]
   rfl
 rw[hn]at h2 h4;exact⟨v,rfl,ht v h1,h2,h3,fun r r' _ hr=>by cases hr⟩
theorem Vst.same{w:World}{br:Nat}{str:ByteArray}{o:Option (List UInt8)}(h:Vst w br str o){b:Bool}(hb:o.isNone=b):Vst (w.setCell ⟨br,2,none⟩ (.bool b)) br str o:=by
 obtain⟨pos,bad,hk,h1,h2,ho⟩:=h;have a0:bad=b:=by rw[←hb,ho];cases bad<;>rfl
 subst a0;exact⟨pos,bad,hk.set 2 _,h1,h2,ho⟩
theorem ug6{br n:Nat}(h:br<n):∀x,x=br→x<n:=fun x e=>by subst e;exact h
theorem Sb.box{br:Nat}{w:World}(h:br<w.heap.size)(x:Obj):∀i,Sb br w.heap.size i→i<(w.alloc x).heap.size:=Sb.lt (by simp;omega) (by simp)
theorem Sb.two{br:Nat}{w:World}(h:br<w.heap.size)(x y:Obj):∀i,Sb br (w.heap.size+1) i→i<((w.alloc x).alloc y).heap.size:=Sb.lt (by simp;omega) (by simp)
theorem _root_.AC.Bk.two(w:World)(t:TypeId)(cs:Array Value)(x:Obj):Bk ((w.alloc x).alloc (.cells cs t)) (w.heap.size+1) t cs:=by
 have:=Bk.new (w.alloc x) t cs;simpa using this
theorem MorePost.fr{first:Bool}{br:Nat}{str:ByteArray}{o:Option (List UInt8)}{w w':World}{e:Ending}(h:MorePost first br str o w e w'):Fr (· = br) w w':=by
 obtain⟨_,_,_,_,h,_⟩:=h;exact h
def ug7(w:World)(b off:Nat):Nat:=ub1 ((w.cell? ⟨b,off,none⟩).getD undef)
theorem uaq{w:World}{b a0 n c:Nat}{A:Option Addr}{T:TypeId}{cs:Array Value}(h:Bk w b T cs)(hc:cs[a0]? = some (.slice A n c)):ug7 w b a0=n:=by
 unfold ug7;rw[h.cell a0,hc];rfl
section
variable {S:Nat→Prop} {ss:List Shape} {br b:Nat} {str:ByteArray} {o o' o1:Option (List UInt8)} {w wr w1 w2 w3:World} {k:Nat} {vs:List (List Value)} {s:Shape} {v:List Value}
theorem QM.start'(h:Vst w1 br str (want 40 o))(f:Fr (· = br) w w1):∃o1,Hid (QM (Sb br b) ss br str o w 0 [] o1 w1):=⟨_,QM.start h (frb f)⟩
theorem QInv.space'(h:QInv (Sb br b) ss br str o w (k+1) vs o' wr)(h1:Vst w1 br str (want 32 o'))(f:Fr (· = br) wr w1):∃o1,Hid (QM (Sb br b) ss br str o w (k+1) vs o1 w1):=⟨_,h.space h1 (frb f)⟩
theorem QM.got'(hs:ss[k]? = some s)(h:QM (Sb br b) ss br str o w k vs o1 wr)(hp:RP (· = br) s br str o1 wr v w2)(hS:∀x,Sb br b x→x<w.heap.size)(a1:b≠br)(a0:Nat)(l:List Value):∃o2,QInv (Sb br b) ss br str o w (k+1) (vs++[v]) o2 (stores w2 b a0 l):=⟨_,QM.got hs h hp hS a1 a0 l⟩
theorem QM.next'(hs:ss[k]? = some s)(h:QM S ss br str o w k vs o1 wr)(hp:RP S s br str o1 wr v w2)(hS:∀x,S x→x<w.heap.size):∃o2,Hid (QInv S ss br str o w (k+1) (vs++[v]) o2 w2):=⟨_,QM.next hs h hp hS⟩
theorem QInv.last'(hk:k=ss.length)(h:QInv (Sb br b) ss br str o w k vs o' wr)(h2:Vst w1 br str (want 41 o'))(f:Fr (· = br) wr w1)(hS:∀x,Sb br b x→x<w.heap.size)(hv:vs.flatten=v):Hid (RP (Sb br b) (.st (ubd ss)) br str o w v w1):=by
 subst hv;exact QInv.last hk h h2 (frb f) hS
end
section
variable {S:Nat→Prop} {s:Shape} {e:TypeId} {br b:Nat} {str:ByteArray} {o o' o1:Option (List UInt8)} {w wr w1 w2 w3:World} {lv:Value} {n:Nat} {v:List Value}
theorem LI.start'(h0:Vst w br str o)(h:Vst w1 br str (want 40 o))(f:Fr S w w1):∃o1,Hid (LI S s e br str o w (.slice none 0 0) 0 o1 w1):=⟨_,LI.start h0 h f⟩
theorem LI.more'(hS:∀x,S x→x<w.heap.size)(a0:S br)(h:LI S s e br str o w lv n o' wr){e':Ending}(hm:MorePost (decide (n=0)) br str o' wr e' w1) :
 (e' = .returned (.bool true)∧∃o1,Hid (LM S s e br str o w lv n o1 wr w1))∨(e' = .returned (.bool false)∧Hid (RP S (.list s) br str o w [lv] w1)):=by
 rcases LI.more hS a0 h rfl hm with h|⟨h,o1,h2⟩
 ·exact .inr h
 ·exact .inl ⟨h,o1,h2⟩
theorem LM.next'(a4:s.one=true)(hS:∀x,S x→x<w.heap.size)(a1:br<w.heap.size)(h:LM S s e br str o w lv n o1 wr w1)(hp:RP S s br str o1 w1 v w2)
 {g a0:Nat} {xs:List Value} (a6:w2.ownsRow w.heap.size e s.sz lv n xs) (a5:w3.ownsRow w.heap.size e s.sz (.slice (some ⟨g,0,none⟩) (n+1) a0) (n+1) (xs++v)) (hg:(w2.alloc (.cells v.toArray e)).grownBy w3 lv.ownBlock) (a2:lv.ownBlock=some g∨g=w2.heap.size+1) (a3:g<w3.heap.size) :
 ∃o2,Hid (LI S s e br str o w (.slice (some ⟨g,0,none⟩) (n+1) a0) (n+1) o2 w3):=⟨_,LM.next a4 hS a1 h hp a6 a5 hg a2 a3⟩
theorem LI.put(h:LI (Sb br b) s e br str o w lv n o' wr)(a1:b≠br)(hS:∀x,Sb br b x→x<w.heap.size)(a0:Nat)(x:Value):LI (Sb br b) s e br str o w lv n o' (wr.setCell ⟨b,a0,none⟩ x):=
 h.wrote ((Fr.refl _ _).setCell (p:=⟨b,a0,none⟩) (.inl Sb.b) x) (h.st.stores a1 a0 [x]) hS
end
theorem RP.retB{w0 w w1:World}{s:Shape}{br b b0:Nat}{str:ByteArray}{o:Option (List UInt8)}{v:List Value}(h:RP (Sb br b) s br str o w v w1)(f:Fr (· = br) w0 w)(hb:w0.heap.size≤b)(a0:w0.heap.size≤b0)(a3:br<w.heap.size)(a4:b<w.heap.size)(a2:b0<w.heap.size)(a1:b0≠br)(l:List Value) :
 VPost s br str o w0 (.returned (uas s v)) (stores w1 b0 0 l):=by
 have h1:RP (fun x=>x=br∨x=b∨x=b0) s br str o w v w1:=h.mono fun x hx=>by
  rcases hx with hx|hx
  ·exact .inl hx
  ·exact .inr (.inl hx)
 have h2:=h1.wrote (ucn (.inr (.inr rfl)) l 0 (Fr.refl _ _)) (h1.2.1.stores a1 0 l) (fun x hx=>by
  rcases hx with rfl|rfl|rfl<;>assumption)
 refine⟨v,rfl,h2.from f fun x hx=>?_⟩
 rcases hx with rfl|rfl|rfl
 ·exact .inl rfl
 ·exact .inr hb
 ·exact .inr a0
theorem ud6(w2:World){ops:Array Oper}{rest:List Oper}{op:Oper}{a:Act}{Q:Exit→Act→World→Prop}(a6:op.guard=none)(sl x:Operand)(t e:TypeId)
 (ho:op.op = .call { callee:= .builtin .append,args:=#[sl,x],argTypes:=#[t,t] })
 (ht:Tryz.prog.underlying t=some (.slice e)) (sz a0:Nat) (a7:(Tryz.prog.info? e).map (fun i=>(i.size,i.bytes,i.zero.map fun z=>z.cells.size))=some (sz,a0,some sz)) (b0:0<sz) (a4:a0≤4096)
 (base:Nat) (lv:Value) (n:Nat) (xs v:List Value) (hs:a.eval sl=lv) (a8:w2.ownsRow base e sz lv n xs) (b:Nat) (T:TypeId) (hk:Bk w2 b T v.toArray) (hx:a.eval x = .slice (some ⟨b,0,none⟩) 1 1) (hv:v.length=sz) (h1:∀u∈v,u.oneCell'=true)
 (hn:n≤100000000) (a3:base≤w2.heap.size)
 (h:∀g a1 w3,w3.ownsRow base e sz (.slice (some ⟨g,0,none⟩) (n+1) a1) (n+1) (xs++v)→w2.grownBy w3 lv.ownBlock→(lv.ownBlock=some g∨g=w2.heap.size)→g<w3.heap.size→wpList Tryz.prog ops Q rest (a.put op.dst (.slice (some ⟨g,0,none⟩) (n+1) a1)) w3) :
 wpList Tryz.prog ops Q (op::rest) a w2:=by
 obtain⟨i,hi,a2⟩:=Option.map_eq_some_iff.1 a7;simp only[Prod.mk.injEq]at a2;obtain⟨a9,a5,b3⟩:=a2;obtain⟨z,b1,b2⟩:=Option.map_eq_some_iff.1 b3;refine wpList_append_lies _ a6 sl x t ho base e i z sz a0 ht hi b1 a9 a5 b2 b0 lv n xs hs a8 ⟨b,0,none⟩ 1 1 v hx (by omega) ?_ h1 (by omega) (by unfold maxLen;omega) ?_ a3 w2.heap.size rfl ?_
 ·intro j u hu
  rw[Addr.add_lit,hk.cell,Nat.zero_add];simpa using hu
 ·have:(n+1)*a0≤100000001*4096:=Nat.mul_le_mul (by omega) a4
  omega
 ·intro g a1 w3 h2 h3 h4 h5
  exact h g a1 w3 h2 h3 h4 h5
section
variable {S:Nat→Prop} {s:Shape} {e:TypeId} {br b:Nat} {str:ByteArray} {o o' o1:Option (List UInt8)} {w wr w1 w2 w3:World} {lv:Value} {n:Nat} {v:List Value}
theorem LM.nextW(a5:s.one=true)(hS:∀x,S x→x<w.heap.size)(a2:br<w.heap.size)(h:LM S s e br str o w lv n o1 wr w1)(hp:RP S s br str o1 w1 v w2)
 {g a1:Nat} {xs:List Value} (a7:w2.ownsRow w.heap.size e s.sz lv n xs) (a6:w3.ownsRow w.heap.size e s.sz (.slice (some ⟨g,0,none⟩) (n+1) a1) (n+1) (xs++v)) (hg:w2.grownBy w3 lv.ownBlock) (a3:lv.ownBlock=some g∨g=w2.heap.size) (a4:g<w3.heap.size) :
 ∃o2,Hid (LI S s e br str o w (.slice (some ⟨g,0,none⟩) (n+1) a1) (n+1) o2 w3):=by
 obtain⟨r0,h1,h2,h3,_,h4,_⟩:=h;have a0:=hp.from h4 (fun x hx=> .inl hx)
 exact⟨_,h1.nextW a5 hS a2 h2 h3 a0.1 a0.2.1 a0.2.2.1 a0.2.2.2 a7 a6 hg (a3.imp id fun h=>by rw[h];exact Nat.le_refl _) a4⟩
theorem LM.boxW{b:Nat}{T:TypeId}{cs:Array Value}(h:LM S s e br str o w lv n o1 wr w1)(hb:Bk w2 b T cs)(a1:b<w.heap.size)(hg:w2.grownBy w3 lv.ownBlock):Bk w3 b T cs:=by
 obtain⟨_,h1,_⟩:=h;obtain⟨us,tx,a0,h2,_⟩:=h1;refine hb.grown hg fun e=>?_
 have:=(h2.lt b e.symm).1;omega
theorem RP.bel(h:RP S s br str o w v w1)(f:Below w1.heap.size w1 w2):RP S s br str o w v w2:=by
 obtain⟨h1,h2,h3,h4⟩:=h;exact⟨h1,h2.below f,h3.below f,fun r r' ho hr=>by obtain⟨t,h5,h6⟩:=h4 r r' ho hr;exact⟨t,h5,h6.below f⟩⟩
end
theorem uta:(Tryz.prog.info? 3).map (fun i=>(i.size,i.bytes,i.zero.map fun z=>z.cells.size))=some (1,8,some 1):=by kernel_rfl
theorem umr:(Tryz.prog.info? 2).map (fun i=>(i.size,i.bytes,i.zero.map fun z=>z.cells.size))=some (1,8,some 1):=by kernel_rfl
theorem up7:(Tryz.prog.info? 61).map (fun i=>(i.size,i.bytes,i.zero.map fun z=>z.cells.size))=some (1,24,some 1):=by kernel_rfl
theorem ug8:(Tryz.prog.info? 90).map (fun i=>(i.size,i.bytes,i.zero.map fun z=>z.cells.size))=some (1,24,some 1):=by kernel_rfl
theorem utb:(Tryz.prog.info? 76).map (fun i=>(i.size,i.bytes,i.zero.map fun z=>z.cells.size))=some (3,56,some 3):=by kernel_rfl
theorem ujc:(Tryz.prog.info? 219).map (fun i=>(i.size,i.bytes,i.zero.map fun z=>z.cells.size))=some (2,16,some 2):=by kernel_rfl
theorem utc:(Tryz.prog.info? 148).map (fun i=>(i.size,i.bytes,i.zero.map fun z=>z.cells.size))=some (2,32,some 2):=by kernel_rfl
theorem up8:(Tryz.prog.info? 116).map (fun i=>(i.size,i.bytes,i.zero.map fun z=>z.cells.size))=some (3,40,some 3):=by kernel_rfl
theorem ums:(Tryz.prog.info? 143).map (fun i=>(i.size,i.bytes,i.zero.map fun z=>z.cells.size))=some (2,32,some 2):=by kernel_rfl
theorem ukt:(Tryz.prog.info? 145).map (fun i=>(i.size,i.bytes,i.zero.map fun z=>z.cells.size))=some (3,40,some 3):=by kernel_rfl
theorem up9:(Tryz.prog.info? 150).map (fun i=>(i.size,i.bytes,i.zero.map fun z=>z.cells.size))=some (3,40,some 3):=by kernel_rfl
theorem uqa:(Tryz.prog.info? 139).map (fun i=>(i.size,i.bytes,i.zero.map fun z=>z.cells.size))=some (5,104,some 5):=by kernel_rfl
theorem utd:(Tryz.prog.info? 89).map (fun i=>(i.size,i.bytes,i.zero.map fun z=>z.cells.size))=some (6,112,some 6):=by kernel_rfl
theorem uku:(Tryz.prog.info? 87).map (fun i=>(i.size,i.bytes,i.zero.map fun z=>z.cells.size))=some (3,56,some 3):=by kernel_rfl
theorem uqb:(Tryz.prog.info? 82).map (fun i=>(i.size,i.bytes,i.zero.map fun z=>z.cells.size))=some (6,112,some 6):=by kernel_rfl
theorem uhu:(Tryz.prog.info? 154).map (fun i=>(i.size,i.bytes,i.zero.map fun z=>z.cells.size))=some (13,232,some 13):=by kernel_rfl
theorem uhv:(Tryz.prog.info? 105).map (fun i=>(i.size,i.bytes,i.zero.map fun z=>z.cells.size))=some (2,48,some 2):=by kernel_rfl
theorem umt:(Tryz.prog.info? 118).map (fun i=>(i.size,i.bytes,i.zero.map fun z=>z.cells.size))=some (4,64,some 4):=by kernel_rfl
theorem uqc:(Tryz.prog.info? 65).map (fun i=>(i.size,i.bytes,i.zero.map fun z=>z.cells.size))=some (11,216,some 11):=by kernel_rfl
theorem umu:(Tryz.prog.info? 68).map (fun i=>(i.size,i.bytes,i.zero.map fun z=>z.cells.size))=some (2,16,some 2):=by kernel_rfl
end Go.Proofs.YtellcholbkoakaaGreatDoor
