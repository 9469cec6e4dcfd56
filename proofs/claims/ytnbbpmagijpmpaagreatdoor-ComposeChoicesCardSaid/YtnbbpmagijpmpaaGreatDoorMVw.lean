/-
  The general law of regions where only the edges that bind go back (an edge of gc's own order may go forth).
-/
import Derived.Test.YtnbbpmagijpmpaaGreatDoorMWalkR
import Derived.Deep.MidRow
import Derived.Laws.Entries
set_option linter.unusedVariables false
set_option linter.unusedSimpArgs false
namespace AC
open Go Go.RowKit
def uyu(ops:Array Oper):Bool:=(List.range ops.size).all fun i=>match ops[i]? with
 | some o=>o.after.all fun e=> !(Region.binds .any e)||decide (e.on<i)
 | none=>true
theorem ufo{ops:Array Oper}(h:uyu ops=true):∀(i:Nat) (o:Oper),ops[i]? = some o->∀e∈o.after,Region.binds .any e=true->e.on<i:=by
 intro i o ho e he hb;unfold uyu at h;rw[aT]at h;have hi:i<ops.size:=(au.1 ho).1;have h1:=h i (aX.2 hi);rw[ho]at h1;have h2:=(Array.all_eq_true_iff_forall_mem.1 h1) e he;simpa[hb]using h2
section
variable {P:Program} {ops:Array Oper} {Q:Exit->Act->World->Prop}
theorem vA6{listed:Array Bool}{d:Nat->Bool}(a2:listed.size=ops.size)(hd:∀i,i<ops.size->listed[i]? = some (d i))
 (a0:∀(i:Nat) (o:Oper),ops[i]? = some o->∀e∈o.after,Region.binds .any e=true->e.on<i) {i:Nat} (hi:i<ops.size) (h1:d i=false) (h2:∀j,j<i->d j=true):i∈Region.ready .any ops listed:=by
 unfold Region.ready;rw[List.mem_filter];refine⟨aX.2 hi,?_⟩;have e1:listed.getD i true=false:=by rw[ak,hd i hi,h1];rfl
 obtain⟨o,ho⟩:∃o,ops[i]? = some o:=⟨ops[i],aR hi⟩;rw[e1,ho];simp only[Bool.not_false,Bool.true_and,Option.map_some,Option.getD_some];rw[Array.all_eq_true_iff_forall_mem];intro e he;cases hb:Region.binds .any e with
 | false=>simp
 | true=>
  have a1:=a0 i o ho e he hb;have e2:listed.getD e.on false=true:=by rw[ak,hd e.on (by omega),h2 e.on a1];rfl
  rw[e2];simp
theorem vAv{listed:Array Bool}{d:Nat->Bool}(hd:∀i,i<ops.size->listed[i]? = some (d i)){i:Nat}(h:i∈Region.ready .any ops listed)(a0:∀(i:Nat) (o:Oper),ops[i]? = some o->∀e∈o.after,Region.binds .any e=true->e.on<i) :
 ∃o,ops[i]? = some o/\d i=false/\∀e∈o.after,Region.binds .any e=true->d e.on=true:=by
 unfold Region.ready at h;rw[List.mem_filter]at h;obtain⟨h1,h2⟩:=h;have hi:i<ops.size:=aX.1 h1;obtain⟨o,ho⟩:∃o,ops[i]? = some o:=⟨ops[i],aR hi⟩;rw[ho,ak,hd i hi]at h2;simp only[Option.getD_some,Option.map_some,ax,Bool.not_eq_true']at h2;refine⟨o,ho,h2.1,fun e he hb=>?_⟩
 have h3:=(Array.all_eq_true_iff_forall_mem.1 h2.2) e he;have a1:=a0 i o ho e he hb;rw[ak,hd e.on (by omega)]at h3
 simpa[hb]using h3
theorem vAn{id:Nat}{a:Act}{w:World}(hm:P.follows .mixedOrders=true)
 (a5:∀(i:Nat) (o:Oper),ops[i]? = some o->∀e∈o.after,Region.binds .any e=true->e.on<i) (I:(Nat->Bool)->Act->World->Prop) (h0:I (fun _=>false) a w.drew)
 (b4:∀(d:Nat->Bool) (i:Nat) (o:Oper) (a:Act) (w:World),ops[i]? = some o->d i=false->(∀e∈o.after,Region.binds .any e=true->d e.on=true)->I d a w->wpOp P ops Q i (I (fun j=>d j||j==i)) a w)
 (a8:∀(d:Nat->Bool) (a:Act) (w:World),(∀i,i<ops.size->d i=true)->I d a w->Q .normal a w):(Code.region id ops true).wp P Q a w:=by
 have key:∀(a2:Nat) (listed:Array Bool) (d:Nat->Bool) (a:Act) (w:World),listed.size=ops.size->(∀i,i<ops.size->listed[i]? = some (d i))->I d a w ->
  (∃n,n+a2=ops.size/\∃l:List Nat,l.length=n/\l.Nodup/\∀i∈l,i<ops.size/\d i=true)->wpAny P .any ops Q a2 listed a w:=by
  intro a2;induction a2 with
  | zero=>
   intro listed d a w a7 hd hI hn;obtain⟨n,hn,l,hl,a6,a1⟩:=hn;have a3:∀i,i<ops.size->d i=true:=by
    intro i hi;cases a0:d i with
    | true=>rfl
    | false=>
     exfalso;have b3:i∉l:=fun h=>by have:=(a1 i h).2;rw[a0]at this;cases this
     have b2:(i::l).Nodup:=List.nodup_cons.2 ⟨b3,a6⟩;have b5:(i::l) ⊆ List.range ops.size:=by
      intro j hj;rcases List.mem_cons.1 hj with rfl|hj
      ·exact aX.2 hi
      ·exact aX.2 (a1 j hj).1
     have:=List.Nodup.length_le_of_subset b2 b5;simp at this;omega
   refine⟨?_,a8 d a w a3 hI⟩;rcases hr:Region.ready .any ops listed with _|⟨i,rs⟩
   ·rfl
   ·exfalso
    obtain⟨o,ho,a0,_⟩:=vAv hd (i:=i) (by rw[hr];exact List.mem_cons_self) a5
    have hi:i<ops.size:=(au.1 ho).1;rw[a3 i hi]at a0;cases a0
  | succ a2 ih=>
   intro listed d a w a7 hd hI hn;refine⟨fun hr=>?_,fun i hi=>?_⟩
   ·by_cases a3:∀i,i<ops.size->d i=true
    ·exact a8 d a w a3 hI
    ·exfalso
     obtain⟨i,hi,h1,h2⟩:=vA0 d ops.size a3;have:=vA6 a7 hd a5 hi h1 h2;rw[hr]at this;cases this
   ·obtain⟨o,ho,a0,b0⟩:=vAv hd hi a5
    have b1:i<ops.size:=(au.1 ho).1;refine wpOp_mono (fun a' w' a9=>ih (listed.setIfInBounds i true) (fun j=>d j||j==i) a' w' (by simpa using a7) ?_ a9 ?_) (b4 d i o a w ho a0 b0 hI)
    ·intro j hj
     by_cases a4:j=i
     ·subst a4
      rw[aO (by omega)]
      simp
     ·rw[Array.getElem?_setIfInBounds_ne (fun e=>a4 e.symm),hd j hj]
      simp[a4]
    ·obtain⟨n,hn,l,hl,a6,a1⟩:=hn
     refine⟨n+1,by omega,i::l,by simp[hl],List.nodup_cons.2 ⟨fun h=>?_,a6⟩,fun j hj=>?_⟩
     ·have:=(a1 i h).2;rw[a0]at this;cases this
     ·rcases List.mem_cons.1 hj with rfl|hj
      ·exact⟨b1,by simp⟩
      ·exact⟨(a1 j hj).1,by simp[(a1 j hj).2]⟩
 refine wp_region_any hm (key ops.size (Array.replicate ops.size false) (fun _=>false) a _ (by simp) (fun i hi=>by simp[hi]) h0 ⟨0,by omega,[],rfl,List.nodup_nil,fun i hi=>by cases hi⟩)
end
def ute(acc:Array Nat)(o:Oper):Nat:=o.after.toList.foldl (fun s e=>if Region.binds .any e then s|||(1<<<e.on)|||acc.getD e.on 0 else s) 0
def bgo:List Oper->Array Nat->Array Nat
 | [],acc=>acc
 | o::r,acc=>bgo r (acc.push (ute acc o))
def ua8(ops:Array Oper):Array Nat:=bgo ops.toList #[]
def uP(B:Array Nat)(i j:Nat):Bool:=(B.getD i 0).testBit j
def uvg(B:Array Nat)(ops:Array Oper)(n:Nat):Bool:=
 (List.range ops.size).all fun i=>decide (i<n)||(List.range i).all fun j=>uP B i j
def vAp(ops:Array Oper)(d:Nat->Bool):Prop:=∀(i:Nat) (o:Oper),ops[i]? = some o->d i=true->∀e∈o.after,Region.binds .any e=true->d e.on=true
def BOk(ops:Array Oper)(i m:Nat):Prop:=∀(d:Nat->Bool) (o:Oper),ops[i]? = some o->vAp ops d->(∀e∈o.after,Region.binds .any e=true->d e.on=true)->∀j,m.testBit j=true->d j=true
theorem uzr{ops:Array Oper}{acc:Array Nat}(h:∀i,i<acc.size->BOk ops i (acc.getD i 0))(a7:acc.size<=ops.size)(o:Oper)(i:Nat)(ho:ops[i]? = some o):BOk ops i (ute acc o):=by
 intro d o' a0 a2 hp j hj;rw[ho]at a0;injection a0 with a0;subst a0;unfold ute at hj;have key:∀(l:List Edge) (s:Nat),(∀e∈l,e∈o.after.toList)->(∀j,s.testBit j=true->d j=true)->∀j,(l.foldl (fun s e=>if Region.binds .any e then s|||(1<<<e.on)|||acc.getD e.on 0 else s) s).testBit j=true->d j=true:=by
  intro l;induction l with
  | nil=>intro s _ hs j hj;exact hs j hj
  | cons e l ih=>
   intro s hl hs j hj;rw[List.foldl_cons]at hj;refine ih _ (fun e' a1=>hl e' (aG _ a1)) ?_ j hj
   intro k hk;by_cases hb:Region.binds .any e=true
   ·rw[if_pos hb]at hk
    have a3:=hp e (by have:=hl e List.mem_cons_self;simpa using this) hb
    rw[Nat.testBit_or,Nat.testBit_or,aU,aU]at hk;rcases hk with(hk|hk)|hk
    ·exact hs k hk
    ·have a6:k=e.on:=by
      rw[Nat.testBit_shiftLeft]at hk;simp only[ax,aP]at hk;have h1:=hk.2;have h2:k-e.on=0:=by
       rcases hm:k-e.on with _|m
       ·rfl
       ·rw[hm,Nat.testBit_succ]at h1
        simp at h1
      omega
     rw[a6];exact a3
    ·rcases ah e.on acc.size with h1|h1
     ·have a4:e.on<ops.size:=by omega
      exact h e.on h1 d ops[e.on] (aR a4) a2 (fun e' a1 a5=>a2 e.on _ (aR a4) a3 e' a1 a5) k hk
     ·rw[ak,Array.getElem?_eq_none h1]at hk
      simp at hk
   ·rw[if_neg hb]at hk
    exact hs k hk
 exact key o.after.toList 0 (fun e he=>he) (fun j hj=>by simp at hj) j hj
theorem uCl{ops:Array Oper}:∀(l:List Oper) (acc:Array Nat),(∀k o,l[k]? = some o->ops[acc.size+k]? = some o)->acc.size+l.length=ops.size->(∀i,i<acc.size->BOk ops i (acc.getD i 0)) ->
 ∀i,i<ops.size->BOk ops i ((bgo l acc).getD i 0)
 | [],acc,_,hsz,h,i,hi=>h i (by simp at hsz;omega)
 | o::r,acc,hl,hsz,h,i,hi=>by
  rw[bgo];have ho:ops[acc.size]? = some o:=by have:=hl 0 o rfl;simpa using this
  refine uCl r _ (fun k o' hk=>?_) (by simp at hsz ⊢;omega) (fun k hk=>?_) i hi
  ·have:=hl (k+1) o' (by simpa using hk)
   rw[Array.size_push];rw[show acc.size+1+k=acc.size+(k+1) from by omega]
   exact this
  ·rw[Array.size_push]at hk
   rcases ah k acc.size with h1|h1
   ·have e:(acc.push (ute acc o)).getD k 0=acc.getD k 0:=by
     rw[ak,ak,Array.getElem?_push,if_neg (by omega)]
    rw[e];exact h k h1
   ·obtain rfl:k=acc.size:=by omega
    have e:(acc.push (ute acc o)).getD acc.size 0=ute acc o:=by
     rw[ak,Array.getElem?_push,if_pos rfl];rfl
    rw[e];exact uzr h (by simp at hsz;omega) o _ ho
theorem uM{ops:Array Oper}{d:Nat->Bool}(a0:vAp ops d){i j:Nat}{o:Oper}(ho:ops[i]? = some o)(hp:∀e∈o.after,Region.binds .any e=true->d e.on=true)(h:uP (ua8 ops) i j=true):d j=true:=by
 have hi:i<ops.size:=(au.1 ho).1;exact uCl ops.toList #[] (fun k o hk=>by simpa using hk) (by simp) (fun i hi=>absurd hi (by simp)) i hi d o ho a0 hp j h
def uq2(d:Nat->Bool)(j:Nat):Nat->Bool:=fun k=>d k||k==j
section
variable {P:Program} {ops:Array Oper} {Q:Exit->Act->World->Prop}
def RlD(a0:Act)(R:(Nat->Bool)->World->Prop)(vAa:List Nat)(F:(Nat->Bool)->Nat->Value->World->Prop)(d:Nat->Bool)(a:Act)(x:World):Prop:=
 ∃(s:Nat->Value),a=uj a0 vAa 0 s/\R d x/\∀i,i<vAa.length->d i=true->F d i (s i) x
theorem ula{id:Nat}{a0:Act}{w0:World}(hm:P.follows .mixedOrders=true)
 (b9:uyu ops=true) (vAa:List Nat) (b2:(ucw ops vAa&&uvg (ua8 ops) ops vAa.length&&decide vAa.Nodup&&decide (vAa.length<=ops.size))=true)
 (R:(Nat->Bool)->World->Prop) (G:Nat->World->World->Prop) (F:(Nat->Bool)->Nat->Value->World->Prop) (h0:R (fun _=>false) w0.drew) (hR:∀d j x x',R d x->d j=false->G j x x'->R (uq2 d j) x')
 (c0:∀d i j v x x',i<vAa.length->j<vAa.length->i≠j->d i=true->d j=false->(∀k,uP (ua8 ops) j k=true->d k=true)->F d i v x->G j x x'->F (uq2 d j) i v x')
 (step:∀(i:Nat) (o:Oper) (s:Nat->Value) (d:Nat->Bool) (x:World),ops[i]? = some o->i<vAa.length->d i=false->R d x ->
  (∀j,uP (ua8 ops) i j=true->j<vAa.length->d j=true/\F d j (s j) x) ->
  ua5 P ops Q i (fun a' x'=>∃v,a'=(uj a0 vAa 0 s).put (some (vAa.getD i 0)) v/\F (uq2 d i) i v x'/\G i x x') (uj a0 vAa 0 s) x)
 (fin:∀(s:Nat->Value) (d:Nat->Bool) (x:World),R d x->(∀i,i<vAa.length->d i=true/\F d i (s i) x)->wpList P ops Q (ops.toList.drop vAa.length) (uj a0 vAa 0 s) x) :
 (Code.region id ops true).wp P Q a0 w0:=by
 simp only[ax,aP]at b2;obtain⟨⟨⟨c1,b7⟩,b1⟩,c2⟩:=b2;have hl:=ufo b9;have b8:∀i,i<ops.size->vAa.length<=i->∀j,j<i->uP (ua8 ops) i j=true:=by
  intro i hi hn j hj;have h1:=aT.1 b7 i (aX.2 hi);simp only[aU,aP]at h1;rcases h1 with h1|h1
  ·omega
  ·exact aT.1 h1 j (aX.2 hj)
 refine vAn hm hl (fun d a x=>vAp ops d /\
  (((∀j,vAa.length<=j->d j=false)/\RlD a0 R vAa F d a x)\/(∃k,vAa.length<k/\(∀j,d j=decide (j<k))/\wpList P ops Q (ops.toList.drop k) a x))) ?_ ?_ ?_
 ·refine⟨(fun i o _ h=>by cases h),.inl ⟨fun _ _=>rfl,?_⟩⟩
  obtain⟨s,hs⟩:=ua4 vAa a0 0 b1;exact⟨s,hs.symm,h0,fun i _ h=>by cases h⟩
 ·rintro d i o a x ho a2 a4 ⟨a3,hI⟩
  have hi:i<ops.size:=(au.1 ho).1;have a9:vAp ops (fun k=>d k||k==i):=by
   intro k o' a5 hk e he hb;rw[aU]at hk ⊢;rcases hk with hk|hk
   ·exact .inl (a3 k o' a5 hk e he hb)
   ·have:k=i:=by simpa using hk
    subst this;rw[ho]at a5;injection a5 with a5;subst a5;exact .inl (a4 e he hb)
  rcases ah i vAa.length with hin|hin
  ·rcases hI with⟨hnone,s,rfl,hbx,hF⟩|⟨k,hk,hdk,hw⟩
   ·refine wpOp_mono ?_ (step i o s d x ho hin a2 hbx fun j hj b5=>⟨uM a3 ho a4 hj,hF j b5 (uM a3 ho a4 hj)⟩).out
    rintro a' x'⟨v,rfl,b3,a8⟩;refine⟨a9,.inl ⟨fun j hj=>?_,?_⟩⟩
    ·have:(j==i)=false:=by rw[aw];omega
     show(d j||j==i)=false
     rw[hnone j hj,this];rfl
    ·refine⟨fun j=>if j=i then v else s j,?_,hR d i x x' hbx a2 a8,?_⟩
     ·have ht:vAa[i]? = some (vAa.getD i 0):=by rw[aj,ai hin];rfl
      rw[ubi vAa a0 0 i s (vAa.getD i 0) v b1 ht,Nat.zero_add]
     ·intro j hj a6
      by_cases a7:j=i
      ·subst a7
       simp only[if_true];exact b3
      ·simp only[if_neg a7]
       have b0:d j=true:=by
        rw[aU]at a6;rcases a6 with h|h
        ·exact h
        ·exact absurd (by simpa using h) a7
       exact c0 d j i _ x x' hj hin a7 b0 a2 (fun k hk=>uM a3 ho a4 hk) (hF j hj b0) a8
   ·rw[hdk i]at a2
    simp at a2;omega
  ·have a1:∀j,j<i->d j=true:=fun j hj=>uM a3 ho a4 (b8 i hi hin j hj)
   have key:∃w',w'=wpList P ops Q (ops.toList.drop i) a x/\w':=by
    refine⟨_,rfl,?_⟩;rcases hI with⟨hnone,s,rfl,hbx,hF⟩|⟨k,hk,hdk,hw⟩
    ·have b4:i=vAa.length:=by
      rcases ah vAa.length i with h|h
      ·have:=a1 vAa.length h;rw[hnone _ ab]at this;cases this
      ·omega
     rw[b4];exact fin s d x hbx fun j hj=>⟨a1 j (by omega),hF j hj (a1 j (by omega))⟩
    ·have:i=k:=by
      rcases Nat.lt_trichotomy i k with h|h|h
      ·rw[hdk i]at a2;simp at a2;omega
      ·exact h
      ·have:=a1 k h;rw[hdk k]at this;simp at this
     rw[this];exact hw
   obtain⟨_,rfl,key⟩:=key;rw[vA1 ho]at key;refine wpOp_mono ?_ (vAd ho key);intro a' x' hw;refine⟨a9,.inr ⟨i+1,by omega,fun j=>?_,hw⟩⟩
   show(d j||j==i)=_
   rcases Nat.lt_trichotomy j i with h|h|h
   ·rw[a1 j h];simp;omega
   ·subst h;simp
   ·have a6:d j=false:=by
     rcases hI with⟨hnone,_⟩|⟨k,hk,hdk,hw⟩
     ·exact hnone j (by omega)
     ·rw[hdk i]at a2;rw[hdk j];simp at a2 ⊢;omega
    rw[a6];have:(j==i)=false:=by rw[aw];omega
    rw[this];simp;omega
 ·rintro d a x a1 ⟨a3,hI⟩
  rcases hI with⟨hnone,s,rfl,hbx,hF⟩|⟨k,hk,hdk,hw⟩
  ·have hn:vAa.length=ops.size:=by
    rcases ah vAa.length ops.size with h|h
    ·have:=a1 _ h;rw[hnone _ ab]at this;cases this
    ·omega
   have:=fin s d x hbx fun j hj=>⟨a1 j (by omega),hF j hj (a1 j (by omega))⟩
   rw[hn,List.drop_of_length_le (by simp)]at this
   exact this
  ·have b6:ops.size<=k:=by
    rcases ah k ops.size with h|h
    ·have:=a1 k h;rw[hdk k]at this;simp at this
    ·exact h
   rw[List.drop_of_length_le (by simpa using b6)]at hw
   exact hw
end
open Go Go.RowKit Go.Proofs
theorem ucx:∀(l:List Nat) (a:Act) (k i:Nat) (s:Nat->Value) (t:Nat),l.Nodup->(∀u∈l,u<a.tmps.size)->l[i]? = some t->(uj a l k s).tmps[t]? = some (s (k+i))
 | [],_,_,_,_,_,_,_,h=>by simp at h
 | u::r,a,k,0,s,t,hn,hs,h=>by
  simp only[List.getElem?_cons_zero,Option.some.injEq]at h;subst h;unfold uj;rw[ugh r _ (k+1) s u (s k) (List.nodup_cons.1 hn).1 |>.symm]
  unfold Act.put;simp only;have a0:∀(l:List Nat) (a:Act) (k:Nat),(uj a l k s).tmps.size=a.tmps.size:=by
   intro l;induction l with
   | nil=>intro a k;rfl
   | cons t r ih=>intro a k;unfold uj;rw[ih];simp[Act.put]
  rw[aO (by rw[a0];exact hs u List.mem_cons_self)]
  rfl
 | u::r,a,k,i+1,s,t,hn,hs,h=>by
  unfold uj;rw[List.getElem?_cons_succ]at h;have:=ucx r (a.put (some u) (s k)) (k+1) i s t (List.nodup_cons.1 hn).2 (fun v hv=>by simpa[Act.put]using hs v (aG _ hv)) h
  rw[this,show k+1+i=k+(i+1) from by omega]
theorem ucy:∀(l:List Nat) (a:Act) (k:Nat) (s:Nat->Value) (t:Nat),t∉l->(uj a l k s).tmps[t]? = a.tmps[t]?
 | [],_,_,_,_,_=>rfl
 | u::r,a,k,s,t,h=>by
  unfold uj;rw[ucy r _ (k+1) s t (fun hm=>h (aG _ hm))]
  unfold Act.put;simp only;rw[Array.getElem?_setIfInBounds_ne (fun e=>h (by rw[e];exact List.mem_cons_self))]
def ulb(P:Program)(T:TypeId)(f:Nat):Option Nat:=match P.underlying T with
 | some (.struct fs)=>match fs[f]? with
  | some z=>match P.info? z.type with
   | some q=>if q.size=0 then none else some z.offset
   | none=>none
  | none=>none
 | _=>none
def upf(P:Program)(T:TypeId):Bool:=match P.underlying T with
 | some d=> !d.isRow
 | none=>false
def upg(P:Program)(T:TypeId):Option Nat:=match P.underlying T with
 | some d=>if d.isRow then(P.info? T).map (·.size)else none
 | none=>none
def uar(P:Program)(T:TypeId):Option Nat:=match P.underlying T with
 | some (.slice e)=>(P.info? e).map (·.size)
 | _=>none
def elemOf(P:Program)(T:TypeId):Option TypeId:=match P.underlying T with
 | some (.slice e)=>some e
 | _=>none
def uq3(P:Program)(T:TypeId)(n:Nat)(parts:List (Nat×Value)):Option (TypeId×List Value):=match P.underlying T with
 | some (.slice e)=>match P.info? e with
  | some ie=>match ie.zero with
   | some z=>if n*ie.size>2^24\/n*ie.size=0 then none else
    (Instr.fill (fun i=>some (i*ie.size,ie.size)) ((Array.range (n*ie.size)).map (z.cells[· % z.cells.size]!)) parts).map fun c=>(e,c.toList)
   | none=>none
  | none=>none
 | _=>none
def uim(P:Program)(f:FuncId):Bool:=match P.funcs[f]? with
 | some fn=> !(fn.name == "runtime.NumGoroutine")&&fn.body.isSome
 | none=>false
theorem utf{P:Program}{f:FuncId}(h:uim P f=true)(args:Array Value)(w:World):(callFunc f args).run P w = .ok (.enter f args) w:=by
 unfold uim at h;cases hf:P.funcs[f]? with
 | none=>rw[hf]at h;cases h
 | some fn=>
  rw[hf]at h;simp only[ax,Bool.not_eq_true']at h;obtain⟨c,hc⟩:=Option.isSome_iff_exists.1 h.2;exact enters_of hf h.1 hc args w
section
variable {P:Program} {ops:Array Oper} {Q:Exit->Act->World->Prop}
theorem ufp{id:Nat}{a0:Act}{w0:World}(hm:P.follows .mixedOrders=true)
 (a4:uyu ops=true) (vAa:List Nat) (a1:(ucw ops vAa&&uvg (ua8 ops) ops vAa.length&&decide vAa.Nodup&&decide (vAa.length<=ops.size))=true) (a6:vAa.all (fun t=>decide (t<a0.tmps.size))=true)
 (R:(Nat->Bool)->World->Prop) (G:Nat->World->World->Prop) (F:(Nat->Bool)->Nat->Value->World->Prop) (h0:R (fun _=>false) w0.drew) (hR:∀d j x x',R d x->d j=false->G j x x'->R (uq2 d j) x')
 (a7:∀d i j v x x',i<vAa.length->j<vAa.length->i≠j->d i=true->d j=false->(∀k,uP (ua8 ops) j k=true->d k=true)->F d i v x->G j x x'->F (uq2 d j) i v x')
 (step:∀(i:Nat) (o:Oper) (s:Nat->Value) (d:Nat->Bool) (x:World) (a:Act),ops[i]? = some o->i<vAa.length->d i=false->R d x ->
  (∀j,uP (ua8 ops) i j=true->j<vAa.length->d j=true/\F d j (s j) x) ->
  (∀j,j<vAa.length->a.tmps[vAa.getD j 0]? = some (s j))->(∀t,t∉vAa->a.tmps[t]? = a0.tmps[t]?) ->
  ua5 P ops Q i (fun a' x'=>∃v,a'=a.put (some (vAa.getD i 0)) v/\F (uq2 d i) i v x'/\G i x x') a x)
 (fin:∀(s:Nat->Value) (d:Nat->Bool) (x:World),R d x->(∀i,i<vAa.length->d i=true/\F d i (s i) x)->wpList P ops Q (ops.toList.drop vAa.length) (uj a0 vAa 0 s) x) :
 (Code.region id ops true).wp P Q a0 w0:=by
 have a5:vAa.Nodup:=by
  simp only[ax,aP]at a1;exact a1.1.2
 have a3:∀t∈vAa,t<a0.tmps.size:=fun t ht=>by
  have:=aT.1 a6 t ht;simpa using this
 refine ula hm a4 vAa a1 R G F h0 hR a7 (fun i o s d x ho hi hd hr a2=>step i o s d x _ ho hi hd hr a2 (fun j hj=>?_) fun t ht=>ucy vAa a0 0 s t ht) fin
 have ht:vAa[j]? = some (vAa.getD j 0):=by rw[aj,ai hj];rfl
 have:=ucx vAa a0 0 j s _ a5 a3 ht;rw[Nat.zero_add]at this;exact this
theorem ug7{id:Nat}{a0:Act}{w0:World}
 (b1:uyu ops=true) (vAa:List Nat) (a7:(ucw ops vAa&&decide vAa.Nodup&&decide (vAa.length<=ops.size))=true) (b4:vAa.all (fun t=>decide (t<a0.tmps.size))=true)
 (R:(Nat->Bool)->World->Prop) (G:Nat->World->World->Prop) (F:(Nat->Bool)->Nat->Value->World->Prop) (h0:R (fun _=>false) w0) (hR:∀d j x x',R d x->d j=false->G j x x'->R (uq2 d j) x')
 (b5:∀d i j v x x',i<vAa.length->j<vAa.length->i≠j->d i=true->d j=false->(∀k,uP (ua8 ops) j k=true->d k=true)->F d i v x->G j x x'->F (uq2 d j) i v x')
 (step:∀(i:Nat) (o:Oper) (s:Nat->Value) (d:Nat->Bool) (x:World) (a:Act),ops[i]? = some o->i<vAa.length->d i=false->R d x ->
  (∀j,uP (ua8 ops) i j=true->j<vAa.length->d j=true/\F d j (s j) x) ->
  (∀j,j<vAa.length->a.tmps[vAa.getD j 0]? = some (s j))->(∀t,t∉vAa->a.tmps[t]? = a0.tmps[t]?) ->
  ua5 P ops Q i (fun a' x'=>∃v,a'=a.put (some (vAa.getD i 0)) v/\F (uq2 d i) i v x'/\G i x x') a x)
 (fin:∀(s:Nat->Value) (d:Nat->Bool) (x:World),R d x->(∀i,i<vAa.length->d i=true/\F d i (s i) x)->wpList P ops Q (ops.toList.drop vAa.length) (uj a0 vAa 0 s) x) :
 (Code.region id ops false).wp P Q a0 w0:=by
 simp only[ax,aP]at a7;obtain⟨⟨b6,a3⟩,b9⟩:=a7;have hl:=ufo b1;have a9:∀t∈vAa,t<a0.tmps.size:=fun t ht=>by
  have:=aT.1 b4 t ht;simpa using this
 refine wp_region_list ?_;obtain⟨s0,b3⟩:=ua4 vAa a0 0 a3;have upd:∀(k:Nat),(fun j=>decide (j<k+1))=uq2 (fun j=>decide (j<k)) k:=fun k=>by
  funext j
  unfold uq2;rw[Bool.eq_iff_iff];simp only[aP,aU,beq_iff_eq];omega
 have key:∀(m k:Nat) (s:Nat->Value) (x:World),k+m=vAa.length->R (fun j=>decide (j<k)) x->(∀i,i<k->F (fun j=>decide (j<k)) i (s i) x)->wpList P ops Q (ops.toList.drop k) (uj a0 vAa 0 s) x:=by
  intro m;induction m with
  | zero=>
   intro k s x hk hr hF;have a6:k=vAa.length:=by omega
   rw[a6];exact fin s _ x hr fun i hi=>⟨by rw[a6];simpa using hi,hF i (by omega)⟩
  | succ m ih=>
   intro k s x hk hr hF;have a2:k<vAa.length:=by omega
   have b0:k<ops.size:=by omega
   have ho:ops[k]? = some ops[k]:=aR b0;have a4:vAp ops (fun j=>decide (j<k)):=by
    intro i o b2 hi e he hb;have:=hl i o b2 e he hb;have b7:i<k:=by simpa using hi
    simp only[aP];omega
   have h1:=step k _ s (fun j=>decide (j<k)) x (uj a0 vAa 0 s) ho a2 (by simp) hr (fun j hj b8=>by
    have a5:decide (j<k)=true:=uM a4 ho (fun e he hb=>by simpa using hl k _ ho e he hb) hj
    exact⟨a5,hF j (by simpa using a5)⟩) (fun j hj=>by
    have ht:vAa[j]? = some (vAa.getD j 0):=by rw[aj,ai hj];rfl
    have:=ucx vAa a0 0 j s _ a3 a9 ht;rw[Nat.zero_add]at this;exact this) fun t ht=>ucy vAa a0 0 s t ht
   have h2:wpOp P ops Q k (wpList P ops Q (ops.toList.drop (k+1))) (uj a0 vAa 0 s) x:=by
    refine wpOp_mono ?_ h1.out;rintro a' x'⟨v,rfl,a8,hG⟩;have ht:vAa[k]? = some (vAa.getD k 0):=by rw[aj,ai a2];rfl
    rw[ubi vAa a0 0 k s (vAa.getD k 0) v a3 ht,Nat.zero_add];refine ih (k+1) _ x' (by omega) ?_ ?_
    ·rw[upd k];exact hR _ k x x' hr (by simp) hG
    ·intro i hi
     rw[upd k];by_cases a1:i=k
     ·subst a1
      simp only[if_true];exact a8
     ·simp only[if_neg a1]
      exact b5 _ i k _ x x' (by omega) a2 a1 (by simp;omega) (by simp) (fun m hm=>uM a4 ho (fun e he hb=>by simpa using hl k _ ho e he hb) hm) (hF i (by omega)) hG
   rw[vA1 ho];unfold wpOp at h2;rw[ho]at h2;exact h2
 have:=key vAa.length 0 s0 w0 (by omega) (by simpa using h0) (fun i hi=>absurd hi (by omega))
 rw[b3]at this;simpa using this
theorem ev{a:Act}{t:Nat}{v:Value}(h:a.tmps[t]? = some v):a.eval (.tmp t)=v:=by
 show a.tmps.getD t undef=v
 rw[ak,h];rfl
section
variable {i:Nat} {o:Oper} {I:Act->World->Prop} {a:Act} {w:World}
theorem uvh(ho:ops[i]? = some o)(hw:Region.wanted o (yielded ops a.tmps)=true)(h:o.wp P a w I Q):ua5 P ops Q i I a w:=by
 refine ua5.of ?_;unfold wpOp;rw[ho];simp only[hw,if_true];exact .inl h
theorem ubr(ho:ops[i]? = some o)(hw:Region.wanted o (yielded ops a.tmps)=true){v:Value}{w':World}(hr:(execOp a.eval o).run P w = .ok (.value v) w')(h:I (a.put o.dst v) w'):ua5 P ops Q i I a w:=
 uvh ho hw (by unfold Oper.wp;rw[hr];exact h)
theorem uq4{j:Nat}{want:Bool}(hg:o.guard=some (j,want))(t:Nat)(hd:(ops[j]?).bind (·.dst)=some t)(hv:a.tmps[t]? = some (.bool want)):Region.wanted o (yielded ops a.tmps)=true:=by
 have hy:yielded ops a.tmps j=some want:=by
  unfold yielded;rw[hd];show(match a.tmps[t]? with|some (.bool b)=>some b|_=>none)=some want
  rw[hv]
 unfold Region.wanted;rw[hg];simp[hy]
theorem uvi{j:Nat}{want:Bool}(ho:ops[i]? = some o)(hg:o.guard=some (j,want))(t:Nat)(hd:(ops[j]?).bind (·.dst)=some t)(hv:a.tmps[t]? = some (.bool (!want)))(h:I (a.put o.dst undef) w):ua5 P ops Q i I a w:=
 ui ho hg t hd hv h
theorem uq5{j:Nat}{want:Bool}(ho:ops[i]? = some o)(hg:o.guard=some (j,want))(t:Nat)(hd:(ops[j]?).bind (·.dst)=some t)(hv:a.tmps[t]? = some undef)(h:I (a.put o.dst undef) w):ua5 P ops Q i I a w:=by
 refine ua5.of ?_;have hy:yielded ops a.tmps j=none:=by
  unfold yielded;rw[hd];show(match a.tmps[t]? with|some (.bool b)=>some b|_=>none)=none
  rw[hv];rfl
 unfold wpOp;rw[ho];have hw:Region.wanted o (yielded ops a.tmps)=false:=by
  unfold Region.wanted;rw[hg];simp[hy]
 simp only[hw];exact h
theorem uDp(ho:ops[i]? = some o)(hw:Region.wanted o (yielded ops a.tmps)=true)(x:Operand)(a0:o.op = .move x){v:Value}(hx:a.eval x=v)(h:I (a.put o.dst v) w):ua5 P ops Q i I a w:=
 ubr ho hw (by unfold execOp;rw[a0];simp only[hx];rfl) h
theorem uvj(ho:ops[i]? = some o)(hw:Region.wanted o (yielded ops a.tmps)=true)(x:Operand)(a0:o.op = .assign x){v:Value}(hx:a.eval x=v)(h:I (a.put o.dst v) w):ua5 P ops Q i I a w:=
 ubr ho hw (by unfold execOp;rw[a0];simp only[hx];rfl) h
theorem uph(ho:ops[i]? = some o)(hw:Region.wanted o (yielded ops a.tmps)=true)(c x y:Operand)(a0:o.op = .pick c x y)(b:Bool)(hc:a.eval c = .bool b){v:Value}(hx:a.eval (if b then x else y)=v)(h:I (a.put o.dst v) w):ua5 P ops Q i I a w:=by
 refine ubr ho hw ?_ h;unfold execOp;rw[a0];simp only[hc];cases b<;>(simp only[Bool.false_eq_true,if_true,if_false]at hx;simp only[hx];rfl)
theorem uGe(ho:ops[i]? = some o)(hw:Region.wanted o (yielded ops a.tmps)=true)(T:TypeId)(x:Operand)(a0:o.op = .unOp .not T x)(b:Bool)(hx:a.eval x = .bool b)(h:I (a.put o.dst (.bool (!b))) w):ua5 P ops Q i I a w:=
 ubr ho hw (by unfold execOp;rw[a0];simp only[hx];rfl) h
theorem uCn(ho:ops[i]? = some o)(hw:Region.wanted o (yielded ops a.tmps)=true)(x:Operand)(a0:o.op = .nilCheck x)(p:Addr)(hx:a.eval x = .pointer (some p))(h:I (a.put o.dst (.pointer (some p))) w):ua5 P ops Q i I a w:=
 ubr ho hw (by unfold execOp;rw[a0];simp only[hx];rfl) h
def ulc:BinOp->Int->Int->Option Bool
 | .eql,m,n=>some (m==n)
 | .neq,m,n=>some (m != n)
 | .lss,m,n=>some (decide (m<n))
 | .leq,m,n=>some (decide (m<=n))
 | .gtr,m,n=>some (decide (n<m))
 | .geq,m,n=>some (decide (n<=m))
 | _,_,_=>none
theorem uq6(ho:ops[i]? = some o)(hw:Region.wanted o (yielded ops a.tmps)=true)(op:BinOp)(T U:TypeId)(x y:Operand)(a0:o.op = .binOp op T x y U)(k:IntKind)(m n:Int)(hx:a.eval x = .int k m)(hy:a.eval y = .int k n)(b:Bool)(hb:ulc op m n=some b)(h:I (a.put o.dst (.bool b)) w):ua5 P ops Q i I a w:=by
 refine ubr ho hw ?_ h;unfold execOp;rw[a0];simp only[hx,hy];cases op<;>simp[ulc]at hb<;>subst hb<;>simp[eqGuard,binOp,Op.intCmp,aD]
theorem uvk(ho:ops[i]? = some o)(hw:Region.wanted o (yielded ops a.tmps)=true)(x:Operand)(T:TypeId)(a0:o.op = .call { callee:= .builtin .len,args:=#[x],argTypes:=#[T] }) (A:Option Addr) (n c:Nat) (hx:a.eval x = .slice A n c) (hs:(uar P T).isSome=true) (h:I (a.put o.dst (.int .i64 n)) w):ua5 P ops Q i I a w:=by
 refine ubr ho hw ?_ h;unfold execOp;rw[a0];unfold uar at hs;split at hs
 ·rename_i e hu
  simp[resolve,invoke,hx,builtin,aD,Builtin.len_,run_underlying hu,goInt]
 ·cases hs
theorem uzs(ho:ops[i]? = some o)(hw:Region.wanted o (yielded ops a.tmps)=true)(T:TypeId)(x:Operand)(f k:Nat)(a0:o.op = .fieldAddr T x f)(b off:Nat)(hx:a.eval x = .pointer (some ⟨b,off,none⟩))(hk:ulb P T f=some k)(h:I (a.put o.dst (.pointer (some ⟨b,off+k,none⟩))) w):ua5 P ops Q i I a w:=by
 refine ubr ho hw ?_ h;unfold execOp;rw[a0];unfold ulb at hk;split at hk
 ·rename_i fs hu
  split at hk
  ·rename_i z hz
   split at hk
   ·rename_i q hq
    split at hk
    ·cases hk
    ·rename_i hs
     injection hk with hk;subst hk;simp[hx,Instr.fieldAt,aD,run_underlying hu,hz,Instr.sureAddr,fieldPlace,Go.sizeOf,typeInfo,hq,hs,Addr.add_mid]
   ·cases hk
  ·cases hk
 ·cases hk
theorem uzt(ho:ops[i]? = some o)(hw:Region.wanted o (yielded ops a.tmps)=true)(T:TypeId)(x:Operand)(a1:o.op = .load T x)(p:Addr)(hx:a.eval x = .pointer (some p))(hs:upf P T=true){v:Value}(hc:w.cell? p=some v)(h:I (a.put o.dst v) w):ua5 P ops Q i I a w:=by
 refine ubr ho hw ?_ h;unfold execOp;rw[a1];unfold upf at hs;split at hs
 ·rename_i d hu
  have a0:(isAgg T).run P w = .ok false w:=by
   unfold isAgg;rw[aD,run_underlying hu w];cases d<;>simp_all [TypeDesc.isRow]
  simp[hx,Instr.loadAt,Instr.sureAddr,aD,loadVar,a0,hc]
 ·cases hs
theorem uzu(ho:ops[i]? = some o)(hw:Region.wanted o (yielded ops a.tmps)=true)(T:TypeId)(x:Operand)(a0:o.op = .load T x)(b off:Nat)(hx:a.eval x = .pointer (some ⟨b,off,none⟩))(cs:List Value)(hs:upg P T=some cs.length)(hc:w.rangeAt b off cs)(h:I (a.put o.dst (.agg cs.toArray)) w):ua5 P ops Q i I a w:=by
 unfold upg at hs;split at hs
 ·rename_i d hu
  by_cases hd:d.isRow=true
  ·rw[if_pos hd]at hs
   exact uvh ho hw (wp_load_mid T x a0 b off hx cs d hc hu hd hs h)
  ·rw[if_neg hd]at hs;cases hs
 ·cases hs
theorem uld(ho:ops[i]? = some o)(hw:Region.wanted o (yielded ops a.tmps)=true)(T:TypeId)(x ix:Operand)(a1:o.op = .indexAddr T x ix)(b off n c:Nat)(hx:a.eval x = .slice (some ⟨b,off,none⟩) n c)(k:IntKind)(m:Nat)(hi:a.eval ix = .int k m)(sz:Nat)(hs:uar P T=some sz)(h1:m<n)(h:I (a.put o.dst (.pointer (some ⟨b,off+m*sz,none⟩))) w):ua5 P ops Q i I a w:=by
 refine ubr ho hw ?_ h;unfold execOp;rw[a1];unfold uar at hs;split at hs
 ·rename_i e hu
  cases hq:P.info? e with
  | none=>simp[hq]at hs
  | some q=>
   rw[hq]at hs;simp at hs;have a0:(m:Int)<n:=by omega
   have h0:(0:Int)<=m:=by omega
   simp[hx,hi,Instr.indexAt,aD,run_underlying hu,h0,a0,Go.sizeOf,typeInfo,hq,hs,asIntOf,Addr.add_mid,h1]
 ·cases hs
theorem ok_slice(ho:ops[i]? = some o)(hw:Region.wanted o (yielded ops a.tmps)=true)(T:TypeId)(x lo:Operand)(a0:o.op = .slice T x (some lo) none none)(b off n c m:Nat)(hx:a.eval x = .slice (some ⟨b,off,none⟩) n c)(hi:a.eval lo = .int .i64 m)(sz:Nat)(hs:uar P T=some sz)(h1:m<=n){v:Value}(hv:v = .slice (some ⟨b,if c=m then off else off+m*sz,none⟩) (n-m) (c-m))(h:I (a.put o.dst v) w):ua5 P ops Q i I a w:=by
 refine ubr ho hw ?_ h;unfold execOp;rw[a0];unfold uar at hs;split at hs
 ·rename_i e hu
  cases hq:P.info? e with
  | none=>simp[hq]at hs
  | some q=>
   rw[hq]at hs;simp at hs;simp[hx,hi,Instr.sliceAt,Instr.slice,aD,run_underlying hu,Go.sizeOf,typeInfo,hq,hs,Instr.sliceBounds,Instr.sliceBound,asIntOf,h1,Addr.add_mid];rw[hv];split<;>rfl
 ·cases hs
theorem uj3(ho:ops[i]? = some o)(hw:Region.wanted o (yielded ops a.tmps)=true)(x:Operand)(k:Nat)(a0:o.op = .extract x k)(vs:Array Value)(hx:a.eval x = .tuple vs){v:Value}(hv:vs[k]? = some v)(h:I (a.put o.dst v) w):ua5 P ops Q i I a w:=by
 refine ubr ho hw ?_ h;unfold execOp;rw[a0];simp[hx,Instr.extract,aD,hv]
theorem uq7(ho:ops[i]? = some o)(hw:Region.wanted o (yielded ops a.tmps)=true)(T:TypeId)(n:Nat)(parts:List (Nat×Operand))(a0:o.op = .buildSlice T n parts.toArray)(pv:List (Nat×Value))(hp:parts.map (fun z=>(z.1,a.eval z.2))=pv)(e:TypeId)(cells:List Value)(hb:uq3 P T n pv=some (e,cells))
 (h:I (a.put o.dst (.slice (some ⟨w.heap.size,0,none⟩) n n)) (w.alloc (.cells cells.toArray e))):ua5 P ops Q i I a w:=by
 unfold uq3 at hb;split at hb
 ·rename_i e' hu
  split at hb
  ·rename_i ie hie
   split at hb
   ·rename_i z hz
    split at hb
    ·cases hb
    ·rename_i hn
     simp only[not_or]at hn;cases hf:Instr.fill (fun i=>some (i*ie.size,ie.size)) ((Array.range (n*ie.size)).map (z.cells[· % z.cells.size]!)) pv with
     | none=>rw[hf]at hb;cases hb
     | some c=>
      rw[hf]at hb;simp only[Option.map_some,Option.some.injEq,Prod.mk.injEq]at hb;obtain⟨rfl,rfl⟩:=hb;refine uvh ho hw (wp_buildSlice T e' n _ a0 c ie z hu hie hz hn.1 hn.2 ?_ (by simpa using h))
      have:(parts.toArray.map fun(i,x)=>(i,a.eval x)).toList=pv:=by
       rw[<-hp];simp
      rw[this];exact hf
   ·cases hb
  ·cases hb
 ·cases hb
theorem uvl(ho:ops[i]? = some o)(hw:Region.wanted o (yielded ops a.tmps)=true)(f:FuncId)(args:List Operand)(a0:Array TypeId)(a2:o.op = .call { callee:= .value (.func f),args:=args.toArray,argTypes:=a0 }) (hf:uim P f=true) (vs:List Value) (a1:args.map a.eval=vs)
 {R:Ending->World->Prop} (K:Calls P f vs.toArray w R) (h:∀e w',R e w'->∃v,e = .returned v/\I (a.put o.dst v) w'):ua5 P ops Q i I a w:=by
 refine uvh ho hw ?_;unfold Oper.wp execOp;rw[a2];have hm:args.toArray.map a.eval=vs.toArray:=by rw[<-a1];simp
 simp only[resolve,hm,aD];have hr:=utf hf vs.toArray w;simp[Deferred.ofValue,Act.eval,invoke,hr];rw[Oper.upon_enter];refine K.mono ?_;intro e w' hR;obtain⟨v,rfl,hI⟩:=h e w' hR;exact hI
end
end
end AC
