/-
 The reference's reader: its state;what a struct and a list that are read leave,wherever they lie.
-/
import Derived.Test.YtellcholbkoakaaGreatDoorHCRa
import Derived.Handy
namespace Go.Proofs.YtellcholbkoakaaGreatDoor
open Go.Lib (hid)
open Go.RowKit AC
set_option linter.unusedVariables false
set_option linter.unusedSimpArgs false
def Vst(w:World)(br:Nat)(str:ByteArray)(o:Option (List UInt8)):Prop:=
 ∃(pos:Nat) (bad:Bool),Bk w br 52 #[.string str,.int .i64 pos,.bool bad]∧pos≤str.size∧str.size≤262144∧(o=if bad then none else some (str.data.toList.drop pos))
section
variable {S S':Nat→Prop} {w w':World} {br:Nat} {str:ByteArray} {o:Option (List UInt8)}
theorem Vst.lt(h:Vst w br str o):br<w.heap.size:=by obtain⟨pos,bad,h,_⟩:=h;exact h.lt
theorem Vst.fr(h:Vst w br str o)(f:Fr S w w')(hS:¬S br):Vst w' br str o:=by
 obtain⟨pos,bad,h,h1,h2,h3⟩:=h;exact⟨pos,bad,h.fr f hS,h1,h2,h3⟩
theorem Vst.below(h:Vst w br str o)(f:Below w.heap.size w w'):Vst w' br str o:=h.fr ((Fr.refl (fun _=>False) w).below f) (fun h=>h)
theorem Vst.alloc(h:Vst w br str o)(x:Obj):Vst (w.alloc x) br str o:=h.below ((Below.refl _ _).alloc (Nat.le_refl _) x)
theorem Vst.drewN(h:Vst w br str o)(n:Nat):Vst (w.drewN n) br str o:=h
theorem Vst.cell(h:Vst w br str o):w.cell? ⟨br,2,none⟩=some (.bool o.isNone):=by
 obtain⟨pos,bad,h,_,_,ho⟩:=h;rw[h.cell 2,ho];cases bad<;>rfl
theorem Vst.frozen(h:Vst w br str o)(i:Nat):w.frozen? ⟨br,i,none⟩=false:=by obtain⟨pos,bad,h,_⟩:=h;exact h.frozen i
theorem Vst.short{r:List UInt8}(h:Vst w br str (some r)):r.length≤262144:=by
 obtain⟨pos,bad,h,h1,h2,ho⟩:=h;cases bad with
 | true=>simp at ho
 | false=>
  simp at ho;rw[ho];simp;omega
theorem Vst.spoil(h:Vst w br str o):Vst (w.setCell ⟨br,2,none⟩ (.bool true)) br str none:=by
 obtain⟨pos,bad,h,h1,h2,ho⟩:=h;exact⟨pos,true,h.set 2 _,h1,h2,rfl⟩
end
def uw9(br:Nat)(str:ByteArray)(o:Option (List UInt8))(w:World)(e:Ending)(w':World):Prop:=
 e = .returned (.tuple #[])∧Vst w' br str o∧Fr (· = br) w w'
def RP(S:Nat→Prop)(s:Shape)(br:Nat)(str:ByteArray)(o:Option (List UInt8))(w:World)(v:List Value)(w':World):Prop:=
 Ty s v∧Vst w' br str (rd s 0 o)∧Fr S w w'∧∀r r',o=some r→rd s 0 o=some r'→∃t,r=t++r'∧Rep w' (w.heap.size ≤ ·) s v [t]
def VPost(s:Shape)(br:Nat)(str:ByteArray)(o:Option (List UInt8))(w:World)(e:Ending)(w':World):Prop:=
 ∃v,e = .returned (uas s v)∧RP (· = br) s br str o w v w'
def VReads(g:FuncId)(s:Shape)(L:Nat):Prop:=
 ∀(w:World) (br:Nat) (str:ByteArray) (o:Option (List UInt8)),Vst w br str o→(∀r,o=some r→r.length≤L)→Calls Tryz.prog g #[.pointer (some ⟨br,0,none⟩)] w (VPost s br str o w)
theorem VReads.mono{g:FuncId}{s:Shape}{L L':Nat}(h:VReads g s L)(hl:L'≤L):VReads g s L':=fun w br str o hr hL=>h w br str o hr fun r a0=>Nat.le_trans (hL r a0) hl
section
variable {S S':Nat→Prop} {w w0 w':World} {s:Shape} {br:Nat} {str:ByteArray} {o:Option (List UInt8)} {v:List Value}
theorem RP.from(h:RP S s br str o w v w')(f:Fr S' w0 w)(hS:∀x,S x→S' x∨w0.heap.size≤x):RP S' s br str o w0 v w':=by
 obtain⟨h1,h2,h3,h4⟩:=h;refine⟨h1,h2,f.then h3 hS,fun r r' ho hr=>?_⟩
 obtain⟨t,h5,h6⟩:=h4 r r' ho hr;exact⟨t,h5,h6.sub fun b hb _=>Nat.le_trans f.size hb⟩
theorem RP.wrote{w2:World}(h:RP S s br str o w v w')(f:Fr S w' w2)(a0:Vst w2 br str (rd s 0 o))(hS:∀x,S x→x<w.heap.size):RP S s br str o w v w2:=by
 obtain⟨h1,h2,h3,h4⟩:=h;refine⟨h1,a0,h3.trans f,fun r r' ho hr=>?_⟩
 obtain⟨t,h5,h6⟩:=h4 r r' ho hr;exact⟨t,h5,h6.fr f fun x hx e=>by have:=hS x e;have a1:w.heap.size≤x:=hx;omega⟩
end
def QInv(S:Nat→Prop)(ss:List Shape)(br:Nat)(str:ByteArray)(o:Option (List UInt8))(w:World)(k:Nat)(vs:List (List Value))(o':Option (List UInt8))(wr:World):Prop:=
 Tys (ss.take k) vs∧Vst wr br str o'∧Fr S w wr∧rd (ubd (ss.drop k)) k o'=rd (ubd ss) 0 (want 40 o) ∧
  ∀r',o'=some r'→∃ts,o=some (40::(ube ts k++r'))∧Reps wr (w.heap.size ≤ ·) ss vs ts k
theorem Tys.snoc:∀ {ss:List Shape} {vs:List (List Value)},Tys ss vs→∀ {s:Shape} {v:List Value},Ty s v→Tys (ss++[s]) (vs++[v])
 | [],_,h,s,v,hv=>by cases h;exact⟨v,[],rfl,hv,rfl⟩
 | a::l,_,⟨u,r,rfl,h1,h2⟩,s,v,hv=>⟨u,r++[v],rfl,h1,Tys.snoc h2 hv⟩
section
variable {S:Nat→Prop} {ss:List Shape} {br:Nat} {str:ByteArray} {o o' o1:Option (List UInt8)} {w wr w1 w2:World} {k:Nat} {vs:List (List Value)}
theorem QInv.start(h:Vst w1 br str (want 40 o))(f:Fr S w w1):QInv S ss br str o w 0 [] (want 40 o) w1:=by
 refine⟨rfl,h,f,by rw[List.drop_zero],fun r' hr=>⟨fun _=>[],ual hr,fun i s v hi=>absurd hi (by omega)⟩⟩
theorem QInv.st(h:QInv S ss br str o w k vs o' wr):Vst wr br str o':=h.2.1
theorem QInv.limit(h:QInv S ss br str o w k vs o' wr){L:Nat}(hL:∀r,o=some r→r.length≤L){r:List UInt8}(hr:(if k=0 then o' else want 32 o')=some r):r.length≤L-1∧0<L:=by
 obtain⟨_,_,_,_,h⟩:=h;by_cases h0:k=0
 ·rw[if_pos h0]at hr
  obtain⟨ts,h1,_⟩:=h _ hr;have:=hL _ h1;simp at this;omega
 ·rw[if_neg h0]at hr
  obtain⟨ts,h1,_⟩:=h _ (ual hr);have:=hL _ h1;simp at this;omega
theorem QInv.wrote(h:QInv S ss br str o w k vs o' wr)(f:Fr S wr w1)(a0:Vst w1 br str o')(hS:∀x,S x→x<w.heap.size):QInv S ss br str o w k vs o' w1:=by
 obtain⟨h1,h2,h3,h4,h5⟩:=h;refine⟨h1,a0,h3.trans f,h4,fun r' hr=>?_⟩
 obtain⟨ts,h6,h7⟩:=h5 r' hr;exact⟨ts,h6,h7.fr f fun x hx e=>by have:=hS x e;have a1:w.heap.size≤x:=hx;omega⟩
theorem QInv.next{s:Shape}(hs:ss[k]? = some s)(h:QInv S ss br str o w k vs o' wr)(f1:Fr S wr w1)(a0:(if k=0 then o' else want 32 o')=o1){v:List Value}(hp:RP S s br str o1 w1 v w2)(hS:∀x,S x→x<w.heap.size) :
 QInv S ss br str o w (k+1) (vs++[v]) (rd s 0 o1) w2:=by
 obtain⟨h1,h2,h3,h4,h5⟩:=h;obtain⟨b2,a7,a1,b1⟩:=hp;have hk:k<ss.length:=(List.getElem?_eq_some_iff.1 hs).1;have b0:ss.take (k+1)=ss.take k++[s]:=by
  rw[List.take_succ_eq_append_getElem hk];obtain⟨_,rfl⟩:=List.getElem?_eq_some_iff.1 hs;rfl
 have a5:vs.length=k:=by rw[h1.len,List.length_take];omega
 have b3:w.heap.size≤w1.heap.size:=Nat.le_trans h3.size f1.size;have hD:∀x,w.heap.size≤x→¬S x:=fun x hx e=>by have:=hS x e;omega
 refine⟨by rw[b0];exact h1.snoc b2,a7,(h3.trans f1).trans a1,by rw[←h4,ulx hs,a0],fun r' a3=>?_⟩
 obtain⟨r,hr,_⟩:=uln s 0 o1 r' a3;obtain⟨t,a8,a9⟩:=b1 r r' hr a3;have main:∀(r0:List UInt8) (ts:Nat→List UInt8),o=some (40::(ube ts k++r0))→r0=(if k=0 then r else 32::r)→Reps wr (w.heap.size ≤ ·) ss vs ts k→∃ts,o=some (40::(ube ts (k+1)++r'))∧Reps w2 (w.heap.size ≤ ·) ss (vs++[v]) ts (k+1):=by
  intro r0 ts ho a6 hR;refine⟨fun i=>if i=k then t else ts i,?_,?_⟩
  ·rw[ho,a6,a8]
   rcases Nat.eq_zero_or_pos k with h0|h0
   ·subst h0;simp[ube]
   ·have a4:ube (fun i=>if i=k then t else ts i) k=ube ts k:=uca fun i hi=>if_neg (by omega)
    rw[ubf _ h0,a4,if_neg (by omega)]
    simp
  ·intro i s' v' hi e1 e2
   by_cases a2:i=k
   ·subst a2
    rw[hs]at e1;injection e1 with e1;subst e1;rw[List.getElem?_append_right (by omega),a5,Nat.sub_self]at e2
    simp at e2;subst e2;simp only[if_true];exact a9.sub fun b hb _=>Nat.le_trans b3 hb
   ·rw[List.getElem?_append_left (by omega)]at e2
    simp only[if_neg a2];exact((hR i s' v' (by omega) e1 e2).fr f1 hD).fr a1 hD
 by_cases h0:k=0
 ·rw[if_pos h0,hr]at a0
  obtain⟨ts,ho,hR⟩:=h5 r a0;exact main r ts ho (by rw[if_pos h0]) hR
 ·rw[if_neg h0,hr]at a0
  obtain⟨ts,ho,hR⟩:=h5 _ (ual a0);exact main _ ts ho (by rw[if_neg h0]) hR
theorem QInv.last(hk:k=ss.length)(h:QInv S ss br str o w k vs o' wr)(h2:Vst w1 br str (want 41 o'))(f:Fr S wr w1)(hS:∀x,S x→x<w.heap.size):RP S (.st (ubd ss)) br str o w vs.flatten w1:=by
 obtain⟨h1,hr,hf,a1,ht⟩:=h;rw[hk,List.take_length]at h1;rw[hk,List.drop_length]at a1;have e:rd (.st (ubd ss)) 0 o=want 41 o':=by
  show want 41 (rd (ubd ss) 0 (want 40 o))=_
  rw[←a1];rfl
 refine⟨h1.ty,by rw[e];exact h2,hf.trans f,fun r r' ho e'=>?_⟩
 rw[e]at e';obtain⟨ts,a0,hR⟩:=ht _ (ual e');rw[ho]at a0;injection a0 with a0;refine⟨par ts k,?_,?_⟩
 ·rw[a0];simp[par]
 ·refine⟨(List.range ss.length).map ts,?_,Reps.all h1.len ((hk▸hR).fr f fun x hx e=>by have:=hS x e;have a2:w.heap.size≤x:=hx;omega)⟩
  congr 1
  rw[List.length_map,List.length_range,hk];refine uju fun i hi=>?_
  simp[List.getD,hi]
end
theorem uom{S:Nat→Prop}{w w':World}{base:Nat}{e:TypeId}{sz:Nat}{lv:Value}{n:Nat}{xs:List Value}(h:w.ownsRow base e sz lv n xs)(f:Fr S w w')(hS:∀g,lv.ownBlock=some g→¬S g):w'.ownsRow base e sz lv n xs:=by
 have a1:=h.lt;obtain⟨h1,h2⟩:=h;refine⟨h1,?_⟩;rcases h2 with h2|⟨g,cap,cur,hv,hb,hg,hr⟩
 ·exact .inl h2
 ·have a0:lv.ownBlock=some g:=by rw[hv];rfl
  exact .inr ⟨g,cap,cur,hv,hb,(f.block g (a1 g a0).2 (hS g a0)).trans hg,hr⟩
theorem uvx{w:World}{base:Nat}{e:TypeId}{sz:Nat}{lv:Value}{n:Nat}{xs ys:List Value}(h:w.ownsRow base e sz lv n xs)(h':w.ownsRow base e sz lv n ys):xs=ys:=by
 rcases h.2 with⟨_,hn0⟩|⟨g1,c1,a0,hv1,_,hg1,_,_,_,ht1⟩
 ·subst hn0
  have a1:=h.1;have a2:=h'.1;simp only[Nat.zero_mul]at a1 a2;rw[List.length_eq_zero_iff.1 a1,List.length_eq_zero_iff.1 a2]
 ·rcases h'.2 with⟨hv2,hn0⟩|⟨g2,c2,a3,hv2,_,hg2,_,_,_,ht2⟩
  ·subst hn0
   have a1:=h.1;have a2:=h'.1;simp only[Nat.zero_mul]at a1 a2;rw[List.length_eq_zero_iff.1 a1,List.length_eq_zero_iff.1 a2]
  ·rw[hv1]at hv2
   injection hv2 with hv2 _ _;injection hv2 with hv2;injection hv2 with hv2 _ _;subst hv2;rw[hg1]at hg2;injection hg2 with hg2;injection hg2 with hg2 _;rw[←ht1,←ht2,hg2]
def LI(S:Nat→Prop)(s:Shape)(e:TypeId)(br:Nat)(str:ByteArray)(o:Option (List UInt8))(w:World)(lv:Value)(n:Nat)(o':Option (List UInt8))(wr:World):Prop:=
 ∃(us:Nat→List Value) (tx:Nat→List UInt8) (fuel:Nat),wr.ownsRow w.heap.size e s.sz lv n (udf us n)∧(∀i,i<n→(us i).length=s.sz)∧Vst wr br str o'∧Fr S w wr∧rd (.list s) 0 o=want 41 (uiv (rd s 0) fuel n o')∧fuel+n≤262145 ∧
  ∀r',o'=some r'→r'.length<fuel∧o=some (40::(ube tx n++r'))∧∀i,i<n→Rep wr (fun b=>w.heap.size≤b∧some b≠lv.ownBlock) s (us i) [tx i]
section
variable {S:Nat→Prop} {s:Shape} {e:TypeId} {br:Nat} {str:ByteArray} {o o' o1:Option (List UInt8)} {w wr w1 w2 w3:World} {lv:Value} {n:Nat}
theorem LI.start(h0:Vst w br str o)(h:Vst w1 br str (want 40 o))(f:Fr S w w1):LI S s e br str o w (.slice none 0 0) 0 (want 40 o) w1:=by
 cases o with
 | none=>exact⟨fun _=>[],fun _=>[],0,World.ownsRow_nil _ _ _ _,fun i hi=>absurd hi (by omega),h,f,rfl,by omega,fun r' hr=>by cases hr⟩
 | some r=>
  have hl:=h0.short;refine⟨fun _=>[],fun _=>[],r.length+1,World.ownsRow_nil _ _ _ _,fun i hi=>absurd hi (by omega),h,f,rfl,by omega,fun r' hr=>?_⟩
  have:=ual hr;refine⟨?_,this,fun i hi=>absurd hi (by omega)⟩
  injection this with this;rw[this];simp;omega
theorem LI.form(h:LI S s e br str o w lv n o' wr):∃A c,lv = .slice A n c∧n≤c∧c≤maxLen:=by
 obtain⟨us,tx,a0,h1,_⟩:=h;rcases h1.2 with⟨rfl,rfl⟩|⟨g,cap,cur,rfl,hb,hgg,h3,h4,_⟩
 ·exact⟨none,0,rfl,Nat.le_refl _,by unfold maxLen;omega⟩
 ·exact⟨_,cap,rfl,h3,h4⟩
theorem LI.st(h:LI S s e br str o w lv n o' wr):Vst wr br str o':=by obtain⟨_,_,_,_,_,h,_⟩:=h;exact h
theorem LI.fr(h:LI S s e br str o w lv n o' wr):Fr S w wr:=by obtain⟨_,_,_,_,_,_,h,_⟩:=h;exact h
theorem LI.small(h:LI S s e br str o w lv n o' wr):n≤262145:=by obtain⟨_,_,_,_,_,_,_,_,h,_⟩:=h;omega
theorem LI.limit(h:LI S s e br str o w lv n o' wr){L:Nat}(hL:∀r,o=some r→r.length≤L){r:List UInt8}(hr:(if n=0 then o' else want 32 o')=some r):r.length≤L-1∧0<L:=by
 obtain⟨_,tx,_,_,_,_,_,_,_,h⟩:=h;by_cases h0:n=0
 ·rw[if_pos h0]at hr
  obtain⟨_,h1,_⟩:=h _ hr;have:=hL _ h1;simp at this;omega
 ·rw[if_neg h0]at hr
  obtain⟨_,h1,_⟩:=h _ (ual hr);have:=hL _ h1;simp at this;omega
theorem LI.own(h:LI S s e br str o w lv n o' wr)(hS:∀x,S x→x<w.heap.size)(f1:Fr S wr w1):∃xs,w1.ownsRow w.heap.size e s.sz lv n xs:=by
 obtain⟨us,tx,a0,h1,_⟩:=h;exact⟨_,uom h1 f1 fun g hg e=>by have:=(h1.lt g hg).1;have:=hS g e;omega⟩
theorem LI.wrote(h:LI S s e br str o w lv n o' wr)(f:Fr S wr w1)(a1:Vst w1 br str o')(hS:∀x,S x→x<w.heap.size):LI S s e br str o w lv n o' w1:=by
 obtain⟨us,tx,a0,h1,h2,h3,h4,h5,h6,h7⟩:=h;refine⟨us,tx,a0,uom h1 f (fun g hg e=>by have:=(h1.lt g hg).1;have:=hS g e;omega),h2,a1,h4.trans f,h5,h6,fun r' hr=>?_⟩
 obtain⟨q1,q2,q3⟩:=h7 r' hr;exact⟨q1,q2,fun i hi=>(q3 i hi).fr f fun x hx e=>by have:=hS x e;have:=hx.1;omega⟩
theorem LI.nextW(b8:s.one=true)(hS:∀x,S x→x<w.heap.size)(d0:br<w.heap.size){r0:List UInt8}(h:LI S s e br str o w lv n (some r0) wr)(b4:r0.head? ≠ some 41)(a0:(if n=0 then some r0 else want 32 (some r0))=o1)
 {v:List Value} (c6:Ty s v) (c4:Vst w2 br str (rd s 0 o1)) (a6:Fr S wr w2) (c5:∀r r',o1=some r→rd s 0 o1=some r'→∃t,r=t++r'∧Rep w2 (wr.heap.size ≤ ·) s v [t])
 {g a5:Nat} {xs:List Value} (c7:w2.ownsRow w.heap.size e s.sz lv n xs) (b9:w3.ownsRow w.heap.size e s.sz (.slice (some ⟨g,0,none⟩) (n+1) a5) (n+1) (xs++v)) (hg:w2.grownBy w3 lv.ownBlock) (b7:lv.ownBlock=some g∨w2.heap.size≤g) (d1:g<w3.heap.size) :
 LI S s e br str o w (.slice (some ⟨g,0,none⟩) (n+1) a5) (n+1) (rd s 0 o1) w3:=by
 obtain⟨us,tx,a8,h1,h2,h3,h4,h5,h6,h7⟩:=h;obtain⟨h8,h9,b3⟩:=h7 r0 rfl;have a4:∀x,lv.ownBlock=some x→w.heap.size≤x∧x<wr.heap.size:=fun x hx=>h1.lt x hx
 have c8:xs=udf us n:=uvx c7 (uom h1 a6 fun g hg e=>by have:=(a4 g hg).1;have:=hS g e;omega)
 subst c8;have c2:Vst w3 br str (rd s 0 o1):=by
  obtain⟨pos,bad,hk,q1,q2,q3⟩:=c4;refine⟨pos,bad,hk.grown hg ?_,q1,q2,q3⟩;intro e;have:=(a4 br e.symm).1;omega
 have b6:Fr S w w3:=(h4.trans a6).grown hg fun x hx=> .inr (a4 x hx).1
 obtain⟨f,rfl⟩:∃f,a8=f+1:=⟨a8-1,by omega⟩
 have b0:∀b,b<w2.heap.size→some b≠lv.ownBlock→w3.heap[b]? = w2.heap[b]? :=fun b hb a1=>hg.block b hb a1
 have a9:∀b,b<w2.heap.size→some b≠lv.ownBlock→some b≠(Value.slice (some ⟨g,0,none⟩) (n+1) a5).ownBlock:=by
  intro b hb a1 e;have e':b=g:=by simpa[Value.ownBlock]using e
  subst e';rcases b7 with h|h
  ·exact a1 h.symm
  ·omega
 obtain⟨t,ht⟩:∃t,∀r',rd s 0 o1=some r'→∃r,o1=some r∧r=t++r'∧r'.length<r.length∧Rep w2 (wr.heap.size ≤ ·) s v [t]:=by
  cases hrd:rd s 0 o1 with
  | none=>exact⟨[],fun r' h=>by cases h⟩
  | some r'=>
   obtain⟨r,hr,b2⟩:=uln s 0 o1 r' hrd;rw[b8,if_pos rfl]at b2;obtain⟨t,h1,h2⟩:=c5 r r' hr hrd;exact⟨t,fun r2 a7=>by injection a7 with a7;subst a7;exact⟨r,hr,h1,by omega,h2⟩⟩
 refine⟨fun i=>if i=n then v else us i,fun i=>if i=n then t else tx i,f,?_,?_,c2,b6,?_,by omega,?_⟩
 ·have:udf (fun i=>if i=n then v else us i) (n+1)=udf us n++v:=by
   rw[ubj,uew (us':=us) fun i hi=>if_neg (by omega),if_pos rfl]
  rw[this];exact b9
 ·intro i hi
  by_cases a2:i=n
  ·simp only[a2,if_true];exact c6.len
  ·simp only[if_neg a2];exact h2 i (by omega)
 ·rw[h5,ued _ _ _ b4,a0]
 ·intro r' c0
  obtain⟨r,hr,c3,b2,c1⟩:=ht r' c0;have b1:r0=(if n=0 then r else 32::r):=by
   by_cases h0:n=0
   ·rw[if_pos h0]at a0 ⊢
    rw[hr]at a0;injection a0
   ·rw[if_neg h0]at a0 ⊢
    rw[hr]at a0;have:=ual a0;injection this
  have d2:r.length≤r0.length:=by rw[b1];split<;>simp
  refine⟨by omega,?_,fun i hi=>?_⟩
  ·rw[h9,b1,c3]
   have b5:ube (fun i=>if i=n then t else tx i) n=ube tx n:=uca fun i hi=>if_neg (by omega)
   rcases Nat.eq_zero_or_pos n with h0|h0
   ·subst h0;simp[ube]
   ·rw[ubf _ h0,b5,if_neg (by omega)]
    simp
  ·by_cases a2:i=n
   ·subst a2
    simp only[if_true];refine c1.keep fun b hb a3=>?_
    have c9:wr.heap.size≤b:=hb;have a1:some b≠lv.ownBlock:=fun e=>by have:=(a4 b e.symm).2;omega
    exact⟨b0 b a3 a1,by have:=h4.size;omega,a9 b a3 a1⟩
   ·simp only[if_neg a2]
    refine((b3 i (by omega)).fr a6 fun x hx e=>?_).keep fun b hb a3=>⟨b0 b a3 hb.2,hb.1,a9 b a3 hb.2⟩
    have h1:w.heap.size≤x:=hx.1;have:=hS x e;omega
theorem LI.next(a7:s.one=true)(hS:∀x,S x→x<w.heap.size)(a3:br<w.heap.size){r0:List UInt8}(h:LI S s e br str o w lv n (some r0) wr)(a2:r0.head? ≠ some 41)(a6:(if n=0 then some r0 else want 32 (some r0))=o1)
 {v:List Value} (b2:Ty s v) (b0:Vst w2 br str (rd s 0 o1)) (a1:Fr S wr w2) (b1:∀r r',o1=some r→rd s 0 o1=some r'→∃t,r=t++r'∧Rep w2 (wr.heap.size ≤ ·) s v [t])
 {g a0:Nat} {xs:List Value} (b3:w2.ownsRow w.heap.size e s.sz lv n xs) (a8:w3.ownsRow w.heap.size e s.sz (.slice (some ⟨g,0,none⟩) (n+1) a0) (n+1) (xs++v)) (hg:(w2.alloc (.cells v.toArray e)).grownBy w3 lv.ownBlock) (a4:lv.ownBlock=some g∨g=w2.heap.size+1) (a5:g<w3.heap.size) :
 LI S s e br str o w (.slice (some ⟨g,0,none⟩) (n+1) a0) (n+1) (rd s 0 o1) w3:=
 LI.nextW a7 hS a3 h a2 a6 b2 (b0.alloc _) (a1.alloc _) (fun r r' hr a9=>by obtain⟨t,h1,h2⟩:=b1 r r' hr a9;exact⟨t,h1,h2.below ((Below.refl _ _).alloc (Nat.le_refl _) _)⟩) (b3.alloc _) a8 hg (a4.imp id fun h=>by rw[h];simp) a5
theorem LI.last(hS:∀x,S x→x<w.heap.size)(h:LI S s e br str o w lv n o' wr){o2:Option (List UInt8)}(b0:(o'=none∧o2=none)∨(∃r,o'=some (41::r)∧o2=some r)∨(n≠0∧want 32 o'=none∧(∀r,o'=some r→r.head? ≠ some 41)∧o2=none))(h2:Vst w1 br str o2)(f:Fr S wr w1):RP S (.list s) br str o w [lv] w1:=by
 have b1:=h.form;obtain⟨us,tx,a2,h1,h3,h4,h5,h6,h7,h8⟩:=h;obtain⟨A,c,a1,b3,a9⟩:=b1;have a5:Ty (.list s) [lv]:=⟨A,n,c,by rw[a1]⟩
 rcases b0 with⟨rfl,rfl⟩|⟨r0,rfl,rfl⟩|⟨hn,hw,hat,rfl⟩
 ·have a0:rd (.list s) 0 o=none:=by rw[h6,ucy];rfl
  exact⟨a5,by rw[a0];exact h2,h5.trans f,fun r r' _ hr=>by rw[a0]at hr;cases hr⟩
 ·obtain⟨h9,a3,a7⟩:=h8 _ rfl
  have a0:rd (.list s) 0 o=some r0:=by
   obtain⟨f,rfl⟩:∃f,a2=f+1:=⟨a2-1,by omega⟩
   rw[h6,ugm _ _ _ rfl,ue9]
  refine⟨a5,by rw[a0];exact h2,h5.trans f,fun r r' ho a4=>?_⟩
  rw[a0]at a4;injection a4 with a4;subst a4;rw[ho]at a3;injection a3 with a3;refine⟨par tx n,by rw[a3];simp[par],A,n,c,us,tx,by rw[a1],b3,a9,rfl,fun h0=>?_,fun i hi=>?_⟩
  ·have hc:=uom h1 f (fun g hg e=>by have:=(h1.lt g hg).1;have:=hS g e;omega)
   have a8:=fun g (hg:lv.ownBlock=some g)=>hc.cells hg
   have b2:=hc.lt;rcases hc.2 with⟨_,hn0⟩|⟨g,cap,cur,hv,hb,hgg,_⟩
   ·omega
   ·have hA:A=some ⟨g,0,none⟩:=by rw[hv]at a1;injection a1 with a1;exact a1.symm
    have a6:lv.ownBlock=some g:=by rw[hv];rfl
    refine⟨g,0,hA,hb,(b2 g a6).2,fun i hi j x hx=>?_⟩
    have:=a8 g a6 (i*s.sz+j) x (ugh h3 hi hx);rw[Addr.add_lit]at this;rw[Nat.zero_add]at this ⊢;exact this
  ·refine((a7 i hi).fr f fun x hx e=>?_).sub fun b hb _=>hb.1
   have h1:w.heap.size≤x:=hx.1;have:=hS x e;omega
 ·have a0:rd (.list s) 0 o=none:=by
   rw[h6];cases o' with
   | none=>rw[ucy];rfl
   | some r0=>
    obtain⟨h9,_⟩:=h8 _ rfl;obtain⟨f,rfl⟩:∃f,a2=f+1:=⟨a2-1,by omega⟩
    rw[ued _ _ _ (hat r0 rfl),if_neg hn,hw,udc,ucy];rfl
  exact⟨a5,by rw[a0];exact h2,h5.trans f,fun r r' _ hr=>by rw[a0]at hr;cases hr⟩
end
def MorePost(first:Bool)(br:Nat)(str:ByteArray)(o:Option (List UInt8))(w:World)(e:Ending)(w':World):Prop:=
 ∃(b:Bool) (o2:Option (List UInt8)),e = .returned (.bool b)∧Vst w' br str o2∧Fr (· = br) w w' ∧
  (b=false→(o=none∧o2=none)∨(∃r,o=some (41::r)∧o2=some r)∨(first=false∧want 32 o=none∧(∀r,o=some r→r.head? ≠ some 41)∧o2=none)) ∧
  (b=true→∃r0 r,o=some r0∧r0.head? ≠ some 41∧(if first then o else want 32 o)=o2∧o2=some r)
def TakePost(b:UInt8)(br:Nat)(str:ByteArray)(o:Option (List UInt8))(w:World)(e:Ending)(w':World):Prop:=
 e = .returned (.bool (ui0 b o))∧Vst w' br str (if ui0 b o then want b o else o)∧Fr (· = br) w w'
theorem TakePost.of{b:UInt8}{br:Nat}{str:ByteArray}{o:Option (List UInt8)}{w w':World}{x:Bool}(hx:ui0 b o=x)(h2:Vst w' br str (if x then want b o else o))(hf:Fr (· = br) w w'):TakePost b br str o w (.returned (.bool x)) w':=by
 subst hx;exact⟨rfl,h2,hf⟩
theorem uvy{b:UInt8}{o:Option (List UInt8)}(h:ui0 b o=false):want b o=none:=by
 match o,h with
 | some (c::r),h=>
  have:c≠b:=by simpa[ui0]using h
  exact ulm _ this
 | some [],_=>rfl
 | none,_=>rfl
set_option maxHeartbeats 4000000 in
theorem ufq(w:World)(br:Nat)(str:ByteArray)(o:Option (List UInt8))(b:UInt8)(n:Int)(hb:n=(b.toNat:Int))(h:Vst w br str o) :
 Calls Tryz.prog 47 #[.pointer (some ⟨br,0,none⟩),.int .u8 n] w (TakePost b br str o w):=by
 obtain⟨pos,bad,hk,h1,h2,rfl⟩:=h;have c0:=hk.cell 0;have c1:=hk.cell 1;have c2:=hk.cell 2;have f1:=hk.frozen 1;have f2:=hk.frozen 2;simp only[gq]at c0 c1 c2;have HK:=hid hk;have HB:=hid hb;clear hk hb;cases bad with
 | true=>
  go_enter Tryz.func47,Tryz.ntmps47
  go_wp2;go_quiet (fail)
  go_wp2;go_ret
  exact⟨rfl,⟨pos,true,HK.out.drewN _,h1,h2,rfl⟩,(Fr.refl _ _).drewN _⟩
 | false=>
  by_cases a0:pos<str.size
  ·have d1:decide (pos<str.size)=true:=by simp;omega
   have hw:str.data.toList.drop pos=str[pos]::str.data.toList.drop (pos+1):=drop_at a0;have HW:=hid hw;clear hw;by_cases hc:((str[pos].toNat:Int)=n)
   ·have e1:(((str[pos].toNat:Int))==n)=true:=by simp[hc]
    have hx:str[pos]=b:=by
     have:=HB.out;apply UInt8.toNat_inj.1;omega
    have HX:=hid hx;have HC:=hid hc;clear hx hc;go_enter Tryz.func47,Tryz.ntmps47
    go_wp2;go_quiet (fail)
    go_wp2;go_ret
    refine TakePost.of (o:=some (str.data.toList.drop pos)) (x:=true) (by rw[HW.out,HX.out];simp[ui0]) ⟨pos+1,false,(HK.out.drewN _).set 1 _,by omega,h2,?_⟩ (((Fr.refl _ _).drewN _).wr _ _)
    simp only[Bool.false_eq_true,if_false,if_true];rw[HW.out,HX.out,ue9]
   ·have e1:(((str[pos].toNat:Int))==n)=false:=by simp[hc]
    have hx:str[pos]≠b:=by
     intro e;apply hc;rw[e,HB.out]
    have HX:=hid hx;have HC:=hid hc;clear hx hc;go_enter Tryz.func47,Tryz.ntmps47
    go_wp2;go_quiet (fail)
    go_wp2;go_ret
    exact TakePost.of (o:=some (str.data.toList.drop pos)) (x:=false) (by rw[HW.out];have:=HX.out;simp[ui0,this]) ⟨pos,false,HK.out.drewN _,h1,h2,rfl⟩ ((Fr.refl _ _).drewN _)
  ·have d1:decide (pos<str.size)=false:=by simp;omega
   have hw:str.data.toList.drop pos=[]:=uiz (by simp;omega)
   have HW:=hid hw;clear hw;go_enter Tryz.func47,Tryz.ntmps47
   go_wp2;go_quiet (fail)
   go_wp2;go_ret
   exact TakePost.of (o:=some (str.data.toList.drop pos)) (x:=false) (by rw[HW.out];rfl) ⟨pos,false,HK.out.drewN _,h1,h2,rfl⟩ ((Fr.refl _ _).drewN _)
set_option maxHeartbeats 4000000 in
theorem ui(w:World)(br:Nat)(str:ByteArray)(o:Option (List UInt8))(b:UInt8)(n:Int)(hb:n=(b.toNat:Int))(h:Vst w br str o) :
 Calls Tryz.prog 12 #[.pointer (some ⟨br,0,none⟩),.int .u8 n] w (uw9 br str (want b o) w):=by
 have HR:=hid h;have HB:=hid hb;clear h hb;go_enter Tryz.func12,Tryz.ntmps12
 go_wp2_with fail
 refine(ufq _ br str o b n HB.out HR.out).mono ?_;rintro e w1⟨rfl,a0,a1⟩;cases ha:ui0 b o with
 | true=>
  rw[ha]at a0;have HS:=hid a0;have HF:=hid a1;clear a0 a1 ha;go_wp2;go_end0
  exact⟨rfl,HS.out,HF.out⟩
 | false=>
  rw[ha]at a0;have c2:=a0.cell;have f2:=a0.frozen 2;have HS:=hid a0;have HF:=hid a1;have HA:=hid ha;clear a0 a1 ha;go_wp2;go_end0
  exact⟨rfl,by rw[uvy HA.out];exact HS.out.spoil,HF.out.wr _ _⟩
set_option maxHeartbeats 4000000 in
theorem ur(w:World)(br:Nat)(str:ByteArray)(o:Option (List UInt8))(h:Vst w br str o) :
 Calls Tryz.prog 14 #[.pointer (some ⟨br,0,none⟩)] w (uw9 br str (want 32 o) w):=by
 have HR:=hid h;clear h;go_enter Tryz.func14,Tryz.ntmps14
 go_wp2_with fail
 refine(ui _ br str o 32 32 rfl HR.out).mono ?_;rintro e w1⟨rfl,a1,a0⟩;go_wp2;go_end0
 exact⟨rfl,a1,a0⟩
set_option maxHeartbeats 4000000 in
theorem uad(w:World)(br:Nat)(str:ByteArray)(o:Option (List UInt8))(first:Bool)(h:Vst w br str o) :
 Calls Tryz.prog 18 #[.pointer (some ⟨br,0,none⟩),.bool first] w (MorePost first br str o w):=by
 have c2:=h.cell;have HR:=hid h;clear h;cases o with
 | none=>
  go_enter Tryz.func18,Tryz.ntmps18
  go_wp2;go_ret
  exact⟨false,none,rfl,HR.out,Fr.refl _ _,fun _=> .inl ⟨rfl,rfl⟩,fun h=>by cases h⟩
 | some r0=>
  cases ha:ui0 41 (some r0)with
  | true=>
   have a8:∃r,r0=41::r:=by
    cases r0 with
    | nil=>cases ha
    | cons c r=>
     have:c=41:=by simpa[ui0]using ha
     exact⟨r,by rw[this]⟩
   obtain⟨r,rfl⟩:=a8;have HA:=hid ha;clear ha;go_enter Tryz.func18,Tryz.ntmps18
   go_wp2_with fail
   refine(ufq _ br str _ 41 41 rfl HR.out).mono ?_;rintro e w1⟨rfl,a0,a1⟩;rw[HA.out]at a0 ⊢;rw[if_pos rfl,ue9]at a0;have HS:=hid a0;have HF:=hid a1;clear a0 a1;go_wp2;go_ret
   exact⟨false,some r,rfl,HS.out,HF.out,fun _=> .inr (.inl ⟨r,rfl,rfl⟩),fun h=>by cases h⟩
  | false=>
   have a6:r0.head? ≠ some 41:=by
    cases r0 with
    | nil=>simp
    | cons c r=>
     have:c≠41:=by simpa[ui0]using ha
     simpa using this
   have HA:=hid ha;have a3:=hid a6;clear ha a6;cases first with
   | true=>
    go_enter Tryz.func18,Tryz.ntmps18
    go_wp2_with fail
    refine(ufq _ br str _ 41 41 rfl HR.out).mono ?_;rintro e w1⟨rfl,a0,a1⟩;rw[HA.out]at a0 ⊢;rw[if_neg (by decide)]at a0
    have c3:=a0.cell;have HS:=hid a0;have HF:=hid a1;clear a0 a1;go_wp2;go_ret
    exact⟨true,some r0,rfl,HS.out,HF.out,fun h=>(by cases h),fun _=>⟨r0,r0,rfl,a3.out,rfl,rfl⟩⟩
   | false=>
    go_enter Tryz.func18,Tryz.ntmps18
    go_wp2_with fail
    refine(ufq _ br str _ 41 41 rfl HR.out).mono ?_;rintro e w1⟨rfl,a0,a1⟩;rw[HA.out]at a0 ⊢;rw[if_neg (by decide)]at a0
    have HS:=hid a0;have HF:=hid a1;clear a0 a1;go_wp2_with fail
    refine(ui _ br str _ 32 32 rfl HS.out).mono ?_;rintro e w2⟨rfl,a4,a7⟩;have c3:=a4.cell;have a2:=hid a4;have a5:=hid (HF.out.trans a7);clear a4 a7;cases hw:want 32 (some r0)with
    | none=>
     rw[hw]at c3 a2;have HW:=hid hw;clear hw;go_wp2;go_ret
     exact⟨false,none,rfl,a2.out,a5.out,fun _=> .inr (.inr ⟨rfl,HW.out,(fun r hr=>by injection hr with hr;rw[←hr];exact a3.out),rfl⟩),fun h=>by cases h⟩
    | some r=>
     rw[hw]at c3 a2;have HW:=hid hw;clear hw;go_wp2;go_ret
     exact⟨true,some r,rfl,a2.out,a5.out,fun h=>(by cases h),fun _=>⟨r0,r,rfl,a3.out,HW.out,rfl⟩⟩
theorem ukr:∀ {r:List UInt8} {k:Nat},(∀j c,j<k→r[j]? = some c→uer c=false)→k≤r.length→(∀c,r[k]? = some c→uer c=true)→uar r=r.take k∧ubn r=r.drop k
 | [],k,_,hk,_=>by
  have:k=0:=by simpa using hk
  subst this;exact⟨rfl,rfl⟩
 | c::r,0,_,_,h2=>by
  have:uer c=true:=h2 c rfl;unfold uar ubn;simp[List.takeWhile,List.dropWhile,this]
 | c::r,k+1,h1,hk,h2=>by
  have hc:uer c=false:=h1 0 c (by omega) rfl
  have ih:=ukr (r:=r) (k:=k) (fun j d hj hd=>h1 (j+1) d (by omega) (by simpa using hd)) (by simpa using hk) (fun d hd=>h2 d (by simpa using hd))
  unfold uar ubn at *;simp[List.takeWhile,List.dropWhile,hc,ih.1,ih.2]
def VWPost(br:Nat)(str:ByteArray)(o:Option (List UInt8))(w:World)(e:Ending)(w':World):Prop:=
 e = .returned (.string ⟨(match o with|some r=>uar r|none=>[]).toArray⟩)∧Vst w' br str (o.map ubn)∧Fr (· = br) w w'
def uy6(w:World)(br:Nat):Nat:=(intOf ((w.cell? ⟨br,1,none⟩).getD undef)).toNat
def WI(br:Nat)(str:ByteArray)(pos:Nat)(bad:Bool)(w:World)(p:Nat)(wr:World):Prop:=
 Bk wr br 52 #[.string str,.int .i64 p,.bool bad]∧Fr (· = br) w wr∧pos≤p∧p≤str.size∧(bad=true→p=pos)∧∀j c,j<p-pos→(str.data.toList.drop pos)[j]? = some c→uer c=false
theorem WI.last{br:Nat}{str:ByteArray}{pos:Nat}{bad:Bool}{w:World}{p:Nat}{wr:World}(h2:str.size≤262144)(h:WI br str pos bad w p wr)(a0:bad=false→∀c,(str.data.toList.drop pos)[p-pos]? = some c→uer c=true) :
 ∀o,o=(if bad then none else some (str.data.toList.drop pos))→VWPost br str o w (.returned (.string (str.extract pos p))) wr:=by
 rintro o rfl;obtain⟨hk,hf,h3,h4,h5,h6⟩:=h;have he:(str.extract pos p).data.toList=(str.data.toList.drop pos).take (p-pos):=by rw[Lib.extract_data]
 cases bad with
 | true=>
  have:=h5 rfl;subst this;refine⟨?_,⟨p,true,hk,h4,h2,rfl⟩,hf⟩;congr 2
  apply ByteArray.ext;simp at he ⊢
 | false=>
  have hw:=ukr (r:=str.data.toList.drop pos) (k:=p-pos) h6 (by simp;omega) (a0 rfl)
  refine⟨?_,⟨p,false,hk,h4,h2,?_⟩,hf⟩
  ·simp only[Bool.false_eq_true,if_false]
   rw[hw.1,←he]
  ·simp only[Bool.false_eq_true,if_false,Option.map_some]
   rw[hw.2,List.drop_drop];congr 2
   omega
theorem us9{c:UInt8}:uer c=(decide ((c.toNat:Int)=32)||decide ((c.toNat:Int)=40)||decide ((c.toNat:Int)=41)):=by
 have key:∀(n:UInt8),(c==n)=decide ((c.toNat:Int)=(n.toNat:Int)):=by
  intro n;by_cases h:c=n
  ·subst h;simp
  ·have:¬c.toNat=n.toNat:=fun e=>h (UInt8.toNat_inj.1 e)
   have h':(c==n)=false:=beq_eq_false_iff_ne.2 h;rw[h'];symm
   simp;omega
 unfold uer;rw[key 32,key 40,key 41];rfl
set_option maxHeartbeats 2000000 in
theorem ug5(w:World)(br:Nat)(str:ByteArray)(o:Option (List UInt8))(h:Vst w br str o) :
 Calls Tryz.prog 48 #[.pointer (some ⟨br,0,none⟩)] w (VWPost br str o w):=by
 obtain⟨pos,bad,hk,h1,h2,ho⟩:=h;have HO:=hid ho;clear ho;have c1:=hk.cell 1;simp only[gq]at c1;have a1:Hid (WI br str pos bad w pos w):=⟨hk,Fr.refl _ _,Nat.le_refl _,h1,fun _=>rfl,fun j c hj=>absurd hj (by omega)⟩
 clear hk;go_enter Tryz.func48,Tryz.ntmps48
 go_wp2;go_loopw [8] (fun _ wr=>∃p:Nat,Hid (WI br str pos bad w p wr)) (fun _ wr=>str.size-uy6 wr br)
 case atStart=>exact⟨pos,a1⟩
 case round=>
  obtain⟨p,hI⟩:=hrel;clear a1 c1;obtain⟨hk,hf,h3,h4,h5,h6⟩:=hI.out;have c0:=hk.cell 0;have c1:=hk.cell 1;have c2:=hk.cell 2;have f1:=hk.frozen 1;simp only[gq]at c0 c1 c2;have HK:=hid hk;have HF:=hid hf;have H5:=hid h5;have H6:=hid h6;clear hk hf h5 h6;cases bad with
  | true=>
   go_wp2;go_quiet (fail)
   go_wp2;go_quiet (fail)
   go_wp2;go_ret
   exact WI.last h2 ⟨(HK.out.drewN _).drewN _,(HF.out.drewN _).drewN _,h3,h4,fun _=>H5.out trivial,H6.out⟩ (fun h=>by cases h) _ HO.out
  | false=>
   by_cases hlt:p<str.size
   ·have d1:decide (p<str.size)=true:=by simp;omega
    have hg:(str.data.toList.drop pos)[p-pos]? = some str[p]:=by
     rw[List.getElem?_drop,show pos+(p-pos)=p by omega]
     exact Lib.data_getElem? str p hlt
    have HG:=hid hg;obtain⟨c,hc⟩:∃c:UInt8,str[p]'hlt=c:=⟨_,rfl⟩;clear hg;cases hs:uer c with
    | true=>
     have a0:=hs;rw[us9]at a0;have HS:=hid hs;have HC:=hid hc;by_cases s1:(c.toNat:Int)=32
     ·have g1:((c.toNat:Int) != 32)=false:=by simpa using s1
      clear hs a0 s1;go_wp2;go_quiet (fail)
      go_wp2;go_quiet (fail)
      go_wp2;go_ret
      exact WI.last h2 ⟨(HK.out.drewN _).drewN _,(HF.out.drewN _).drewN _,h3,h4,H5.out,H6.out⟩ (fun _ d hd=>by rw[HG.out,HC.out]at hd;injection hd with hd;subst hd;exact HS.out) _ HO.out
     by_cases s2:(c.toNat:Int)=40
     ·have g1:((c.toNat:Int) != 32)=true:=by simpa using s1
      have g2:((c.toNat:Int) != 40)=false:=by simpa using s2
      clear hs a0 s1 s2;go_wp2;go_quiet (fail)
      go_wp2;go_quiet (fail)
      go_wp2;go_ret
      exact WI.last h2 ⟨(HK.out.drewN _).drewN _,(HF.out.drewN _).drewN _,h3,h4,H5.out,H6.out⟩ (fun _ d hd=>by rw[HG.out,HC.out]at hd;injection hd with hd;subst hd;exact HS.out) _ HO.out
     ·have s3:(c.toNat:Int)=41:=by
       simp only[s1,s2,decide_false,Bool.false_or,decide_eq_true_eq]at a0;exact a0
      have g1:((c.toNat:Int) != 32)=true:=by simpa using s1
      have g2:((c.toNat:Int) != 40)=true:=by simpa using s2
      have g3:((c.toNat:Int) != 41)=false:=by simpa using s3
      clear hs a0 s1 s2 s3;go_wp2;go_quiet (fail)
      go_wp2;go_quiet (fail)
      go_wp2;go_ret
      exact WI.last h2 ⟨(HK.out.drewN _).drewN _,(HF.out.drewN _).drewN _,h3,h4,H5.out,H6.out⟩ (fun _ d hd=>by rw[HG.out,HC.out]at hd;injection hd with hd;subst hd;exact HS.out) _ HO.out
    | false=>
     have a0:=hs;rw[us9]at a0;simp only[Bool.or_eq_false_iff,decide_eq_false_iff_not]at a0;obtain⟨⟨s1,s2⟩,s3⟩:=a0;have HS:=hid hs;have g1:((c.toNat:Int) != 32)=true:=by simpa using s1
     have g2:((c.toNat:Int) != 40)=true:=by simpa using s2
     have g3:((c.toNat:Int) != 41)=true:=by simpa using s3
     have HC:=hid hc;clear hs;go_wp2;go_quiet (fail)
     go_wp2;go_roundw
     case rel=>
      refine⟨p+1,(HK.out.drewN _).set 1 _,(HF.out.drewN _).wr _ _,by omega,by omega,(fun h=>by cases h),fun j d hj hd=>?_⟩
      rcases Nat.lt_or_ge j (p-pos)with h|h
      ·exact H6.out j d h hd
      ·obtain rfl:j=p-pos:=by omega
       rw[HG.out,HC.out]at hd;injection hd with hd;subst hd;exact HS.out
     case measure=>
      have e1:uy6 wr br=p:=by unfold uy6;rw[c1];simp[intOf]
      have e2:∀n:Nat,uy6 (((wr.drewN n)).setCell ⟨br,1,none⟩ (.int .i64 ((p:Int)+1))) br=p+1:=by
       intro n;unfold uy6;have:=((HK.out.drewN n).set 1 (.int .i64 ((p:Int)+1))).cell 1;simp only[List.setIfInBounds_toArray,List.set_cons_zero,List.set_cons_succ,List.getElem?_toArray,List.getElem?_cons_zero,List.getElem?_cons_succ]at this;rw[this];simp[intOf]
      rw[e1,e2];omega
   ·have d1:decide (p<str.size)=false:=by simp;omega
    go_wp2;go_quiet (fail)
    go_wp2;go_quiet (fail)
    go_wp2;go_ret
    exact WI.last h2 ⟨(HK.out.drewN _).drewN _,(HF.out.drewN _).drewN _,h3,h4,H5.out,H6.out⟩ (fun _ d hd=>by rw[List.getElem?_eq_none (by simp;omega)]at hd;cases hd) _ HO.out
end Go.Proofs.YtellcholbkoakaaGreatDoor
