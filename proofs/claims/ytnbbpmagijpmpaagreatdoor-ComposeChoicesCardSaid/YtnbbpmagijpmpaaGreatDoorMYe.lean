/-
  Closed calls by reflection: append.
-/
import Derived.Test.YtnbbpmagijpmpaaGreatDoorMYd
set_option linter.unusedVariables false
set_option linter.unusedSimpArgs false
namespace AC.Ev
open Go
section
variable {P:Program}
theorem uCx{φ:Phi}:∀(l:List UInt8),RVs φ (l.map fun b=>Value.int .u8 b.toNat) (l.map fun b=>Value.int .u8 b.toNat)
 | []=> .nil
 | b::l=> .cons (.int _ _) (uCx l)
theorem ul5{φ:Phi}{w:World}{t:Tr}{g off l c size n:Nat}{cells:List Value}{e:TypeId}{x:Bool}{u:Nat}{top:Bool}{st:List Nat}{v':Value}(hr:Rep φ t.get w)(hg:t.get g=some (.row cells e x u top st))(hv:RV φ (.slice (some ⟨g,off,none⟩) l c) v')(hn:n<=l)(a0:n*size=0\/off+n*size<=cells.length) :
 ∃new:Array Value,(∀w2:World,w2.heap=w.heap->(Builtin.firstCells size n v').run P w2 = .ok new w2)/\RVs φ ((cells.drop off).take (n*size)) new.toList:=by
 obtain⟨im,o',c',hi,rfl,a1,a2,a3,a4⟩:=hv.vAu;obtain⟨a5,k1,k2,k3,k4,k5⟩:=hr.ob _ _ hg;rw[hi]at k1;injection k1 with k1;subst k1;rcases a4 with⟨rfl,_⟩|a4
 ·obtain⟨vs,b1,b2⟩:=k5.take (P:=P) a0
  exact⟨vs,b1,b2⟩
 ·have:n=0:=by omega
  subst this;refine⟨#[],fun w2 _=>?_,by simp;exact .nil⟩
  simp only[Builtin.firstCells,Nat.zero_mul,loadCells,loadCellsFrom];rfl
theorem uEv{t:Tr}{xT e:TypeId}{size:Nat}{x:Value}{K:Nat->List Value->Bool}(h:uIy P t xT e size x K=true):∃n new d,K n new=true/\P.underlying xT=some d /\
 ∀(φ:Phi) (w:World) (x':Value),RV φ x x'->Rep φ t.get w->∃a2:Array Value,RVs φ new a2.toList/\∀w2:World,w2.heap=w.heap->Src P d e size x' n a2 w2:=by
 unfold uIy at h;split at h
 ·rename_i d hd
  split at h
  ·split at h
   ·split at h
    ·split at h
     ·rename_i n
      rw[uk]at h;obtain⟨h1,h⟩:=h;have h1:=uW.1 h1;obtain⟨z,h,hz,a1⟩:=udr h;rw[uk,uah]at h;obtain⟨h2,h⟩:=h;have h2:=uJ.1 h2;have h:=ui0 _ _ _ h;refine⟨_,_,_,h,hd,fun φ w x' hx hr=>?_⟩
      by_cases h0:n*size=0
      ·refine⟨#[],?_,fun w2 _=> .inr ⟨rfl,hx.vAc,h1,z,a1 w2,.inl ⟨h0,rfl⟩⟩⟩
       have:(uo0 n (cellsOf z)).length=0:=by rw[uhy,h2];exact h0
       rw[List.eq_nil_of_length_eq_zero this];exact .nil
      ·refine⟨_,?_,fun w2 _=> .inr ⟨rfl,hx.vAc,h1,z,a1 w2,.inr ⟨h0,rfl⟩⟩⟩
       have hp:0<z.cells.size:=by
        rw[<-aM,uau,h2];rcases aK size with h|h
        ·rw[h,Nat.mul_zero]at h0;exact absurd rfl h0
        ·exact h
       have:=uf5 hp n;unfold Builtin.zeroCells;rw[this,uau];exact(hz φ).rep n
     ·cases h
    ·cases h
   ·cases h
  ·rcases uh0 h with⟨l,c,e0,h0⟩|⟨g,off,l,c,e0,h0⟩
   ·cases l with
    | zero=>
     refine⟨_,_,_,h0,hd,fun φ w x' hx hr=>⟨#[],.nil,fun w2 _=> .inl ⟨rfl,by rw[e0]at hx;rw[hx.vAx];rfl,by rw[e0]at hx;rw[hx.vAx];rfl⟩⟩⟩
    | succ l=>cases h0
   ·obtain⟨cells,el,ex,un,top,st,hg,h0⟩:=ucl h0
    obtain⟨h0,h1⟩:=ub5 _ _ _ _ h0;refine⟨_,_,_,h0,hd,fun φ w x' hx hr=>?_⟩
    rw[e0]at hx;obtain⟨new,b1,b2⟩:=ul5 (P:=P) (size:=size) hr hg hx (Nat.le_refl l) h1;refine⟨new,b2,fun w2 a3=> .inl ⟨rfl,?_,b1 w2 a3⟩⟩
    obtain⟨im,o',c',_,rfl,_⟩:=hx.vAu;rfl
  ·obtain⟨s,e0,h⟩:=ul1 h
   refine⟨_,_,_,h,hd,fun φ w x' hx hr=>?_⟩
   rw[e0]at hx;rw[hx.vAg];have a0:s.size=(bytesOf s).length:=by obtain⟨⟨d⟩⟩:=s;rfl
   refine⟨(s.extract 0 s.size).data.map fun b=> .int .u8 b.toNat,?_,fun w2 _=> .inl ⟨rfl,by rw[uah,<-a0];rfl,by rw[uah,<-a0];rfl⟩⟩
   ·rw[extract_eq]
    simp only[Array.toList_map,List.drop_zero,Nat.sub_zero,a0,List.take_length];exact uCx _
  ·cases h
 ·cases h
theorem uEw{φ:Phi}{L L':ucd}{w:World}{g:Nat}{c pre:List Value}{e:TypeId}{u:Nat}{s:List Nat}{im:Im}(hr:Rep φ L w)(hg:L g=some (.row c e false u true s))(hi:φ g=some im)(hL:L' g=some (.row pre e false u false []))(hk:∀k,k≠g->L' k=if k∈s then none else L k)
 (hp:∀(j:Nat) (v:Value),pre[j]? = some v->c[j]? = some v) (b9:pre.length<=c.length):Rep φ L' w/\∀ {k:Nat} {q:Ob} {i:Im},L' k=some q->k≠g->φ k=some i->i.b≠im.b:=by
 have old:∀ {k:Nat} {q:Ob},L' k=some q->k≠g->k∉s/\L k=some q:=fun {k q} h a0=>by
  rw[hk k a0]at h;split at h
  ·cases h
  ·exact⟨by assumption,h⟩
 have far:∀ {k:Nat} {q:Ob} {i:Im},L' k=some q->k≠g->φ k=some i->i.b≠im.b:=by
  intro k q i h a0 b7 e1;obtain⟨h1,h2⟩:=old h a0;rcases hr.sep k g q _ i im h2 hg b7 hi e1 with h3|⟨t,c2,e2,x2,u2,S,k1,k2,k3⟩
  ·exact a0 h3
  ·rcases k3 with rfl|k3
   ·rw[hg]at k1
    injection k1 with k1;injection k1 with _ _ _ _ _ k1;subst k1;rcases k2 with k2|k2
    ·exact a0 k2
    ·exact h1 k2
   ·obtain⟨it,b0,_⟩:=(hr.ob t _ k1).img
    obtain⟨c3,e3,x3,u3,S3,e4,_⟩:=hr.grp t c2 e2 x2 u2 S g _ it im k1 k3 hg b0 hi;injection e4 with _ _ _ _ e4 _;cases e4
 have b5:∀ {t:Nat} {cc:List Value} {e:TypeId} {x:Bool} {u:Nat} {S:List Nat},L' t=some (.row cc e x u true S)->t≠g:=fun {t cc e x u S} h e1=>by
  subst e1;rw[hL]at h;injection h with h;injection h with _ _ _ _ h _;cases h
 refine⟨⟨fun k q h=>?_,?_,?_,?_,hr.glob⟩,far⟩
 ·by_cases b4:k=g
  ·subst b4
   rw[hL]at h;injection h with h;subst h;obtain⟨b8,a1,a2,a3,a4,C2,b6,a5,a6,a7,a8,a9⟩:=hr.ob k _ hg;exact⟨b8,a1,a2,a3,(fun h=>by cases h),C2,b6,a5,a6,a7,by omega,fun j v hj=>a9 j v (hp j v hj)⟩
  ·exact hr.ob k q (old h b4).2
 ·intro g1 g2 o1 o2 i1 i2 h1 h2 h3 h4 hb
  by_cases e1:g1=g
  ·by_cases e2:g2=g
   ·exact .inl (e1.trans e2.symm)
   ·subst e1
    rw[hi]at h3;injection h3 with h3;subst h3;exact absurd hb.symm (far h2 e2 h4)
  ·by_cases e2:g2=g
   ·subst e2
    rw[hi]at h4;injection h4 with h4;subst h4;exact absurd hb (far h1 e1 h3)
   ·obtain⟨a1,a2⟩:=old h1 e1
    obtain⟨b1,b2⟩:=old h2 e2;rcases hr.sep g1 g2 o1 o2 i1 i2 a2 b2 h3 h4 hb with h|⟨t,c2,e3,x2,u2,S,k1,k2,k3⟩
    ·exact .inl h
    ·have et:t≠g:=by
      intro et;subst et;rw[hg]at k1;injection k1 with k1;injection k1 with _ _ _ _ _ k1;subst k1;rcases k2 with k2|k2
      ·exact e1 k2
      ·exact a1 k2
     have b3:t∉s:=by
      intro b3;obtain⟨it,b0,_⟩:=(hr.ob t _ k1).img;obtain⟨c3,e4,x3,u3,S3,e5,_⟩:=hr.grp g c e false u s t _ im it hg b3 k1 hi b0;injection e5 with _ _ _ _ e5 _;cases e5
     exact .inr ⟨t,c2,e3,x2,u2,S,by rw[hk t et,if_neg b3];exact k1,k2,k3⟩
 ·intro t c2 e2 x2 u2 S k q i1 i2 h1 h2 h3 h4 h5
  have et:=b5 h1;obtain⟨a1,a2⟩:=old h1 et;by_cases ek:k=g
  ·subst ek
   obtain⟨c3,e4,x3,u3,S3,e5,_⟩:=hr.grp t c2 e2 x2 u2 S k _ i1 i2 a2 h2 hg h4 h5;injection e5 with _ _ _ _ e5 _;cases e5
  ·obtain⟨b1,b2⟩:=old h3 ek
   exact hr.grp t c2 e2 x2 u2 S k q i1 i2 a2 h2 b2 h4 h5
 ·intro t c2 e2 x2 u2 S h1
  exact hr.out t c2 e2 x2 u2 S (old h1 (b5 h1)).2
theorem uA0{φ:Phi}{L L':ucd}{w w':World}{g g':Nat}{pre cells:List Value}{e:TypeId}{u:Nat}{im:Im}{d:Nat}{C C':Array Value}{fr:Nat×Nat}(hr:Rep φ L w)(hg:L g=some (.row pre e false u false []))(hi:φ g=some im)(far:∀ {k:Nat} {q:Ob} {i:Im},L k=some q->k≠g->φ k=some i->i.b≠im.b)
 (hf:φ g'=none) (hL:L' g'=some (.row cells e false u true [g])) (hk:∀k,k≠g'->L' k=L k) (hC:w.heap[im.b]? = some (.cells C e fr)) (hw:vCu w w' im.b C' e fr) (b8:uH3 fr C.size) (c7:im.un=u) (b1:C'.size=C.size) (c3:im.sz=C.size)
 (c5:∀(j:Nat),j<pre.length->C'[im.d+j]? = C[im.d+j]?) (c1:im.d+pre.length<=d+cells.length) (c4:d+cells.length<=C.size) (hv:∀(j:Nat) (v:Value),cells[j]? = some v->∃v',C'[d+j]? = some v'/\RV φ v v') :
 Rep (φ.set g' ⟨im.b,d,C.size,u,false⟩) L' w':=by
 have a0:=Phi.vB3 (im:=⟨im.b,d,C.size,u,false⟩) hf;have b3:g≠g':=fun e1=>by subst e1;rw[hf]at hi;cases hi
 have b2:∀ {k:Nat} {i:Im},(φ.set g' ⟨im.b,d,C.size,u,false⟩) k=some i->k≠g'->φ k=some i:=fun {k i} h b5=>by rw[Phi.vBg b5]at h;exact h
 have b6:∀ {i:Im},(φ.set g' ⟨im.b,d,C.size,u,false⟩) g'=some i->i=⟨im.b,d,C.size,u,false⟩:=fun {i} h=>by rw[Phi.vAo]at h;injection h with h;exact h.symm
 refine⟨fun k q h=>?_,?_,?_,?_,hr.glob.mono a0⟩
 ·by_cases c0:k=g'
  ·subst c0
   rw[hL]at h;injection h with h;subst h;exact⟨_,Phi.vAo _ _ _,rfl,fun _=>rfl,(fun h=>by cases h),C',fr,hw.at',by rw[b1];exact b8,b1.symm,by rw[b1];exact c4,fun j v hj=>by obtain⟨v',k1,k2⟩:=hv j v hj;exact⟨v',k1,k2.mono a0⟩⟩
  ·have h2:=h
   rw[hk k c0]at h;by_cases b0:k=g
   ·subst b0
    rw[hg]at h;injection h with h;subst h;obtain⟨c8,a1,a2,a3,a4,C2,c6,a5,a6,a7,a8,a9⟩:=hr.ob k _ hg;rw[hi]at a1;injection a1 with a1;subst a1;rw[hC]at a5;injection a5 with a5;injection a5 with a51 a52 a53;subst a51;refine⟨im,a0 _ _ hi,a2,a3,(fun h=>by cases h),C',fr,hw.at',by rw[b1];exact b8,by rw[b1];exact c3,by rw[b1];exact a8,fun j v hj=>?_⟩
    obtain⟨v',k1,k2⟩:=a9 j v hj;exact⟨v',by rw[c5 j (aI.1 hj).1];exact k1,k2.mono a0⟩
   ·obtain⟨i,b9,_⟩:=(hr.ob k q h).img
    exact(hr.ob k q h).vAb b9 a0 (hw.other _ (far h b0 b9))
 ·intro g1 g2 o1 o2 i1 i2 h1 h2 h3 h4 hb
  have b7:∀ {k:Nat} {q:Ob} {i:Im},L' k=some q->k≠g'->(φ.set g' ⟨im.b,d,C.size,u,false⟩) k=some i->i.b=im.b->k=g:=fun {k q i} a b c dd=>by
   rw[hk k b]at a;rcases Nat.decEq k g with b5|he
   ·exact absurd dd (far a b5 (b2 c b))
   ·exact he
  by_cases e1:g1=g'
  ·by_cases e2:g2=g'
   ·exact .inl (e1.trans e2.symm)
   ·subst e1
    rw[b6 h3]at hb;exact .inr ⟨g1,_,_,_,_,_,hL,.inl rfl,.inr (by rw[b7 h2 e2 h4 hb.symm];simp)⟩
  ·by_cases e2:g2=g'
   ·subst e2
    rw[b6 h4]at hb;exact .inr ⟨g2,_,_,_,_,_,hL,.inr (by rw[b7 h1 e1 h3 hb];simp),.inl rfl⟩
   ·rw[hk g1 e1]at h1
    rw[hk g2 e2]at h2;rcases hr.sep g1 g2 o1 o2 i1 i2 h1 h2 (b2 h3 e1) (b2 h4 e2) hb with h|⟨t,c2,e3,x2,u2,S,k1,k2⟩
    ·exact .inl h
    ·refine .inr ⟨t,c2,e3,x2,u2,S,?_,k2⟩
     rw[hk t (fun et=>by subst et;rw[hr.dead hf]at k1;cases k1)]
     exact k1
 ·intro t c2 e2 x2 u2 S k q i1 i2 h1 h2 h3 h4 h5
  by_cases et:t=g'
  ·subst et
   rw[hL]at h1;injection h1 with h1;injection h1 with h11 _ _ _ _ h16;subst h11;subst h16;have b0:k=g:=by simpa using h2
   subst b0;rw[hk k b3,hg]at h3;injection h3 with h3;subst h3;refine⟨_,_,_,_,_,rfl,fun _=>?_⟩
   rw[b6 h4];have:=b2 h5 b3;rw[hi]at this;injection this with this;subst this;exact c1
  ·rw[hk t et]at h1
   have ek:k≠g':=fun ek=>by subst ek;exact(hr.out t c2 e2 x2 u2 S h1).2 k h2 hf
   rw[hk k ek]at h3;exact hr.grp t c2 e2 x2 u2 S k q i1 i2 h1 h2 h3 (b2 h4 et) (b2 h5 ek)
 ·intro t c2 e2 x2 u2 S h1
  by_cases et:t=g'
  ·subst et
   rw[hL]at h1;injection h1 with h1;injection h1 with _ _ _ _ _ h16;subst h16;refine⟨by simpa using b3.symm,fun k b4 hn=>?_⟩
   have b0:k=g:=by simpa using b4
   subst b0;rw[a0 _ _ hi]at hn;cases hn
  ·rw[hk t et]at h1
   obtain⟨a1,a2⟩:=hr.out t c2 e2 x2 u2 S h1;refine⟨a1,fun k b4 hn=>?_⟩
   cases hφ:φ k with
   | none=>exact a2 k b4 hφ
   | some i=>rw[a0 _ _ hφ]at hn;cases hn
end
section
variable {P:Program}
theorem Ext.drew(φ:Phi)(L:ucd)(n:Nat)(w:World):Ext φ L n φ L n w (uez w) where
 le:= .refl φ
 nx:=ab
 new:=fun g h=>absurd rfl h
 os:=rfl
 tape:=rfl
 output:=rfl
 size:=ab
 fr:=fun _ _ _=>rfl
 live:=fun g o im h1 h2=> .inr ⟨g,o,im,h1,h2,rfl,id⟩
 dom:=fun g o h=> .inl ⟨o,h⟩
 men:=fun k h=> .inl h
theorem ujs(z:Array Value)(n:Nat):(Builtin.zeroCells z n).size=n*z.size:=by simp[Builtin.zeroCells]
theorem ui5{φ:Phi}{L L':ucd}{w:World}{n g a0 cap size:Nat}{cells:List Value}{e:TypeId}{S:List Nat}{C:Array Value}{new:Array Value}{z:Array Value}(hr:Rep φ L w)(hg:φ g=none)(hL:L' g=some (.row cells e false size true S))(a5:∀k,k≠g->L' k=L k)(hn:n<=g)
 (hC:C=new++Builtin.zeroCells z (cap-a0)) (a3:RVs φ cells new.toList) (a2:cells.length=a0*size) (hz:z.size=size) (a1:a0<=cap)
 (hS:∀k∈S,k≠g/\φ k≠none/\∃c' e' x' u' S',L k=some (.row c' e' x' u' false S')) :
 ∃φ',RV φ' (sli g 0 a0 a0) (.slice (some ⟨w.heap.size,0,none⟩) a0 cap)/\Rep φ' L' (push (uez w) (.cells C e))/\∀n',g<n'->Ext φ L n φ' L' n' w (push (uez w) (.cells C e)):=by
 have hl:cells.length=new.size:=by rw[<-aM];exact a3.len
 have a7:C.size=cap*size:=by
  rw[hC,Array.size_append,ujs,<-hl,a2,hz,<-Nat.add_mul];congr 1
  omega
 have hv:∀(j:Nat) (v:Value),cells[j]? = some v->∃v',C[j]? = some v'/\RV φ v v':=by
  intro j v hj;obtain⟨v',k1,k2⟩:=a3.get hj;refine⟨v',?_,k2⟩;have a8:=(aI.1 hj).1;rw[hC,Array.getElem?_append_left (by omega),<-aH]
  exact k1
 have a6:=uwy (φ:=φ) (w:=uez w) (e:=e) (un:=size) (ex:=false) (top:=true) (S:=S) hg (cells:=cells) (C:=C) (by
  rw[a7,a2];exact aF _ a1) (fun h=>by cases h) hv
 obtain⟨r1,r2⟩:=up8 (n:=n) hr.drew hg hL a5 (im:=⟨w.heap.size,0,C.size,size,false⟩) rfl hn a6 (fun c e' x u S' h k hk=>by
  injection h with _ _ _ _ _ h;subst h;exact hS k hk)
 refine⟨_,.sli (off:=0) (Phi.vAo φ g ⟨w.heap.size,0,C.size,size,false⟩) a1 a1 (fun h=>by cases h) (.inl ⟨rfl,fun _=>?_⟩),r1,fun n' a4=>(Ext.drew φ L n w).trans (r2 n' a4)⟩
 show 0+cap*size<=C.size
 omega
theorem Ext.cut{φ:Phi}{L L':ucd}{w:World}{n g:Nat}{c pre:List Value}{e:TypeId}{u:Nat}{s:List Nat}(hg:L g=some (.row c e false u true s))(hL:L' g=some (.row pre e false u false []))(hk:∀k,k≠g->L' k=if k∈s then none else L k):Ext φ L n φ L' n w w where
 le:= .refl φ
 nx:=ab
 new:=fun g h=>absurd rfl h
 os:=rfl
 tape:=rfl
 output:=rfl
 size:=ab
 fr:=fun _ _ _=>rfl
 live:=fun k o im h1 h2=>by
  by_cases hkg:k=g
  ·subst hkg
   rw[hL]at h1;injection h1 with h1;subst h1;exact .inr ⟨k,_,im,hg,h2,rfl,fun h=>by cases h⟩
  ·rw[hk k hkg]at h1
   split at h1
   ·cases h1
   ·exact .inr ⟨k,o,im,h1,h2,rfl,id⟩
 dom:=fun k o h=>by
  by_cases hkg:k=g
  ·subst hkg;exact .inl ⟨_,hg⟩
  ·rw[hk k hkg]at h
   split at h
   ·cases h
   ·exact .inl ⟨o,h⟩
 men:=fun k h=>by
  have old:∀ {t:Nat} {o:Ob},L' t=some o->t≠g->L t=some o:=fun {t o} h ht=>by
   rw[hk t ht]at h;split at h
   ·cases h
   ·exact h
  rcases h with⟨o,h⟩|⟨t,c2,e2,x2,u2,S,h,h2⟩
  ·by_cases hkg:k=g
   ·subst hkg;exact .inl (.inl ⟨_,hg⟩)
   ·exact .inl (.inl ⟨o,old h hkg⟩)
  ·by_cases htg:t=g
   ·subst htg
    rw[hL]at h;injection h with h;injection h with _ _ _ _ h _;cases h
   ·exact .inl (.inr ⟨t,c2,e2,x2,u2,S,old h htg,h2⟩)
structure vCn (P:Program) (T:Array TypeId) (sT xT e:TypeId) (ei:TypeInfo) (d:TypeDesc) (z:Value):Prop where
 h0:T[0]? = some sT
 h1:T[1]? = some xT
 hs:P.underlying sT=some (.slice e)
 hx:P.underlying xT=some d
 hi:P.info? e=some ei
 hb1:ei.bytes<=1000000
 hb2:1<=ei.bytes
 hz:∀w,(zeroValue e).run P w = .ok z w
 hzs:z.cells.size=ei.size
theorem uA1{m:Mem}{T:Array TypeId}{rt sT xT e:TypeId}{ei:TypeInfo}{d:TypeDesc}{z:Value}(A:vCn P T sT xT e ei d z){g off sl sc n:Nat}{new:List Value}{K:Value->Mem->Bool}(c7:new.length=n*ei.size)(e2:∀v∈new,vBa v=true)(d5:sl+n<=1000000)(e4:¬sl+n<=sc)(hn:0<n)(h:uEb m e ei.size g off sl (sl+n) new K=true):∃v m',K v m'=true/\m.next<=m'.next /\
 ∀(φ:Phi) (w:World) (s' x':Value) (a0:Array Value),RV φ (.slice (some ⟨g,off,none⟩) sl sc) s'->RVs φ new a0.toList->(∀w2:World,w2.heap=w.heap->Src P d e ei.size x' n a0 w2)->Rep φ m.t.get w->ut7 φ m.next m'.next ->
  ∃v' w' φ',(Builtin.append_ T rt #[s',x']).run P w = .ok v' w'/\RV φ' v v'/\Rep φ' m'.t.get w'/\Ext φ m.t.get m.next φ' m'.t.get m'.next w w':=by
 unfold uEb at h;obtain⟨c,el,ex,un,top,st,hg,h⟩:=ucl h;obtain⟨h,c8⟩:=ub5 _ _ _ _ h;have h:=ugs _ _ _ h;have c1:((c.drop off).take (sl*ei.size)++new).length=(sl+n)*ei.size:=by
  rw[ay,c7,Nat.add_mul,List.length_take,List.length_drop];rcases c8 with h|h<;>omega
 cases ex with
 | true=>
  obtain⟨m',h,g1,g2,g3⟩:=ul3 h;refine⟨_,m',h,by omega,fun φ w s' x' a0 c4 a8 a9 hr hf=>?_⟩
  have hφ:=hf m.next ab (by omega)
  have c9:=c4;obtain⟨im,o',c',a7,rfl,a1,a2,a3,a4⟩:=c9.vAu;obtain⟨f7,k1,k2,k3,k4,k5⟩:=hr.ob _ _ hg;rw[a7]at k1;injection k1 with k1;subst k1;have e0:=a3 k2;subst e0;obtain⟨old,b1,b2⟩:=ul5 (P:=P) (size:=ei.size) hr hg c4 ab c8;obtain⟨cap,q1,q2⟩:=ucq (rt:=rt) A.h0 A.h1 A.hs A.hx A.hi A.hb1 A.hb2 (a9 w rfl) (a9 (uez w) rfl) e4 d5 (b1 (uez w) rfl) A.hz;obtain⟨φ',r1,r2,r3⟩:=ui5 (n:=m.next) (C:=old++a0++Builtin.zeroCells z.cells (cap-(sl+n))) (new:=old++a0) hr hφ g2 g3 ab rfl (by rw[Array.toList_append];exact b2.app a8) c1 A.hzs q1 (fun k hk=>by cases hk)
  exact⟨_,_,φ',q2,r1,r2,r3 _ (by omega)⟩
 | false=>
  cases top with
  | false=>cases h
  | true=>
   simp only[]at h;rw[uk,uk]at h;obtain⟨c6,b0,h⟩:=h;have c6:=uJ.1 c6;have b0:=uJ.1 b0;subst c6;obtain⟨h,f2⟩:=ub5 _ _ _ _ h;obtain⟨t1,h,k1⟩:=uh1 h;obtain⟨t2,h,k2,k3⟩:=udp h;obtain⟨m',h,g1,g2,g3⟩:=ul3 h;simp only[]at g1 g2 g3 h;rw[List.drop_zero]at k2;have hk:∀k,k≠g->t2.get k=if k∈st then none else m.t.get k:=fun k hk=>by rw[k3 k hk,k1]
   have hp:∀(j:Nat) (v:Value),(c.take (off+sl*ei.size))[j]? = some v->c[j]? = some v:=fun j v hj=>by
    rw[List.getElem?_take]at hj;split at hj
    ·exact hj
    ·cases hj
   have f0:(c.take (off+sl*ei.size)).length<=c.length:=by rw[List.length_take];omega
   have f1:(c.take (off+sl*ei.size)).length=off+sl*ei.size\/off+sl*ei.size=0:=by
    rw[List.length_take];rcases f2 with h|h<;>omega
   have d6:(c.take (off+sl*ei.size)).length=off+sl*ei.size:=by
    rcases f1 with h|h
    ·exact h
    ·rw[h];rfl
   refine⟨_,m',h,by omega,fun φ w s' x' a0 c4 a8 a9 hr hf=>?_⟩
   have hφ:=hf m.next ab (by omega)
   have c9:=c4;obtain⟨im,o',c',a7,rfl,a1,a2,a3,a4⟩:=c9.vAu;obtain⟨r1,far⟩:=uEw (L':=t2.get) hr hg a7 k2 hk hp f0;have c0:=Ext.cut (φ:=φ) (w:=w) (n:=m.next) hg k2 hk;by_cases c2:sl+n<=c'
   ·
    obtain⟨f7,b1,b2,b3,b4,C,fr,b5,b6,b7,b8,b9⟩:=hr.ob g _ hg;rw[a7]at b1;injection b1 with b1;subst b1;have d8:=b3 rfl;have ⟨ho',hsp⟩:o'=im.d+off/\o'+c'*im.un<=im.sz:=by
     rcases a4 with⟨a4,a5⟩|a4
     ·exact⟨a4,a5 b2⟩
     ·omega
    rw[d8,b0,b7]at hsp;have f5:(sl+n)*ei.size<=c'*ei.size:=aF _ c2;rw[Nat.add_mul]at f5;have e8:a0.toList.length=n*ei.size:=by rw[<-a8.len,c7]
    obtain⟨w',d1,d2⟩:=ucp (P:=P) (off:=im.d+off+sl*ei.size) a0.toList 0 w C b5 b6 (.inr (by omega)) (a8.vBa e2)
    have d9:(⟨im.b,o',none⟩:Addr).add (sl*ei.size)=⟨im.b,im.d+off+sl*ei.size,none⟩:=by
     unfold Addr.add;split
     ·rename_i h0;rw[h0,ho'];simp
     ·rw[ho']
    have f4:=ub6 (rt:=rt) (base:=some ⟨im.b,o',none⟩) (w':=w') A.h0 A.h1 A.hs A.hx A.hi A.hb1 (a9 w rfl) c2 (fun a ha=>by
     injection ha with ha;subst ha;rw[d9];exact d1) (fun ha=>by cases ha)
    obtain⟨C',c5⟩:∃C',C'=(ujr C.toList (im.d+off+sl*ei.size+0) a0.toList).toArray:=⟨_,rfl⟩;rw[<-c5]at d2;have f6:C'.size=C.size:=by rw[c5,<-aM];simp[uew]
    have d3:∀j,C'[j]? = if im.d+off+sl*ei.size<=j/\j<im.d+off+sl*ei.size+a0.toList.length then a0.toList[j-(im.d+off+sl*ei.size)]? else C[j]? :=fun j=>by
     rw[c5];have d0:=uhz a0.toList C.toList (im.d+off+sl*ei.size+0) j (.inl (by have h9:C.toList.length=C.size:=aM;omega))
     simp only[Nat.add_zero]at d0 ⊢;rw[List.getElem?_toArray,d0,aH (xs:=C)]
    have f3:=uA0 (L':=m'.t.get) (g':=m.next) (d:=im.d+off) (cells:=(c.drop off).take (sl*ei.size)++new) (C':=C') (w':=w') r1 k2 a7 far hφ (by rw[b0]at g2 ⊢;exact g2) g3 b5 d2 b6 d8 f6 b7 (fun j hj=>by
     rw[d3,if_neg (by rw[d6]at hj;omega)]) (by rw[d6,c1,Nat.add_mul];omega) (by rw[c1,Nat.add_mul];omega) (fun j v hj=>by
     rw[d3];by_cases d4:j<((c.drop off).take (sl*ei.size)).length
     ·rw[List.getElem?_append_left d4]at hj
      rw[List.length_take]at d4;rw[if_neg (by omega)]
      rw[List.getElem?_take,if_pos (by omega),List.getElem?_drop]at hj
      rw[show im.d+off+j=im.d+(off+j) by omega]
      exact b9 _ _ hj
     ·have e9:((c.drop off).take (sl*ei.size)).length=sl*ei.size:=by
       rw[ay,c7,Nat.add_mul]at c1;omega
      rw[List.getElem?_append_right (by omega),e9]at hj
      have f8:=(aI.1 hj).1;rw[if_pos (by rw[e8];omega),show im.d+off+j-(im.d+off+sl*ei.size)=j-sl*ei.size by omega]
      exact a8.get hj)
    refine⟨_,w',_,f4,?_,f3,?_⟩
    ·rw[ho']
     exact .sli (off:=0) (im:=⟨im.b,im.d+off,C.size,un,false⟩) (Phi.vAo φ m.next ⟨im.b,im.d+off,C.size,un,false⟩) c2 c2 (fun h=>by cases h) (.inl ⟨rfl,fun _=>by show im.d+off+c'*un<=C.size;rw[b0];omega⟩)
    ·refine⟨Phi.vB3 hφ,by omega,fun k e5=>?_,d2.os,d2.tape,d2.output,by rw[d2.size];exact ab,fun b hb e7=>?_,fun k q i h1 h2=>?_,fun k q h1=>?_,fun k h1=>?_⟩
     ·by_cases a6:k=m.next
      ·omega
      ·exact absurd (Phi.vBg a6) e5
     ·exact d2.other b fun e1=>e7 g _ im hg rfl a7 e1.symm
     ·by_cases a6:k=m.next
      ·subst a6
       rw[Phi.vAo]at h2;injection h2 with h2;subst h2;exact .inr ⟨g,_,im,hg,a7,rfl,fun _=>rfl⟩
      ·rw[g3 k a6]at h1
       rw[Phi.vBg a6]at h2;exact c0.live k q i h1 h2
     ·by_cases a6:k=m.next
      ·exact .inr (by omega)
      ·rw[g3 k a6]at h1
       rcases c0.dom k q h1 with h2|h2
       ·exact .inl h2
       ·omega
     ·rcases h1 with⟨o,h1⟩|⟨t,c3,e3,x3,u3,S,h1,h2⟩
      ·by_cases a6:k=m.next
       ·exact .inr (by omega)
       ·rw[g3 k a6]at h1
        rcases c0.men k (.inl ⟨o,h1⟩)with h2|h2
        ·exact .inl h2
        ·omega
      ·by_cases d7:t=m.next
       ·subst d7
        rw[g2]at h1;injection h1 with h1;injection h1 with _ _ _ _ _ h1;subst h1;have a6:k=g:=by simpa using h2
        subst a6;exact .inl (.inl ⟨_,hg⟩)
       ·rw[g3 t d7]at h1
        rcases c0.men k (.inr ⟨t,c3,e3,x3,u3,S,h1,h2⟩)with h2|h2
        ·exact .inl h2
        ·omega
   ·obtain⟨old,b1,b2⟩:=ul5 (P:=P) (size:=ei.size) hr hg c4 ab c8
    obtain⟨cap,q1,q2⟩:=ucq (rt:=rt) A.h0 A.h1 A.hs A.hx A.hi A.hb1 A.hb2 (a9 w rfl) (a9 (uez w) rfl) c2 d5 (b1 (uez w) rfl) A.hz;obtain⟨φ',p1,p2,p3⟩:=ui5 (n:=m.next) (C:=old++a0++Builtin.zeroCells z.cells (cap-(sl+n))) (new:=old++a0) r1 hφ (by rw[b0]at g2;exact g2) g3 ab rfl (by rw[Array.toList_append];exact b2.app a8) c1 A.hzs q1 (fun k e6=>by
     have a6:k=g:=by simpa using e6
     subst a6;refine⟨(fun e1=>by rw[e1,hφ]at a7;cases a7),(by rw[a7];simp),_,_,_,_,_,k2⟩)
    exact⟨_,_,φ',q2,p1,p2,c0.trans (p3 _ (by omega))⟩
end
section
variable {P:Program}
def uEx(P:Program)(m m':Mem)(v:Value)(x y:Value)(s:Value->Value->Sem Value):Prop:=
 ∀(φ:Phi) (w:World) (x' y':Value),RV φ x x'->RV φ y y'->Rep φ m.t.get w->ut7 φ m.next m'.next->∃v' w' φ',(s x' y').run P w = .ok v' w'/\RV φ' v v'/\Rep φ' m'.t.get w'/\Ext φ m.t.get m.next φ' m'.t.get m'.next w w'
theorem uuc{m:Mem}{T:Array TypeId}{rt:TypeId}{s x:Value}{K:Value->Mem->Bool}(h:up3 P m T.toList s x K=true):∃v m',K v m'=true/\m.next<=m'.next/\uEx P m m' v s x (fun s' x'=>Builtin.append_ T rt #[s',x']):=by
 unfold up3 at h;cases hT:T.toList with
 | nil=>rw[hT]at h;cases h
 | cons sT T1=>
  rw[hT]at h;cases T1 with
  | nil=>cases h
  | cons xT T2=>
   have h0:T[0]? = some sT:=by rw[<-aH,hT];rfl
   have h1:T[1]? = some xT:=by rw[<-aH,hT];rfl
   obtain⟨e,hs,h⟩:=uc4 h;split at h
   ·cases h
   ·rename_i ei hi
    rw[uk,uk]at h;obtain⟨a7,b4,h⟩:=h;have a7:=uW.1 a7;have b4:=uW.1 b4;obtain⟨z,h,hz,c3⟩:=udr h;rw[uk,uah]at h;obtain⟨b9,h⟩:=h;have b9:=uJ.1 b9;have c4:z.cells.size=ei.size:=by rw[<-aM,uau,b9]
    obtain⟨n,new,d,h,hx,b0⟩:=uEv h;rw[uk,uk,uah]at h;obtain⟨a9,b6,h⟩:=h;have a9:=uJ.1 a9;have b6:=ubw _ b6;have A:vCn P T sT xT e ei d z:=⟨h0,h1,hs,hx,hi,a7,b4,c3,c4⟩;cases n with
    | zero=>
     have c7:new=[]:=List.eq_nil_of_length_eq_zero (by rw[a9];simp)
     subst c7;simp only[]at h;rcases uh0 h with⟨l,c,e0,h⟩|⟨g,off,l,c,e0,h⟩
     ·rw[uk]at h
      obtain⟨c1,h⟩:=h;have c1:=uW.1 c1;refine⟨_,m,h,ab,fun φ w s' x' a0 a5 hr hf=>?_⟩
      rw[e0]at a0;obtain⟨a6,k1,k2⟩:=b0 φ w x' a5 hr;refine⟨_,w,φ,?_,.nils l c,hr,.refl _ _ _ _⟩;simp only[a0.vAx];rw[ub6 h0 h1 hs hx hi a7 (k2 w rfl) (by omega) (fun a ha=>by cases ha) (fun _=>rfl)]
      rfl
     ·refine⟨_,m,h,ab,fun φ w s' x' a0 a5 hr hf=>?_⟩
      rw[e0]at a0;obtain⟨a6,k1,k2⟩:=b0 φ w x' a5 hr;have c6:a6.toList=[]:=by
       have:=k1.len;exact List.eq_nil_of_length_eq_zero (by simpa using this.symm)
      have c9:=a0;obtain⟨im,o',c',b7,rfl,a1,a2,a3,a4⟩:=a0.vAu;refine⟨_,w,φ,?_,c9,hr,.refl _ _ _ _⟩;rw[ub6 (w':=w) h0 h1 hs hx hi a7 (k2 w rfl) (by omega) (fun a ha=>by rw[c6];rfl) (fun ha=>by cases ha)]
      rfl
    | succ n=>
     simp only[]at h;rcases uh0 h with⟨l,c,e0,h⟩|⟨g,off,sl,sc,e0,h⟩
     ·rw[uk,uk,uk]at h
      obtain⟨hl,hc,a8,h⟩:=h;have hl:=uJ.1 hl;have hc:=uJ.1 hc;have a8:=uW.1 a8;obtain⟨m',h,g1,g2,g3⟩:=ul3 h;refine⟨_,m',h,by omega,fun φ w s' x' a0 a5 hr hf=>?_⟩
      have hφ:=hf m.next ab (by omega)
      rw[e0,hl,hc]at a0;simp only[a0.vAx];obtain⟨a6,k1,k2⟩:=b0 φ w x' a5 hr;obtain⟨cap,q1,q2⟩:=ucq (rt:=rt) (base:=none) (sl:=0) (sc:=0) (old:=#[]) h0 h1 hs hx hi a7 b4 (k2 w rfl) (k2 (uez w) rfl) (by omega) (by omega) rfl c3
      rw[Nat.zero_add]at q1 q2;obtain⟨φ',p1,p2,p3⟩:=ui5 (n:=m.next) (C:=#[]++a6++Builtin.zeroCells z.cells (cap-(n+1))) (new:=#[]++a6) hr hφ g2 g3 ab rfl (by simpa using k1) (by rw[a9]) c4 q1 (fun k hk=>by cases hk)
      exact⟨_,_,φ',q2,p1,p2,p3 _ (by omega)⟩
     ·have h:=uw h
      rw[uk]at h;obtain⟨a8,h⟩:=h;have a8:=uW.1 a8;rcases uab h with⟨c0,h⟩|⟨b5,h⟩
      ·have c0:=uW.1 c0
       obtain⟨m',h,b8,hw⟩:=ui4 (P:=P) h;refine⟨_,m',h,by omega,fun φ w s' x' a0 a5 hr hf=>?_⟩
       rw[e0]at a0;obtain⟨a6,k1,k2⟩:=b0 φ w x' a5 hr;obtain⟨im,o',c',b7,rfl,a1,a2,a3,a4⟩:=a0.vAu;have c2:o'=im.d+off:=by rcases a4 with a4|a4;exact a4.1;omega
       obtain⟨w',b1,b2,b3⟩:=hw φ w im a6.toList b7 k1 hr;have c5:(⟨im.b,o',none⟩:Addr).add (sl*ei.size)=⟨im.b,im.d+(off+sl*ei.size),none⟩:=by
        unfold Addr.add;split
        ·rename_i h0;rw[h0,c2];simp
        ·rw[c2];simp[Nat.add_assoc]
       have c8:=ub6 (rt:=rt) (base:=some ⟨im.b,o',none⟩) (w':=w') h0 h1 hs hx hi a7 (k2 w rfl) (by omega:sl+(n+1)<=c') (fun a ha=>by
        injection ha with ha;subst ha;rw[c5];exact b1) (fun ha=>by cases ha)
       exact⟨_,w',φ,c8,.sli b7 (by omega) a2 a3 a4,b2,by rw[b8]at b3 ⊢;exact b3⟩
      ·have b5:¬sl+(n+1)<=sc:=fun e1=>by rw[uW.2 e1]at b5;cases b5
       obtain⟨v,m',hv,b8,hk⟩:=uA1 (rt:=rt) A a9 b6 a8 b5 (by omega) h
       refine⟨v,m',hv,b8,fun φ w s' x' a0 a5 hr hf=>?_⟩
       rw[e0]at a0;obtain⟨a6,k1,k2⟩:=b0 φ w x' a5 hr;exact hk φ w s' x' a6 a0 k1 k2 hr hf
theorem ur3:∀ {cs:List Value} {K:List UInt8->Bool},uAi cs K=true->∃l,K l=true/\cs=l.map fun b=>Value.int .u8 b.toNat
 | [],K,h=>⟨[],h,rfl⟩
 | v::cs,K,h=>by
  unfold uAi at h;split at h
  ·split at h
   ·split at h
    ·rename_i n
     rw[uk]at h;obtain⟨h1,h⟩:=h;have h1:=uW.1 h1;obtain⟨l,h2,rfl⟩:=ur3 h;refine⟨_,h2,?_⟩;simp only[List.map_cons];congr 2
     rw[UInt8.toNat_ofNat'];rw[aV (by omega)]
     rfl
    ·cases h
   ·cases h
  ·cases h
theorem uA2{φ:Phi}{L L':ucd}{w:World}{n g:Nat}{c:List Value}{e:TypeId}{x:Bool}{u:Nat}{s:List Nat}(hr:Rep φ L w)(hg:L g=some (.row c e x u true s))(hk:∀k,L' k=if k∈g::s then none else L k) :
 Rep φ L' w/\Ext φ L n φ L' n w w/\∀ {k:Nat} {q:Ob} {i im:Im},L' k=some q->φ g=some im->φ k=some i->i.b≠im.b:=by
 have old:∀ {k:Nat} {q:Ob},L' k=some q->k≠g/\k∉s/\L k=some q:=fun {k q} h=>by
  rw[hk k]at h;split at h
  ·cases h
  ·rename_i hn
   exact⟨fun e1=>hn (by rw[e1];simp),fun e1=>hn (aG _ e1),h⟩
 refine⟨⟨fun k q h=>hr.ob k q (old h).2.2,?_,?_,fun t c2 e2 x2 u2 S h=>hr.out t c2 e2 x2 u2 S (old h).2.2,hr.glob⟩,⟨.refl φ,ab,fun g h=>absurd rfl h,rfl,rfl,rfl,ab,fun _ _ _=>rfl,fun k q i h1 h2=> .inr ⟨k,q,i,(old h1).2.2,h2,rfl,id⟩,fun k q h=> .inl ⟨q,(old h).2.2⟩,fun k h=> .inl (h.elim (fun⟨q,h⟩=> .inl ⟨q,(old h).2.2⟩) fun⟨t,c,e,x,u,S,h,h2⟩=> .inr ⟨t,c,e,x,u,S,(old h).2.2,h2⟩)⟩,?_⟩
 ·intro g1 g2 o1 o2 i1 i2 h1 h2 h3 h4 hb
  obtain⟨a1,a2,a3⟩:=old h1;obtain⟨b1,b2,b3⟩:=old h2;rcases hr.sep g1 g2 o1 o2 i1 i2 a3 b3 h3 h4 hb with h|⟨t,c2,e3,x2,u2,S,k1,k2,k3⟩
  ·exact .inl h
  ·have a7:t≠g:=by
    intro et;subst et;rw[hg]at k1;injection k1 with k1;injection k1 with _ _ _ _ _ k1;subst k1;rcases k2 with k2|k2
    ·exact a1 k2
    ·exact a2 k2
   have a4:t∉s:=by
    intro a4;obtain⟨it,a0,_⟩:=(hr.ob t _ k1).img;obtain⟨im,a6,_⟩:=(hr.ob g _ hg).img;obtain⟨c3,e4,x3,u3,S3,e5,_⟩:=hr.grp g c e x u s t _ im it hg a4 k1 a6 a0;injection e5 with _ _ _ _ e5 _;cases e5
   exact .inr ⟨t,c2,e3,x2,u2,S,by rw[hk t,if_neg (by simp[a7,a4])];exact k1,k2,k3⟩
 ·intro t c2 e2 x2 u2 S k q i1 i2 h1 h2 h3 h4 h5
  exact hr.grp t c2 e2 x2 u2 S k q i1 i2 (old h1).2.2 h2 (old h3).2.2 h4 h5
 ·intro k q i im h hi a5 e1
  obtain⟨a1,a2,a3⟩:=old h;rcases hr.sep k g q _ i im a3 hg a5 hi e1 with h3|⟨t,c2,e2,x2,u2,S,k1,k2,k3⟩
  ·exact a1 h3
  ·rcases k3 with rfl|k3
   ·rw[hg]at k1
    injection k1 with k1;injection k1 with _ _ _ _ _ k1;subst k1;rcases k2 with k2|k2
    ·exact a1 k2
    ·exact a2 k2
   ·obtain⟨it,a0,_⟩:=(hr.ob t _ k1).img
    obtain⟨c3,e3,x3,u3,S3,e4,_⟩:=hr.grp t c2 e2 x2 u2 S g _ it im k1 k3 hg a0 hi;injection e4 with _ _ _ _ e4 _;cases e4
theorem uw8{φ:Phi}{L:ucd}{w w':World}{b:Nat}(hr:Rep φ L w)(hb:∀ {k:Nat} {q:Ob} {i:Im},L k=some q->φ k=some i->i.b≠b)(ho:∀k,k≠b->w'.heap[k]? = w.heap[k]?):Rep φ L w':=
 ⟨fun k q h=>by obtain⟨i,hi,_⟩:=(hr.ob k q h).img;exact(hr.ob k q h).vAb hi (.refl φ) (ho _ (hb h hi)),hr.sep,hr.grp,hr.out,hr.glob⟩
end
section
variable {P:Program}
theorem run_loadBytes{w:World}{b:Nat}{C:Array Value}{el:TypeId}{fr:Nat×Nat}(hb:w.heap[b]? = some (.cells C el fr)):∀(l:List UInt8) (off:Nat) (acc:ByteArray),(∀(j:Nat) (u:UInt8),l[j]? = some u->C[off+j]? = some (.int .u8 u.toNat)) ->
 (loadBytes ⟨b,off,none⟩ acc l.length).run P w = .ok ⟨⟨bytesOf acc++l⟩⟩ w
 | [],off,acc,h=>by
  have:acc=⟨⟨bytesOf acc++[]⟩⟩:=uf3 (by simp)
  simp only[aE,loadBytes,Sem.run_pure];rw[<-this]
 | u::l,off,acc,h=>by
  have hc:w.cell? ⟨b,off,none⟩=some (.int .u8 u.toNat):=by
   have:=h 0 u (by simp)
   unfold World.cell?;simp only[hb];simpa using this
  have hl:(load (⟨b,off,none⟩:Addr)).run P w = .ok (.int .u8 u.toNat) w:=by simp[load,Sem.run,hc]
  rw[aB,loadBytes,aD,hl];simp only[aA];have ha:(⟨b,off,none⟩:Addr).add 1=⟨b,off+1,none⟩:=rfl;rw[ha,run_loadBytes hb l (off+1) _ (fun j v hj=>by
   rw[show off+1+j=off+(j+1) by omega]
   exact h (j+1) v (by simpa using hj))]
  congr 3
  have hu:((u.toNat:Int)).toNat.toUInt8=u:=by simp
  rw[hu];have:bytesOf (acc.push u)=bytesOf acc++[u]:=by
   unfold bytesOf;rw[ByteArray.data_push,Array.toList_push]
  rw[this];simp
theorem uA3 {m : Mem} {T : Array TypeId} {rt ty : TypeId} {p n : Value} {K : Value -> Mem -> Bool} (hT : T[0]? = some ty) (h : uEc P m ty p n K = true) : ∃ v m', K v m' = true /\ m.next <= m'.next /\ uEx P m m' v p n (fun p' n' => Builtin.unsafeString_ T rt #[p', n']) := by
  unfold uEc at h
  obtain ⟨k, nn, e0, h⟩ := ucm h
  have hempty : ByteArray.empty = ⟨⟨[]⟩⟩ := rfl
  cases p with
  | pointer a =>
    simp only [] at h
    cases nn with
    | zero =>
      refine ⟨_, m, h, ab, fun φ w p' n' hp hn hr hf => ⟨_, w, φ, ?_, .string _, hr, .refl _ _ _ _⟩⟩
      obtain ⟨a', rfl, _⟩ := hp.vA9
      rw [e0] at hn
      rw [hn.vAc]
      change Sem.run P (Bind.bind (Go.asInt (.int k (Int.ofNat 0))) _) w = _
      simp only [Go.asInt, asIntOf, aD, Sem.run_pure, aA, hT]
      have hm : IntKind.i64.max = 9223372036854775807 := by decide
      rw [if_neg (by simp)]
      rw [if_neg (by rw [hm]; simp)]
      cases a' with
      | none => rfl
      | some a' => rfl
    | succ q =>
      simp only [] at h
      rw [uk] at h
      obtain ⟨hq6, h⟩ := h
      have hq6 := uW.1 hq6
      cases a with
      | none => cases h
      | some a =>
        obtain ⟨ea, h⟩ := uds h
        split at h
        · rename_i d hd
          split at h
          · rename_i e
            split at h
            · rename_i d2 hd2
              split at h
              · obtain ⟨z, h, ⟨ti, hti, hsz⟩, _⟩ := uat h
                rw [uk] at h
                obtain ⟨hz1, h⟩ := h
                have hz1 := uJ.1 hz1
                obtain ⟨c, el, ex, un, top, st, hg, h⟩ := ucl h
                cases top with
                | false => cases h
                | true =>
                  simp only [] at h
                  rw [uk] at h
                  obtain ⟨hel, h⟩ := h
                  have hel := uJ.1 hel
                  rw [hel] at hg
                  obtain ⟨h, hin⟩ := ub5 _ _ _ _ h
                  obtain ⟨l, h, hl⟩ := ur3 h
                  obtain ⟨t', h, hk⟩ := uh1 h
                  have hin : a.off + (q + 1) <= c.length := by rcases hin with h | h; cases h; exact h
                  have hll : l.length = q + 1 := by
                    have := congrArg List.length hl
                    rw [List.length_take, List.length_drop, List.length_map] at this
                    omega
                  refine ⟨_, _, h, ab, fun φ w p' n' hp hn hr hf => ?_⟩
                  rw [ea] at hp
                  obtain ⟨im, hi, rfl⟩ := hp.vBk
                  rw [e0] at hn
                  obtain ⟨im', a1, a2, a3, a4, C, fr, a5, a6, a7, a8, a9⟩ := hr.ob _ _ hg
                  rw [hi] at a1
                  injection a1 with a1
                  subst a1
                  obtain ⟨r1, r2, r3⟩ := uA2 (n := m.next) hr hg hk
                  have hlb := run_loadBytes (P := P) a5 l (im.d + a.off) .empty (fun j u hj => by
                    have h1 : ((c.drop a.off).take (q + 1))[j]? = some (.int .u8 u.toNat) := by rw [hl, List.getElem?_map, hj]; rfl
                    rw [List.getElem?_take] at h1
                    split at h1
                    · rw [List.getElem?_drop] at h1
                      obtain ⟨v', b1, b2⟩ := a9 _ _ h1
                      rw [show im.d + a.off + j = im.d + (a.off + j) by omega, b1, b2.vAc]
                    · cases h1)
                  rw [hll] at hlb
                  obtain ⟨w', hw'⟩ : ∃ w', w' = w.freeze ⟨im.b, im.d + a.off, none⟩ (q + 1) := ⟨_, rfl⟩
                  have hfz : (freeze ⟨im.b, im.d + a.off, none⟩ (q + 1)).run P w = .ok () w' := by rw [hw']; rfl
                  have hoth : ∀ k, k ≠ im.b -> w'.heap[k]? = w.heap[k]? := fun k hk => by
                    rw [hw']
                    unfold World.freeze
                    rw [if_neg (by omega)]
                    show (w.heap.modify im.b _)[k]? = _
                    rw [Array.getElem?_modify, if_neg (fun e => hk e.symm)]
                  have hsame : w'.os = w.os /\ w'.tape = w.tape /\ w'.output = w.output /\ w'.heap.size = w.heap.size := by
                    rw [hw']
                    unfold World.freeze
                    rw [if_neg (by omega)]
                    exact ⟨rfl, rfl, rfl, by simp⟩
                  have hva : (variablesAt ⟨im.b, im.d + a.off, none⟩ e (q + 1)).run P w = .ok true w := by
                    have hsh : (shape im.b).run P w = .ok (some (e, C.size)) w := by simp [shape, Sem.run, World.shape?, a5]
                    have hco : P.cellsOf e = 1 := by unfold Program.cellsOf; rw [hti]; simp [hsz, hz1]
                    obtain ⟨D, hD⟩ : ∃ D, P.depth = D + 1 := ⟨2 * (P.types.size + Made.depth) + 1, rfl⟩
                    unfold variablesAt
                    simp only [aD, program, Sem.run, hsh, aA, Sem.run_pure]
                    have : liesAt P P.depth e (C.size / P.cellsOf e) (im.d + a.off) e (q + 1) = true := by
                      rw [hD, liesAt, hD, rowAt, hco]
                      simp only [Nat.one_ne_zero, if_false, Nat.div_one, Nat.mod_one]
                      have hs : sameLayout P (D + 1) e e = true := by
                        rw [sameLayout]; simp
                      rw [hs]
                      have : decide (im.d + a.off + (q + 1) <= C.size) = true := decide_eq_true (by omega)
                      simp [this]
                    rw [this]
                  refine ⟨_, w', φ, ?_, .string _, uw8 r1 (fun h1 h2 => r3 h1 hi h2) hoth, ?_⟩
                  · have hm : IntKind.i64.max = 9223372036854775807 := by decide
                    rw [hn.vAc]
                    change Sem.run P (Bind.bind (Go.asInt (.int k (Int.ofNat (q + 1)))) _) w = _
                    simp only [Go.asInt, asIntOf, aD, Sem.run_pure, aA, hT]
                    rw [if_neg (by simp only [Int.ofNat_eq_natCast]; omega)]
                    rw [if_neg (by rw [hm]; simp only [Int.ofNat_eq_natCast]; omega)]
                    rw [if_neg (by simp only [Int.ofNat_eq_natCast]; omega)]
                    simp only [aD, elemOf, ur hd, aA, Sem.run_pure, Int.ofNat_eq_natCast, Int.toNat_natCast, hva, if_true, hlb, hfz]
                    rfl
                  · refine ⟨r2.le, r2.nx, r2.new, hsame.1, hsame.2.1, hsame.2.2.1, by rw [hsame.2.2.2]; exact ab, fun b hb hn2 => hoth b fun e1 => hn2 _ _ im hg rfl hi e1.symm, r2.live, r2.dom, r2.men⟩
              · cases h
            · cases h
          · cases h
        · cases h
  | _ => cases h
end
end AC.Ev
