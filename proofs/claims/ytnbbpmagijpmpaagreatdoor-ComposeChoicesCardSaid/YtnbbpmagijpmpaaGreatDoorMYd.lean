/-
  Closed calls by reflection: new blocks, writes.
-/
import Derived.Test.YtnbbpmagijpmpaaGreatDoorMYc
set_option linter.unusedVariables false
set_option linter.unusedSimpArgs false
namespace AC.Ev
open Go
def Phi.set(φ:Phi)(g:Nat)(im:Im):Phi:=fun k=>if k=g then some im else φ k
theorem Phi.vAo(φ:Phi)(g:Nat)(im:Im):φ.set g im g=some im:=if_pos rfl
theorem Phi.vBg{φ:Phi}{g k:Nat}{im:Im}(h:k≠g):φ.set g im k=φ k:=if_neg h
theorem Phi.vB3{φ:Phi}{g:Nat}{im:Im}(h:φ g=none):φ.Le (φ.set g im):=fun k i hk=>by
 rw[Phi.vBg]
 ·exact hk
 ·intro e;subst e;rw[h]at hk;cases hk
theorem ObR.img{φ:Phi}{w:World}{g:Nat}{o:Ob}(h:ObR φ w g o):∃im,φ g=some im/\im.b<w.heap.size:=by
 cases o with
 | row c e x u t s=>
  obtain⟨im,h1,_,_,_,C,fr,h2,_⟩:=h;exact⟨im,h1,(au.1 h2).1⟩
 | map es c=>
  obtain⟨im,a0,h1,h2,_⟩:=h;exact⟨im,h1,(au.1 h2).1⟩
theorem ObR.vAb{φ φ':Phi}{w w':World}{g:Nat}{o:Ob}{im:Im}(h:ObR φ w g o)(hi:φ g=some im)(hl:φ.Le φ')(hb:w'.heap[im.b]? = w.heap[im.b]?):ObR φ' w' g o:=by
 cases o with
 | row c e x u t s=>
  obtain⟨a1,h1,h2,h3,h4,C,fr,h5,h6,h7,h8,h9⟩:=h;rw[hi]at h1;injection h1 with h1;subst h1;exact⟨im,hl _ _ hi,h2,h3,h4,C,fr,hb.trans h5,h6,h7,h8,fun j v hv=>by obtain⟨v',k1,k2⟩:=h9 j v hv;exact⟨v',k1,k2.mono hl⟩⟩
 | map es c=>
  obtain⟨a1,a0,h1,h2,h3⟩:=h;rw[hi]at h1;injection h1 with h1;subst h1;exact⟨im,a0,hl _ _ hi,hb.trans h2,h3.mono hl⟩
theorem Rep.bound{φ:Phi}{L:ucd}{w:World}(h:Rep φ L w){g:Nat}{o:Ob}{im:Im}(hg:L g=some o)(hi:φ g=some im):im.b<w.heap.size:=by
 obtain⟨a0,h1,h2⟩:=(h.ob g o hg).img;rw[hi]at h1;injection h1 with h1;subst h1;exact h2
theorem Rep.dead{φ:Phi}{L:ucd}{w:World}(h:Rep φ L w){g:Nat}(hi:φ g=none):L g=none:=by
 cases hg:L g with
 | none=>rfl
 | some o=>
  obtain⟨im,h1,_⟩:=(h.ob g o hg).img;rw[hi]at h1;cases h1
def push(w:World)(o:Obj):World:= { w with heap:=w.heap.push o }
theorem ur0{w:World}{o:Obj}{b:Nat}(h:b<w.heap.size):(push w o).heap[b]? = w.heap[b]? :=by
 show(w.heap.push o)[b]? = _
 rw[Array.getElem?_push_lt h];exact(aR h).symm
theorem ur1(w:World)(o:Obj):(push w o).heap[w.heap.size]? = some o:=by
 show(w.heap.push o)[w.heap.size]? = _
 simp
theorem up8{φ:Phi}{L L':ucd}{w:World}{n g:Nat}{o:Ob}{ob:Obj}{im:Im}(hr:Rep φ L w)(hg:φ g=none)(hL:L' g=some o)(a7:∀k,k≠g->L' k=L k)(a8:im.b=w.heap.size)(hn:n<=g)
 (ho:ObR (φ.set g im) (push w ob) g o) (a4:∀c e x u S,o = .row c e x u true S->∀k∈S,k≠g/\φ k≠none/\∃c' e' x' u' S',L k=some (.row c' e' x' u' false S')):Rep (φ.set g im) L' (push w ob)/\∀n',g<n'->Ext φ L n (φ.set g im) L' n' w (push w ob):=by
 have a2:=Phi.vB3 (im:=im) hg;have old:∀ {k:Nat} {q:Ob},L' k=some q->k≠g->L k=some q:=fun {k q} hk a6=>by rw[<-a7 k a6];exact hk
 have a1:∀ {k:Nat} {i:Im},(φ.set g im) k=some i->k≠g->φ k=some i:=fun {k i} hk a6=>by rw[Phi.vBg a6]at hk;exact hk
 have a5:∀ {i:Im},(φ.set g im) g=some i->i.b=w.heap.size:=fun {i} hk=>by rw[Phi.vAo]at hk;injection hk with hk;subst hk;exact a8
 refine⟨⟨fun k q hk=>?_,?_,?_,?_,hr.glob.mono a2⟩,fun n' a3=>⟨a2,ag hn (Nat.le_of_lt a3),fun k hk=>?_,rfl,rfl,rfl,?_,fun b hb _=>ur0 hb,fun k q i hk hi=>?_,fun k q hk=>?_,fun k hk=>?_⟩⟩
 ·by_cases a0:k=g
  ·subst a0
   rw[hL]at hk;injection hk with hk;subst hk;exact ho
  ·have hk:=old hk a0
   obtain⟨i,hi,hb⟩:=(hr.ob k q hk).img;exact(hr.ob k q hk).vAb hi a2 (ur0 hb)
 ·intro g1 g2 o1 o2 i1 i2 h1 h2 h3 h4 hb
  by_cases e1:g1=g
  ·by_cases e2:g2=g
   ·exact .inl (e1.trans e2.symm)
   ·subst e1
    have:=hr.bound (old h2 e2) (a1 h4 e2);rw[<-hb,a5 h3]at this;omega
  ·by_cases e2:g2=g
   ·subst e2
    have:=hr.bound (old h1 e1) (a1 h3 e1);rw[hb,a5 h4]at this;omega
   ·rcases hr.sep g1 g2 o1 o2 i1 i2 (old h1 e1) (old h2 e2) (a1 h3 e1) (a1 h4 e2) hb with h|⟨t,c,e,x,u,S,k1,k2⟩
    ·exact .inl h
    ·refine .inr ⟨t,c,e,x,u,S,?_,k2⟩
     rw[a7 t]
     ·exact k1
     ·intro et
      subst et;have:=hr.dead hg;rw[this]at k1;cases k1
 ·intro t c e x u S k q i1 i2 h1 h2 h3 h4 h5
  by_cases e1:t=g
  ·subst e1
   rw[hL]at h1;injection h1 with h1;obtain⟨q1,q2,q3⟩:=a4 c e x u S h1 k h2;obtain⟨c',e',x',u',S',hq⟩:=q3;rw[old h3 q1]at hq;injection hq with hq;refine⟨c',e',x',u',S',hq,fun hb=>?_⟩
   have:=hr.bound (old h3 q1) (a1 h5 q1);rw[hb,a5 h4]at this;omega
  ·have e2:k≠g:=by
    intro e2;subst e2;exact(hr.out t c e x u S (old h1 e1)).2 k h2 hg
   exact hr.grp t c e x u S k q i1 i2 (old h1 e1) h2 (old h3 e2) (a1 h4 e1) (a1 h5 e2)
 ·intro t c e x u S h1
  by_cases e1:t=g
  ·subst e1
   rw[hL]at h1;injection h1 with h1;refine⟨fun hm=>(a4 c e x u S h1 t hm).1 rfl,fun k hk hn=>?_⟩
   obtain⟨q1,q2,q3⟩:=a4 c e x u S h1 k hk;rw[Phi.vBg q1]at hn;exact q2 hn
  ·obtain⟨k1,k2⟩:=hr.out t c e x u S (old h1 e1)
   refine⟨k1,fun k hk hn=>?_⟩
   cases hφ:φ k with
   | none=>exact k2 k hk hφ
   | some i=>rw[a2 _ _ hφ]at hn;cases hn
 ·by_cases a0:k=g
  ·subst a0;exact⟨hn,a3⟩
  ·exact absurd (Phi.vBg a0) hk
 ·simp[push]
 ·by_cases a0:k=g
  ·subst a0
   exact .inl (by rw[a5 hi];exact ab)
  ·exact .inr ⟨k,q,i,old hk a0,a1 hi a0,rfl,id⟩
 ·by_cases a0:k=g
  ·subst a0;exact .inr ⟨hn,a3⟩
  ·exact .inl ⟨q,old hk a0⟩
 ·rcases hk with⟨q,hk⟩|⟨t,c,e,x,u,S,h1,h2⟩
  ·by_cases a0:k=g
   ·subst a0;exact .inr ⟨hn,a3⟩
   ·exact .inl (.inl ⟨q,old hk a0⟩)
  ·by_cases e1:t=g
   ·subst e1
    rw[hL]at h1;injection h1 with h1;obtain⟨_,_,c',e',x',u',S',hq⟩:=a4 c e x u S h1 k h2;exact .inl (.inl ⟨_,hq⟩)
   ·exact .inl (.inr ⟨t,c,e,x,u,S,old h1 e1,h2⟩)
theorem uwy{φ:Phi}{w:World}{g:Nat}{cells:List Value}{C:Array Value}{e un:Nat}{ex top:Bool}{S:List Nat}(hg:φ g=none)(a1:cells.length<=C.size)(a0:ex=true->cells.length=C.size)(hv:∀(j:Nat) (v:Value),cells[j]? = some v->∃v',C[j]? = some v'/\RV φ v v') :
 ObR (φ.set g ⟨w.heap.size,0,C.size,un,ex⟩) (push w (.cells C e)) g (.row cells e ex un top S):=by
 refine⟨_,Phi.vAo _ _ _,rfl,fun _=>rfl,fun h=>⟨rfl,a0 h⟩,C,(0,0),ur1 _ _,.inl ab,rfl,by simpa using a1,fun j v hj=>?_⟩
 obtain⟨v',k1,k2⟩:=hv j v hj;exact⟨v',by simpa using k1,k2.mono (Phi.vB3 hg)⟩
theorem uEt{φ:Phi}{cells:List Value}{C:Array Value}(h:RVs φ cells C.toList):cells.length=C.size/\∀(j:Nat) (v:Value),cells[j]? = some v->∃v',C[j]? = some v'/\RV φ v v':=by
 refine⟨by rw[<-aM];exact h.len,fun j v hj=>?_⟩
 obtain⟨v',k1,k2⟩:=h.get hj;exact⟨v',by rw[<-aH];exact k1,k2⟩
theorem ul3{m:Mem}{ob:Ob}{sh:Sh}{K:Value->Mem->Bool}(h:uwf m ob sh K=true):∃m',K (sh.val m.next) m'=true/\m'.next=m.next+1/\m'.t.get m.next=some ob/\∀k,k≠m.next->m'.t.get k=m.t.get k:=by
 unfold uwf at h;have h:=uw h;obtain⟨t',k,g1,g2⟩:=udp h;exact⟨_,k,rfl,g1,g2⟩
def ul4(P:Program)(o:Oper)(tm:Tm)(m:Mem)(v:Value)(m':Mem):Prop:=
 ∀(φ:Phi) (w:World) (a:Act),(∀x∈o.op.operands.toList,OR φ tm a.eval x)->Rep φ m.t.get w->ut7 φ m.next m'.next->∀(K:Act->World->Prop) (Q:Exit->Act->World->Prop),
  (∀v' w' φ',RV φ' v v'->Rep φ' m'.t.get w'->Ext φ m.t.get m.next φ' m'.t.get m'.next w w'->K (a.put o.dst v') w')->o.wp P a w K Q
theorem ul4.rd{P:Program}{o:Oper}{tm:Tm}{m:Mem}{v:Value}(h:∀(φ:Phi) (w:World) (ρ:Operand->Value),(∀x∈o.op.operands.toList,OR φ tm ρ x)->Rep φ m.t.get w->∃v',(execOp ρ o).run P w = .ok (.value v') w/\RV φ v v'):ul4 P o tm m v m:=by
 intro φ w a ho hr hf K Q hK;obtain⟨v',k1,k2⟩:=h φ w a.eval ho hr;unfold Oper.wp;rw[k1];exact hK v' w φ k2 hr (Ext.refl _ _ _ _)
def uAz(P:Program)(o:Oper)(tm:Tm)(ob:Ob)(sh:Sh):Prop:=
 ∀(φ:Phi) (w:World) (ρ:Operand->Value) (g:Nat),(∀x∈o.op.operands.toList,OR φ tm ρ x)->φ g=none->∃(obj:Obj) (im:Im) (v':Value),(execOp ρ o).run P w = .ok (.value v') (push w obj)/\im.b=w.heap.size/\ObR (φ.set g im) (push w obj) g ob/\RV (φ.set g im) (sh.val g) v'/\∀c e x u S,ob = .row c e x u true S->S=[]
theorem ul4.al{P:Program}{o:Oper}{tm:Tm}{m m':Mem}{ob:Ob}{sh:Sh}(h:uAz P o tm ob sh)(hn:m'.next=m.next+1)(hg:m'.t.get m.next=some ob)(a0:∀k,k≠m.next->m'.t.get k=m.t.get k):ul4 P o tm m (sh.val m.next) m':=by
 intro φ w a ho hr hf K Q hK;have hφ:=hf m.next ab (by omega)
 obtain⟨a1,im,v',k1,k2,k3,k4,k5⟩:=h φ w a.eval m.next ho hφ;obtain⟨r1,r2⟩:=up8 (n:=m.next) hr hφ hg a0 k2 ab k3 (fun c e x u S e1 k hk=>by rw[k5 c e x u S e1]at hk;cases hk)
 unfold Oper.wp;rw[k1];exact hK v' _ _ k4 r1 (r2 _ (by omega))
section
variable {P:Program}
theorem uav(e:TypeId)(C:Array Value)(w:World):(newRow e C).run P w = .ok ⟨w.heap.size,0,none⟩ (push w (.cells C e)):=rfl
def Sh.real(b:Nat):Sh->Value
 | .ptr=> .pointer (some ⟨b,0,none⟩)
 | .sl n c=> .slice (some ⟨b,0,none⟩) n c
 | .mp=> .map none
def Sh.vDq:Sh->Prop
 | .ptr=>True
 | .sl n c=>n<=c
 | .mp=>False
theorem uf4{o:Oper}{tm:Tm}{cells:List Value}{e:TypeId}{sh:Sh}(h:∀(φ:Phi) (w:World) (ρ:Operand->Value),(∀x∈o.op.operands.toList,OR φ tm ρ x)->∃(C:Array Value),RVs φ cells C.toList/\(execOp ρ o).run P w = .ok (.value (sh.real w.heap.size)) (push w (.cells C e)))(hs:sh.vDq):uAz P o tm (uFv cells e) sh:=by
 intro φ w ρ g ho hg;obtain⟨C,hC,a0⟩:=h φ w ρ ho;obtain⟨hl,hv⟩:=uEt hC;refine⟨_,⟨w.heap.size,0,C.size,0,true⟩,_,a0,rfl,uwy hg (by omega) (fun _=>hl) hv,?_,fun c e x u S h=>by cases h;rfl⟩
 cases sh with
 | ptr=>exact .ptr (off:=0) (Phi.vAo _ _ _)
 | sl n c=>exact .sli (off:=0) (Phi.vAo φ g ⟨w.heap.size,0,C.size,0,true⟩) hs ab (fun _=>rfl) (.inl ⟨rfl,fun h=>by cases h⟩)
 | mp=>exact hs.elim
theorem uf5{z:Array Value}(hz:0<z.size)(n:Nat):((Array.range (n*z.size)).map fun i=>z[i%z.size]!).toList=uo0 n z.toList:=by
 apply List.ext_getElem?;intro i;have a0:∀(n i:Nat),(uo0 n z.toList)[i]? = if i<n*z.size then z.toList[i%z.size]? else none:=by
  intro n;induction n with
  | zero=>intro i;simp[uo0]
  | succ n ih=>
   intro i;rw[uo0];rcases ah i z.size with h|h
   ·rw[List.getElem?_append_left (by simpa using h),if_pos (by rw[Nat.succ_mul];omega),aV h]
   ·rw[List.getElem?_append_right (by simpa using h),ih]
    simp only[aM];rw[Nat.succ_mul];by_cases h2:i-z.size<n*z.size
    ·rw[if_pos h2,if_pos (by omega)]
     congr 1
     rw[Nat.mod_eq_sub_mod h]
    ·rw[if_neg h2,if_neg (by omega)]
 rw[a0];by_cases h:i<n*z.size
 ·rw[if_pos h]
  have hm:i%z.size<z.size:=Nat.mod_lt _ hz;simp[h,hm]
 ·rw[if_neg h]
  simp[Nat.le_of_not_lt h]
theorem uwz{tm:Tm}{o:Oper}{K:Ob->Sh->Bool}(h:alE P tm o.op K=true):∃ob sh,K ob sh=true/\uAz P o tm ob sh:=by
 obtain⟨b1,op,ty,pos,b0,b2⟩:=o;simp only[]at h;cases op with
 | alloc e=>
  unfold alE at h;simp only[]at h;obtain⟨z,h,hz,a1⟩:=udr h;refine⟨_,_,h,uf4 (sh:= .ptr) (fun φ w ρ ho=>⟨z.cells,by rw[uau];exact hz φ,?_⟩) trivial⟩
  simp only[execOp,Instr.alloc,aD,a1,aA,newVar,uav,Sem.run_pure,Sh.real]
 | box e x=>
  unfold alE uIw at h;obtain⟨v,hv,h⟩:=uy h;refine⟨_,_,h,uf4 (sh:= .ptr) (fun φ w ρ ho=>⟨(ρ x).cells,(ho x (by simp[Op.operands]) v hv).cells,?_⟩) trivial⟩
  simp only[execOp,Instr.box,aD,aA,newVar,uav,Sem.run_pure,Sh.real]
 | buildSlice t len ps=>
  unfold alE up1 at h;simp only[]at h;obtain⟨e,he,h⟩:=uc4 h;obtain⟨n,h,_,hn⟩:=uat h;obtain⟨z,h,hz,a1⟩:=udr h;rw[uk,uk,uah]at h;obtain⟨h1,h2,h⟩:=h;have h1:=uJ.1 h1;have h2:=uW.1 h2;have h:=ui0 _ _ _ h;obtain⟨vs,h,hi,hv⟩:=ui1 h;obtain⟨l,h,hl,hf⟩:=ul0 h;refine⟨_,_,h,uf4 (sh:= .sl len len) (fun φ w ρ ho=>?_) ab⟩
  have a0:z.cells.size=n:=by rw[<-aM,uau,h1]
  have a3:∃Z:Array Value,((len*n=0/\Z = #[])\/(¬len*n=0/\Z=z.cells))/\((Array.range (len*n)).map (Z[· % Z.size]!)).toList=uo0 len (cellsOf z):=by
   by_cases h0:len*n=0
   ·refine⟨#[],.inl ⟨h0,rfl⟩,?_⟩
    rw[h0];have:(uo0 len (cellsOf z)).length=0:=by rw[uhy,h1];exact h0
    rw[List.eq_nil_of_length_eq_zero this];simp
   ·refine⟨z.cells,.inr ⟨h0,rfl⟩,?_⟩
    have hp:0<z.cells.size:=by
     rw[a0];rcases aK n with h|h
     ·rw[h,Nat.mul_zero]at h0;exact absurd rfl h0
     ·exact h
    have:=uf5 hp len;rw[a0,uau]at this;rw[<-this];simp only[a0]
  obtain⟨Z,hZ,a2⟩:=a3;obtain⟨l',k1,k2⟩:=hf φ (ps.toList.map fun p=>(p.1,ρ p.2)) _ (by rw[a2];exact(hz φ).rep len) (by rw[hi];simp) (by
   have:=hv φ ρ fun p hp=>ho p.2 (by simp[Op.operands];exact⟨p.1,by simpa using hp⟩)
   simpa[Function.comp_def]using this)
  refine⟨l',k2,?_⟩;have a6:(ps.map fun(i,x)=>(i,ρ x)).toList=ps.toList.map fun p=>(p.1,ρ p.2):=by simp
  simp only[execOp,Instr.buildSlice,aD,ur he,aA,hn];rw[if_neg (by omega)]
  rcases hZ with⟨h0,rfl⟩|⟨h0,rfl⟩
  ·rw[if_pos h0]
   simp only[aD,Sem.run_pure,aA,a6,k1,uav,Sh.real]
  ·rw[if_neg h0]
   simp only[aD,Sem.run_pure,a1,aA,a6,k1,uav,Sh.real]
 | makeSlice t l c=>
  unfold alE up2 at h;simp only[]at h;obtain⟨e,he,h⟩:=uc4 h;obtain⟨lv,a5,h⟩:=uy h;obtain⟨cv,a4,h⟩:=uy h;obtain⟨kl,nl,e1,h⟩:=ucm h;obtain⟨kc,nc,e2,h⟩:=ucm h;rw[e1]at a5;rw[e2]at a4;split at h
  ·rename_i i hi
   obtain⟨z,h,hz,a1⟩:=udr h;rw[uk,uk,uk,uk,uah]at h;obtain⟨h1,h2,h3,h4,h⟩:=h;have h1:=uJ.1 h1;have h2:=uW.1 h2;have h3:=uW.1 h3;have h4:=uW.1 h4;have h:=ui0 _ _ _ h;refine⟨_,_,h,uf4 (sh:= .sl nl nc) (fun φ w ρ ho=>?_) h2⟩
   have el:=(ho l (by simp[Op.operands]) _ a5).vAc
   have ec:=(ho c (by simp[Op.operands]) _ a4).vAc
   have a0:z.cells.size=i.size:=by rw[<-aM,uau,h1]
   have wr:∀n:Nat,n<=1000000->IntKind.wrap .i64 (n:Int)=(n:Int):=fun n hn=>by
    unfold IntKind.wrap;simp[IntKind.bits,IntKind.signed];rw[Int.emod_eq_of_lt (by omega) (by omega),if_neg (by omega)]
   have a3:∃Z:Array Value,((nc*i.size=0/\Z = #[])\/(¬nc*i.size=0/\Z=z.cells))/\((Array.range (nc*i.size)).map (Z[· % Z.size]!)).toList=uo0 nc (cellsOf z):=by
    by_cases h0:nc*i.size=0
    ·refine⟨#[],.inl ⟨h0,rfl⟩,?_⟩
     rw[h0];have:(uo0 nc (cellsOf z)).length=0:=by rw[uhy,h1];exact h0
     rw[List.eq_nil_of_length_eq_zero this];simp
    ·refine⟨z.cells,.inr ⟨h0,rfl⟩,?_⟩
     have hp:0<z.cells.size:=by
      rw[a0];rcases aK i.size with h|h
      ·rw[h,Nat.mul_zero]at h0;exact absurd rfl h0
      ·exact h
     have:=uf5 hp nc;rw[a0,uau]at this;rw[<-this];simp only[a0]
   obtain⟨Z,hZ,a2⟩:=a3;refine⟨_,by rw[a2];exact(hz φ).rep nc,?_⟩
   have a7:∀w,(typeInfo e).run P w = .ok i w:=fun w=>by simp[typeInfo,program,Sem.run,hi]
   have a9:∀w,(Go.sizeOf e).run P w = .ok i.size w:=fun w=>by simp[Go.sizeOf,a7]
   have b3:(i.bytes:Int)*(nc:Int)<=1000000*1000000:=by
    have:=Nat.mul_le_mul h4 h3;omega
   simp only[execOp,el,ec,Instr.makeSlice,aD,ur he,aA,Go.asInt,asIntOf,Sem.run_pure,a7,Int.ofNat_eq_natCast];rw[wr nl (by omega),wr nc h3]
   rw[if_neg (by simp;omega)]
   have a8:∀n w,(askRoom n).run P w = .ok () w:=fun n w=>by
    unfold askRoom;split<;>rfl
   simp only[aD,a8,aA,a9,Int.toNat_natCast,Sem.run_pure];rcases hZ with⟨h0,rfl⟩|⟨h0,rfl⟩
   ·rw[if_pos h0]
    simp only[aD,Sem.run_pure,aA,uav,Sh.real]
   ·rw[if_neg h0]
    simp only[aD,Sem.run_pure,a1,aA,uav,Sh.real]
  ·cases h
 | makeMap t r=>
  unfold alE at h;simp only[]at h;cases r with
  | none=>
   refine⟨_,_,h,fun φ w ρ g ho hg=>⟨_,⟨w.heap.size,0,0,0,true⟩,.map (some w.heap.size),rfl,rfl,⟨_,#[],Phi.vAo _ _ _,ur1 _ _,.nil⟩,.map (Phi.vAo φ g ⟨w.heap.size,0,0,0,true⟩),fun c e x u S h=>by cases h⟩⟩
  | some r=>cases h
 | _=>cases h
end
section
variable {P:Program}
theorem uh1:∀ {l:List Nat} {t:Tr} {K:Tr->Bool},ut3 l t K=true->∃t',K t'=true/\∀k,t'.get k=if k∈l then none else t.get k
 | [],t,K,h=>⟨t,h,fun k=>by simp⟩
 | g::l,t,K,h=>by
  rw[ut3]at h;obtain⟨t1,h,g1,g2⟩:=udp h;obtain⟨t2,h,g3⟩:=uh1 h;refine⟨t2,h,fun k=>?_⟩
  rw[g3 k];by_cases hk:k∈l
  ·rw[if_pos hk,if_pos (aG _ hk)]
  ·rw[if_neg hk]
   by_cases hg:k=g
   ·subst hg
    rw[g1,if_pos (by simp)]
   ·rw[g2 k hg,if_neg (by simp[hg,hk])]
structure vCu (w w':World) (b:Nat) (C':Array Value) (el:TypeId) (fr:Nat×Nat):Prop where
 os:w'.os=w.os
 tape:w'.tape=w.tape
 output:w'.output=w.output
 size:w'.heap.size=w.heap.size
 at':w'.heap[b]? = some (.cells C' el fr)
 other:∀k,k≠b->w'.heap[k]? = w.heap[k]?
theorem ucp{b off:Nat}{el:TypeId}{fr:Nat×Nat}:∀(vs:List Value) (i:Nat) (w:World) (C:Array Value),w.heap[b]? = some (.cells C el fr)->uH3 fr C.size->(vs=[]\/off+i+vs.length<=C.size)->(∀v∈vs,vBa v=true) ->
 ∃w',(storeCells ⟨b,off,none⟩ vs i).run P w = .ok () w'/\vCu w w' b (ujr C.toList (off+i) vs).toArray el fr
 | [],i,w,C,hb,hf,hl,hc=>⟨w,rfl,rfl,rfl,rfl,rfl,by simp[ujr,hb],fun _ _=>rfl⟩
 | v::vs,i,w,C,hb,hf,hl,hc=>by
  have hl:off+i+(vs.length+1)<=C.size:=by rcases hl with h|h;cases h;simpa using h
  have ha:(⟨b,off,none⟩:Addr).add i=⟨b,off+i,none⟩:=by unfold Addr.add;split<;>simp_all
  have a1:w.cell? ⟨b,off+i,none⟩=some C[off+i]:=by
   unfold World.cell?;simp only[hb];simp[aR (show off+i<C.size by omega)]
  have a2:w.frozen? ⟨b,off+i,none⟩=false:=by
   unfold World.frozen?;simp only[hb];obtain⟨lo,hi⟩:=fr;rcases hf with h|h
   ·simp only[Bool.and_eq_false_iff,decide_eq_false_iff_not];simp at h;omega
   ·simp only[Bool.and_eq_false_iff,decide_eq_false_iff_not];simp at h;omega
  obtain⟨w1,a0⟩:∃w1,w1=w.setCell ⟨b,off+i,none⟩ v:=⟨_,rfl⟩;have a3:(store (⟨b,off+i,none⟩:Addr) v).run P w = .ok () w1:=by
   have hv:=hc v (by simp)
   unfold store;cases v<;>first|(cases hv;done)|(simp[Sem.run,a1,a2,a0])
  have a4:b<w.heap.size:=(au.1 hb).1;have h1:vCu w w1 b (C.setIfInBounds (off+i) v) el fr:=by
   subst a0;refine⟨rfl,rfl,rfl,by simp[World.setCell],?_,fun k hk=>?_⟩
   ·show(w.heap.modify b _)[b]? = _
    rw[Array.getElem?_modify];simp[hb]
   ·show(w.heap.modify b _)[k]? = _
    rw[Array.getElem?_modify,if_neg (fun e=>hk e.symm)]
  obtain⟨w2,k1,k2⟩:=ucp (off:=off) vs (i+1) w1 (C.setIfInBounds (off+i) v) h1.at' (by simpa using hf) (by
   rcases vs with _|⟨x,vs⟩
   ·exact .inl rfl
   ·right;simp only[Array.size_setIfInBounds];simp only[aB]at hl ⊢;omega) (fun x hx=>hc x (aG _ hx))
  refine⟨w2,?_,k2.os.trans h1.os,k2.tape.trans h1.tape,k2.output.trans h1.output,k2.size.trans h1.size,?_,fun k hk=>(k2.other k hk).trans (h1.other k hk)⟩
  ·rw[storeCells,aD,ha,a3]
   exact k1
  ·rw[k2.at',ujr]
   simp[Nat.add_assoc]
theorem uw0{φ:Phi}{L L':ucd}{w w':World}{n g:Nat}{c c':List Value}{e:TypeId}{x:Bool}{u:Nat}{s:List Nat}{im:Im}{C C':Array Value}{fr:Nat×Nat}(hr:Rep φ L w)(hg:L g=some (.row c e x u true s))(hi:φ g=some im)
 (hL:L' g=some (.row c' e x u true [])) (hk:∀k,k≠g->L' k=if k∈s then none else L k) (hC:w.heap[im.b]? = some (.cells C e fr)) (hw:vCu w w' im.b C' e fr) (b5:C'.size=C.size) (b7:c'.length=c.length)
 (hv:∀(j:Nat) (v:Value),c'[j]? = some v->∃v',C'[im.d+j]? = some v'/\RV φ v v'):Rep φ L' w'/\Ext φ L n φ L' n w w':=by
 have old:∀ {k:Nat} {q:Ob},L' k=some q->k≠g->k∉s/\L k=some q:=fun {k q} h b0=>by
  rw[hk k b0]at h;split at h
  ·cases h
  ·exact⟨by assumption,h⟩
 have far:∀ {k:Nat} {q:Ob} {i:Im},L' k=some q->k≠g->φ k=some i->i.b≠im.b:=by
  intro k q i h b0 b3 e1;obtain⟨h1,h2⟩:=old h b0;rcases hr.sep k g q _ i im h2 hg b3 hi e1 with h3|⟨t,c2,e2,x2,u2,S,k1,k2,k3⟩
  ·exact b0 h3
  ·rcases k3 with rfl|k3
   ·rw[hg]at k1
    injection k1 with k1;injection k1 with _ _ _ _ _ k1;subst k1;rcases k2 with k2|k2
    ·exact b0 k2
    ·exact h1 k2
   ·obtain⟨it,b4,_⟩:=(hr.ob t _ k1).img
    obtain⟨c3,e3,x3,u3,S3,e4,_⟩:=hr.grp t c2 e2 x2 u2 S g _ it im k1 k3 hg b4 hi;injection e4 with _ _ _ _ e4 _;cases e4
 have b9:=hr.ob g _ hg;refine⟨⟨fun k q h=>?_,?_,?_,?_,hr.glob⟩,⟨.refl φ,ab,fun k h=>absurd rfl h,hw.os,hw.tape,hw.output,by rw[hw.size];exact ab,fun b hb hn=>?_,fun k q i h1 h2=>?_,fun k q h=>?_,fun k h=>?_⟩⟩
 ·by_cases a0:k=g
  ·subst a0
   rw[hL]at h;injection h with h;subst h;obtain⟨c1,a1,a2,a3,a4,C2,c0,a5,a6,a7,a8,a9⟩:=b9;rw[hi]at a1;injection a1 with a1;subst a1;rw[hC]at a5;injection a5 with a5;injection a5 with a51 a52 a53;subst a51;subst a53;exact⟨im,hi,a2,a3,fun h=>⟨(a4 h).1,by rw[b7];exact(a4 h).2⟩,C',fr,hw.at',by rw[b5];exact a6,by rw[b5];exact a7,by rw[b7,b5];exact a8,hv⟩
  ·obtain⟨h1,h2⟩:=old h a0
   obtain⟨i,b3,_⟩:=(hr.ob k q h2).img;exact(hr.ob k q h2).vAb b3 (.refl φ) (hw.other _ (far h a0 b3))
 ·intro g1 g2 o1 o2 i1 i2 h1 h2 h3 h4 hb
  by_cases e1:g1=g
  ·by_cases e2:g2=g
   ·exact .inl (e1.trans e2.symm)
   ·subst e1
    rw[hi]at h3;injection h3 with h3;subst h3;exact absurd hb.symm (far h2 e2 h4)
  ·by_cases e2:g2=g
   ·subst e2
    rw[hi]at h4;injection h4 with h4;subst h4;exact absurd hb (far h1 e1 h3)
   ·obtain⟨a1,a2⟩:=old h1 e1
    obtain⟨b1,b2⟩:=old h2 e2;rcases hr.sep g1 g2 o1 o2 i1 i2 a2 b2 h3 h4 hb with h|⟨t,c2,e3,x2,u2,S,k1,k2,k3⟩
    ·exact .inl h
    ·by_cases et:t=g
     ·subst et
      rw[hg]at k1;injection k1 with k1;injection k1 with _ _ _ _ _ k1;subst k1;rcases k2 with k2|k2
      ·exact absurd k2 e1
      ·exact absurd k2 a1
     ·have b6:t∉s:=by
       intro b6;obtain⟨it,b4,_⟩:=(hr.ob t _ k1).img;obtain⟨c3,e4,x3,u3,S3,e5,_⟩:=hr.grp g c e x u s t _ im it hg b6 k1 hi b4;injection e5 with _ _ _ _ e5 _;cases e5
      exact .inr ⟨t,c2,e3,x2,u2,S,by rw[hk t et,if_neg b6];exact k1,k2,k3⟩
 ·intro t c2 e2 x2 u2 S k q i1 i2 h1 h2 h3 h4 h5
  by_cases et:t=g
  ·subst et
   rw[hL]at h1;injection h1 with h1;injection h1 with _ _ _ _ _ h1;subst h1;cases h2
  ·obtain⟨a1,a2⟩:=old h1 et
   by_cases ek:k=g
   ·subst ek
    rw[hL]at h3;injection h3 with h3;subst h3;obtain⟨c3,e4,x3,u3,S3,e5,_⟩:=hr.grp t c2 e2 x2 u2 S k _ i1 i2 a2 h2 hg h4 h5;injection e5 with _ _ _ _ e5 _;cases e5
   ·obtain⟨b1,b2⟩:=old h3 ek
    exact hr.grp t c2 e2 x2 u2 S k q i1 i2 a2 h2 b2 h4 h5
 ·intro t c2 e2 x2 u2 S h1
  by_cases et:t=g
  ·subst et
   rw[hL]at h1;injection h1 with h1;injection h1 with _ _ _ _ _ h1;subst h1;exact⟨by simp,fun k hk=>by cases hk⟩
  ·exact hr.out t c2 e2 x2 u2 S (old h1 et).2
 ·exact hw.other b fun e1=>hn g _ im hg rfl hi e1.symm
 ·by_cases a0:k=g
  ·subst a0
   rw[hi]at h2;injection h2 with h2;subst h2;exact .inr ⟨k,_,im,hg,hi,rfl,fun _=>rfl⟩
  ·exact .inr ⟨k,q,i,(old h1 a0).2,h2,rfl,id⟩
 ·by_cases a0:k=g
  ·subst a0;exact .inl ⟨_,hg⟩
  ·exact .inl ⟨q,(old h a0).2⟩
 ·rcases h with⟨o,h⟩|⟨t,c2,e2,x2,u2,S,h,h2⟩
  ·by_cases a0:k=g
   ·subst a0;exact .inl (.inl ⟨_,hg⟩)
   ·exact .inl (.inl ⟨o,(old h a0).2⟩)
  ·by_cases b8:t=g
   ·subst b8
    rw[hL]at h;injection h with h;injection h with _ _ _ _ _ h;subst h;cases h2
   ·exact .inl (.inr ⟨t,c2,e2,x2,u2,S,(old h b8).2,h2⟩)
end
section
variable {P:Program}
theorem RV.vBa{φ:Phi}{v v':Value}(h:RV φ v v')(hc:vBa v=true):Ev.vBa v'=true:=by
 cases h<;>first|rfl|cases hc
theorem RVs.vBa{φ:Phi}:∀ {l l':List Value},RVs φ l l'->(∀v∈l,Ev.vBa v=true)->∀v∈l',Ev.vBa v=true
 | _,_,.nil,_,v,hv=>by cases hv
 | _,_,.cons h1 h2,hc,v,hv=>by
  rcases List.mem_cons.1 hv with rfl|hv
  ·exact h1.vBa (hc _ (by simp))
  ·exact RVs.vBa h2 (fun u hu=>hc u (aG _ hu)) v hv
theorem ui4{m:Mem}{g off:Nat}{vs:List Value}{K:Mem->Bool}(h:unu m g off vs K=true):∃m',K m'=true/\m'.next=m.next /\
 ∀(φ:Phi) (w:World) (im:Im) (a0:List Value),φ g=some im->RVs φ vs a0->Rep φ m.t.get w->∃w',(storeCells ⟨im.b,im.d+off,none⟩ a0).run P w = .ok () w'/\Rep φ m'.t.get w'/\Ext φ m.t.get m.next φ m'.t.get m'.next w w':=by
 unfold unu at h;obtain⟨c,e,x,u,top,s,hg,h⟩:=ucl h;cases top with
 | false=>cases h
 | true=>
  simp only[]at h;rw[uk]at h;obtain⟨b0,h⟩:=h;have b0:=ubw _ b0;obtain⟨h,hl⟩:=uly _ _ _ _ h;obtain⟨t1,h,k1⟩:=uh1 h;obtain⟨t2,h,k2,k3⟩:=udp h;refine⟨_,h,rfl,fun φ w im a0 hi b3 hr=>?_⟩
  obtain⟨b9,a1,a2,a3,a4,C,fr,a5,a6,a7,a8,a9⟩:=hr.ob g _ hg;rw[hi]at a1;injection a1 with a1;subst a1;have b4:=b3.len;have b5:a0=[]\/im.d+off+0+a0.length<=C.size:=by
   rcases hl with hl|hl
   ·rw[hl]at b4
    exact .inl (List.eq_nil_of_length_eq_zero (by simpa using b4.symm))
   ·right;omega
  obtain⟨w',b1,b2⟩:=ucp (P:=P) (off:=im.d+off) a0 0 w C a5 a6 b5 (b3.vBa b0);refine⟨w',b1,?_⟩;refine uw0 (L':=t2.get) hr hg hi k2 (fun k hk=>by rw[k3 k hk,k1]) a5 b2 ?_ (uew _ _ _) fun j v hj=>?_
  ·rw[<-aM]
   simp[uew]
  ·have b6:=uhz vs c off j (hl.symm)
   rw[b6]at hj;have b8:im.d+off+0+a0.length<=C.toList.length\/a0=[]:=by
    rcases b5 with h|h
    ·exact .inr h
    ·left;simpa using h
   have b7:=uhz a0 C.toList (im.d+off+0) (im.d+j) b8;have hC:((ujr C.toList (im.d+off+0) a0).toArray)[im.d+j]? = (ujr C.toList (im.d+off+0) a0)[im.d+j]? :=by simp
   rw[hC,b7];split at hj
   ·rename_i hc
    rw[if_pos (by omega),show im.d+j-(im.d+off+0)=j-off by omega]
    exact b3.get hj
   ·rename_i hc
    rw[if_neg (by omega),aH]
    exact a9 j v hj
theorem uw1{tm:Tm}{m:Mem}{o:Oper}{ty:TypeId}{a x:Operand}{K:Value->Mem->Bool}(ho:o.op = .store ty a x)(h:urp P tm m ty a x K=true):∃v m',K v m'=true/\m.next<=m'.next/\ul4 P o tm m v m':=by
 unfold urp at h;obtain⟨av,ha,h⟩:=uy h;obtain⟨xv,hx,h⟩:=uy h;obtain⟨g,off,e0,h⟩:=uf2 h;rw[e0]at ha;obtain⟨n,h,_,hn⟩:=uat h;rw[uk,uah]at h;obtain⟨h1,h⟩:=h;have h1:=uJ.1 h1;obtain⟨m',h,a5,hw⟩:=ui4 (P:=P) h;refine⟨_,m',h,by omega,fun φ w a0 a1 hr hf KK Q hK=>?_⟩
 have a3:=a1 a (by rw[ho];simp[Op.operands]) _ ha
 have a2:=a1 x (by rw[ho];simp[Op.operands]) _ hx
 obtain⟨im,hi,ea⟩:=a3.vBk;obtain⟨w',b1,b2,b3⟩:=hw φ w im _ hi a2.cells hr;unfold Oper.wp;have a4:(a0.eval x).cells.size=n:=by rw[RVs.vB0 a2,h1]
 have:(execOp a0.eval o).run P w = .ok .skip w':=by
  simp only[execOp,ho,Instr.storeAt,Instr.sureAddr,ea,storeVar,aD,Sem.run_pure,aA,hn];rw[if_neg (by rw[a4];simp),b1]
  rfl
 rw[this];exact hK undef w' φ .undef b2 (by rw[a5]at b3 ⊢;exact b3)
theorem uw2{φ:Phi}{L L':ucd}{w:World}{n g:Nat}{es a3:List MapEntry}{c c2:Nat}{im:Im}{a6 es2':Array MapEntry}(hr:Rep φ L w)(hg:L g=some (.map es c))(hi:φ g=some im)(hm:w.heap[im.b]? = some (.map a6 c))
 (hL:L' g=some (.map a3 c2)) (hk:∀k,k≠g->L' k=L k) (hv:RMs φ a3 es2'.toList):Rep φ L' { w with heap:=w.heap.setIfInBounds im.b (.map es2' c2) }/\Ext φ L n φ L' n w { w with heap:=w.heap.setIfInBounds im.b (.map es2' c2) }:=by
 have a7:=hr.bound hg hi;have far:∀ {k:Nat} {q:Ob} {i:Im},L' k=some q->k≠g->φ k=some i->i.b≠im.b:=by
  intro k q i h a4 a1 e1;rw[hk k a4]at h;rcases hr.sep k g q _ i im h hg a1 hi e1 with h3|⟨t,c2,e2,x2,u2,S,k1,k2,k3⟩
  ·exact a4 h3
  ·rcases k3 with rfl|k3
   ·rw[hg]at k1;cases k1
   ·obtain⟨it,a8,_⟩:=(hr.ob t _ k1).img
    obtain⟨c3,e3,x3,u3,S3,e4,_⟩:=hr.grp t c2 e2 x2 u2 S g _ it im k1 k3 hg a8 hi;cases e4
 have a5:∀b,b≠im.b->(w.heap.setIfInBounds im.b (.map es2' c2))[b]? = w.heap[b]? :=fun b hb=>Array.getElem?_setIfInBounds_ne (fun e=>hb e.symm)
 have a2:∀ {t:Nat} {cc:List Value} {e:TypeId} {x:Bool} {u:Nat} {b:Bool} {S:List Nat},L' t=some (.row cc e x u b S)->t≠g:=fun {t cc e x u b S} h e1=>by subst e1;rw[hL]at h;cases h
 refine⟨⟨fun k q h=>?_,?_,?_,?_,hr.glob⟩,⟨.refl φ,ab,fun k h=>absurd rfl h,rfl,rfl,rfl,by simp,fun b hb hn=>?_,fun k q i h1 h2=>?_,fun k q h=>?_,fun k h=>?_⟩⟩
 ·by_cases a0:k=g
  ·subst a0
   rw[hL]at h;injection h with h;subst h;refine⟨im,es2',hi,?_,hv⟩;show(w.heap.setIfInBounds im.b _)[im.b]? = _
   rw[aO a7]
  ·have h2:=h
   rw[hk k a0]at h;obtain⟨i,a1,_⟩:=(hr.ob k q h).img;exact(hr.ob k q h).vAb a1 (.refl φ) (a5 _ (far h2 a0 a1))
 ·intro g1 g2 o1 o2 i1 i2 h1 h2 h3 h4 hb
  by_cases e1:g1=g
  ·by_cases e2:g2=g
   ·exact .inl (e1.trans e2.symm)
   ·subst e1
    rw[hi]at h3;injection h3 with h3;subst h3;exact absurd hb.symm (far h2 e2 h4)
  ·by_cases e2:g2=g
   ·subst e2
    rw[hi]at h4;injection h4 with h4;subst h4;exact absurd hb (far h1 e1 h3)
   ·rw[hk g1 e1]at h1
    rw[hk g2 e2]at h2;rcases hr.sep g1 g2 o1 o2 i1 i2 h1 h2 h3 h4 hb with h|⟨t,c3,e3,x2,u2,S,k1,k2,k3⟩
    ·exact .inl h
    ·refine .inr ⟨t,c3,e3,x2,u2,S,?_,k2,k3⟩
     rw[hk t (fun et=>by subst et;rw[hg]at k1;cases k1)]
     exact k1
 ·intro t c3 e2 x2 u2 S k q i1 i2 h1 h2 h3 h4 h5
  have et:=a2 h1;rw[hk t et]at h1;by_cases ek:k=g
  ·subst ek
   obtain⟨c4,e4,x3,u3,S3,e5,_⟩:=hr.grp t c3 e2 x2 u2 S k _ i1 i2 h1 h2 hg h4 h5;cases e5
  ·rw[hk k ek]at h3
   exact hr.grp t c3 e2 x2 u2 S k q i1 i2 h1 h2 h3 h4 h5
 ·intro t c3 e2 x2 u2 S h1
  have et:=a2 h1;rw[hk t et]at h1;exact hr.out t c3 e2 x2 u2 S h1
 ·exact a5 b fun e1=>hn g _ im hg rfl hi e1.symm
 ·by_cases a0:k=g
  ·subst a0
   exact .inr ⟨k,_,i,hg,h2,rfl,fun _=>rfl⟩
  ·rw[hk k a0]at h1
   exact .inr ⟨k,q,i,h1,h2,rfl,id⟩
 ·by_cases a0:k=g
  ·subst a0;exact .inl ⟨_,hg⟩
  ·rw[hk k a0]at h
   exact .inl ⟨q,h⟩
 ·rcases h with⟨o,h⟩|⟨t,c3,e2,x2,u2,S,h,h2⟩
  ·by_cases a0:k=g
   ·subst a0;exact .inl (.inl ⟨_,hg⟩)
   ·rw[hk k a0]at h
    exact .inl (.inl ⟨o,h⟩)
  ·rw[hk t (a2 h)]at h
   exact .inl (.inr ⟨t,c3,e2,x2,u2,S,h,h2⟩)
theorem uw3:∀ {es:List MapEntry} {e:MapEntry} {K:List MapEntry->Bool},uIx es e K=true->K (es++[e])=true
 | [],e,K,h=>h
 | x::es,e,K,h=>uw3 (es:=es) h
theorem uw4:∀ {es:List MapEntry} {i:Nat} {k x:Value} {K:List MapEntry->Bool},uGr es i k x K=true->∃e,es[i]? = some e/\K (es.set i ⟨k,x,e.born⟩)=true
 | [],i,k,x,K,h=>by rw[uGr]at h;cases h
 | e::es,0,k,x,K,h=>⟨e,by simp,h⟩
 | e::es,i+1,k,x,K,h=>by
  rw[uGr]at h;obtain⟨e2,h1,h2⟩:=uw4 h;exact⟨e2,by simpa using h1,h2⟩
theorem RMs.app{φ:Phi}:∀ {a b c d:List MapEntry},RMs φ a b->RMs φ c d->RMs φ (a++c) (b++d)
 | _,_,_,_,.nil,h=>h
 | _,_,_,_,.cons h0 h1 h2 h3,h=> .cons h0 h1 h2 (RMs.app h3 h)
theorem RMs.vDa{φ:Phi}:∀ {a b:List MapEntry},RMs φ a b->∀(i:Nat) {e e':MapEntry},RV φ e.key e'.key->RV φ e.val e'.val->e'.born=e.born->RMs φ (a.set i e) (b.set i e')
 | _,_,.nil,_,_,_,_,_,_=> .nil
 | _,_,.cons h0 h1 h2 h3,0,_,_,a,b,c=> .cons a b c h3
 | _,_,.cons h0 h1 h2 h3,i+1,_,_,a,b,c=> .cons h0 h1 h2 (RMs.vDa h3 i a b c)
theorem RMs.get{φ:Phi}:∀ {a b:List MapEntry},RMs φ a b->∀ {i:Nat} {e:MapEntry},a[i]? = some e->∃e',b[i]? = some e'/\e'.born=e.born
 | _,_,.nil,i,e,h=>by simp at h
 | _,_,.cons h0 h1 h2 h3,0,e,h=>by simp at h;subst h;exact⟨_,by simp,h2⟩
 | _,_,.cons h0 h1 h2 h3,i+1,e,h=>by
  obtain⟨e',k1,k2⟩:=RMs.get h3 (i:=i) (by simpa using h)
  exact⟨e',by simpa using k1,k2⟩
theorem uko{w:World}{b:Nat}{es:Array MapEntry}{c:Nat}(h:w.heap[b]? = some (.map es c))(o:Obj):(setObj b o).run P w = .ok () { w with heap:=w.heap.setIfInBounds b o }:=by simp[setObj,Sem.run,h]
theorem uw5{tm:Tm}{m:Mem}{o:Oper}{ty:TypeId}{mp k x:Operand}{K:Value->Mem->Bool}(ho:o.op = .mapUpdate ty mp k x\/o.op = .insert ty mp k x)(h:uFw P tm m ty mp k x K=true):∃v m',K v m'=true/\m.next<=m'.next/\ul4 P o tm m v m':=by
 unfold uFw at h;obtain⟨mv,b0,h⟩:=uy h;obtain⟨kv,a9,h⟩:=uy h;obtain⟨xv,b7,h⟩:=uy h;obtain⟨kt,e,hm,h⟩:=uwp h;rw[uk]at h;obtain⟨a2,h⟩:=h;obtain⟨d,hd⟩:∃d,P.underlying kt=some d:=by
  rcases ucn a2 with⟨_,_,⟨_,h⟩,_⟩|⟨_,h,_⟩<;>exact⟨_,h⟩
 have a4:∀y∈[mp,k,x],y∈o.op.operands.toList:=by rcases ho with ho|ho<;>(rw[ho];simp[Op.operands])
 cases mv with
 | map g=>
  cases g with
  | none=>cases h
  | some g=>
   simp only[]at h;obtain⟨es,cl,hg,h⟩:=ulz h;obtain⟨r,h,hf⟩:=ul2 a2 h;rw[hd]at hf;have real:∀(φ:Phi) (w:World),Rep φ m.t.get w->∀im,φ g=some im->∃a0,w.heap[im.b]? = some (.map a0 cl)/\RMs φ es a0.toList:=by
    intro φ w hr im hi;obtain⟨c5,a0,k1,k2,k3⟩:=hr.ob _ _ hg;rw[hi]at k1;injection k1 with k1;subst k1;exact⟨a0,k2,k3⟩
   have a8:∀(ρ:Operand->Value),execOp ρ o=(do Instr.mapUpdate ty (ρ mp) (ρ k) (ρ x);pure Next.skip):=by
    intro ρ;rcases ho with ho|ho<;>simp only[execOp,ho]
   cases r with
   | none=>
    have h:=uw3 h;obtain⟨t',h,g1,g2⟩:=udp h;refine⟨_,_,h,ab,fun φ w a1 a3 hr b8 KK Q hK=>?_⟩
    obtain⟨im,hi,ea⟩:=(a3 mp (a4 _ (by simp)) _ b0).vBt
    have ek:=RV.key a2 (a3 k (a4 _ (by simp)) _ a9)
    have a6:=a3 x (a4 _ (by simp)) _ b7
    obtain⟨a0,m1,m2⟩:=real φ w hr im hi;obtain⟨r',f1,f2⟩:=hf φ a0.toList m2;have c3:r'=none:=by
     rcases f2 with⟨_,f2⟩|⟨j,v,v',f2,_⟩
     ·exact f2
     ·cases f2
    subst c3;have a5:RV φ kv kv:=by rcases ucn a2 with⟨j,n,_,rfl⟩|⟨s,_,rfl⟩;exact .int _ _;exact .string _
    obtain⟨r1,r2⟩:=uw2 (n:=m.next) (es2':=a0.push ⟨kv,a1.eval x,cl⟩) hr hg hi m1 g1 g2 (by
     rw[Array.toList_push];exact RMs.app m2 (.cons a5 a6 rfl .nil))
    unfold Oper.wp;have:(execOp a1.eval o).run P w = .ok .skip { w with heap:=w.heap.setIfInBounds im.b (.map (a0.push ⟨kv,a1.eval x,cl⟩) (cl+1)) }:=by
     simp only[a8,ea,ek,Instr.mapUpdate,aD,ur hm,aA,Sem.run_pure,uc5 m1,run_checkKey a2];rw[run_findKey hd (r:=none) f1];simp only[aA,uko m1]
    rw[this];exact hK undef _ φ .undef r1 r2
   | some p=>
    obtain⟨e2,a7,h⟩:=uw4 h;obtain⟨t',h,g1,g2⟩:=udp h;refine⟨_,_,h,ab,fun φ w a1 a3 hr b8 KK Q hK=>?_⟩
    obtain⟨im,hi,ea⟩:=(a3 mp (a4 _ (by simp)) _ b0).vBt
    have ek:=RV.key a2 (a3 k (a4 _ (by simp)) _ a9)
    have a6:=a3 x (a4 _ (by simp)) _ b7
    obtain⟨a0,m1,m2⟩:=real φ w hr im hi;obtain⟨r',f1,f2⟩:=hf φ a0.toList m2;have a5:RV φ kv kv:=by rcases ucn a2 with⟨j,n,_,rfl⟩|⟨s,_,rfl⟩;exact .int _ _;exact .string _
    rcases f2 with⟨f2,_⟩|⟨j,v,v',f2,f3,f4,_,e3,e4,b1,b2,b3,b4,b5,b6⟩
    ·cases f2
    ·injection f2 with f2
     subst f2;subst f3;simp only[Nat.sub_zero]at b1 b2;rw[a7]at b1;injection b1 with b1;subst b1;obtain⟨e5,c1,c2⟩:=m2.get a7;rw[b2]at c1;injection c1 with c1;subst c1;have b9:(a0.modify j fun y=> { y with key:=kv,val:=a1.eval x }).toList=a0.toList.set j ⟨kv,a1.eval x,e4.born⟩:=by
      apply List.ext_getElem?;intro q;rw[aH,Array.getElem?_modify];by_cases hq:j=q
      ·subst hq
       rw[if_pos rfl,List.getElem?_set_self (aI.1 b2).1,<-aH,b2];rfl
      ·rw[if_neg hq,List.getElem?_set_ne hq,aH]
     obtain⟨r1,r2⟩:=uw2 (n:=m.next) (es2':=a0.modify j fun y=> { y with key:=kv,val:=a1.eval x }) hr hg hi m1 g1 g2 (by
      rw[b9];exact m2.vDa j a5 a6 c2)
     unfold Oper.wp;have c4:Instr.sameBits 10000 kv kv=true:=by
      rcases ucn a2 with⟨j,n,_,rfl⟩|⟨s,_,rfl⟩
      ·simp[Instr.sameBits]
      ·simp only[Instr.sameBits]
       rw[beq_toListBytes];simp
     have c0:((a0[j]?).map (·.key)).getD kv=kv:=by
      rw[<-aH,b2];exact b6
     have:(execOp a1.eval o).run P w = .ok .skip { w with heap:=w.heap.setIfInBounds im.b (.map (a0.modify j fun y=> { y with key:=kv,val:=a1.eval x }) cl) }:=by
      simp only[a8,ea,ek,Instr.mapUpdate,aD,ur hm,aA,Sem.run_pure,uc5 m1,run_checkKey a2];rw[run_findKey hd f1];simp only[aA,aD,c0,Instr.keyThatStays];rw[if_pos c4];simp only[Sem.run_pure,aA,uko m1]
     rw[this];exact hK undef _ φ .undef r1 r2
 | _=>cases h
end
section
variable {P:Program}
def uez(w:World):World:= { w with drawn:=w.drawn+1 }
theorem Rep.drew{φ:Phi}{L:ucd}{w:World}(h:Rep φ L w):Rep φ L (uez w):=⟨fun g o hg=>by
 have:=h.ob g o hg;cases o<;>exact this,h.sep,h.grp,h.out,h.glob⟩
def uhc:TypeDesc->Bool
 | .int _=>true
 | _=>false
def Src(P:Program)(d:TypeDesc)(e:TypeId)(size:Nat)(x:Value)(n:Nat)(new:Array Value)(w:World):Prop:=
 (uhc d=false/\(Builtin.lenOf x).run P w = .ok n w/\(Builtin.firstCells size n x).run P w = .ok new w) \/
 (uhc d=true/\x = .int .i64 (.ofNat n)/\n<=1000000/\∃z,(zeroValue e).run P w = .ok z w/\((n*size=0/\new = #[])\/(¬n*size=0/\new=Builtin.zeroCells z.cells n)))
theorem uw6:∀(r n c:Nat),Builtin.growBy n r c<=2^r*(c+768)
 | 0,n,c=>by rw[Builtin.growBy];omega
 | r+1,n,c=>by
  rw[Builtin.growBy];split
  ·have:1<=2^(r+1):=Nat.one_le_two_pow
   calc c<=1*(c+768):=by omega
    _<=2^(r+1)*(c+768):=aF _ this
  ·have:=uw6 r n (c+(c+768)/4)
   calc Builtin.growBy n r (c+(c+768)/4)<=2^r*(c+(c+768)/4+768):=this
    _<=2^r*(2*(c+768)):=Nat.mul_le_mul_left _ (by omega)
    _=2^(r+1)*(c+768):=by rw[Nat.pow_succ];rw[Nat.mul_assoc]
theorem uEu{a0 c:Nat}(h:a0<=1000000)(hc:c<a0):Builtin.nextslicecap a0 c<=20000000:=by
 unfold Builtin.nextslicecap;split
 ·omega
 ·split
  ·omega
  ·have h4:=uw6 4 a0 c
   rw[show(2:Nat)^4=16 from rfl]at h4
   exact ag h4 (by omega)
theorem uJo{n:Nat}(hn:n<=1000000):IntKind.wrap .i64 (n:Int)=(n:Int):=by
 unfold IntKind.wrap;simp[IntKind.bits,IntKind.signed];rw[Int.emod_eq_of_lt (by omega) (by omega),if_neg (by omega)]
theorem uw7(n:Nat)(w:World):(askRoom n).run P w = .ok () w:=by
 unfold askRoom;split<;>rfl
theorem ube{e:TypeId}{ei:TypeInfo}(h:P.info? e=some ei)(w:World):(typeInfo e).run P w = .ok ei w:=by simp[typeInfo,program,Sem.run,h]
theorem ur2{e:TypeId}{ei:TypeInfo}(h:P.info? e=some ei)(w:World):(Go.sizeOf e).run P w = .ok ei.size w:=by simp[Go.sizeOf,ube h]
theorem ub6{T:Array TypeId}{rt sT xT e:TypeId}{ei:TypeInfo}{d:TypeDesc}(h0:T[0]? = some sT)(h1:T[1]? = some xT)(hs:P.underlying sT=some (.slice e))(hx:P.underlying xT=some d)(hi:P.info? e=some ei)(a4:ei.bytes<=1000000)
 {base:Option Addr} {sl sc n:Nat} {x:Value} {new:Array Value} {w w':World} (a5:Src P d e ei.size x n new w) (a2:sl+n<=sc) (a1:∀a,base=some a->(storeCells (a.add (sl*ei.size)) new.toList).run P w = .ok () w') (a0:base=none->w'=w) :
 (Builtin.append_ T rt #[.slice base sl sc,x]).run P w = .ok (.slice base (sl+n) sc) w':=by
 have hb:uhc d=true->∃k,d = .int k:=fun h=>by cases d<;>first|exact⟨_,rfl⟩|cases h
 have fin:∀(s:Sem Unit),True->True:=fun _ h=>h
 unfold Builtin.append_;simp only[h0,h1,ae,aD,ur hs,ur hx,ur2 hi,aA];rcases a5 with⟨hd,s1,s2⟩|⟨hd,rfl,s2,z,s3,s4⟩
 ·have a7:(match d with | .int _=>true|_=>false)=false:=by cases d<;>first|rfl|cases hd
  simp only[Sem.run_pure,aA];rw[if_neg (by cases d<;>simp_all [uhc])]
  simp only[aD,s1,aA];rw[if_pos a2];rw[if_pos (by cases d<;>simp_all [uhc])]
  cases base with
  | none=>simp only[aD,s2,aA,Sem.run_pure,a0 rfl]
  | some a=>simp only[aD,s2,aA,a1 a rfl,Sem.run_pure]
 ·obtain⟨k,rfl⟩:=hb hd
  simp only[Sem.run_pure,aD,aA,if_true,Go.asInt,asIntOf,Int.ofNat_eq_natCast,uJo s2,ube hi];have a6:(n:Int)*(ei.bytes:Int)<=1000000*1000000:=by
   have:=Nat.mul_le_mul s2 a4;omega
  have a3:(2:Int)^48=281474976710656:=by decide
  rw[if_neg (by omega)]
  simp only[aD,ube hi,aA];rw[a3,if_neg (by omega)]
  simp only[aD,Sem.run_pure,aA,Int.toNat_natCast,Bool.not_true,Bool.false_eq_true,if_false];rw[if_pos a2];rcases s4 with⟨s4,rfl⟩|⟨s4,rfl⟩
  ·rw[if_pos s4]
   cases base with
   | none=>simp only[aD,aA,Sem.run_pure,a0 rfl]
   | some a=>simp only[aD,aA,a1 a rfl,Sem.run_pure]
  ·rw[if_neg s4]
   cases base with
   | none=>simp only[aD,s3,aA,Sem.run_pure,a0 rfl]
   | some a=>simp only[aD,s3,aA,a1 a rfl,Sem.run_pure]
theorem ucq{T:Array TypeId}{rt sT xT e:TypeId}{ei:TypeInfo}{d:TypeDesc}(h0:T[0]? = some sT)(h1:T[1]? = some xT)(hs:P.underlying sT=some (.slice e))(hx:P.underlying xT=some d)(hi:P.info? e=some ei)(a0:ei.bytes<=1000000)(b0:1<=ei.bytes)
 {base:Option Addr} {sl sc n:Nat} {x:Value} {new old:Array Value} {z:Value} {w:World} (a9:Src P d e ei.size x n new w) (a6:Src P d e ei.size x n new (uez w)) (a3:¬sl+n<=sc) (a8:sl+n<=1000000) (a5:(Builtin.firstCells ei.size sl (.slice base sl sc)).run P (uez w) = .ok old (uez w)) (hz:∀w,(zeroValue e).run P w = .ok z w) :
 ∃cap,sl+n<=cap/\(Builtin.append_ T rt #[.slice base sl sc,x]).run P w = .ok (.slice (some ⟨w.heap.size,0,none⟩) (sl+n) cap) (push (uez w) (.cells (old++new++Builtin.zeroCells z.cells (cap-(sl+n))) e)):=by
 have hb:uhc d=true->∃k,d = .int k:=fun h=>by cases d<;>first|exact⟨_,rfl⟩|cases h
 obtain⟨cap,a1⟩:∃cap,cap=(Question.appendCap (sl+n) sc e).cut (w.tape w.drawn (.appendCap (sl+n) sc e)):=⟨_,rfl⟩;have a2:(choose (.appendCap (sl+n) sc e)).run P w = .ok cap (uez w):=by rw[a1];rfl
 have hn:Builtin.nextslicecap (sl+n) sc*ei.bytes<=2^48:=by
  have h1:=uEu a8 (c:=sc) (by omega)
  have:=Nat.mul_le_mul h1 a0;omega
 refine⟨cap,by rw[a1];simp only[Question.cut];omega,?_⟩
 unfold Builtin.append_;simp only[h0,h1,ae,aD,ur hs,ur hx,ur2 hi,aA];have a4:¬((sl+n:Nat):Int)>IntKind.i64.max:=by
  have:IntKind.i64.max=9223372036854775807:=by decide
  rw[this];omega
 rcases a9 with⟨hd,s1,s2⟩|⟨hd,rfl,s2,z0,s3,s4⟩
 ·have b2:(match d with | .int _=>true|_=>false)=false:=by cases d<;>first|rfl|cases hd
  rcases a6 with⟨_,t1,t2⟩|⟨hd2,_⟩
  ·simp only[Sem.run_pure,aA]
   rw[if_neg (by cases d<;>simp_all [uhc])]
   simp only[aD,s1,aA];rw[if_neg a3];simp only[aD,ube hi,aA];rw[if_neg (fun h=>a4 h.1)]
   simp only[aD,ube hi,aA,Sem.run_pure];rw[if_neg (by omega)]
   simp only[aD,ube hi,a2,uw7,a5,aA];rw[if_pos (by cases d<;>simp_all [uhc])]
   simp only[aD,t2,hz,aA,Sem.run_pure,uav];rfl
  ·rw[hd]at hd2;cases hd2
 ·obtain⟨k,rfl⟩:=hb hd
  rcases a6 with⟨hd2,_⟩|⟨_,_,_,z1,t3,t4⟩
  ·rw[hd]at hd2;cases hd2
  have ez:z1=z:=by
   have:=hz (uez w);rw[t3]at this;injection this
  subst ez;simp only[Sem.run_pure,aD,aA,if_true,Go.asInt,asIntOf,Int.ofNat_eq_natCast,uJo s2,ube hi];have b1:(n:Int)*(ei.bytes:Int)<=1000000*1000000:=by
   have:=Nat.mul_le_mul s2 a0;omega
  have a7:(2:Int)^48=281474976710656:=by decide
  rw[if_neg (by omega)]
  simp only[aD,ube hi,aA];rw[a7,if_neg (by omega)]
  simp only[aD,Sem.run_pure,aA,Int.toNat_natCast,Bool.not_true,Bool.false_eq_true,if_false];rw[if_neg a3];simp only[aD,ube hi,aA];rw[if_neg (fun h=>a4 h.1)]
  simp only[aD,ube hi,aA,Sem.run_pure];rw[if_neg (by omega)]
  simp only[aD,ube hi,a2,uw7,a5,aA];rcases t4 with⟨t4,rfl⟩|⟨t4,rfl⟩
  ·rw[if_pos t4]
   simp only[aD,hz,aA,Sem.run_pure,uav];rfl
  ·rw[if_neg t4]
   simp only[aD,hz,aA,Sem.run_pure,uav];rfl
end
end AC.Ev
