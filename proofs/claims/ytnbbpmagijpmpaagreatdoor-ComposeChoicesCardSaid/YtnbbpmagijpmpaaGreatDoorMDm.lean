/-
  Polynomials: merge.
-/
import Derived.Test.YtnbbpmagijpmpaaGreatDoorMDb
set_option linter.unusedVariables false
set_option linter.unusedSimpArgs false
namespace Go.Proofs.YtnbbpmagijpmpaaGreatDoor
open Go.Lib (hid)
open Go.RowKit AC
theorem udw:(Tryz.prog.info? 85).map (fun i=>(i.size,i.bytes,i.zero.map fun z=>z.cells.size))=some (5,104,some 5):=by kernel_rfl
theorem uek:vCk (fun w D (t:Ter) v=>uk9 w D t v):=⟨fun hk h=>uk9.vAb hk h,fun hd h=>h.sub hd⟩
def Ter.can(t:Ter):Prop:=uC6 t.q/\t.q.val≠0/\t.small/\∀a∈t.m.ats,a.l.ts.length<=1000
theorem Ctx.vAl.can{X:Ctx}{p:List Ter}(h:X.vAl p)(hs:uz p):∀t∈p,t.can:=fun t ht=>by
 rw[udv]at h;obtain⟨h1,h2,h3⟩:=h.2.1 t ht;refine⟨h1,h2,hs t ht,fun a ha=>?_⟩
 obtain⟨i,hi,rfl⟩:=aW ha;have:=(h3.2.2.2 i hi).2.1.2.1;omega
def Stp(tv:Rat)(mm:Mon)(L R:List Ter):Prop:=(tv=0->L=R)/\(tv≠0->∃x:Ter,x.m=mm/\x.q.val=tv/\x.can/\L=x::R)
theorem uJq{sel:Rat->Rat->Bool}{s:Ter}{ps qs:List Ter}(hs:s.can)(h:qs=[]\/∃t a0,qs=t::a0/\uc9 s.m t.m<0):Stp (chS sel s.q.val 0) s.m (vAh sel (s::ps) qs) (vAh sel ps qs):=by
 have e:vAh sel (s::ps) qs=if sel s.q.val 0=true then vAh sel ps qs else s::vAh sel ps qs:=by
  rcases h with rfl|⟨t,a0,rfl,h⟩
  ·rw[vAh]
  ·rw[vAh,if_pos h]
 unfold chS;by_cases hb:sel s.q.val 0=true
 ·rw[if_pos hb]at e ⊢
  exact⟨fun _=>e,fun h=>absurd rfl h⟩
 ·rw[if_neg hb]at e ⊢
  exact⟨fun h=>absurd h hs.2.1,fun _=>⟨s,rfl,rfl,hs,e⟩⟩
theorem uJr{sel:Rat->Rat->Bool}{t:Ter}{ps qs:List Ter}(ht:t.can)(h:ps=[]\/∃s a0,ps=s::a0/\0<uc9 s.m t.m):Stp (chS sel 0 t.q.val) t.m (vAh sel ps (t::qs)) (vAh sel ps qs):=by
 have e:vAh sel ps (t::qs)=if sel 0 t.q.val=true then t::vAh sel ps qs else vAh sel ps qs:=by
  rcases h with rfl|⟨s,a0,rfl,h⟩
  ·rw[vAh]
  ·rw[vAh,if_neg (by omega),if_pos h]
 unfold chS;by_cases hb:sel 0 t.q.val=true
 ·rw[if_pos hb]at e ⊢
  exact⟨fun h=>absurd h ht.2.1,fun _=>⟨t,rfl,rfl,ht,e⟩⟩
 ·rw[if_neg hb]at e ⊢
  exact⟨fun _=>e,fun h=>absurd rfl h⟩
theorem uJ6{sel:Rat->Rat->Bool}{s t:Ter}{ps qs:List Ter}(hs:s.can)(ht:t.can)(h:uc9 s.m t.m=0):Stp (chS sel s.q.val t.q.val) s.m (vAh sel (s::ps) (t::qs)) (vAh sel ps qs):=by
 have e:vAh sel (s::ps) (t::qs)=if sel s.q.val t.q.val=true then t::vAh sel ps qs else s::vAh sel ps qs:=by
  rw[vAh,if_neg (by omega),if_neg (by omega)]
 unfold chS;by_cases hb:sel s.q.val t.q.val=true
 ·rw[if_pos hb]at e ⊢
  exact⟨fun h=>absurd h ht.2.1,fun _=>⟨t,((uu6.eq _ _).1 h).symm,rfl,ht,e⟩⟩
 ·rw[if_neg hb]at e ⊢
  exact⟨fun h=>absurd h hs.2.1,fun _=>⟨s,rfl,rfl,hs,e⟩⟩
theorem ubl(w:World):Calls Tryz.prog 23 #[.int .i64 0] w (fun e w'=>∃Z1 n1 y1 Z2 n2 y2,e = .returned (.agg #[.bool false,.slice Z1 n1 y1,.slice Z2 n2 y2])/\ufi w' 0 (.agg #[.bool false,.slice Z1 n1 y1,.slice Z2 n2 y2]) 1100 0/\Below w.heap.size w w'):=by
 refine(uij w 0 (by decide) (by decide)).mono ?_
 rintro e w'⟨v,rfl,hr,hb⟩;obtain⟨Z1,y1,Z2,y2,rfl,_,_⟩:=uaj.form hr;have h2:=(ud5.lower hr (Nat.zero_le _)).toV (K:=1100) (ag (uet 0 1 (by decide) (by decide) (by decide)) (by decide))
 rw[show(mkRat 0 1:Rat)=0 from rfl]at h2
 exact⟨Z1,_,y1,Z2,_,y2,rfl,h2,hb⟩
def udx(base:Nat)(q:Cof)(v:Value)(x:World):Prop:=∃A n c A' n' c',v = .agg #[.bool q.neg,.slice A n c,.slice A' n' c']/\ub2 x (base <= ·) q [.bool q.neg,.slice A n c,.slice A' n' c']
theorem udx.stays{base:Nat}{q:Cof}:∀v x x',udx base q v x->Below x.heap.size x x'->udx base q v x':=fun v x x' h hb=>by
 obtain⟨A,n,c,A',n',c',h1,h2⟩:=h;exact⟨A,n,c,A',n',c',h1,ub2.vAb (uc.of hb) h2⟩
theorem udn.stays{base:Nat}{m:Mon}:∀v x x',udn base m v x->Below x.heap.size x x'->udn base m v x':=fun v x x' h hb=>by
 obtain⟨A,n,c,A',n',c',h1,h2⟩:=h;exact⟨A,n,c,A',n',c',h1,uU.vAb (uc.of hb) h2⟩
def ujh(q:Cof)(w:World)(e:Ending)(w':World):Prop:=∃v,e = .returned v/\udx w.heap.size q v w'/\Below w.heap.size w w'
def ud1(base:Nat)(t:Ter)(v:Value)(x:World):Prop:=∃A1 n1 c1 A2 n2 c2 A3 n3 c3 A4 n4 c4,v = .agg #[.bool t.q.neg,.slice A1 n1 c1,.slice A2 n2 c2,.slice A3 n3 c3,.slice A4 n4 c4]/\ub2 x (base <= ·) t.q [.bool t.q.neg,.slice A1 n1 c1,.slice A2 n2 c2]/\uU x (base <= ·) t.m [.slice A3 n3 c3,.slice A4 n4 c4]
theorem ud1.stays{base:Nat}{t:Ter}:∀v x x',ud1 base t v x->Below x.heap.size x x'->ud1 base t v x':=fun v x x' h hb=>by
 obtain⟨A1,n1,c1,A2,n2,c2,A3,n3,c3,A4,n4,c4,h1,h2,h3⟩:=h;exact⟨A1,n1,c1,A2,n2,c2,A3,n3,c3,A4,n4,c4,h1,ub2.vAb (uc.of hb) h2,uU.vAb (uc.of hb) h3⟩
def ucg(base:Nat)(t:Ter)(v:Value)(x:World):Prop:=∃A1 n1 c1 A2 n2 c2 A3 n3 c3 A4 n4 c4 g,v = .slice (some ⟨g,0,none⟩) 1 1/\Bk x g 85 #[.bool t.q.neg,.slice A1 n1 c1,.slice A2 n2 c2,.slice A3 n3 c3,.slice A4 n4 c4]/\base<=g/\ub2 x (base <= ·) t.q [.bool t.q.neg,.slice A1 n1 c1,.slice A2 n2 c2]/\uU x (base <= ·) t.m [.slice A3 n3 c3,.slice A4 n4 c4]
theorem ucg.stays{base:Nat}{t:Ter}:∀v x x',ucg base t v x->Below x.heap.size x x'->ucg base t v x':=fun v x x' h hb=>by
 obtain⟨A1,n1,c1,A2,n2,c2,A3,n3,c3,A4,n4,c4,g,h1,h2,h3,h4,h5⟩:=h;exact⟨A1,n1,c1,A2,n2,c2,A3,n3,c3,A4,n4,c4,g,h1,h2.below hb h2.lt,h3,ub2.vAb (uc.of hb) h4,uU.vAb (uc.of hb) h5⟩
noncomputable def vBz (X:Ctx) (sel:Rat->Rat->Bool) (p q:List Ter):Int:=if bP (X.okP/\X.vAl p)=true then(if bP (X.okP/\X.vAl q)=true then(if(vAh sel p q).length<=1000 then 0 else 9)else 1)else 1
theorem uHg{X:Ctx}{sel:Rat->Rat->Bool}{p q:List Ter}(h:vBz X sel p q=0):X.okP/\X.vAl p/\X.vAl q/\(vAh sel p q).length<=1000:=by
 unfold vBz at h;split at h
 ·next h1=>
  split at h
  ·next h2=>
   split at h
   ·next h3=>exact⟨(uhg.1 h1).1,(uhg.1 h1).2,(uhg.1 h2).2,h3⟩
   ·cases h
  ·cases h
 ·cases h
def uH6(er:Int)(l:List Ter)(w:World)(e:Ending)(w':World):Prop:=∃C n c,e = .returned (.tuple #[.slice C n c,.int .i64 er])/\Below w.heap.size w w'/\(er=0->uB w' (w.heap.size <= ·) l C n c)
def uc8(X:Ctx)(sel:Rat->Rat->Bool)(p q:List Ter)(w:World)(e:Ending)(w':World):Prop:=uH6 (vBz X sel p q) (vAh sel p q) w e w'
theorem uuj{X:Ctx}{sel:Rat->Rat->Bool}{p q:List Ter}:(¬(X.okP/\X.vAl p)->vBz X sel p q=1)/\(X.okP/\X.vAl p->¬(X.okP/\X.vAl q)->vBz X sel p q=1)/\(X.okP/\X.vAl p->X.okP/\X.vAl q->¬(vAh sel p q).length<=1000->vBz X sel p q=9)/\(X.okP/\X.vAl p->X.okP/\X.vAl q->(vAh sel p q).length<=1000->vBz X sel p q=0):=by
 refine⟨fun h=>?_,fun h h2=>?_,fun h h2 h3=>?_,fun h h2 h3=>?_⟩
 ·unfold vBz;rw[if_neg (fun e=>h (uhg.1 e))]
 ·unfold vBz;rw[if_pos (ue0 h),if_neg (fun e=>h2 (uhg.1 e))]
 ·unfold vBz;rw[if_pos (ue0 h),if_pos (ue0 h2),if_neg h3]
 ·unfold vBz;rw[if_pos (ue0 h),if_pos (ue0 h2),if_pos h3]
set_option maxHeartbeats 16000000
set_option maxRecDepth 100000
theorem uom{X:Ctx}{sel:Rat->Rat->Bool}{g:FuncId}(t9:uIt g sel)(p q:List Ter)(xv:List Value)(A:Option Addr)(n c:Nat)(B:Option Addr)(m k:Nat)(w:World)(hx:uok w (· < w.heap.size) X xv)(hp:uB w (· < w.heap.size) p A n c)(hq:uB w (· < w.heap.size) q B m k)(w9:uz p)(x0:uz q)(hg:Gp w) :
 Calls Tryz.prog 37 #[.agg xv.toArray,.slice A n c,.slice B m k,.func (.func g) #[] #[]] w (uc8 X sel p q w):=by
 obtain⟨he,t9⟩:=t9;have t1:=hid t9;have t5:=hid (uuj (X:=X) (sel:=sel) (p:=p) (q:=q));unfold uc8;generalize vBz X sel p q=er at *;unfold Enters at he;have KP:Hid (∀x,Below w.heap.size w x->Calls Tryz.prog 54 #[.agg xv.toArray,.slice A n c] x (uY (.bool (bP (X.okP/\X.vAl p))) x)):=fun x hb=>ukv X p xv A n c x ((hx.vAb (uc.of hb)).sub fun b s4 _=>s4) ((uB.vAb (uc.of hb) hp).sub fun b s4 _=>s4) w9 (hg.below hb hg.2)
 have KQ:Hid (∀x,Below w.heap.size w x->Calls Tryz.prog 54 #[.agg xv.toArray,.slice B m k] x (uY (.bool (bP (X.okP/\X.vAl q))) x)):=fun x hb=>ukv X q xv B m k x ((hx.vAb (uc.of hb)).sub fun b s4 _=>s4) ((uB.vAb (uc.of hb) hq).sub fun b s4 _=>s4) x0 (hg.below hb hg.2)
 obtain⟨dA,dn,dc,vA,vn,vc,rk,rm,rA,rn,rc,rfl⟩:=hx.form;have hn:n=p.length:=hp.1;have hm:m=q.length:=hq.1;have D7:=hp.2.1;have D6:=hq.2.1;have A9:c<=maxLen:=hp.2.2.1;have B0:k<=maxLen:=hq.2.2.1;unfold maxLen at A9 B0;have z3:Hid (X.okP/\X.vAl p->n<=1000/\∀t∈p,t.can):=fun h=>⟨by rw[hn];exact h.2.1,h.2.can w9⟩
 have z5:Hid (X.okP/\X.vAl q->m<=1000/\∀t∈q,t.can):=fun h=>⟨by rw[hm];exact h.2.1,h.2.can x0⟩
 have HP:=hid hp;have HQ:=hid hq;clear hx hp hq w9 x0 hg t9 hn hm;show Calls Tryz.prog 37 #[.agg #[.slice dA dn dc,.slice vA vn vc,.int .i64 rk,.int .i64 rm,.slice rA rn rc],.slice A n c,.slice B m k,.func (.func g) #[] #[]] w _
 go_enter Tryz.func37,Tryz.ntmps37
 go_upto_region 1 with(fail)
 obtain⟨W,hW⟩:∃W,W=w.alloc (.cells #[.slice dA dn dc,.slice vA vn vc,.int .i64 rk,.int .i64 rm,.slice rA rn rc] 27):=⟨_,rfl⟩;have v9:Hid (Below w.heap.size w W):=by rw[hW];exact aa.alloc ab _
 have HX:Hid (Bk W w.heap.size 27 #[.slice dA dn dc,.slice vA vn vc,.int .i64 rk,.int .i64 rm,.slice rA rn rc]):=by rw[hW];exact Bk.new _ _ _
 rw[<-hW];clear hW;obtain⟨C9,_,_⟩:=HX.out.facts;go_wp2_with fail
 refine(KP.out W v9.out).mono ?_;rintro e w1⟨rfl,hb⟩;have b1:=hid (v9.out.trans (hb.mono v9.out.size));have A5:=hid (HX.out.below hb HX.out.lt);clear hb C9;obtain⟨D0,_,_⟩:=A5.out.facts;by_cases t4:X.okP/\X.vAl p
 ·have t6:=hid t4
  rw[ue0 t4];clear t4;go_wp2_with fail
  refine(KQ.out w1 b1.out).mono ?_;rintro e w2⟨rfl,hb⟩;have o8:=hid (b1.out.trans (hb.mono b1.out.size));clear hb D0;by_cases t0:X.okP/\X.vAl q
  ·have y5:=hid t0
   rw[ue0 t0];obtain⟨B6,z0⟩:=z3.out t6.out;obtain⟨B5,z1⟩:=z5.out t0;have z4:=hid z0;have z6:=hid z1;clear t0 z0 z1;go_wp2;go_loopw [1,2,10] (fun pv qv rv wr=>∃(ps qs acc:List Ter) (us:Nat->List Value) (PA:Option Addr) (pn pc:Nat) (QA:Option Addr) (qn qc:Nat),pv = .slice PA pn pc/\qv = .slice QA qn qc/\pn<=1000/\qn<=1000/\acc.length+pn+qn<=2000/\Hid (uB wr (· < w.heap.size) ps PA pn pc)/\Hid (uB wr (· < w.heap.size) qs QA qn qc)/\Hid (ucb 5 (fun w D (t:Ter) v=>uk9 w D t v) 85 w.heap.size wr rv acc us)/\Hid (Below w.heap.size w wr)/\Hid (vAh sel p q=acc++vAh sel ps qs)/\Hid ((∀t∈ps,t.can)/\∀t∈qs,t.can)) (fun pv qv _ _=>sliceLen pv+sliceLen qv)
   case atStart=>exact⟨p,q,[],fun _=>[],A,n,c,B,m,k,rfl,rfl,B6,B5,by simp;omega,hid (uB.vAb (uc.of o8.out) HP.out),hid (uB.vAb (uc.of o8.out) HQ.out),hid (ucb.nil _ _ _ _ _),o8,hid rfl,hid ⟨z4.out,z6.out⟩⟩
   case round=>
    obtain⟨ps,qs,acc,us,PA,pn,pc,QA,qn,qc,rfl,rfl,D8,D9,A8,s2,r9,HO,HB,HM,c6⟩:=hrel;obtain⟨RA,a4,h7,C7,C8⟩:=HO.out.form;unfold maxLen at C8;obtain⟨al,v8⟩:∃al,acc.length=al:=⟨_,rfl⟩;rw[v8]at h7 C7 A8;subst h7;have b8:=hid v8;clear v8;have v5:w.heap.size<=wr.heap.size:=HB.out.size;cases ps with
    | nil=>
     have B7:pn=0:=s2.out.1;subst B7;cases qs with
     | nil=>
      have w8:qn=0:=r9.out.1;subst w8;have t8:vAh sel p q=acc:=by rw[HM.out,uBu,List.append_nil]
      by_cases D5:al>1000
      ·go_wp2
       go_ret2
       have e9:er=9:=t5.out.2.2.1 t6.out y5.out (by rw[t8,b8.out];omega)
       subst e9;exact⟨_,_,_,rfl,HB.out,fun h=>absurd h (by decide)⟩
      ·obtain⟨A3,n3,c3,h3,y9⟩:=HO.out.done uek
       injection h3 with e1 e2 e3;subst e1;subst e2;subst e3;have HR:Hid (uB wr (w.heap.size <= ·) (vAh sel p q) RA al a4):=by
        rw[t8];exact hid y9
       have z9:Hid ((vAh sel p q).length<=1000):=by rw[t8,b8.out];exact hid (by omega)
       clear y9 t8;go_wp2;go_ret2
       have e0:er=0:=t5.out.2.2.2 t6.out y5.out z9.out;subst e0;exact⟨_,_,_,rfl,HB.out,fun _=>HR.out⟩
     | cons t qs=>
      obtain⟨qb,qo,sv,rfl,s5,o0,w0,s6,B9,w6,n7,s8,o1⟩:=r9.out.vCd;unfold maxLen at w6;obtain⟨B1,m1,k1,B2,m2,k2,B3,m3,k3,B4,m4,k4,rfl,n6,n9⟩:=s8;have p6:=hid n7;have j7:Hid (qb<wr.heap.size):=o0;have p7:=hid o1;have r8:=hid n6;have s9:=hid n9;have j8:=hid (c6.out.2 t (by simp))
      obtain⟨tn,x8⟩:∃x,Hid (t.q.neg=x):=⟨_,rfl⟩;rw[x8.out]at p6 r8;clear s6 o1 n7 n6 n9 o0 s5;have C4:(qn:Int)>0:=by omega
      have C6:¬(qn:Int)=0:=by omega
      go_wp2_with fail
      refine(ubl wr).mono ?_;rintro e wa⟨Z1,x1,y1,Z2,x2,y2,rfl,l9,hb⟩;have e4:=hid hb;have j9:=hid l9;clear l9 hb;go_wp2_with fail
      refine(ubl wa).mono ?_;rintro e wb⟨Z3,x3,y3,Z4,x4,y4,rfl,m0,hb⟩;have c5:=hid (e4.out.trans (hb.mono e4.out.size));have k5:=hid m0;have k0:=hid (j9.out.below hb);clear m0 hb j9 e4;go_upto_region 14 with(fail)
      obtain⟨C0,hC⟩:∃C,C=((wb.alloc (.cells #[.bool false,.slice Z1 x1 y1,.slice Z2 x2 y2] 62)).alloc (.cells #[.bool false,.slice Z3 x3 y3,.slice Z4 x4 y4] 62)).alloc (.cells #[.slice none 0 0,.slice none 0 0] 83):=⟨_,rfl⟩;have a8:Below wb.heap.size wb C0:=by rw[hC];exact((aa.alloc ab _).alloc (by simp) _).alloc (by simp;omega) _
      have b9:Hid (Below wr.heap.size wr C0):=c5.out.trans (a8.mono c5.out.size);have d9:Hid (Bk C0 wb.heap.size 62 #[.bool false,.slice Z1 x1 y1,.slice Z2 x2 y2]):=by rw[hC];exact((Bk.new _ _ _).alloc _).alloc _
      have g7:Hid (Bk C0 (wb.heap.size+1) 62 #[.bool false,.slice Z3 x3 y3,.slice Z4 x4 y4]):=by rw[hC];exact(uax _ _ _ _).alloc _
      have f4:Hid (Bk C0 (wb.heap.size+1+1) 83 #[.slice none 0 0,.slice none 0 0]):=by rw[hC];exact ubc _ _ _ _ _
      have k9:Hid (uK C0 (· < wb.heap.size) (.agg #[.bool false,.slice Z1 x1 y1,.slice Z2 x2 y2]) 1100 0):=k0.out.toP.vAb a8.size fun b _ hb=>⟨a8.block b hb,hb⟩
      have l0:Hid (uK C0 (· < wb.heap.size) (.agg #[.bool false,.slice Z3 x3 y3,.slice Z4 x4 y4]) 1100 0):=k5.out.toP.vAb a8.size fun b _ hb=>⟨a8.block b hb,hb⟩
      have v6:wr.heap.size<=wb.heap.size:=c5.out.size;rw[<-hC];clear hC a8 k0 k5 c5;generalize wb.heap.size=za at *;obtain⟨V0,a5⟩:∃x,x=C0.drew:=⟨_,rfl⟩;obtain⟨V1,a0⟩:∃x,x=((V0.setCell ⟨za+1,0,none⟩ (.bool tn)).setCell ⟨za+1,1,none⟩ (.slice B1 m1 k1)).setCell ⟨za+1,2,none⟩ (.slice B2 m2 k2):=⟨_,rfl⟩;obtain⟨C1,a1⟩:∃x,x=(V1.setCell ⟨za+1+1,0,none⟩ (.slice B3 m3 k3)).setCell ⟨za+1+1,1,none⟩ (.slice B4 m4 k4):=⟨_,rfl⟩;have b6:Below C0.heap.size C0 V0:=by rw[a5];exact aa.drew
      have d5:Fw (fun b=>b=za+1\/b=za+1+1) C0 V0:=(Fw.refl _ _).below b6
      have d6:Fw (fun b=>b=za+1) V0 V1:=by
       rw[a0];exact(((Fw.refl (fun b=>b=za+1) _).setCell (p:=⟨za+1,0,none⟩) (.inl rfl) _).setCell (p:=⟨za+1,1,none⟩) (.inl rfl) _).setCell (p:=⟨za+1,2,none⟩) (.inl rfl) _
      have d8:Fw (fun b=>b=za+1+1) V1 C1:=by
       rw[a1];exact((Fw.refl (fun b=>b=za+1+1) _).setCell (p:=⟨za+1+1,0,none⟩) (.inl rfl) _).setCell (p:=⟨za+1+1,1,none⟩) (.inl rfl) _
      have d7:Fw (fun b=>b=za+1\/b=za+1+1) C0 V1:=d5.then d6 (fun x hx=> .inl (.inl hx))
      have a7:Fw (fun b=>b=za+1\/b=za+1+1) C0 C1:=d7.then d8 (fun x hx=> .inl (.inr hx))
      have b3:Hid (um C0 qb (qo+0*5) [.bool tn,.slice B1 m1 k1,.slice B2 m2 k2,.slice B3 m3 k3,.slice B4 m4 k4]):=p6.out.sure b9.out j7.out;have b4:qb<C0.heap.size:=af j7.out b9.out.size;have b5:¬(qb=za+1\/qb=za+1+1):=by have:qb<wr.heap.size:=j7.out;omega
      have g4:Hid (um V0 qb (qo+0*5) [.bool tn,.slice B1 m1 k1,.slice B2 m2 k2,.slice B3 m3 k3,.slice B4 m4 k4]):=b3.out.vAz d5 b4 b5;have g5:Hid (um V1 qb (qo+0*5) [.bool tn,.slice B1 m1 k1,.slice B2 m2 k2,.slice B3 m3 k3,.slice B4 m4 k4]):=b3.out.vAz d7 b4 b5;have g6:Hid (um C1 qb (qo+0*5) [.bool tn,.slice B1 m1 k1,.slice B2 m2 k2,.slice B3 m3 k3,.slice B4 m4 k4]):=b3.out.vAz a7 b4 b5;have d3:=g7.out.below b6 g7.out.lt;have h0:=f4.out.below b6 f4.out.lt;have d0:=Bk.fw h0 d6 (by omega)
      obtain⟨o5,o6,o7⟩:=d3.facts;obtain⟨o2,o3,o4⟩:=d0.facts;have b1:Hid (Below wr.heap.size wr C1):=b9.out.trans (a7.toBelow (fun x hx=>by rcases hx with rfl|rfl<;>omega) b9.out.size)
      have a6:Below za C0 C1:=a7.toBelow (fun x hx=>by rcases hx with rfl|rfl<;>omega) (Nat.le_of_lt d9.out.lt)
      have k8:Hid (Bk C1 (za+1) 62 #[.bool tn,.slice B1 m1 k1,.slice B2 m2 k2]):=by
       refine hid (Bk.fw ?_ d8 (by omega))
       rw[a0];exact udy d3
      have h9:=hid (Bk.fw d9.out a7 (by omega))
      have f5:Hid (Bk C1 (za+1+1) 83 #[.slice B3 m3 k3,.slice B4 m4 k4]):=by
       rw[a1];exact hid (ucc d0)
      have n0:=hid (k9.out.vAb a6.size fun b hb _=>⟨a6.block b hb,hb⟩)
      have n5:=hid (l0.out.vAb a6.size fun b hb _=>⟨a6.block b hb,hb⟩)
      replace a5:=hid a5
      replace a0:=hid a0
      replace a1:=hid a1
      clear b3 b4 b5 d5 d6 d8 d7 a7 b6 d3 h0 d0 a6;refine uam (⟨[(qb,(qo+0*5),[.bool tn,.slice B1 m1 k1,.slice B2 m2 k2,.slice B3 m3 k3,.slice B4 m4 k4])],[],[],[(2,.v (.slice (some ⟨qb,qo,none⟩) qn qc))],[(1,.p 0 0),(5,.p 0 0),(9,.v (.slice (some ⟨qb,if qc=1 then qo else qo+1*5,none⟩) (qn-1) (qc-1)))]⟩:Sp) [55,56,57,58,59,60,61,62,63,64] 2 (by kernel_rfl) (by kernel_rfl) (by kernel_rfl) rfl (by kernel_rfl) (fun d x=>x=if d 11=true then C1 else if d 10=true then V1 else V0) ?_ ?_ ?_ (fun y=>(dIG (uE rfl rfl qb (qo) qn qc .i64 0 5 0 (by kernel_rfl) (by kernel_rfl) (fun _=>by omega) rfl) (dIG (uE rfl rfl qb (qo) qn qc .i64 0 5 0 (by kernel_rfl) (by kernel_rfl) (fun _=>by omega) rfl) (dIG (uba rfl rfl qb qo qn qc 1 (by kernel_rfl) 5 (by kernel_rfl) (by omega)) dNG)))) ?_ ?_
      ·exact a5.out.symm
      ·intro d i x hi h
       have t2:i<10:=hi;have e1:(10==i)=false:=by rw[aw];omega
       have e2:(11==i)=false:=by rw[aw];omega
       simp only[e1,e2,Bool.or_false];exact h
      ·intro d x h
       have h:x=if d 11=true then C1 else if d 10=true then V1 else V0:=h
       refine mI ?_ mN;rw[h];split
       ·exact g6.out
       ·split
        ·exact g5.out
        ·exact g4.out
      ·intro i o s d x ho h1 h2 h6 hJ ha hb hF
       have hi:i=10\/i=11:=by
        have h3:10<=i:=h1;have h4:i<12:=h2;omega
       rcases hi with rfl|rfl
       ·cases ho
        have h5:d 11=false:=hb 11 (by decide) (by kernel_rfl)
        have s3:s 3 = .agg #[.bool tn,.slice B1 m1 k1,.slice B2 m2 k2]:=udz (hF 3 (by decide) (ha 3 (by kernel_rfl))) (by kernel_rfl)
        obtain rfl:x=V0:=by simpa only[h6,h5,if_false,Bool.false_eq_true]using hJ
        refine uh rfl rfl fun KK HK=>?_
        clear hF ha hb h1 h2 hJ;simp only[nv,Nat.reduceAdd]at HK ⊢;generalize s 3=t3 at *;subst s3;go_wp2;refine HK.out _ _ ⟨rfl,?_⟩;show _=_
        rw[h5,if_neg (by decide),if_pos (by simp)]
        exact a0.out.symm
       ·cases ho
        have n8:d 10=true:=ha 10 (by kernel_rfl)
        have s7:s 7 = .agg #[.slice B3 m3 k3,.slice B4 m4 k4]:=udz (hF 7 (by decide) (ha 7 (by kernel_rfl))) (by kernel_rfl)
        obtain rfl:x=V1:=by simpa only[h6,n8,if_false,if_true,Bool.false_eq_true]using hJ
        refine uh rfl rfl fun KK HK=>?_
        clear hF ha hb h1 h2 hJ;simp only[nv,Nat.reduceAdd]at HK ⊢;generalize s 7=t7 at *;subst s7;go_wp2;refine HK.out _ _ ⟨rfl,?_⟩;show _=_
        rw[if_pos (by simp)]
        exact a1.out.symm
      intro s0 d x d4 hJ hS;obtain⟨g9,_⟩:s0 9 = .slice (some ⟨qb,if qc=1 then qo else qo+1*5,none⟩) (qn-1) (qc-1)/\True:=hS (l:=[(9,.v (.slice (some ⟨qb,if qc=1 then qo else qo+1*5,none⟩) (qn-1) (qc-1)))]) (by kernel_rfl)
      obtain rfl:C1=x:=by
       have h:x=C1:=by simpa only[d4 10 (by decide),d4 11 (by decide),if_true]using hJ
       exact h.symm
      clear hS d4 hJ;simp only[nv,Nat.reduceAdd,aB,aE,aC,List.drop_zero,g9];clear g9;generalize (if qc=1 then qo else qo+1*5)=qo2 at *
      go_upto_region 17 with(fail)
      clear o5 o6 o7 o2 o3 o4 g4 g5 g6 d9 g7 f4 k9 l0 a5 a0 a1;have f0:Hid (uU C1 (· < w.heap.size) t.m [.slice B3 m3 k3,.slice B4 m4 k4]):=uU.vAb (uc.of b1.out) s9.out
      have a3:=hid (And.intro j8.out.2.2.1.2.2 j8.out.2.2.2);obtain⟨tv,g3⟩:∃tv,tv=chS sel (0) (t.q.val):=⟨_,rfl⟩;have c7:Hid (Stp tv t.m (vAh sel ([]) (t::qs)) (vAh sel ([]) (qs))):=by rw[g3];exact uJr j8.out (.inl rfl)
      have f7:=hid (t1.out C1 (.agg #[.bool false,.slice Z1 x1 y1,.slice Z2 x2 y2]) (.agg #[.bool tn,.slice B1 m1 k1,.slice B2 m2 k2]) (0) (t.q.val) n0.out.zero (uK.zero (uK.more ((ub2.vAb (uc.of b1.out) r8.out).rat (K:=1000) j8.out.2.2.1.1 j8.out.2.2.1.2.1) (by omega))))
      rw[<-g3]at f7;clear g3;generalize hmm:t.m=mm at f0 a3 c7;clear hmm;obtain⟨r1,r2,r3⟩:=h9.out.facts;obtain⟨r4,r5,r6⟩:=k8.out.facts;go_wp2_with fail
      refine f7.out.mono ?_;rintro e w3⟨c0,C1,l1,d1,E2,l2,d2,rfl,h7,hb⟩;have j0:Hid (Below wr.heap.size wr w3):=b1.out.trans (hb.mono b1.out.size);have e7:=hid (f5.out.below hb f5.out.lt);have j3:=hid (uU.vAb (uc.of hb) (uU.sub (D':=fun _=>True) (fun _ _ _=>trivial) f0.out))
      have k6:=hid h7;clear hb h7 f7 r1 r2 r3 r4 r5 r6 h9 k8 f5 n0 n5 f0;go_upto_region 18 with(fail)
      obtain⟨X4,hX⟩:∃X,X=w3.alloc (.cells #[.bool c0,.slice C1 l1 d1,.slice E2 l2 d2] 62):=⟨_,rfl⟩;have b7:Below w3.heap.size w3 X4:=by rw[hX];exact aa.alloc ab _
      have c8:Hid (Bk X4 w3.heap.size 62 #[.bool c0,.slice C1 l1 d1,.slice E2 l2 d2]):=by rw[hX];exact Bk.new _ _ _
      have j1:Hid (Below wr.heap.size wr X4):=j0.out.trans (b7.mono j0.out.size);have e8:=hid (e7.out.below b7 e7.out.lt);have j4:=hid (uU.vAb (uc.of b7) j3.out);have f2:=hid (k6.out.below b7);rw[<-hX];clear hX b7 e7 j3 k6;generalize w3.heap.size=rb at *;obtain⟨q8,q9,r0⟩:=c8.out.facts;go_wp2_with fail
      refine(udg X4 0 _ 1100 tv f2.out (by omega)).mono ?_
      rintro e w5⟨rfl,a9⟩;have a2:Hid (Below wr.heap.size wr w5):=j1.out.trans (a9.mono j1.out.size);have j2:=hid (e8.out.below a9 e8.out.lt);have k7:=hid (c8.out.below a9 c8.out.lt);have f1:=hid (uU.vAb (uc.of a9) j4.out);have f3:=hid (f2.out.below a9);clear a9 q8 q9 r0 e8 j4 f2 c8;obtain⟨sg,g2⟩:∃sg,Hid (ujj tv=sg):=⟨_,rfl⟩;rw[g2.out];by_cases g1:sg=0
      ·have HE:Hid (vAh sel ([]) (t::qs)=vAh sel ([]) (qs)):=c7.out.1 ((ubf tv).1 (by rw[g2.out,g1]))
       subst g1;go_wp2;go_roundw
       case rel=>exact⟨[],qs,acc,us,PA,0,pc,(some ⟨qb,qo2,none⟩),qn-1,qc-1,rfl,rfl,by omega,by omega,by rw[b8.out];omega,hid (uB.vAb (uc.of a2.out) s2.out),hid (uB.vAb (uc.of a2.out) p7.out),hid (HO.out.below uek a2.out),hid (HB.out.trans (a2.out.mono HB.out.size)),hid (by rw[HM.out,HE.out]),hid ⟨fun x h=>c6.out.1 x h,fun x h=>c6.out.2 x (by simp[h])⟩⟩
       case measure=>simp[sliceLen];omega
      ·obtain⟨xt,m8,m9,m6,m7⟩:=c7.out.2 (fun h=>g1 (by rw[<-g2.out];exact(ubf tv).2 h))
       have p9:=hid m7;have p8:=hid m6;rw[<-m8]at f1 a3;rw[<-m9]at f3;have q0:Hid (∀x,Below w5.heap.size w5 x->Calls Tryz.prog 73 #[.agg #[.bool c0,.slice C1 l1 d1,.slice E2 l2 d2]] x (ujh xt.q x)):=fun x hx=>by
        refine(uaq x 0 _ 1100 xt.q.val (f3.out.below hx) (by omega)).mono ?_
        rintro e w2⟨v2,rfl,hr,hb⟩;exact⟨v2,rfl,ub2.ofR p8.out.1 hr,hb⟩
       have q5:Hid (∀x,Below w5.heap.size w5 x->Calls Tryz.prog 74 #[.agg #[.slice B3 m3 k3,.slice B4 m4 k4]] x (uc1 xt.m x)):=fun x hx=>uc2 xt.m _ x (uU.vAb (uc.of hx) f1.out) a3.out.1.1 a3.out.1.2.1 a3.out.1.2.2 a3.out.2
       clear m7 m6 m8 m9 c7 f3 f1 a3;go_upto_region 19 with(fail)
       refine ue (⟨[(rb,0,[.bool c0,.slice C1 l1 d1,.slice E2 l2 d2]),(za+1+1,0,[.slice B3 m3 k3,.slice B4 m4 k4])],[],[udx w5.heap.size xt.q,udn w5.heap.size xt.m,ud1 w5.heap.size xt,ucg w5.heap.size xt],[(10,.v (.slice RA al a4)),(14,.p 1 0),(15,.p 0 0)],[(2,.f 0),(4,.f 1),(5,.f 2),(6,.f 3)]⟩:Sp) [84,85,86,87,88,89,90] w5 (aa.drew) (by kernel_rfl) (by kernel_rfl) (by kernel_rfl) (sI (udx.stays) (sI (udn.stays) (sI (ud1.stays) (sI (ucg.stays) sN)))) (by kernel_rfl)
        (fun x hx=>(mI (ud (k7.out.below hx k7.out.lt)) (mI (ud (j2.out.below hx j2.out.lt)) mN))) (dI (ug [.v (.agg #[.bool c0,.slice C1 l1 d1,.slice E2 l2 d2])] rfl rfl (by kernel_rfl) (by kernel_rfl) fun x vs hx hC hv=>by
         obtain⟨v1,rfl,h1⟩:=ubg hv;obtain rfl:v1 = .agg #[.bool c0,.slice C1 l1 d1,.slice E2 l2 d2]:=h1;refine(q0.out x hx).mono ?_;rintro en w2⟨u,rfl,⟨A3,n3,c3,A4,n4,c4,h1,h2⟩,hb⟩;exact⟨u,rfl,⟨A3,n3,c3,A4,n4,c4,h1,ub2.sub (fun b _ hD=>ag hx.size hD) h2⟩,hb⟩) (
        dI (ug [.v (.agg #[.slice B3 m3 k3,.slice B4 m4 k4])] rfl rfl (by kernel_rfl) (by kernel_rfl) fun x vs hx hC hv=>by
         obtain⟨v1,rfl,h1⟩:=ubg hv;obtain rfl:v1 = .agg #[.slice B3 m3 k3,.slice B4 m4 k4]:=h1;refine(q5.out x hx).mono ?_;rintro en w2⟨u,rfl,⟨A3,n3,c3,A4,n4,c4,h1,h2⟩,hb⟩;exact⟨u,rfl,⟨A3,n3,c3,A4,n4,c4,h1,uU.sub (fun b _ hD=>ag hx.size hD) h2⟩,hb⟩) (
        dI (uX rfl (parts:=[(0,.tmp 86),(1,.tmp 88)]) rfl fun x a hx c9=>by
         obtain⟨A1,n1,c1,A2,n2,c2,h1,h2⟩:=(c9 (.tmp 86) (.f 0) (by kernel_rfl):udx w5.heap.size xt.q (a.eval (.tmp 86)) x)
         obtain⟨A3,n3,c3,A4,n4,c4,h3,h4⟩:=(c9 (.tmp 88) (.f 1) (by kernel_rfl):udn w5.heap.size xt.m (a.eval (.tmp 88)) x)
         refine⟨.agg #[.bool xt.q.neg,.slice A1 n1 c1,.slice A2 n2 c2,.slice A3 n3 c3,.slice A4 n4 c4],?_,A1,n1,c1,A2,n2,c2,A3,n3,c3,A4,n4,c4,rfl,h2,h4⟩;simp only[List.map_cons,List.map_nil,h1,h3];kernel_rfl) (
        dI (uac rfl (parts:=[(0,.tmp 89)]) rfl fun x a hx c9=>by
         obtain⟨A1,n1,c1,A2,n2,c2,A3,n3,c3,A4,n4,c4,h1,h2,h3⟩:=(c9 (.tmp 89) (.f 2) (by kernel_rfl):ud1 w5.heap.size xt (a.eval (.tmp 89)) x)
         refine⟨85,[.bool xt.q.neg,.slice A1 n1 c1,.slice A2 n2 c2,.slice A3 n3 c3,.slice A4 n4 c4],?_,A1,n1,c1,A2,n2,c2,A3,n3,c3,A4,n4,c4,x.heap.size,rfl,Bk.new _ _ _,hx.size,ub2.vAb (uc.of (aa.alloc ab _)) h2,uU.vAb (uc.of (aa.alloc ab _)) h3⟩;simp only[List.map_cons,List.map_nil,h1];kernel_rfl) (dN))))) ?_
       intro S x6 b0 hS;obtain⟨g0,f6,_⟩:S 0 = .slice RA al a4/\(ucg w5.heap.size xt:Value->World->Prop) (S 6) x6/\True:=hS (l:=[(0,.v (.slice RA al a4)),(6,.f 3)]) (by kernel_rfl)
       clear hS;simp only[nv,Nat.reduceAdd,aB,aE,aC,List.drop_zero,g0];clear g0;obtain⟨F1,p1,q1,F2,p2,q2,F3,p3,q3,F4,p4,q4,gb,e5,l4,v0,l5,l7⟩:=(f6:ucg w5.heap.size xt (S 6) x6);rw[e5];generalize hxn:xt.q.neg=xn at *;have e6:Hid (Below wr.heap.size wr x6):=a2.out.trans (b0.mono a2.out.size);have j5:=hid (HO.out.below uek e6.out);have l3:w.heap.size<=x6.heap.size:=by have:=e6.out.size;omega
       have v4:wr.heap.size<=w5.heap.size:=a2.out.size;have HV:Hid (uk9 x6 (fun b=>w.heap.size<=b/\some b≠(Value.slice RA al a4).ownBlock) xt [.bool xn,.slice F1 p1 q1,.slice F2 p2 q2,.slice F3 p3 q3,.slice F4 p4 q4]):=by
        have m5:∀b,b<x6.heap.size->w5.heap.size<=b->w.heap.size<=b/\some b≠(Value.slice RA al a4).ownBlock:=fun b _ hb=>⟨by omega,fun e=>by have:=(HO.out.lt e.symm).2;omega⟩
        refine⟨F1,p1,q1,F2,p2,q2,F3,p3,q3,F4,p4,q4,by rw[hxn],?_,l7.sub m5⟩
        rw[hxn];exact ub2.sub m5 l5
       have f9:=j5.out.1;rw[b8.out]at f9;clear b0 l5 l7;refine uN x6 rfl _ _ 32 85 rfl Tryz.underlying32 5 104 udw (by decide) (by decide) w.heap.size (.slice RA al a4) al (ucr us al) [.bool xn,.slice F1 p1 q1,.slice F2 p2 q2,.slice F3 p3 q3,.slice F4 p4 q4] (by rfl) f9 gb _ l4 (by rfl) rfl (by intro y hy;simp at hy;rcases hy with rfl|rfl|rfl|rfl|rfl<;>rfl) (by omega) l3 ?_
       intro g q6 w7 l8 hg l6 v3;have f8:=j5.out.vBc uek HV.out rfl (g:=g) (cap:=q6) (by rw[b8.out];exact l8) hg l6
       rw[b8.out]at f8;have o9:=hid f8;have q7:∀k,k<w.heap.size->some k≠(Value.slice RA al a4).ownBlock:=fun k hk e=>by have:=(HO.out.lt e.symm).1;omega
       have b2:Hid (Below w.heap.size wr w7):=by
        have h1:Below w.heap.size wr x6:=e6.out.mono v5;exact h1.grown hg l3 (fun k e=>by have:=(HO.out.lt e).1;omega)
       clear f9 l8 l4 l6 hg q7 f8 HV;go_wp2;go_roundw
       case rel=>exact⟨[],qs,acc++[xt],_,PA,0,pc,(some ⟨qb,qo2,none⟩),qn-1,qc-1,rfl,rfl,by omega,by omega,by rw[ay,b8.out];simp;omega,hid (uB.vAb ⟨b2.out.size,fun b hb hD=>b2.out.block b hD⟩ s2.out),hid (uB.vAb ⟨b2.out.size,fun b hb hD=>b2.out.block b hD⟩ p7.out),o9,hid (HB.out.trans b2.out),hid (by rw[HM.out,p9.out,aS];rfl),hid ⟨fun x h=>c6.out.1 x h,fun x h=>c6.out.2 x (by simp[h])⟩⟩
       case measure=>simp[sliceLen];omega
    | cons s ps=>
     cases qs with
     | nil=>
      have w8:qn=0:=r9.out.1;subst w8;obtain⟨pb,po,sv,rfl,s5,o0,w0,s6,B8,w4,n7,s8,o1⟩:=s2.out.vCd;unfold maxLen at w4;obtain⟨A1,n1,c1,A2,n2,c2,A3,n3,c3,A4,n4,c4,rfl,n6,n9⟩:=s8;have p0:=hid n7;have j6:Hid (pb<wr.heap.size):=o0;have p5:=hid o1;have r7:=hid n6;have s1:=hid n9;have h8:=hid (c6.out.1 s (by simp))
      obtain⟨sn,x7⟩:∃x,Hid (s.q.neg=x):=⟨_,rfl⟩;rw[x7.out]at p0 r7;clear s6 o1 n7 n6 n9 o0 s5;have C3:(pn:Int)>0:=by omega
      have C5:¬(pn:Int)=0:=by omega
      go_wp2_with fail
      refine(ubl wr).mono ?_;rintro e wa⟨Z1,x1,y1,Z2,x2,y2,rfl,l9,hb⟩;have e4:=hid hb;have j9:=hid l9;clear l9 hb;go_wp2_with fail
      refine(ubl wa).mono ?_;rintro e wb⟨Z3,x3,y3,Z4,x4,y4,rfl,m0,hb⟩;have c5:=hid (e4.out.trans (hb.mono e4.out.size));have k5:=hid m0;have k0:=hid (j9.out.below hb);clear m0 hb j9 e4;go_upto_region 16 with(fail)
      obtain⟨C0,hC⟩:∃C,C=((wb.alloc (.cells #[.bool false,.slice Z1 x1 y1,.slice Z2 x2 y2] 62)).alloc (.cells #[.bool false,.slice Z3 x3 y3,.slice Z4 x4 y4] 62)).alloc (.cells #[.slice none 0 0,.slice none 0 0] 83):=⟨_,rfl⟩;have a8:Below wb.heap.size wb C0:=by rw[hC];exact((aa.alloc ab _).alloc (by simp) _).alloc (by simp;omega) _
      have b9:Hid (Below wr.heap.size wr C0):=c5.out.trans (a8.mono c5.out.size);have d9:Hid (Bk C0 wb.heap.size 62 #[.bool false,.slice Z1 x1 y1,.slice Z2 x2 y2]):=by rw[hC];exact((Bk.new _ _ _).alloc _).alloc _
      have g7:Hid (Bk C0 (wb.heap.size+1) 62 #[.bool false,.slice Z3 x3 y3,.slice Z4 x4 y4]):=by rw[hC];exact(uax _ _ _ _).alloc _
      have f4:Hid (Bk C0 (wb.heap.size+1+1) 83 #[.slice none 0 0,.slice none 0 0]):=by rw[hC];exact ubc _ _ _ _ _
      have k9:Hid (uK C0 (· < wb.heap.size) (.agg #[.bool false,.slice Z1 x1 y1,.slice Z2 x2 y2]) 1100 0):=k0.out.toP.vAb a8.size fun b _ hb=>⟨a8.block b hb,hb⟩
      have l0:Hid (uK C0 (· < wb.heap.size) (.agg #[.bool false,.slice Z3 x3 y3,.slice Z4 x4 y4]) 1100 0):=k5.out.toP.vAb a8.size fun b _ hb=>⟨a8.block b hb,hb⟩
      have v6:wr.heap.size<=wb.heap.size:=c5.out.size;rw[<-hC];clear hC a8 k0 k5 c5;generalize wb.heap.size=za at *;obtain⟨V0,a5⟩:∃x,x=C0.drew:=⟨_,rfl⟩;obtain⟨V1,a0⟩:∃x,x=((V0.setCell ⟨za,0,none⟩ (.bool sn)).setCell ⟨za,1,none⟩ (.slice A1 n1 c1)).setCell ⟨za,2,none⟩ (.slice A2 n2 c2):=⟨_,rfl⟩;obtain⟨C1,a1⟩:∃x,x=(V1.setCell ⟨za+1+1,0,none⟩ (.slice A3 n3 c3)).setCell ⟨za+1+1,1,none⟩ (.slice A4 n4 c4):=⟨_,rfl⟩;have b6:Below C0.heap.size C0 V0:=by rw[a5];exact aa.drew
      have d5:Fw (fun b=>b=za\/b=za+1+1) C0 V0:=(Fw.refl _ _).below b6
      have d6:Fw (fun b=>b=za) V0 V1:=by
       rw[a0];exact(((Fw.refl (fun b=>b=za) _).setCell (p:=⟨za,0,none⟩) (.inl rfl) _).setCell (p:=⟨za,1,none⟩) (.inl rfl) _).setCell (p:=⟨za,2,none⟩) (.inl rfl) _
      have d8:Fw (fun b=>b=za+1+1) V1 C1:=by
       rw[a1];exact((Fw.refl (fun b=>b=za+1+1) _).setCell (p:=⟨za+1+1,0,none⟩) (.inl rfl) _).setCell (p:=⟨za+1+1,1,none⟩) (.inl rfl) _
      have d7:Fw (fun b=>b=za\/b=za+1+1) C0 V1:=d5.then d6 (fun x hx=> .inl (.inl hx))
      have a7:Fw (fun b=>b=za\/b=za+1+1) C0 C1:=d7.then d8 (fun x hx=> .inl (.inr hx))
      have b3:Hid (um C0 pb (po+0*5) [.bool sn,.slice A1 n1 c1,.slice A2 n2 c2,.slice A3 n3 c3,.slice A4 n4 c4]):=p0.out.sure b9.out j6.out;have b4:pb<C0.heap.size:=af j6.out b9.out.size;have b5:¬(pb=za\/pb=za+1+1):=by have:pb<wr.heap.size:=j6.out;omega
      have g4:Hid (um V0 pb (po+0*5) [.bool sn,.slice A1 n1 c1,.slice A2 n2 c2,.slice A3 n3 c3,.slice A4 n4 c4]):=b3.out.vAz d5 b4 b5;have g5:Hid (um V1 pb (po+0*5) [.bool sn,.slice A1 n1 c1,.slice A2 n2 c2,.slice A3 n3 c3,.slice A4 n4 c4]):=b3.out.vAz d7 b4 b5;have g6:Hid (um C1 pb (po+0*5) [.bool sn,.slice A1 n1 c1,.slice A2 n2 c2,.slice A3 n3 c3,.slice A4 n4 c4]):=b3.out.vAz a7 b4 b5;have d3:=d9.out.below b6 d9.out.lt;have h0:=f4.out.below b6 f4.out.lt;have d0:=Bk.fw h0 d6 (by omega)
      obtain⟨o5,o6,o7⟩:=d3.facts;obtain⟨o2,o3,o4⟩:=d0.facts;have b1:Hid (Below wr.heap.size wr C1):=b9.out.trans (a7.toBelow (fun x hx=>by rcases hx with rfl|rfl<;>omega) b9.out.size)
      have a6:Below za C0 C1:=a7.toBelow (fun x hx=>by rcases hx with rfl|rfl<;>omega) (Nat.le_of_lt d9.out.lt)
      have h9:Hid (Bk C1 (za) 62 #[.bool sn,.slice A1 n1 c1,.slice A2 n2 c2]):=by
       refine hid (Bk.fw ?_ d8 (by omega))
       rw[a0];exact udy d3
      have k8:=hid (Bk.fw g7.out a7 (by omega))
      have f5:Hid (Bk C1 (za+1+1) 83 #[.slice A3 n3 c3,.slice A4 n4 c4]):=by
       rw[a1];exact hid (ucc d0)
      have n0:=hid (k9.out.vAb a6.size fun b hb _=>⟨a6.block b hb,hb⟩)
      have n5:=hid (l0.out.vAb a6.size fun b hb _=>⟨a6.block b hb,hb⟩)
      replace a5:=hid a5
      replace a0:=hid a0
      replace a1:=hid a1
      clear b3 b4 b5 d5 d6 d8 d7 a7 b6 d3 h0 d0 a6;refine uam (⟨[(pb,(po+0*5),[.bool sn,.slice A1 n1 c1,.slice A2 n2 c2,.slice A3 n3 c3,.slice A4 n4 c4])],[],[],[(1,.v (.slice (some ⟨pb,po,none⟩) pn pc))],[(1,.p 0 0),(5,.p 0 0),(9,.v (.slice (some ⟨pb,if pc=1 then po else po+1*5,none⟩) (pn-1) (pc-1)))]⟩:Sp) [67,68,69,70,71,72,73,74,75,76] 2 (by kernel_rfl) (by kernel_rfl) (by kernel_rfl) rfl (by kernel_rfl) (fun d x=>x=if d 11=true then C1 else if d 10=true then V1 else V0) ?_ ?_ ?_ (fun y=>(dIG (uE rfl rfl pb (po) pn pc .i64 0 5 0 (by kernel_rfl) (by kernel_rfl) (fun _=>by omega) rfl) (dIG (uE rfl rfl pb (po) pn pc .i64 0 5 0 (by kernel_rfl) (by kernel_rfl) (fun _=>by omega) rfl) (dIG (uba rfl rfl pb po pn pc 1 (by kernel_rfl) 5 (by kernel_rfl) (by omega)) dNG)))) ?_ ?_
      ·exact a5.out.symm
      ·intro d i x hi h
       have t2:i<10:=hi;have e1:(10==i)=false:=by rw[aw];omega
       have e2:(11==i)=false:=by rw[aw];omega
       simp only[e1,e2,Bool.or_false];exact h
      ·intro d x h
       have h:x=if d 11=true then C1 else if d 10=true then V1 else V0:=h
       refine mI ?_ mN;rw[h];split
       ·exact g6.out
       ·split
        ·exact g5.out
        ·exact g4.out
      ·intro i o s d x ho h1 h2 h6 hJ ha hb hF
       have hi:i=10\/i=11:=by
        have h3:10<=i:=h1;have h4:i<12:=h2;omega
       rcases hi with rfl|rfl
       ·cases ho
        have h5:d 11=false:=hb 11 (by decide) (by kernel_rfl)
        have s3:s 3 = .agg #[.bool sn,.slice A1 n1 c1,.slice A2 n2 c2]:=udz (hF 3 (by decide) (ha 3 (by kernel_rfl))) (by kernel_rfl)
        obtain rfl:x=V0:=by simpa only[h6,h5,if_false,Bool.false_eq_true]using hJ
        refine uh rfl rfl fun KK HK=>?_
        clear hF ha hb h1 h2 hJ;simp only[nv,Nat.reduceAdd]at HK ⊢;generalize s 3=t3 at *;subst s3;go_wp2;refine HK.out _ _ ⟨rfl,?_⟩;show _=_
        rw[h5,if_neg (by decide),if_pos (by simp)]
        exact a0.out.symm
       ·cases ho
        have n8:d 10=true:=ha 10 (by kernel_rfl)
        have s7:s 7 = .agg #[.slice A3 n3 c3,.slice A4 n4 c4]:=udz (hF 7 (by decide) (ha 7 (by kernel_rfl))) (by kernel_rfl)
        obtain rfl:x=V1:=by simpa only[h6,n8,if_false,if_true,Bool.false_eq_true]using hJ
        refine uh rfl rfl fun KK HK=>?_
        clear hF ha hb h1 h2 hJ;simp only[nv,Nat.reduceAdd]at HK ⊢;generalize s 7=t7 at *;subst s7;go_wp2;refine HK.out _ _ ⟨rfl,?_⟩;show _=_
        rw[if_pos (by simp)]
        exact a1.out.symm
      intro s0 d x d4 hJ hS;obtain⟨g9,_⟩:s0 9 = .slice (some ⟨pb,if pc=1 then po else po+1*5,none⟩) (pn-1) (pc-1)/\True:=hS (l:=[(9,.v (.slice (some ⟨pb,if pc=1 then po else po+1*5,none⟩) (pn-1) (pc-1)))]) (by kernel_rfl)
      obtain rfl:C1=x:=by
       have h:x=C1:=by simpa only[d4 10 (by decide),d4 11 (by decide),if_true]using hJ
       exact h.symm
      clear hS d4 hJ;simp only[nv,Nat.reduceAdd,aB,aE,aC,List.drop_zero,g9];clear g9;generalize (if pc=1 then po else po+1*5)=po2 at *
      go_upto_region 17 with(fail)
      clear o5 o6 o7 o2 o3 o4 g4 g5 g6 d9 g7 f4 k9 l0 a5 a0 a1;have f0:Hid (uU C1 (· < w.heap.size) s.m [.slice A3 n3 c3,.slice A4 n4 c4]):=uU.vAb (uc.of b1.out) s1.out
      have a3:=hid (And.intro h8.out.2.2.1.2.2 h8.out.2.2.2);obtain⟨tv,g3⟩:∃tv,tv=chS sel (s.q.val) (0):=⟨_,rfl⟩;have c7:Hid (Stp tv s.m (vAh sel (s::ps) ([])) (vAh sel (ps) ([]))):=by rw[g3];exact uJq h8.out (.inl rfl)
      have f7:=hid (t1.out C1 (.agg #[.bool sn,.slice A1 n1 c1,.slice A2 n2 c2]) (.agg #[.bool false,.slice Z3 x3 y3,.slice Z4 x4 y4]) (s.q.val) (0) (uK.zero (uK.more ((ub2.vAb (uc.of b1.out) r7.out).rat (K:=1000) h8.out.2.2.1.1 h8.out.2.2.1.2.1) (by omega))) n5.out.zero)
      rw[<-g3]at f7;clear g3;generalize hmm:s.m=mm at f0 a3 c7;clear hmm;obtain⟨r1,r2,r3⟩:=h9.out.facts;obtain⟨r4,r5,r6⟩:=k8.out.facts;go_wp2_with fail
      refine f7.out.mono ?_;rintro e w3⟨c0,C1,l1,d1,E2,l2,d2,rfl,h7,hb⟩;have j0:Hid (Below wr.heap.size wr w3):=b1.out.trans (hb.mono b1.out.size);have e7:=hid (f5.out.below hb f5.out.lt);have j3:=hid (uU.vAb (uc.of hb) (uU.sub (D':=fun _=>True) (fun _ _ _=>trivial) f0.out))
      have k6:=hid h7;clear hb h7 f7 r1 r2 r3 r4 r5 r6 h9 k8 f5 n0 n5 f0;go_upto_region 18 with(fail)
      obtain⟨X4,hX⟩:∃X,X=w3.alloc (.cells #[.bool c0,.slice C1 l1 d1,.slice E2 l2 d2] 62):=⟨_,rfl⟩;have b7:Below w3.heap.size w3 X4:=by rw[hX];exact aa.alloc ab _
      have c8:Hid (Bk X4 w3.heap.size 62 #[.bool c0,.slice C1 l1 d1,.slice E2 l2 d2]):=by rw[hX];exact Bk.new _ _ _
      have j1:Hid (Below wr.heap.size wr X4):=j0.out.trans (b7.mono j0.out.size);have e8:=hid (e7.out.below b7 e7.out.lt);have j4:=hid (uU.vAb (uc.of b7) j3.out);have f2:=hid (k6.out.below b7);rw[<-hX];clear hX b7 e7 j3 k6;generalize w3.heap.size=rb at *;obtain⟨q8,q9,r0⟩:=c8.out.facts;go_wp2_with fail
      refine(udg X4 0 _ 1100 tv f2.out (by omega)).mono ?_
      rintro e w5⟨rfl,a9⟩;have a2:Hid (Below wr.heap.size wr w5):=j1.out.trans (a9.mono j1.out.size);have j2:=hid (e8.out.below a9 e8.out.lt);have k7:=hid (c8.out.below a9 c8.out.lt);have f1:=hid (uU.vAb (uc.of a9) j4.out);have f3:=hid (f2.out.below a9);clear a9 q8 q9 r0 e8 j4 f2 c8;obtain⟨sg,g2⟩:∃sg,Hid (ujj tv=sg):=⟨_,rfl⟩;rw[g2.out];by_cases g1:sg=0
      ·have HE:Hid (vAh sel (s::ps) ([])=vAh sel (ps) ([])):=c7.out.1 ((ubf tv).1 (by rw[g2.out,g1]))
       subst g1;go_wp2;go_roundw
       case rel=>exact⟨ps,[],acc,us,(some ⟨pb,po2,none⟩),pn-1,pc-1,QA,0,qc,rfl,rfl,by omega,by omega,by rw[b8.out];omega,hid (uB.vAb (uc.of a2.out) p5.out),hid (uB.vAb (uc.of a2.out) r9.out),hid (HO.out.below uek a2.out),hid (HB.out.trans (a2.out.mono HB.out.size)),hid (by rw[HM.out,HE.out]),hid ⟨fun x h=>c6.out.1 x (by simp[h]),fun x h=>c6.out.2 x h⟩⟩
       case measure=>simp[sliceLen];omega
      ·obtain⟨xt,m8,m9,m6,m7⟩:=c7.out.2 (fun h=>g1 (by rw[<-g2.out];exact(ubf tv).2 h))
       have p9:=hid m7;have p8:=hid m6;rw[<-m8]at f1 a3;rw[<-m9]at f3;have q0:Hid (∀x,Below w5.heap.size w5 x->Calls Tryz.prog 73 #[.agg #[.bool c0,.slice C1 l1 d1,.slice E2 l2 d2]] x (ujh xt.q x)):=fun x hx=>by
        refine(uaq x 0 _ 1100 xt.q.val (f3.out.below hx) (by omega)).mono ?_
        rintro e w2⟨v2,rfl,hr,hb⟩;exact⟨v2,rfl,ub2.ofR p8.out.1 hr,hb⟩
       have q5:Hid (∀x,Below w5.heap.size w5 x->Calls Tryz.prog 74 #[.agg #[.slice A3 n3 c3,.slice A4 n4 c4]] x (uc1 xt.m x)):=fun x hx=>uc2 xt.m _ x (uU.vAb (uc.of hx) f1.out) a3.out.1.1 a3.out.1.2.1 a3.out.1.2.2 a3.out.2
       clear m7 m6 m8 m9 c7 f3 f1 a3;go_upto_region 19 with(fail)
       refine ue (⟨[(rb,0,[.bool c0,.slice C1 l1 d1,.slice E2 l2 d2]),(za+1+1,0,[.slice A3 n3 c3,.slice A4 n4 c4])],[],[udx w5.heap.size xt.q,udn w5.heap.size xt.m,ud1 w5.heap.size xt,ucg w5.heap.size xt],[(10,.v (.slice RA al a4)),(14,.p 1 0),(15,.p 0 0)],[(2,.f 0),(4,.f 1),(5,.f 2),(6,.f 3)]⟩:Sp) [84,85,86,87,88,89,90] w5 (aa.drew) (by kernel_rfl) (by kernel_rfl) (by kernel_rfl) (sI (udx.stays) (sI (udn.stays) (sI (ud1.stays) (sI (ucg.stays) sN)))) (by kernel_rfl)
        (fun x hx=>(mI (ud (k7.out.below hx k7.out.lt)) (mI (ud (j2.out.below hx j2.out.lt)) mN))) (dI (ug [.v (.agg #[.bool c0,.slice C1 l1 d1,.slice E2 l2 d2])] rfl rfl (by kernel_rfl) (by kernel_rfl) fun x vs hx hC hv=>by
         obtain⟨v1,rfl,h1⟩:=ubg hv;obtain rfl:v1 = .agg #[.bool c0,.slice C1 l1 d1,.slice E2 l2 d2]:=h1;refine(q0.out x hx).mono ?_;rintro en w2⟨u,rfl,⟨A3,n3,c3,A4,n4,c4,h1,h2⟩,hb⟩;exact⟨u,rfl,⟨A3,n3,c3,A4,n4,c4,h1,ub2.sub (fun b _ hD=>ag hx.size hD) h2⟩,hb⟩) (
        dI (ug [.v (.agg #[.slice A3 n3 c3,.slice A4 n4 c4])] rfl rfl (by kernel_rfl) (by kernel_rfl) fun x vs hx hC hv=>by
         obtain⟨v1,rfl,h1⟩:=ubg hv;obtain rfl:v1 = .agg #[.slice A3 n3 c3,.slice A4 n4 c4]:=h1;refine(q5.out x hx).mono ?_;rintro en w2⟨u,rfl,⟨A3,n3,c3,A4,n4,c4,h1,h2⟩,hb⟩;exact⟨u,rfl,⟨A3,n3,c3,A4,n4,c4,h1,uU.sub (fun b _ hD=>ag hx.size hD) h2⟩,hb⟩) (
        dI (uX rfl (parts:=[(0,.tmp 86),(1,.tmp 88)]) rfl fun x a hx c9=>by
         obtain⟨A1,n1,c1,A2,n2,c2,h1,h2⟩:=(c9 (.tmp 86) (.f 0) (by kernel_rfl):udx w5.heap.size xt.q (a.eval (.tmp 86)) x)
         obtain⟨A3,n3,c3,A4,n4,c4,h3,h4⟩:=(c9 (.tmp 88) (.f 1) (by kernel_rfl):udn w5.heap.size xt.m (a.eval (.tmp 88)) x)
         refine⟨.agg #[.bool xt.q.neg,.slice A1 n1 c1,.slice A2 n2 c2,.slice A3 n3 c3,.slice A4 n4 c4],?_,A1,n1,c1,A2,n2,c2,A3,n3,c3,A4,n4,c4,rfl,h2,h4⟩;simp only[List.map_cons,List.map_nil,h1,h3];kernel_rfl) (
        dI (uac rfl (parts:=[(0,.tmp 89)]) rfl fun x a hx c9=>by
         obtain⟨A1,n1,c1,A2,n2,c2,A3,n3,c3,A4,n4,c4,h1,h2,h3⟩:=(c9 (.tmp 89) (.f 2) (by kernel_rfl):ud1 w5.heap.size xt (a.eval (.tmp 89)) x)
         refine⟨85,[.bool xt.q.neg,.slice A1 n1 c1,.slice A2 n2 c2,.slice A3 n3 c3,.slice A4 n4 c4],?_,A1,n1,c1,A2,n2,c2,A3,n3,c3,A4,n4,c4,x.heap.size,rfl,Bk.new _ _ _,hx.size,ub2.vAb (uc.of (aa.alloc ab _)) h2,uU.vAb (uc.of (aa.alloc ab _)) h3⟩;simp only[List.map_cons,List.map_nil,h1];kernel_rfl) (dN))))) ?_
       intro S x6 b0 hS;obtain⟨g0,f6,_⟩:S 0 = .slice RA al a4/\(ucg w5.heap.size xt:Value->World->Prop) (S 6) x6/\True:=hS (l:=[(0,.v (.slice RA al a4)),(6,.f 3)]) (by kernel_rfl)
       clear hS;simp only[nv,Nat.reduceAdd,aB,aE,aC,List.drop_zero,g0];clear g0;obtain⟨F1,p1,q1,F2,p2,q2,F3,p3,q3,F4,p4,q4,gb,e5,l4,v0,l5,l7⟩:=(f6:ucg w5.heap.size xt (S 6) x6);rw[e5];generalize hxn:xt.q.neg=xn at *;have e6:Hid (Below wr.heap.size wr x6):=a2.out.trans (b0.mono a2.out.size);have j5:=hid (HO.out.below uek e6.out);have l3:w.heap.size<=x6.heap.size:=by have:=e6.out.size;omega
       have v4:wr.heap.size<=w5.heap.size:=a2.out.size;have HV:Hid (uk9 x6 (fun b=>w.heap.size<=b/\some b≠(Value.slice RA al a4).ownBlock) xt [.bool xn,.slice F1 p1 q1,.slice F2 p2 q2,.slice F3 p3 q3,.slice F4 p4 q4]):=by
        have m5:∀b,b<x6.heap.size->w5.heap.size<=b->w.heap.size<=b/\some b≠(Value.slice RA al a4).ownBlock:=fun b _ hb=>⟨by omega,fun e=>by have:=(HO.out.lt e.symm).2;omega⟩
        refine⟨F1,p1,q1,F2,p2,q2,F3,p3,q3,F4,p4,q4,by rw[hxn],?_,l7.sub m5⟩
        rw[hxn];exact ub2.sub m5 l5
       have f9:=j5.out.1;rw[b8.out]at f9;clear b0 l5 l7;refine uN x6 rfl _ _ 32 85 rfl Tryz.underlying32 5 104 udw (by decide) (by decide) w.heap.size (.slice RA al a4) al (ucr us al) [.bool xn,.slice F1 p1 q1,.slice F2 p2 q2,.slice F3 p3 q3,.slice F4 p4 q4] (by rfl) f9 gb _ l4 (by rfl) rfl (by intro y hy;simp at hy;rcases hy with rfl|rfl|rfl|rfl|rfl<;>rfl) (by omega) l3 ?_
       intro g q6 w7 l8 hg l6 v3;have f8:=j5.out.vBc uek HV.out rfl (g:=g) (cap:=q6) (by rw[b8.out];exact l8) hg l6
       rw[b8.out]at f8;have o9:=hid f8;have q7:∀k,k<w.heap.size->some k≠(Value.slice RA al a4).ownBlock:=fun k hk e=>by have:=(HO.out.lt e.symm).1;omega
       have b2:Hid (Below w.heap.size wr w7):=by
        have h1:Below w.heap.size wr x6:=e6.out.mono v5;exact h1.grown hg l3 (fun k e=>by have:=(HO.out.lt e).1;omega)
       clear f9 l8 l4 l6 hg q7 f8 HV;go_wp2;go_roundw
       case rel=>exact⟨ps,[],acc++[xt],_,(some ⟨pb,po2,none⟩),pn-1,pc-1,QA,0,qc,rfl,rfl,by omega,by omega,by rw[ay,b8.out];simp;omega,hid (uB.vAb ⟨b2.out.size,fun b hb hD=>b2.out.block b hD⟩ p5.out),hid (uB.vAb ⟨b2.out.size,fun b hb hD=>b2.out.block b hD⟩ r9.out),o9,hid (HB.out.trans b2.out),hid (by rw[HM.out,p9.out,aS];rfl),hid ⟨fun x h=>c6.out.1 x (by simp[h]),fun x h=>c6.out.2 x h⟩⟩
       case measure=>simp[sliceLen];omega
     | cons t qs=>
      obtain⟨pb,po,sv,rfl,s5,o0,w0,s6,B8,w4,n7,s8,o1⟩:=s2.out.vCd;unfold maxLen at w4;obtain⟨A1,n1,c1,A2,n2,c2,A3,n3,c3,A4,n4,c4,rfl,n6,n9⟩:=s8;have p0:=hid n7;have j6:Hid (pb<wr.heap.size):=o0;have p5:=hid o1;have r7:=hid n6;have s1:=hid n9;have h8:=hid (c6.out.1 s (by simp))
      obtain⟨sn,x7⟩:∃x,Hid (s.q.neg=x):=⟨_,rfl⟩;rw[x7.out]at p0 r7;clear s6 o1 n7 n6 n9 o0 s5;have C3:(pn:Int)>0:=by omega
      have C5:¬(pn:Int)=0:=by omega
      obtain⟨qb,qo,sv,rfl,s5,o0,w0,s6,B9,w6,n7,s8,o1⟩:=r9.out.vCd;unfold maxLen at w6;obtain⟨B1,m1,k1,B2,m2,k2,B3,m3,k3,B4,m4,k4,rfl,n6,n9⟩:=s8;have p6:=hid n7;have j7:Hid (qb<wr.heap.size):=o0;have p7:=hid o1;have r8:=hid n6;have s9:=hid n9;have j8:=hid (c6.out.2 t (by simp))
      obtain⟨tn,x8⟩:∃x,Hid (t.q.neg=x):=⟨_,rfl⟩;rw[x8.out]at p6 r8;clear s6 o1 n7 n6 n9 o0 s5;have C4:(qn:Int)>0:=by omega
      have C6:¬(qn:Int)=0:=by omega
      obtain⟨z,hz⟩:∃z,Hid (uc9 s.m t.m=z):=⟨_,rfl⟩;have y8:Hid (∀x,Below wr.heap.size wr x->Calls Tryz.prog 72 #[.agg #[.slice A3 n3 c3,.slice A4 n4 c4],.agg #[.slice B3 m3 k3,.slice B4 m4 k4]] x (uY (.int .i64 z) x)):=fun x hx=>by
       have:=uso s.m t.m _ _ x (uU.vAb (uc.of hx) s1.out) (uU.vAb (uc.of hx) s9.out);rw[hz.out]at this;exact this
      go_upto_region 6 with(fail)
      refine ue (⟨[(pb,(po+0*5),[.bool sn,.slice A1 n1 c1,.slice A2 n2 c2,.slice A3 n3 c3,.slice A4 n4 c4]),(qb,(qo+0*5),[.bool tn,.slice B1 m1 k1,.slice B2 m2 k2,.slice B3 m3 k3,.slice B4 m4 k4])],[],[],[(1,.v (.slice (some ⟨pb,po,none⟩) pn pc)),(2,.v (.slice (some ⟨qb,qo,none⟩) qn qc))],[(1,.p 0 0),(5,.p 1 0),(8,.v (.int .i64 z))]⟩:Sp) [34,35,36,37,38,39,40,41,42,11] wr (aa.drew) (by kernel_rfl) (by kernel_rfl) (by kernel_rfl) sN (by kernel_rfl)
       (fun x hx=>(mI (p0.out.sure hx j6.out) (mI (p6.out.sure hx j7.out) mN))) (dI (uas rfl rfl pb (po) pn pc .i64 0 5 0 (by kernel_rfl) (by kernel_rfl) (fun _=>by omega) rfl) (
       dI (uas rfl rfl qb (qo) qn qc .i64 0 5 1 (by kernel_rfl) (by kernel_rfl) (fun _=>by omega) rfl) (
       dI (ug [.v (.agg #[.slice A3 n3 c3,.slice A4 n4 c4]),.v (.agg #[.slice B3 m3 k3,.slice B4 m4 k4])] rfl rfl (by kernel_rfl) (by kernel_rfl) fun x vs hx hC hv=>by
        obtain⟨v1,v2,rfl,h1,h2⟩:=uec hv;obtain rfl:v1 = .agg #[.slice A3 n3 c3,.slice A4 n4 c4]:=h1;obtain rfl:v2 = .agg #[.slice B3 m3 k3,.slice B4 m4 k4]:=h2;refine(y8.out x hx).mono ?_;rintro en w2⟨rfl,hb⟩;exact⟨_,rfl,rfl,hb⟩) (dN)))) ?_
      intro S wq b0 hS;obtain⟨g8,g9,_⟩:S 8 = .int .i64 z/\S 9 = .int .i64 z/\True:=hS (l:=[(8,.v (.int .i64 z)),(9,.v (.int .i64 z))]) (by kernel_rfl)
      clear hS;simp only[nv,Nat.reduceAdd,aB,aE,aC,List.drop_zero,g8,g9];clear g8 g9;have x9:=hid (uB.vAb (uc.of b0) s2.out);have y0:=hid (uB.vAb (uc.of b0) r9.out);clear s2 r9;replace p0:=hid (p0.out.sure b0 j6.out)
      replace p6:=hid (p6.out.sure b0 j7.out)
      replace r7:=hid (ub2.vAb (uc.of b0) r7.out)
      replace r8:=hid (ub2.vAb (uc.of b0) r8.out)
      replace s1:=hid (uU.vAb (uc.of b0) s1.out)
      replace s9:=hid (uU.vAb (uc.of b0) s9.out)
      replace p5:=hid (uB.vAb (uc.of b0) p5.out)
      replace p7:=hid (uB.vAb (uc.of b0) p7.out)
      replace HO:=hid (HO.out.below uek b0)
      have x5:w.heap.size<=wq.heap.size:=ag v5 b0.size;replace j6:Hid (pb<wq.heap.size):=af j6.out b0.size
      replace j7:Hid (qb<wq.heap.size):=af j7.out b0.size
      replace HB:=hid (HB.out.trans (b0.mono HB.out.size))
      clear b0 y8 v5;by_cases D1:z<0
      ·skip
       have A0:Hid ((t::qs)=[]\/∃t' D4,(t::qs)=t'::D4/\uc9 s.m t'.m<0):= .inr ⟨t,qs,rfl,by rw[hz.out];exact D1⟩
       have z2:¬z≥0:=by omega
       have D2:z<=0:=by omega
       go_wp2_with fail
       refine(ubl wq).mono ?_;rintro e wa⟨Z1,x1,y1,Z2,x2,y2,rfl,l9,hb⟩;have e4:=hid hb;have j9:=hid l9;clear l9 hb;go_wp2_with fail
       refine(ubl wa).mono ?_;rintro e wb⟨Z3,x3,y3,Z4,x4,y4,rfl,m0,hb⟩;have c5:=hid (e4.out.trans (hb.mono e4.out.size));have k5:=hid m0;have k0:=hid (j9.out.below hb);clear m0 hb j9 e4;go_upto_region 16 with(fail)
       obtain⟨C0,hC⟩:∃C,C=((wb.alloc (.cells #[.bool false,.slice Z1 x1 y1,.slice Z2 x2 y2] 62)).alloc (.cells #[.bool false,.slice Z3 x3 y3,.slice Z4 x4 y4] 62)).alloc (.cells #[.slice none 0 0,.slice none 0 0] 83):=⟨_,rfl⟩;have a8:Below wb.heap.size wb C0:=by rw[hC];exact((aa.alloc ab _).alloc (by simp) _).alloc (by simp;omega) _
       have b9:Hid (Below wq.heap.size wq C0):=c5.out.trans (a8.mono c5.out.size);have d9:Hid (Bk C0 wb.heap.size 62 #[.bool false,.slice Z1 x1 y1,.slice Z2 x2 y2]):=by rw[hC];exact((Bk.new _ _ _).alloc _).alloc _
       have g7:Hid (Bk C0 (wb.heap.size+1) 62 #[.bool false,.slice Z3 x3 y3,.slice Z4 x4 y4]):=by rw[hC];exact(uax _ _ _ _).alloc _
       have f4:Hid (Bk C0 (wb.heap.size+1+1) 83 #[.slice none 0 0,.slice none 0 0]):=by rw[hC];exact ubc _ _ _ _ _
       have k9:Hid (uK C0 (· < wb.heap.size) (.agg #[.bool false,.slice Z1 x1 y1,.slice Z2 x2 y2]) 1100 0):=k0.out.toP.vAb a8.size fun b _ hb=>⟨a8.block b hb,hb⟩
       have l0:Hid (uK C0 (· < wb.heap.size) (.agg #[.bool false,.slice Z3 x3 y3,.slice Z4 x4 y4]) 1100 0):=k5.out.toP.vAb a8.size fun b _ hb=>⟨a8.block b hb,hb⟩
       have v6:wq.heap.size<=wb.heap.size:=c5.out.size;rw[<-hC];clear hC a8 k0 k5 c5;generalize wb.heap.size=za at *;obtain⟨V0,a5⟩:∃x,x=C0.drew:=⟨_,rfl⟩;obtain⟨V1,a0⟩:∃x,x=((V0.setCell ⟨za,0,none⟩ (.bool sn)).setCell ⟨za,1,none⟩ (.slice A1 n1 c1)).setCell ⟨za,2,none⟩ (.slice A2 n2 c2):=⟨_,rfl⟩;obtain⟨C1,a1⟩:∃x,x=(V1.setCell ⟨za+1+1,0,none⟩ (.slice A3 n3 c3)).setCell ⟨za+1+1,1,none⟩ (.slice A4 n4 c4):=⟨_,rfl⟩;have b6:Below C0.heap.size C0 V0:=by rw[a5];exact aa.drew
       have d5:Fw (fun b=>b=za\/b=za+1+1) C0 V0:=(Fw.refl _ _).below b6
       have d6:Fw (fun b=>b=za) V0 V1:=by
        rw[a0];exact(((Fw.refl (fun b=>b=za) _).setCell (p:=⟨za,0,none⟩) (.inl rfl) _).setCell (p:=⟨za,1,none⟩) (.inl rfl) _).setCell (p:=⟨za,2,none⟩) (.inl rfl) _
       have d8:Fw (fun b=>b=za+1+1) V1 C1:=by
        rw[a1];exact((Fw.refl (fun b=>b=za+1+1) _).setCell (p:=⟨za+1+1,0,none⟩) (.inl rfl) _).setCell (p:=⟨za+1+1,1,none⟩) (.inl rfl) _
       have d7:Fw (fun b=>b=za\/b=za+1+1) C0 V1:=d5.then d6 (fun x hx=> .inl (.inl hx))
       have a7:Fw (fun b=>b=za\/b=za+1+1) C0 C1:=d7.then d8 (fun x hx=> .inl (.inr hx))
       have b3:Hid (um C0 pb (po+0*5) [.bool sn,.slice A1 n1 c1,.slice A2 n2 c2,.slice A3 n3 c3,.slice A4 n4 c4]):=p0.out.sure b9.out j6.out;have b4:pb<C0.heap.size:=af j6.out b9.out.size;have b5:¬(pb=za\/pb=za+1+1):=by have:pb<wq.heap.size:=j6.out;omega
       have g4:Hid (um V0 pb (po+0*5) [.bool sn,.slice A1 n1 c1,.slice A2 n2 c2,.slice A3 n3 c3,.slice A4 n4 c4]):=b3.out.vAz d5 b4 b5;have g5:Hid (um V1 pb (po+0*5) [.bool sn,.slice A1 n1 c1,.slice A2 n2 c2,.slice A3 n3 c3,.slice A4 n4 c4]):=b3.out.vAz d7 b4 b5;have g6:Hid (um C1 pb (po+0*5) [.bool sn,.slice A1 n1 c1,.slice A2 n2 c2,.slice A3 n3 c3,.slice A4 n4 c4]):=b3.out.vAz a7 b4 b5;have d3:=d9.out.below b6 d9.out.lt;have h0:=f4.out.below b6 f4.out.lt;have d0:=Bk.fw h0 d6 (by omega)
       obtain⟨o5,o6,o7⟩:=d3.facts;obtain⟨o2,o3,o4⟩:=d0.facts;have b1:Hid (Below wq.heap.size wq C1):=b9.out.trans (a7.toBelow (fun x hx=>by rcases hx with rfl|rfl<;>omega) b9.out.size)
       have a6:Below za C0 C1:=a7.toBelow (fun x hx=>by rcases hx with rfl|rfl<;>omega) (Nat.le_of_lt d9.out.lt)
       have h9:Hid (Bk C1 (za) 62 #[.bool sn,.slice A1 n1 c1,.slice A2 n2 c2]):=by
        refine hid (Bk.fw ?_ d8 (by omega))
        rw[a0];exact udy d3
       have k8:=hid (Bk.fw g7.out a7 (by omega))
       have f5:Hid (Bk C1 (za+1+1) 83 #[.slice A3 n3 c3,.slice A4 n4 c4]):=by
        rw[a1];exact hid (ucc d0)
       have n0:=hid (k9.out.vAb a6.size fun b hb _=>⟨a6.block b hb,hb⟩)
       have n5:=hid (l0.out.vAb a6.size fun b hb _=>⟨a6.block b hb,hb⟩)
       replace a5:=hid a5
       replace a0:=hid a0
       replace a1:=hid a1
       clear b3 b4 b5 d5 d6 d8 d7 a7 b6 d3 h0 d0 a6;refine uam (⟨[(pb,(po+0*5),[.bool sn,.slice A1 n1 c1,.slice A2 n2 c2,.slice A3 n3 c3,.slice A4 n4 c4])],[],[],[(1,.v (.slice (some ⟨pb,po,none⟩) pn pc))],[(1,.p 0 0),(5,.p 0 0),(9,.v (.slice (some ⟨pb,if pc=1 then po else po+1*5,none⟩) (pn-1) (pc-1)))]⟩:Sp) [67,68,69,70,71,72,73,74,75,76] 2 (by kernel_rfl) (by kernel_rfl) (by kernel_rfl) rfl (by kernel_rfl) (fun d x=>x=if d 11=true then C1 else if d 10=true then V1 else V0) ?_ ?_ ?_ (fun y=>(dIG (uE rfl rfl pb (po) pn pc .i64 0 5 0 (by kernel_rfl) (by kernel_rfl) (fun _=>by omega) rfl) (dIG (uE rfl rfl pb (po) pn pc .i64 0 5 0 (by kernel_rfl) (by kernel_rfl) (fun _=>by omega) rfl) (dIG (uba rfl rfl pb po pn pc 1 (by kernel_rfl) 5 (by kernel_rfl) (by omega)) dNG)))) ?_ ?_
       ·exact a5.out.symm
       ·intro d i x hi h
        have t2:i<10:=hi;have e1:(10==i)=false:=by rw[aw];omega
        have e2:(11==i)=false:=by rw[aw];omega
        simp only[e1,e2,Bool.or_false];exact h
       ·intro d x h
        have h:x=if d 11=true then C1 else if d 10=true then V1 else V0:=h
        refine mI ?_ mN;rw[h];split
        ·exact g6.out
        ·split
         ·exact g5.out
         ·exact g4.out
       ·intro i o s d x ho h1 h2 h6 hJ ha hb hF
        have hi:i=10\/i=11:=by
         have h3:10<=i:=h1;have h4:i<12:=h2;omega
        rcases hi with rfl|rfl
        ·cases ho
         have h5:d 11=false:=hb 11 (by decide) (by kernel_rfl)
         have s3:s 3 = .agg #[.bool sn,.slice A1 n1 c1,.slice A2 n2 c2]:=udz (hF 3 (by decide) (ha 3 (by kernel_rfl))) (by kernel_rfl)
         obtain rfl:x=V0:=by simpa only[h6,h5,if_false,Bool.false_eq_true]using hJ
         refine uh rfl rfl fun KK HK=>?_
         clear hF ha hb h1 h2 hJ;simp only[nv,Nat.reduceAdd]at HK ⊢;generalize s 3=t3 at *;subst s3;go_wp2;refine HK.out _ _ ⟨rfl,?_⟩;show _=_
         rw[h5,if_neg (by decide),if_pos (by simp)]
         exact a0.out.symm
        ·cases ho
         have n8:d 10=true:=ha 10 (by kernel_rfl)
         have s7:s 7 = .agg #[.slice A3 n3 c3,.slice A4 n4 c4]:=udz (hF 7 (by decide) (ha 7 (by kernel_rfl))) (by kernel_rfl)
         obtain rfl:x=V1:=by simpa only[h6,n8,if_false,if_true,Bool.false_eq_true]using hJ
         refine uh rfl rfl fun KK HK=>?_
         clear hF ha hb h1 h2 hJ;simp only[nv,Nat.reduceAdd]at HK ⊢;generalize s 7=t7 at *;subst s7;go_wp2;refine HK.out _ _ ⟨rfl,?_⟩;show _=_
         rw[if_pos (by simp)]
         exact a1.out.symm
       intro s0 d x d4 hJ hS;obtain⟨g9,_⟩:s0 9 = .slice (some ⟨pb,if pc=1 then po else po+1*5,none⟩) (pn-1) (pc-1)/\True:=hS (l:=[(9,.v (.slice (some ⟨pb,if pc=1 then po else po+1*5,none⟩) (pn-1) (pc-1)))]) (by kernel_rfl)
       obtain rfl:C1=x:=by
        have h:x=C1:=by simpa only[d4 10 (by decide),d4 11 (by decide),if_true]using hJ
        exact h.symm
       clear hS d4 hJ;simp only[nv,Nat.reduceAdd,aB,aE,aC,List.drop_zero,g9];clear g9;generalize (if pc=1 then po else po+1*5)=po2 at *
       go_upto_region 17 with(fail)
       clear o5 o6 o7 o2 o3 o4 g4 g5 g6 d9 g7 f4 k9 l0 a5 a0 a1;have f0:Hid (uU C1 (· < w.heap.size) s.m [.slice A3 n3 c3,.slice A4 n4 c4]):=uU.vAb (uc.of b1.out) s1.out
       have a3:=hid (And.intro h8.out.2.2.1.2.2 h8.out.2.2.2);obtain⟨tv,g3⟩:∃tv,tv=chS sel (s.q.val) (0):=⟨_,rfl⟩;have c7:Hid (Stp tv s.m (vAh sel (s::ps) (t::qs)) (vAh sel (ps) (t::qs))):=by rw[g3];exact uJq h8.out A0.out
       have f7:=hid (t1.out C1 (.agg #[.bool sn,.slice A1 n1 c1,.slice A2 n2 c2]) (.agg #[.bool false,.slice Z3 x3 y3,.slice Z4 x4 y4]) (s.q.val) (0) (uK.zero (uK.more ((ub2.vAb (uc.of b1.out) r7.out).rat (K:=1000) h8.out.2.2.1.1 h8.out.2.2.1.2.1) (by omega))) n5.out.zero)
       rw[<-g3]at f7;clear g3;generalize hmm:s.m=mm at f0 a3 c7;clear hmm;obtain⟨r1,r2,r3⟩:=h9.out.facts;obtain⟨r4,r5,r6⟩:=k8.out.facts;go_wp2_with fail
       refine f7.out.mono ?_;rintro e w3⟨c0,C1,l1,d1,E2,l2,d2,rfl,h7,hb⟩;have j0:Hid (Below wq.heap.size wq w3):=b1.out.trans (hb.mono b1.out.size);have e7:=hid (f5.out.below hb f5.out.lt);have j3:=hid (uU.vAb (uc.of hb) (uU.sub (D':=fun _=>True) (fun _ _ _=>trivial) f0.out))
       have k6:=hid h7;clear hb h7 f7 r1 r2 r3 r4 r5 r6 h9 k8 f5 n0 n5 f0;go_upto_region 18 with(fail)
       obtain⟨X4,hX⟩:∃X,X=w3.alloc (.cells #[.bool c0,.slice C1 l1 d1,.slice E2 l2 d2] 62):=⟨_,rfl⟩;have b7:Below w3.heap.size w3 X4:=by rw[hX];exact aa.alloc ab _
       have c8:Hid (Bk X4 w3.heap.size 62 #[.bool c0,.slice C1 l1 d1,.slice E2 l2 d2]):=by rw[hX];exact Bk.new _ _ _
       have j1:Hid (Below wq.heap.size wq X4):=j0.out.trans (b7.mono j0.out.size);have e8:=hid (e7.out.below b7 e7.out.lt);have j4:=hid (uU.vAb (uc.of b7) j3.out);have f2:=hid (k6.out.below b7);rw[<-hX];clear hX b7 e7 j3 k6;generalize w3.heap.size=rb at *;obtain⟨q8,q9,r0⟩:=c8.out.facts;go_wp2_with fail
       refine(udg X4 0 _ 1100 tv f2.out (by omega)).mono ?_
       rintro e w5⟨rfl,a9⟩;have a2:Hid (Below wq.heap.size wq w5):=j1.out.trans (a9.mono j1.out.size);have j2:=hid (e8.out.below a9 e8.out.lt);have k7:=hid (c8.out.below a9 c8.out.lt);have f1:=hid (uU.vAb (uc.of a9) j4.out);have f3:=hid (f2.out.below a9);clear a9 q8 q9 r0 e8 j4 f2 c8;obtain⟨sg,g2⟩:∃sg,Hid (ujj tv=sg):=⟨_,rfl⟩;rw[g2.out];by_cases g1:sg=0
       ·have HE:Hid (vAh sel (s::ps) (t::qs)=vAh sel (ps) (t::qs)):=c7.out.1 ((ubf tv).1 (by rw[g2.out,g1]))
        subst g1;go_wp2;go_roundw
        case rel=>exact⟨ps,t::qs,acc,us,(some ⟨pb,po2,none⟩),pn-1,pc-1,(some ⟨qb,qo,none⟩),qn,qc,rfl,rfl,by omega,by omega,by rw[b8.out];omega,hid (uB.vAb (uc.of a2.out) p5.out),hid (uB.vAb (uc.of a2.out) y0.out),hid (HO.out.below uek a2.out),hid (HB.out.trans (a2.out.mono HB.out.size)),hid (by rw[HM.out,HE.out]),hid ⟨fun x h=>c6.out.1 x (by simp[h]),fun x h=>c6.out.2 x h⟩⟩
        case measure=>simp[sliceLen];omega
       ·obtain⟨xt,m8,m9,m6,m7⟩:=c7.out.2 (fun h=>g1 (by rw[<-g2.out];exact(ubf tv).2 h))
        have p9:=hid m7;have p8:=hid m6;rw[<-m8]at f1 a3;rw[<-m9]at f3;have q0:Hid (∀x,Below w5.heap.size w5 x->Calls Tryz.prog 73 #[.agg #[.bool c0,.slice C1 l1 d1,.slice E2 l2 d2]] x (ujh xt.q x)):=fun x hx=>by
         refine(uaq x 0 _ 1100 xt.q.val (f3.out.below hx) (by omega)).mono ?_
         rintro e w2⟨v2,rfl,hr,hb⟩;exact⟨v2,rfl,ub2.ofR p8.out.1 hr,hb⟩
        have q5:Hid (∀x,Below w5.heap.size w5 x->Calls Tryz.prog 74 #[.agg #[.slice A3 n3 c3,.slice A4 n4 c4]] x (uc1 xt.m x)):=fun x hx=>uc2 xt.m _ x (uU.vAb (uc.of hx) f1.out) a3.out.1.1 a3.out.1.2.1 a3.out.1.2.2 a3.out.2
        clear m7 m6 m8 m9 c7 f3 f1 a3;go_upto_region 19 with(fail)
        refine ue (⟨[(rb,0,[.bool c0,.slice C1 l1 d1,.slice E2 l2 d2]),(za+1+1,0,[.slice A3 n3 c3,.slice A4 n4 c4])],[],[udx w5.heap.size xt.q,udn w5.heap.size xt.m,ud1 w5.heap.size xt,ucg w5.heap.size xt],[(10,.v (.slice RA al a4)),(14,.p 1 0),(15,.p 0 0)],[(2,.f 0),(4,.f 1),(5,.f 2),(6,.f 3)]⟩:Sp) [84,85,86,87,88,89,90] w5 (aa.drew) (by kernel_rfl) (by kernel_rfl) (by kernel_rfl) (sI (udx.stays) (sI (udn.stays) (sI (ud1.stays) (sI (ucg.stays) sN)))) (by kernel_rfl)
         (fun x hx=>(mI (ud (k7.out.below hx k7.out.lt)) (mI (ud (j2.out.below hx j2.out.lt)) mN))) (dI (ug [.v (.agg #[.bool c0,.slice C1 l1 d1,.slice E2 l2 d2])] rfl rfl (by kernel_rfl) (by kernel_rfl) fun x vs hx hC hv=>by
          obtain⟨v1,rfl,h1⟩:=ubg hv;obtain rfl:v1 = .agg #[.bool c0,.slice C1 l1 d1,.slice E2 l2 d2]:=h1;refine(q0.out x hx).mono ?_;rintro en w2⟨u,rfl,⟨A3,n3,c3,A4,n4,c4,h1,h2⟩,hb⟩;exact⟨u,rfl,⟨A3,n3,c3,A4,n4,c4,h1,ub2.sub (fun b _ hD=>ag hx.size hD) h2⟩,hb⟩) (
         dI (ug [.v (.agg #[.slice A3 n3 c3,.slice A4 n4 c4])] rfl rfl (by kernel_rfl) (by kernel_rfl) fun x vs hx hC hv=>by
          obtain⟨v1,rfl,h1⟩:=ubg hv;obtain rfl:v1 = .agg #[.slice A3 n3 c3,.slice A4 n4 c4]:=h1;refine(q5.out x hx).mono ?_;rintro en w2⟨u,rfl,⟨A3,n3,c3,A4,n4,c4,h1,h2⟩,hb⟩;exact⟨u,rfl,⟨A3,n3,c3,A4,n4,c4,h1,uU.sub (fun b _ hD=>ag hx.size hD) h2⟩,hb⟩) (
         dI (uX rfl (parts:=[(0,.tmp 86),(1,.tmp 88)]) rfl fun x a hx c9=>by
          obtain⟨A1,n1,c1,A2,n2,c2,h1,h2⟩:=(c9 (.tmp 86) (.f 0) (by kernel_rfl):udx w5.heap.size xt.q (a.eval (.tmp 86)) x)
          obtain⟨A3,n3,c3,A4,n4,c4,h3,h4⟩:=(c9 (.tmp 88) (.f 1) (by kernel_rfl):udn w5.heap.size xt.m (a.eval (.tmp 88)) x)
          refine⟨.agg #[.bool xt.q.neg,.slice A1 n1 c1,.slice A2 n2 c2,.slice A3 n3 c3,.slice A4 n4 c4],?_,A1,n1,c1,A2,n2,c2,A3,n3,c3,A4,n4,c4,rfl,h2,h4⟩;simp only[List.map_cons,List.map_nil,h1,h3];kernel_rfl) (
         dI (uac rfl (parts:=[(0,.tmp 89)]) rfl fun x a hx c9=>by
          obtain⟨A1,n1,c1,A2,n2,c2,A3,n3,c3,A4,n4,c4,h1,h2,h3⟩:=(c9 (.tmp 89) (.f 2) (by kernel_rfl):ud1 w5.heap.size xt (a.eval (.tmp 89)) x)
          refine⟨85,[.bool xt.q.neg,.slice A1 n1 c1,.slice A2 n2 c2,.slice A3 n3 c3,.slice A4 n4 c4],?_,A1,n1,c1,A2,n2,c2,A3,n3,c3,A4,n4,c4,x.heap.size,rfl,Bk.new _ _ _,hx.size,ub2.vAb (uc.of (aa.alloc ab _)) h2,uU.vAb (uc.of (aa.alloc ab _)) h3⟩;simp only[List.map_cons,List.map_nil,h1];kernel_rfl) (dN))))) ?_
        intro S x6 b0 hS;obtain⟨g0,f6,_⟩:S 0 = .slice RA al a4/\(ucg w5.heap.size xt:Value->World->Prop) (S 6) x6/\True:=hS (l:=[(0,.v (.slice RA al a4)),(6,.f 3)]) (by kernel_rfl)
        clear hS;simp only[nv,Nat.reduceAdd,aB,aE,aC,List.drop_zero,g0];clear g0;obtain⟨F1,p1,q1,F2,p2,q2,F3,p3,q3,F4,p4,q4,gb,e5,l4,v0,l5,l7⟩:=(f6:ucg w5.heap.size xt (S 6) x6);rw[e5];generalize hxn:xt.q.neg=xn at *;have e6:Hid (Below wq.heap.size wq x6):=a2.out.trans (b0.mono a2.out.size);have j5:=hid (HO.out.below uek e6.out);have l3:w.heap.size<=x6.heap.size:=by have:=e6.out.size;omega
        have v4:wq.heap.size<=w5.heap.size:=a2.out.size;have HV:Hid (uk9 x6 (fun b=>w.heap.size<=b/\some b≠(Value.slice RA al a4).ownBlock) xt [.bool xn,.slice F1 p1 q1,.slice F2 p2 q2,.slice F3 p3 q3,.slice F4 p4 q4]):=by
         have m5:∀b,b<x6.heap.size->w5.heap.size<=b->w.heap.size<=b/\some b≠(Value.slice RA al a4).ownBlock:=fun b _ hb=>⟨by omega,fun e=>by have:=(HO.out.lt e.symm).2;omega⟩
         refine⟨F1,p1,q1,F2,p2,q2,F3,p3,q3,F4,p4,q4,by rw[hxn],?_,l7.sub m5⟩
         rw[hxn];exact ub2.sub m5 l5
        have f9:=j5.out.1;rw[b8.out]at f9;clear b0 l5 l7;refine uN x6 rfl _ _ 32 85 rfl Tryz.underlying32 5 104 udw (by decide) (by decide) w.heap.size (.slice RA al a4) al (ucr us al) [.bool xn,.slice F1 p1 q1,.slice F2 p2 q2,.slice F3 p3 q3,.slice F4 p4 q4] (by rfl) f9 gb _ l4 (by rfl) rfl (by intro y hy;simp at hy;rcases hy with rfl|rfl|rfl|rfl|rfl<;>rfl) (by omega) l3 ?_
        intro g q6 w7 l8 hg l6 v3;have f8:=j5.out.vBc uek HV.out rfl (g:=g) (cap:=q6) (by rw[b8.out];exact l8) hg l6
        rw[b8.out]at f8;have o9:=hid f8;have q7:∀k,k<w.heap.size->some k≠(Value.slice RA al a4).ownBlock:=fun k hk e=>by have:=(HO.out.lt e.symm).1;omega
        have b2:Hid (Below w.heap.size wq w7):=by
         have h1:Below w.heap.size wq x6:=e6.out.mono x5;exact h1.grown hg l3 (fun k e=>by have:=(HO.out.lt e).1;omega)
        clear f9 l8 l4 l6 hg q7 f8 HV;go_wp2;go_roundw
        case rel=>exact⟨ps,t::qs,acc++[xt],_,(some ⟨pb,po2,none⟩),pn-1,pc-1,(some ⟨qb,qo,none⟩),qn,qc,rfl,rfl,by omega,by omega,by rw[ay,b8.out];simp;omega,hid (uB.vAb ⟨b2.out.size,fun b hb hD=>b2.out.block b hD⟩ p5.out),hid (uB.vAb ⟨b2.out.size,fun b hb hD=>b2.out.block b hD⟩ y0.out),o9,hid (HB.out.trans b2.out),hid (by rw[HM.out,p9.out,aS];rfl),hid ⟨fun x h=>c6.out.1 x (by simp[h]),fun x h=>c6.out.2 x h⟩⟩
        case measure=>simp[sliceLen];omega
      by_cases z2:0<z
      ·skip
       have z8:Hid ((s::ps)=[]\/∃s' D3,(s::ps)=s'::D3/\0<uc9 s'.m t.m):= .inr ⟨s,ps,rfl,by rw[hz.out];exact z2⟩
       have E0:¬z<=0:=by omega
       have D2:z≥0:=by omega
       go_wp2_with fail
       refine(ubl wq).mono ?_;rintro e wa⟨Z1,x1,y1,Z2,x2,y2,rfl,l9,hb⟩;have e4:=hid hb;have j9:=hid l9;clear l9 hb;go_wp2_with fail
       refine(ubl wa).mono ?_;rintro e wb⟨Z3,x3,y3,Z4,x4,y4,rfl,m0,hb⟩;have c5:=hid (e4.out.trans (hb.mono e4.out.size));have k5:=hid m0;have k0:=hid (j9.out.below hb);clear m0 hb j9 e4;go_upto_region 14 with(fail)
       obtain⟨C0,hC⟩:∃C,C=((wb.alloc (.cells #[.bool false,.slice Z1 x1 y1,.slice Z2 x2 y2] 62)).alloc (.cells #[.bool false,.slice Z3 x3 y3,.slice Z4 x4 y4] 62)).alloc (.cells #[.slice none 0 0,.slice none 0 0] 83):=⟨_,rfl⟩;have a8:Below wb.heap.size wb C0:=by rw[hC];exact((aa.alloc ab _).alloc (by simp) _).alloc (by simp;omega) _
       have b9:Hid (Below wq.heap.size wq C0):=c5.out.trans (a8.mono c5.out.size);have d9:Hid (Bk C0 wb.heap.size 62 #[.bool false,.slice Z1 x1 y1,.slice Z2 x2 y2]):=by rw[hC];exact((Bk.new _ _ _).alloc _).alloc _
       have g7:Hid (Bk C0 (wb.heap.size+1) 62 #[.bool false,.slice Z3 x3 y3,.slice Z4 x4 y4]):=by rw[hC];exact(uax _ _ _ _).alloc _
       have f4:Hid (Bk C0 (wb.heap.size+1+1) 83 #[.slice none 0 0,.slice none 0 0]):=by rw[hC];exact ubc _ _ _ _ _
       have k9:Hid (uK C0 (· < wb.heap.size) (.agg #[.bool false,.slice Z1 x1 y1,.slice Z2 x2 y2]) 1100 0):=k0.out.toP.vAb a8.size fun b _ hb=>⟨a8.block b hb,hb⟩
       have l0:Hid (uK C0 (· < wb.heap.size) (.agg #[.bool false,.slice Z3 x3 y3,.slice Z4 x4 y4]) 1100 0):=k5.out.toP.vAb a8.size fun b _ hb=>⟨a8.block b hb,hb⟩
       have v6:wq.heap.size<=wb.heap.size:=c5.out.size;rw[<-hC];clear hC a8 k0 k5 c5;generalize wb.heap.size=za at *;obtain⟨V0,a5⟩:∃x,x=C0.drew:=⟨_,rfl⟩;obtain⟨V1,a0⟩:∃x,x=((V0.setCell ⟨za+1,0,none⟩ (.bool tn)).setCell ⟨za+1,1,none⟩ (.slice B1 m1 k1)).setCell ⟨za+1,2,none⟩ (.slice B2 m2 k2):=⟨_,rfl⟩;obtain⟨C1,a1⟩:∃x,x=(V1.setCell ⟨za+1+1,0,none⟩ (.slice B3 m3 k3)).setCell ⟨za+1+1,1,none⟩ (.slice B4 m4 k4):=⟨_,rfl⟩;have b6:Below C0.heap.size C0 V0:=by rw[a5];exact aa.drew
       have d5:Fw (fun b=>b=za+1\/b=za+1+1) C0 V0:=(Fw.refl _ _).below b6
       have d6:Fw (fun b=>b=za+1) V0 V1:=by
        rw[a0];exact(((Fw.refl (fun b=>b=za+1) _).setCell (p:=⟨za+1,0,none⟩) (.inl rfl) _).setCell (p:=⟨za+1,1,none⟩) (.inl rfl) _).setCell (p:=⟨za+1,2,none⟩) (.inl rfl) _
       have d8:Fw (fun b=>b=za+1+1) V1 C1:=by
        rw[a1];exact((Fw.refl (fun b=>b=za+1+1) _).setCell (p:=⟨za+1+1,0,none⟩) (.inl rfl) _).setCell (p:=⟨za+1+1,1,none⟩) (.inl rfl) _
       have d7:Fw (fun b=>b=za+1\/b=za+1+1) C0 V1:=d5.then d6 (fun x hx=> .inl (.inl hx))
       have a7:Fw (fun b=>b=za+1\/b=za+1+1) C0 C1:=d7.then d8 (fun x hx=> .inl (.inr hx))
       have b3:Hid (um C0 qb (qo+0*5) [.bool tn,.slice B1 m1 k1,.slice B2 m2 k2,.slice B3 m3 k3,.slice B4 m4 k4]):=p6.out.sure b9.out j7.out;have b4:qb<C0.heap.size:=af j7.out b9.out.size;have b5:¬(qb=za+1\/qb=za+1+1):=by have:qb<wq.heap.size:=j7.out;omega
       have g4:Hid (um V0 qb (qo+0*5) [.bool tn,.slice B1 m1 k1,.slice B2 m2 k2,.slice B3 m3 k3,.slice B4 m4 k4]):=b3.out.vAz d5 b4 b5;have g5:Hid (um V1 qb (qo+0*5) [.bool tn,.slice B1 m1 k1,.slice B2 m2 k2,.slice B3 m3 k3,.slice B4 m4 k4]):=b3.out.vAz d7 b4 b5;have g6:Hid (um C1 qb (qo+0*5) [.bool tn,.slice B1 m1 k1,.slice B2 m2 k2,.slice B3 m3 k3,.slice B4 m4 k4]):=b3.out.vAz a7 b4 b5;have d3:=g7.out.below b6 g7.out.lt;have h0:=f4.out.below b6 f4.out.lt;have d0:=Bk.fw h0 d6 (by omega)
       obtain⟨o5,o6,o7⟩:=d3.facts;obtain⟨o2,o3,o4⟩:=d0.facts;have b1:Hid (Below wq.heap.size wq C1):=b9.out.trans (a7.toBelow (fun x hx=>by rcases hx with rfl|rfl<;>omega) b9.out.size)
       have a6:Below za C0 C1:=a7.toBelow (fun x hx=>by rcases hx with rfl|rfl<;>omega) (Nat.le_of_lt d9.out.lt)
       have k8:Hid (Bk C1 (za+1) 62 #[.bool tn,.slice B1 m1 k1,.slice B2 m2 k2]):=by
        refine hid (Bk.fw ?_ d8 (by omega))
        rw[a0];exact udy d3
       have h9:=hid (Bk.fw d9.out a7 (by omega))
       have f5:Hid (Bk C1 (za+1+1) 83 #[.slice B3 m3 k3,.slice B4 m4 k4]):=by
        rw[a1];exact hid (ucc d0)
       have n0:=hid (k9.out.vAb a6.size fun b hb _=>⟨a6.block b hb,hb⟩)
       have n5:=hid (l0.out.vAb a6.size fun b hb _=>⟨a6.block b hb,hb⟩)
       replace a5:=hid a5
       replace a0:=hid a0
       replace a1:=hid a1
       clear b3 b4 b5 d5 d6 d8 d7 a7 b6 d3 h0 d0 a6;refine uam (⟨[(qb,(qo+0*5),[.bool tn,.slice B1 m1 k1,.slice B2 m2 k2,.slice B3 m3 k3,.slice B4 m4 k4])],[],[],[(2,.v (.slice (some ⟨qb,qo,none⟩) qn qc))],[(1,.p 0 0),(5,.p 0 0),(9,.v (.slice (some ⟨qb,if qc=1 then qo else qo+1*5,none⟩) (qn-1) (qc-1)))]⟩:Sp) [55,56,57,58,59,60,61,62,63,64] 2 (by kernel_rfl) (by kernel_rfl) (by kernel_rfl) rfl (by kernel_rfl) (fun d x=>x=if d 11=true then C1 else if d 10=true then V1 else V0) ?_ ?_ ?_ (fun y=>(dIG (uE rfl rfl qb (qo) qn qc .i64 0 5 0 (by kernel_rfl) (by kernel_rfl) (fun _=>by omega) rfl) (dIG (uE rfl rfl qb (qo) qn qc .i64 0 5 0 (by kernel_rfl) (by kernel_rfl) (fun _=>by omega) rfl) (dIG (uba rfl rfl qb qo qn qc 1 (by kernel_rfl) 5 (by kernel_rfl) (by omega)) dNG)))) ?_ ?_
       ·exact a5.out.symm
       ·intro d i x hi h
        have t2:i<10:=hi;have e1:(10==i)=false:=by rw[aw];omega
        have e2:(11==i)=false:=by rw[aw];omega
        simp only[e1,e2,Bool.or_false];exact h
       ·intro d x h
        have h:x=if d 11=true then C1 else if d 10=true then V1 else V0:=h
        refine mI ?_ mN;rw[h];split
        ·exact g6.out
        ·split
         ·exact g5.out
         ·exact g4.out
       ·intro i o s d x ho h1 h2 h6 hJ ha hb hF
        have hi:i=10\/i=11:=by
         have h3:10<=i:=h1;have h4:i<12:=h2;omega
        rcases hi with rfl|rfl
        ·cases ho
         have h5:d 11=false:=hb 11 (by decide) (by kernel_rfl)
         have s3:s 3 = .agg #[.bool tn,.slice B1 m1 k1,.slice B2 m2 k2]:=udz (hF 3 (by decide) (ha 3 (by kernel_rfl))) (by kernel_rfl)
         obtain rfl:x=V0:=by simpa only[h6,h5,if_false,Bool.false_eq_true]using hJ
         refine uh rfl rfl fun KK HK=>?_
         clear hF ha hb h1 h2 hJ;simp only[nv,Nat.reduceAdd]at HK ⊢;generalize s 3=t3 at *;subst s3;go_wp2;refine HK.out _ _ ⟨rfl,?_⟩;show _=_
         rw[h5,if_neg (by decide),if_pos (by simp)]
         exact a0.out.symm
        ·cases ho
         have n8:d 10=true:=ha 10 (by kernel_rfl)
         have s7:s 7 = .agg #[.slice B3 m3 k3,.slice B4 m4 k4]:=udz (hF 7 (by decide) (ha 7 (by kernel_rfl))) (by kernel_rfl)
         obtain rfl:x=V1:=by simpa only[h6,n8,if_false,if_true,Bool.false_eq_true]using hJ
         refine uh rfl rfl fun KK HK=>?_
         clear hF ha hb h1 h2 hJ;simp only[nv,Nat.reduceAdd]at HK ⊢;generalize s 7=t7 at *;subst s7;go_wp2;refine HK.out _ _ ⟨rfl,?_⟩;show _=_
         rw[if_pos (by simp)]
         exact a1.out.symm
       intro s0 d x d4 hJ hS;obtain⟨g9,_⟩:s0 9 = .slice (some ⟨qb,if qc=1 then qo else qo+1*5,none⟩) (qn-1) (qc-1)/\True:=hS (l:=[(9,.v (.slice (some ⟨qb,if qc=1 then qo else qo+1*5,none⟩) (qn-1) (qc-1)))]) (by kernel_rfl)
       obtain rfl:C1=x:=by
        have h:x=C1:=by simpa only[d4 10 (by decide),d4 11 (by decide),if_true]using hJ
        exact h.symm
       clear hS d4 hJ;simp only[nv,Nat.reduceAdd,aB,aE,aC,List.drop_zero,g9];clear g9;generalize (if qc=1 then qo else qo+1*5)=qo2 at *
       go_upto_region 17 with(fail)
       clear o5 o6 o7 o2 o3 o4 g4 g5 g6 d9 g7 f4 k9 l0 a5 a0 a1;have f0:Hid (uU C1 (· < w.heap.size) t.m [.slice B3 m3 k3,.slice B4 m4 k4]):=uU.vAb (uc.of b1.out) s9.out
       have a3:=hid (And.intro j8.out.2.2.1.2.2 j8.out.2.2.2);obtain⟨tv,g3⟩:∃tv,tv=chS sel (0) (t.q.val):=⟨_,rfl⟩;have c7:Hid (Stp tv t.m (vAh sel (s::ps) (t::qs)) (vAh sel (s::ps) (qs))):=by rw[g3];exact uJr j8.out z8.out
       have f7:=hid (t1.out C1 (.agg #[.bool false,.slice Z1 x1 y1,.slice Z2 x2 y2]) (.agg #[.bool tn,.slice B1 m1 k1,.slice B2 m2 k2]) (0) (t.q.val) n0.out.zero (uK.zero (uK.more ((ub2.vAb (uc.of b1.out) r8.out).rat (K:=1000) j8.out.2.2.1.1 j8.out.2.2.1.2.1) (by omega))))
       rw[<-g3]at f7;clear g3;generalize hmm:t.m=mm at f0 a3 c7;clear hmm;obtain⟨r1,r2,r3⟩:=h9.out.facts;obtain⟨r4,r5,r6⟩:=k8.out.facts;go_wp2_with fail
       refine f7.out.mono ?_;rintro e w3⟨c0,C1,l1,d1,E2,l2,d2,rfl,h7,hb⟩;have j0:Hid (Below wq.heap.size wq w3):=b1.out.trans (hb.mono b1.out.size);have e7:=hid (f5.out.below hb f5.out.lt);have j3:=hid (uU.vAb (uc.of hb) (uU.sub (D':=fun _=>True) (fun _ _ _=>trivial) f0.out))
       have k6:=hid h7;clear hb h7 f7 r1 r2 r3 r4 r5 r6 h9 k8 f5 n0 n5 f0;go_upto_region 18 with(fail)
       obtain⟨X4,hX⟩:∃X,X=w3.alloc (.cells #[.bool c0,.slice C1 l1 d1,.slice E2 l2 d2] 62):=⟨_,rfl⟩;have b7:Below w3.heap.size w3 X4:=by rw[hX];exact aa.alloc ab _
       have c8:Hid (Bk X4 w3.heap.size 62 #[.bool c0,.slice C1 l1 d1,.slice E2 l2 d2]):=by rw[hX];exact Bk.new _ _ _
       have j1:Hid (Below wq.heap.size wq X4):=j0.out.trans (b7.mono j0.out.size);have e8:=hid (e7.out.below b7 e7.out.lt);have j4:=hid (uU.vAb (uc.of b7) j3.out);have f2:=hid (k6.out.below b7);rw[<-hX];clear hX b7 e7 j3 k6;generalize w3.heap.size=rb at *;obtain⟨q8,q9,r0⟩:=c8.out.facts;go_wp2_with fail
       refine(udg X4 0 _ 1100 tv f2.out (by omega)).mono ?_
       rintro e w5⟨rfl,a9⟩;have a2:Hid (Below wq.heap.size wq w5):=j1.out.trans (a9.mono j1.out.size);have j2:=hid (e8.out.below a9 e8.out.lt);have k7:=hid (c8.out.below a9 c8.out.lt);have f1:=hid (uU.vAb (uc.of a9) j4.out);have f3:=hid (f2.out.below a9);clear a9 q8 q9 r0 e8 j4 f2 c8;obtain⟨sg,g2⟩:∃sg,Hid (ujj tv=sg):=⟨_,rfl⟩;rw[g2.out];by_cases g1:sg=0
       ·have HE:Hid (vAh sel (s::ps) (t::qs)=vAh sel (s::ps) (qs)):=c7.out.1 ((ubf tv).1 (by rw[g2.out,g1]))
        subst g1;go_wp2;go_roundw
        case rel=>exact⟨s::ps,qs,acc,us,(some ⟨pb,po,none⟩),pn,pc,(some ⟨qb,qo2,none⟩),qn-1,qc-1,rfl,rfl,by omega,by omega,by rw[b8.out];omega,hid (uB.vAb (uc.of a2.out) x9.out),hid (uB.vAb (uc.of a2.out) p7.out),hid (HO.out.below uek a2.out),hid (HB.out.trans (a2.out.mono HB.out.size)),hid (by rw[HM.out,HE.out]),hid ⟨fun x h=>c6.out.1 x h,fun x h=>c6.out.2 x (by simp[h])⟩⟩
        case measure=>simp[sliceLen];omega
       ·obtain⟨xt,m8,m9,m6,m7⟩:=c7.out.2 (fun h=>g1 (by rw[<-g2.out];exact(ubf tv).2 h))
        have p9:=hid m7;have p8:=hid m6;rw[<-m8]at f1 a3;rw[<-m9]at f3;have q0:Hid (∀x,Below w5.heap.size w5 x->Calls Tryz.prog 73 #[.agg #[.bool c0,.slice C1 l1 d1,.slice E2 l2 d2]] x (ujh xt.q x)):=fun x hx=>by
         refine(uaq x 0 _ 1100 xt.q.val (f3.out.below hx) (by omega)).mono ?_
         rintro e w2⟨v2,rfl,hr,hb⟩;exact⟨v2,rfl,ub2.ofR p8.out.1 hr,hb⟩
        have q5:Hid (∀x,Below w5.heap.size w5 x->Calls Tryz.prog 74 #[.agg #[.slice B3 m3 k3,.slice B4 m4 k4]] x (uc1 xt.m x)):=fun x hx=>uc2 xt.m _ x (uU.vAb (uc.of hx) f1.out) a3.out.1.1 a3.out.1.2.1 a3.out.1.2.2 a3.out.2
        clear m7 m6 m8 m9 c7 f3 f1 a3;go_upto_region 19 with(fail)
        refine ue (⟨[(rb,0,[.bool c0,.slice C1 l1 d1,.slice E2 l2 d2]),(za+1+1,0,[.slice B3 m3 k3,.slice B4 m4 k4])],[],[udx w5.heap.size xt.q,udn w5.heap.size xt.m,ud1 w5.heap.size xt,ucg w5.heap.size xt],[(10,.v (.slice RA al a4)),(14,.p 1 0),(15,.p 0 0)],[(2,.f 0),(4,.f 1),(5,.f 2),(6,.f 3)]⟩:Sp) [84,85,86,87,88,89,90] w5 (aa.drew) (by kernel_rfl) (by kernel_rfl) (by kernel_rfl) (sI (udx.stays) (sI (udn.stays) (sI (ud1.stays) (sI (ucg.stays) sN)))) (by kernel_rfl)
         (fun x hx=>(mI (ud (k7.out.below hx k7.out.lt)) (mI (ud (j2.out.below hx j2.out.lt)) mN))) (dI (ug [.v (.agg #[.bool c0,.slice C1 l1 d1,.slice E2 l2 d2])] rfl rfl (by kernel_rfl) (by kernel_rfl) fun x vs hx hC hv=>by
          obtain⟨v1,rfl,h1⟩:=ubg hv;obtain rfl:v1 = .agg #[.bool c0,.slice C1 l1 d1,.slice E2 l2 d2]:=h1;refine(q0.out x hx).mono ?_;rintro en w2⟨u,rfl,⟨A3,n3,c3,A4,n4,c4,h1,h2⟩,hb⟩;exact⟨u,rfl,⟨A3,n3,c3,A4,n4,c4,h1,ub2.sub (fun b _ hD=>ag hx.size hD) h2⟩,hb⟩) (
         dI (ug [.v (.agg #[.slice B3 m3 k3,.slice B4 m4 k4])] rfl rfl (by kernel_rfl) (by kernel_rfl) fun x vs hx hC hv=>by
          obtain⟨v1,rfl,h1⟩:=ubg hv;obtain rfl:v1 = .agg #[.slice B3 m3 k3,.slice B4 m4 k4]:=h1;refine(q5.out x hx).mono ?_;rintro en w2⟨u,rfl,⟨A3,n3,c3,A4,n4,c4,h1,h2⟩,hb⟩;exact⟨u,rfl,⟨A3,n3,c3,A4,n4,c4,h1,uU.sub (fun b _ hD=>ag hx.size hD) h2⟩,hb⟩) (
         dI (uX rfl (parts:=[(0,.tmp 86),(1,.tmp 88)]) rfl fun x a hx c9=>by
          obtain⟨A1,n1,c1,A2,n2,c2,h1,h2⟩:=(c9 (.tmp 86) (.f 0) (by kernel_rfl):udx w5.heap.size xt.q (a.eval (.tmp 86)) x)
          obtain⟨A3,n3,c3,A4,n4,c4,h3,h4⟩:=(c9 (.tmp 88) (.f 1) (by kernel_rfl):udn w5.heap.size xt.m (a.eval (.tmp 88)) x)
          refine⟨.agg #[.bool xt.q.neg,.slice A1 n1 c1,.slice A2 n2 c2,.slice A3 n3 c3,.slice A4 n4 c4],?_,A1,n1,c1,A2,n2,c2,A3,n3,c3,A4,n4,c4,rfl,h2,h4⟩;simp only[List.map_cons,List.map_nil,h1,h3];kernel_rfl) (
         dI (uac rfl (parts:=[(0,.tmp 89)]) rfl fun x a hx c9=>by
          obtain⟨A1,n1,c1,A2,n2,c2,A3,n3,c3,A4,n4,c4,h1,h2,h3⟩:=(c9 (.tmp 89) (.f 2) (by kernel_rfl):ud1 w5.heap.size xt (a.eval (.tmp 89)) x)
          refine⟨85,[.bool xt.q.neg,.slice A1 n1 c1,.slice A2 n2 c2,.slice A3 n3 c3,.slice A4 n4 c4],?_,A1,n1,c1,A2,n2,c2,A3,n3,c3,A4,n4,c4,x.heap.size,rfl,Bk.new _ _ _,hx.size,ub2.vAb (uc.of (aa.alloc ab _)) h2,uU.vAb (uc.of (aa.alloc ab _)) h3⟩;simp only[List.map_cons,List.map_nil,h1];kernel_rfl) (dN))))) ?_
        intro S x6 b0 hS;obtain⟨g0,f6,_⟩:S 0 = .slice RA al a4/\(ucg w5.heap.size xt:Value->World->Prop) (S 6) x6/\True:=hS (l:=[(0,.v (.slice RA al a4)),(6,.f 3)]) (by kernel_rfl)
        clear hS;simp only[nv,Nat.reduceAdd,aB,aE,aC,List.drop_zero,g0];clear g0;obtain⟨F1,p1,q1,F2,p2,q2,F3,p3,q3,F4,p4,q4,gb,e5,l4,v0,l5,l7⟩:=(f6:ucg w5.heap.size xt (S 6) x6);rw[e5];generalize hxn:xt.q.neg=xn at *;have e6:Hid (Below wq.heap.size wq x6):=a2.out.trans (b0.mono a2.out.size);have j5:=hid (HO.out.below uek e6.out);have l3:w.heap.size<=x6.heap.size:=by have:=e6.out.size;omega
        have v4:wq.heap.size<=w5.heap.size:=a2.out.size;have HV:Hid (uk9 x6 (fun b=>w.heap.size<=b/\some b≠(Value.slice RA al a4).ownBlock) xt [.bool xn,.slice F1 p1 q1,.slice F2 p2 q2,.slice F3 p3 q3,.slice F4 p4 q4]):=by
         have m5:∀b,b<x6.heap.size->w5.heap.size<=b->w.heap.size<=b/\some b≠(Value.slice RA al a4).ownBlock:=fun b _ hb=>⟨by omega,fun e=>by have:=(HO.out.lt e.symm).2;omega⟩
         refine⟨F1,p1,q1,F2,p2,q2,F3,p3,q3,F4,p4,q4,by rw[hxn],?_,l7.sub m5⟩
         rw[hxn];exact ub2.sub m5 l5
        have f9:=j5.out.1;rw[b8.out]at f9;clear b0 l5 l7;refine uN x6 rfl _ _ 32 85 rfl Tryz.underlying32 5 104 udw (by decide) (by decide) w.heap.size (.slice RA al a4) al (ucr us al) [.bool xn,.slice F1 p1 q1,.slice F2 p2 q2,.slice F3 p3 q3,.slice F4 p4 q4] (by rfl) f9 gb _ l4 (by rfl) rfl (by intro y hy;simp at hy;rcases hy with rfl|rfl|rfl|rfl|rfl<;>rfl) (by omega) l3 ?_
        intro g q6 w7 l8 hg l6 v3;have f8:=j5.out.vBc uek HV.out rfl (g:=g) (cap:=q6) (by rw[b8.out];exact l8) hg l6
        rw[b8.out]at f8;have o9:=hid f8;have q7:∀k,k<w.heap.size->some k≠(Value.slice RA al a4).ownBlock:=fun k hk e=>by have:=(HO.out.lt e.symm).1;omega
        have b2:Hid (Below w.heap.size wq w7):=by
         have h1:Below w.heap.size wq x6:=e6.out.mono x5;exact h1.grown hg l3 (fun k e=>by have:=(HO.out.lt e).1;omega)
        clear f9 l8 l4 l6 hg q7 f8 HV;go_wp2;go_roundw
        case rel=>exact⟨s::ps,qs,acc++[xt],_,(some ⟨pb,po,none⟩),pn,pc,(some ⟨qb,qo2,none⟩),qn-1,qc-1,rfl,rfl,by omega,by omega,by rw[ay,b8.out];simp;omega,hid (uB.vAb ⟨b2.out.size,fun b hb hD=>b2.out.block b hD⟩ x9.out),hid (uB.vAb ⟨b2.out.size,fun b hb hD=>b2.out.block b hD⟩ p7.out),o9,hid (HB.out.trans b2.out),hid (by rw[HM.out,p9.out,aS];rfl),hid ⟨fun x h=>c6.out.1 x h,fun x h=>c6.out.2 x (by simp[h])⟩⟩
        case measure=>simp[sliceLen];omega
      obtain rfl:z=0:=by omega
      have z7:Hid (uc9 s.m t.m=0):=hz;go_wp2_with fail
      refine(ubl wq).mono ?_;rintro e wa⟨Z1,x1,y1,Z2,x2,y2,rfl,l9,hb⟩;have e4:=hid hb;have j9:=hid l9;clear l9 hb;go_wp2_with fail
      refine(ubl wa).mono ?_;rintro e wb⟨Z3,x3,y3,Z4,x4,y4,rfl,m0,hb⟩;have c5:=hid (e4.out.trans (hb.mono e4.out.size));have k5:=hid m0;have k0:=hid (j9.out.below hb);clear m0 hb j9 e4;go_upto_region 14 with(fail)
      obtain⟨C0,hC⟩:∃C,C=((wb.alloc (.cells #[.bool false,.slice Z1 x1 y1,.slice Z2 x2 y2] 62)).alloc (.cells #[.bool false,.slice Z3 x3 y3,.slice Z4 x4 y4] 62)).alloc (.cells #[.slice none 0 0,.slice none 0 0] 83):=⟨_,rfl⟩;have a8:Below wb.heap.size wb C0:=by rw[hC];exact((aa.alloc ab _).alloc (by simp) _).alloc (by simp;omega) _
      have b9:Hid (Below wq.heap.size wq C0):=c5.out.trans (a8.mono c5.out.size);have d9:Hid (Bk C0 wb.heap.size 62 #[.bool false,.slice Z1 x1 y1,.slice Z2 x2 y2]):=by rw[hC];exact((Bk.new _ _ _).alloc _).alloc _
      have g7:Hid (Bk C0 (wb.heap.size+1) 62 #[.bool false,.slice Z3 x3 y3,.slice Z4 x4 y4]):=by rw[hC];exact(uax _ _ _ _).alloc _
      have f4:Hid (Bk C0 (wb.heap.size+1+1) 83 #[.slice none 0 0,.slice none 0 0]):=by rw[hC];exact ubc _ _ _ _ _
      have k9:Hid (uK C0 (· < wb.heap.size) (.agg #[.bool false,.slice Z1 x1 y1,.slice Z2 x2 y2]) 1100 0):=k0.out.toP.vAb a8.size fun b _ hb=>⟨a8.block b hb,hb⟩
      have l0:Hid (uK C0 (· < wb.heap.size) (.agg #[.bool false,.slice Z3 x3 y3,.slice Z4 x4 y4]) 1100 0):=k5.out.toP.vAb a8.size fun b _ hb=>⟨a8.block b hb,hb⟩
      have v6:wq.heap.size<=wb.heap.size:=c5.out.size;rw[<-hC];clear hC a8 k0 k5 c5;generalize wb.heap.size=za at *;obtain⟨V0,a5⟩:∃x,x=C0.drew:=⟨_,rfl⟩;obtain⟨V1,a0⟩:∃x,x=((V0.setCell ⟨za+1,0,none⟩ (.bool tn)).setCell ⟨za+1,1,none⟩ (.slice B1 m1 k1)).setCell ⟨za+1,2,none⟩ (.slice B2 m2 k2):=⟨_,rfl⟩;obtain⟨C1,a1⟩:∃x,x=(V1.setCell ⟨za+1+1,0,none⟩ (.slice B3 m3 k3)).setCell ⟨za+1+1,1,none⟩ (.slice B4 m4 k4):=⟨_,rfl⟩;have b6:Below C0.heap.size C0 V0:=by rw[a5];exact aa.drew
      have d5:Fw (fun b=>b=za+1\/b=za+1+1) C0 V0:=(Fw.refl _ _).below b6
      have d6:Fw (fun b=>b=za+1) V0 V1:=by
       rw[a0];exact(((Fw.refl (fun b=>b=za+1) _).setCell (p:=⟨za+1,0,none⟩) (.inl rfl) _).setCell (p:=⟨za+1,1,none⟩) (.inl rfl) _).setCell (p:=⟨za+1,2,none⟩) (.inl rfl) _
      have d8:Fw (fun b=>b=za+1+1) V1 C1:=by
       rw[a1];exact((Fw.refl (fun b=>b=za+1+1) _).setCell (p:=⟨za+1+1,0,none⟩) (.inl rfl) _).setCell (p:=⟨za+1+1,1,none⟩) (.inl rfl) _
      have d7:Fw (fun b=>b=za+1\/b=za+1+1) C0 V1:=d5.then d6 (fun x hx=> .inl (.inl hx))
      have a7:Fw (fun b=>b=za+1\/b=za+1+1) C0 C1:=d7.then d8 (fun x hx=> .inl (.inr hx))
      have b3:Hid (um C0 qb (qo+0*5) [.bool tn,.slice B1 m1 k1,.slice B2 m2 k2,.slice B3 m3 k3,.slice B4 m4 k4]):=p6.out.sure b9.out j7.out;have b4:qb<C0.heap.size:=af j7.out b9.out.size;have b5:¬(qb=za+1\/qb=za+1+1):=by have:qb<wq.heap.size:=j7.out;omega
      have g4:Hid (um V0 qb (qo+0*5) [.bool tn,.slice B1 m1 k1,.slice B2 m2 k2,.slice B3 m3 k3,.slice B4 m4 k4]):=b3.out.vAz d5 b4 b5;have g5:Hid (um V1 qb (qo+0*5) [.bool tn,.slice B1 m1 k1,.slice B2 m2 k2,.slice B3 m3 k3,.slice B4 m4 k4]):=b3.out.vAz d7 b4 b5;have g6:Hid (um C1 qb (qo+0*5) [.bool tn,.slice B1 m1 k1,.slice B2 m2 k2,.slice B3 m3 k3,.slice B4 m4 k4]):=b3.out.vAz a7 b4 b5;have d3:=g7.out.below b6 g7.out.lt;have h0:=f4.out.below b6 f4.out.lt;have d0:=Bk.fw h0 d6 (by omega)
      obtain⟨o5,o6,o7⟩:=d3.facts;obtain⟨o2,o3,o4⟩:=d0.facts;have b1:Hid (Below wq.heap.size wq C1):=b9.out.trans (a7.toBelow (fun x hx=>by rcases hx with rfl|rfl<;>omega) b9.out.size)
      have a6:Below za C0 C1:=a7.toBelow (fun x hx=>by rcases hx with rfl|rfl<;>omega) (Nat.le_of_lt d9.out.lt)
      have k8:Hid (Bk C1 (za+1) 62 #[.bool tn,.slice B1 m1 k1,.slice B2 m2 k2]):=by
       refine hid (Bk.fw ?_ d8 (by omega))
       rw[a0];exact udy d3
      have h9:=hid (Bk.fw d9.out a7 (by omega))
      have f5:Hid (Bk C1 (za+1+1) 83 #[.slice B3 m3 k3,.slice B4 m4 k4]):=by
       rw[a1];exact hid (ucc d0)
      have n0:=hid (k9.out.vAb a6.size fun b hb _=>⟨a6.block b hb,hb⟩)
      have n5:=hid (l0.out.vAb a6.size fun b hb _=>⟨a6.block b hb,hb⟩)
      replace a5:=hid a5
      replace a0:=hid a0
      replace a1:=hid a1
      clear b3 b4 b5 d5 d6 d8 d7 a7 b6 d3 h0 d0 a6;refine uam (⟨[(qb,(qo+0*5),[.bool tn,.slice B1 m1 k1,.slice B2 m2 k2,.slice B3 m3 k3,.slice B4 m4 k4])],[],[],[(2,.v (.slice (some ⟨qb,qo,none⟩) qn qc))],[(1,.p 0 0),(5,.p 0 0),(9,.v (.slice (some ⟨qb,if qc=1 then qo else qo+1*5,none⟩) (qn-1) (qc-1)))]⟩:Sp) [55,56,57,58,59,60,61,62,63,64] 2 (by kernel_rfl) (by kernel_rfl) (by kernel_rfl) rfl (by kernel_rfl) (fun d x=>x=if d 11=true then C1 else if d 10=true then V1 else V0) ?_ ?_ ?_ (fun y=>(dIG (uE rfl rfl qb (qo) qn qc .i64 0 5 0 (by kernel_rfl) (by kernel_rfl) (fun _=>by omega) rfl) (dIG (uE rfl rfl qb (qo) qn qc .i64 0 5 0 (by kernel_rfl) (by kernel_rfl) (fun _=>by omega) rfl) (dIG (uba rfl rfl qb qo qn qc 1 (by kernel_rfl) 5 (by kernel_rfl) (by omega)) dNG)))) ?_ ?_
      ·exact a5.out.symm
      ·intro d i x hi h
       have t2:i<10:=hi;have e1:(10==i)=false:=by rw[aw];omega
       have e2:(11==i)=false:=by rw[aw];omega
       simp only[e1,e2,Bool.or_false];exact h
      ·intro d x h
       have h:x=if d 11=true then C1 else if d 10=true then V1 else V0:=h
       refine mI ?_ mN;rw[h];split
       ·exact g6.out
       ·split
        ·exact g5.out
        ·exact g4.out
      ·intro i o s d x ho h1 h2 h6 hJ ha hb hF
       have hi:i=10\/i=11:=by
        have h3:10<=i:=h1;have h4:i<12:=h2;omega
       rcases hi with rfl|rfl
       ·cases ho
        have h5:d 11=false:=hb 11 (by decide) (by kernel_rfl)
        have s3:s 3 = .agg #[.bool tn,.slice B1 m1 k1,.slice B2 m2 k2]:=udz (hF 3 (by decide) (ha 3 (by kernel_rfl))) (by kernel_rfl)
        obtain rfl:x=V0:=by simpa only[h6,h5,if_false,Bool.false_eq_true]using hJ
        refine uh rfl rfl fun KK HK=>?_
        clear hF ha hb h1 h2 hJ;simp only[nv,Nat.reduceAdd]at HK ⊢;generalize s 3=t3 at *;subst s3;go_wp2;refine HK.out _ _ ⟨rfl,?_⟩;show _=_
        rw[h5,if_neg (by decide),if_pos (by simp)]
        exact a0.out.symm
       ·cases ho
        have n8:d 10=true:=ha 10 (by kernel_rfl)
        have s7:s 7 = .agg #[.slice B3 m3 k3,.slice B4 m4 k4]:=udz (hF 7 (by decide) (ha 7 (by kernel_rfl))) (by kernel_rfl)
        obtain rfl:x=V1:=by simpa only[h6,n8,if_false,if_true,Bool.false_eq_true]using hJ
        refine uh rfl rfl fun KK HK=>?_
        clear hF ha hb h1 h2 hJ;simp only[nv,Nat.reduceAdd]at HK ⊢;generalize s 7=t7 at *;subst s7;go_wp2;refine HK.out _ _ ⟨rfl,?_⟩;show _=_
        rw[if_pos (by simp)]
        exact a1.out.symm
      intro s0 d x d4 hJ hS;obtain⟨g9,_⟩:s0 9 = .slice (some ⟨qb,if qc=1 then qo else qo+1*5,none⟩) (qn-1) (qc-1)/\True:=hS (l:=[(9,.v (.slice (some ⟨qb,if qc=1 then qo else qo+1*5,none⟩) (qn-1) (qc-1)))]) (by kernel_rfl)
      obtain rfl:C1=x:=by
       have h:x=C1:=by simpa only[d4 10 (by decide),d4 11 (by decide),if_true]using hJ
       exact h.symm
      clear hS d4 hJ;simp only[nv,Nat.reduceAdd,aB,aE,aC,List.drop_zero,g9];clear g9;generalize (if qc=1 then qo else qo+1*5)=qo2 at *
      go_upto_region 16 with(fail)
      clear o5 o6 o7 o2 o3 o4 g4 g5 g6 d9 g7 f4 k9 l0 a5 a0 a1;obtain⟨V0,a5⟩:∃x,x=C1.drew:=⟨_,rfl⟩;obtain⟨V1,a0⟩:∃x,x=((V0.setCell ⟨za,0,none⟩ (.bool sn)).setCell ⟨za,1,none⟩ (.slice A1 n1 c1)).setCell ⟨za,2,none⟩ (.slice A2 n2 c2):=⟨_,rfl⟩;obtain⟨C2,a1⟩:∃x,x=(V1.setCell ⟨za+1+1,0,none⟩ (.slice A3 n3 c3)).setCell ⟨za+1+1,1,none⟩ (.slice A4 n4 c4):=⟨_,rfl⟩;have b6:Below C1.heap.size C1 V0:=by rw[a5];exact aa.drew
      have d5:Fw (fun b=>b=za\/b=za+1+1) C1 V0:=(Fw.refl _ _).below b6
      have d6:Fw (fun b=>b=za) V0 V1:=by
       rw[a0];exact(((Fw.refl (fun b=>b=za) _).setCell (p:=⟨za,0,none⟩) (.inl rfl) _).setCell (p:=⟨za,1,none⟩) (.inl rfl) _).setCell (p:=⟨za,2,none⟩) (.inl rfl) _
      have d8:Fw (fun b=>b=za+1+1) V1 C2:=by
       rw[a1];exact((Fw.refl (fun b=>b=za+1+1) _).setCell (p:=⟨za+1+1,0,none⟩) (.inl rfl) _).setCell (p:=⟨za+1+1,1,none⟩) (.inl rfl) _
      have d7:Fw (fun b=>b=za\/b=za+1+1) C1 V1:=d5.then d6 (fun x hx=> .inl (.inl hx))
      have a7:Fw (fun b=>b=za\/b=za+1+1) C1 C2:=d7.then d8 (fun x hx=> .inl (.inr hx))
      have b3:Hid (um C1 pb (po+0*5) [.bool sn,.slice A1 n1 c1,.slice A2 n2 c2,.slice A3 n3 c3,.slice A4 n4 c4]):=p0.out.sure b1.out j6.out;have b4:pb<C1.heap.size:=af j6.out b1.out.size;have b5:¬(pb=za\/pb=za+1+1):=by have:pb<wq.heap.size:=j6.out;omega
      have g4:Hid (um V0 pb (po+0*5) [.bool sn,.slice A1 n1 c1,.slice A2 n2 c2,.slice A3 n3 c3,.slice A4 n4 c4]):=b3.out.vAz d5 b4 b5;have g5:Hid (um V1 pb (po+0*5) [.bool sn,.slice A1 n1 c1,.slice A2 n2 c2,.slice A3 n3 c3,.slice A4 n4 c4]):=b3.out.vAz d7 b4 b5;have g6:Hid (um C2 pb (po+0*5) [.bool sn,.slice A1 n1 c1,.slice A2 n2 c2,.slice A3 n3 c3,.slice A4 n4 c4]):=b3.out.vAz a7 b4 b5;have d3:=h9.out.below b6 h9.out.lt;have h0:=f5.out.below b6 f5.out.lt;have d0:=Bk.fw h0 d6 (by omega)
      obtain⟨o5,o6,o7⟩:=d3.facts;obtain⟨o2,o3,o4⟩:=d0.facts;have o8:Hid (Below wq.heap.size wq C2):=b1.out.trans (a7.toBelow (fun x hx=>by rcases hx with rfl|rfl<;>omega) b1.out.size)
      have a6:Below za C1 C2:=a7.toBelow (fun x hx=>by rcases hx with rfl|rfl<;>omega) (Nat.le_of_lt h9.out.lt)
      have y6:Hid (Bk C2 (za) 62 #[.bool sn,.slice A1 n1 c1,.slice A2 n2 c2]):=by
       refine hid (Bk.fw ?_ d8 (by omega))
       rw[a0];exact udy d3
      have y7:=hid (Bk.fw k8.out a7 (by omega))
      have v7:Hid (Bk C2 (za+1+1) 83 #[.slice A3 n3 c3,.slice A4 n4 c4]):=by
       rw[a1];exact hid (ucc d0)
      have A6:=hid (n0.out.vAb a6.size fun b hb _=>⟨a6.block b hb,hb⟩)
      have A7:=hid (n5.out.vAb a6.size fun b hb _=>⟨a6.block b hb,hb⟩)
      replace a5:=hid a5
      replace a0:=hid a0
      replace a1:=hid a1
      clear b3 b4 b5 d5 d6 d8 d7 a7 b6 d3 h0 d0 a6;refine uam (⟨[(pb,(po+0*5),[.bool sn,.slice A1 n1 c1,.slice A2 n2 c2,.slice A3 n3 c3,.slice A4 n4 c4])],[],[],[(1,.v (.slice (some ⟨pb,po,none⟩) pn pc))],[(1,.p 0 0),(5,.p 0 0),(9,.v (.slice (some ⟨pb,if pc=1 then po else po+1*5,none⟩) (pn-1) (pc-1)))]⟩:Sp) [67,68,69,70,71,72,73,74,75,76] 2 (by kernel_rfl) (by kernel_rfl) (by kernel_rfl) rfl (by kernel_rfl) (fun d x=>x=if d 11=true then C2 else if d 10=true then V1 else V0) ?_ ?_ ?_ (fun y=>(dIG (uE rfl rfl pb (po) pn pc .i64 0 5 0 (by kernel_rfl) (by kernel_rfl) (fun _=>by omega) rfl) (dIG (uE rfl rfl pb (po) pn pc .i64 0 5 0 (by kernel_rfl) (by kernel_rfl) (fun _=>by omega) rfl) (dIG (uba rfl rfl pb po pn pc 1 (by kernel_rfl) 5 (by kernel_rfl) (by omega)) dNG)))) ?_ ?_
      ·exact a5.out.symm
      ·intro d i x hi h
       have t2:i<10:=hi;have e1:(10==i)=false:=by rw[aw];omega
       have e2:(11==i)=false:=by rw[aw];omega
       simp only[e1,e2,Bool.or_false];exact h
      ·intro d x h
       have h:x=if d 11=true then C2 else if d 10=true then V1 else V0:=h
       refine mI ?_ mN;rw[h];split
       ·exact g6.out
       ·split
        ·exact g5.out
        ·exact g4.out
      ·intro i o s d x ho h1 h2 h6 hJ ha hb hF
       have hi:i=10\/i=11:=by
        have h3:10<=i:=h1;have h4:i<12:=h2;omega
       rcases hi with rfl|rfl
       ·cases ho
        have h5:d 11=false:=hb 11 (by decide) (by kernel_rfl)
        have s3:s 3 = .agg #[.bool sn,.slice A1 n1 c1,.slice A2 n2 c2]:=udz (hF 3 (by decide) (ha 3 (by kernel_rfl))) (by kernel_rfl)
        obtain rfl:x=V0:=by simpa only[h6,h5,if_false,Bool.false_eq_true]using hJ
        refine uh rfl rfl fun KK HK=>?_
        clear hF ha hb h1 h2 hJ;simp only[nv,Nat.reduceAdd]at HK ⊢;generalize s 3=t3 at *;subst s3;go_wp2;refine HK.out _ _ ⟨rfl,?_⟩;show _=_
        rw[h5,if_neg (by decide),if_pos (by simp)]
        exact a0.out.symm
       ·cases ho
        have n8:d 10=true:=ha 10 (by kernel_rfl)
        have s7:s 7 = .agg #[.slice A3 n3 c3,.slice A4 n4 c4]:=udz (hF 7 (by decide) (ha 7 (by kernel_rfl))) (by kernel_rfl)
        obtain rfl:x=V1:=by simpa only[h6,n8,if_false,if_true,Bool.false_eq_true]using hJ
        refine uh rfl rfl fun KK HK=>?_
        clear hF ha hb h1 h2 hJ;simp only[nv,Nat.reduceAdd]at HK ⊢;generalize s 7=t7 at *;subst s7;go_wp2;refine HK.out _ _ ⟨rfl,?_⟩;show _=_
        rw[if_pos (by simp)]
        exact a1.out.symm
      intro s0 d x d4 hJ hS;obtain⟨g9,_⟩:s0 9 = .slice (some ⟨pb,if pc=1 then po else po+1*5,none⟩) (pn-1) (pc-1)/\True:=hS (l:=[(9,.v (.slice (some ⟨pb,if pc=1 then po else po+1*5,none⟩) (pn-1) (pc-1)))]) (by kernel_rfl)
      obtain rfl:C2=x:=by
       have h:x=C2:=by simpa only[d4 10 (by decide),d4 11 (by decide),if_true]using hJ
       exact h.symm
      clear hS d4 hJ;simp only[nv,Nat.reduceAdd,aB,aE,aC,List.drop_zero,g9];clear g9;generalize (if pc=1 then po else po+1*5)=po2 at *
      go_upto_region 17 with(fail)
      clear o5 o6 o7 o2 o3 o4 g4 g5 g6 h9 k8 f5 n0 n5 a5 a0 a1;have f0:Hid (uU C2 (· < w.heap.size) s.m [.slice A3 n3 c3,.slice A4 n4 c4]):=uU.vAb (uc.of o8.out) s1.out
      have a3:=hid (And.intro h8.out.2.2.1.2.2 h8.out.2.2.2);obtain⟨tv,g3⟩:∃tv,tv=chS sel (s.q.val) (t.q.val):=⟨_,rfl⟩;have c7:Hid (Stp tv s.m (vAh sel (s::ps) (t::qs)) (vAh sel (ps) (qs))):=by rw[g3];exact uJ6 h8.out j8.out z7.out
      have f7:=hid (t1.out C2 (.agg #[.bool sn,.slice A1 n1 c1,.slice A2 n2 c2]) (.agg #[.bool tn,.slice B1 m1 k1,.slice B2 m2 k2]) (s.q.val) (t.q.val) (uK.zero (uK.more ((ub2.vAb (uc.of o8.out) r7.out).rat (K:=1000) h8.out.2.2.1.1 h8.out.2.2.1.2.1) (by omega))) (uK.zero (uK.more ((ub2.vAb (uc.of o8.out) r8.out).rat (K:=1000) j8.out.2.2.1.1 j8.out.2.2.1.2.1) (by omega))))
      rw[<-g3]at f7;clear g3;generalize hmm:s.m=mm at f0 a3 c7;clear hmm;obtain⟨r1,r2,r3⟩:=y6.out.facts;obtain⟨r4,r5,r6⟩:=y7.out.facts;go_wp2_with fail
      refine f7.out.mono ?_;rintro e w3⟨c0,C1,l1,d1,E2,l2,d2,rfl,h7,hb⟩;have j0:Hid (Below wq.heap.size wq w3):=o8.out.trans (hb.mono o8.out.size);have e7:=hid (v7.out.below hb v7.out.lt);have j3:=hid (uU.vAb (uc.of hb) (uU.sub (D':=fun _=>True) (fun _ _ _=>trivial) f0.out))
      have k6:=hid h7;clear hb h7 f7 r1 r2 r3 r4 r5 r6 y6 y7 v7 A6 A7 f0;go_upto_region 18 with(fail)
      obtain⟨X4,hX⟩:∃X,X=w3.alloc (.cells #[.bool c0,.slice C1 l1 d1,.slice E2 l2 d2] 62):=⟨_,rfl⟩;have b7:Below w3.heap.size w3 X4:=by rw[hX];exact aa.alloc ab _
      have c8:Hid (Bk X4 w3.heap.size 62 #[.bool c0,.slice C1 l1 d1,.slice E2 l2 d2]):=by rw[hX];exact Bk.new _ _ _
      have j1:Hid (Below wq.heap.size wq X4):=j0.out.trans (b7.mono j0.out.size);have e8:=hid (e7.out.below b7 e7.out.lt);have j4:=hid (uU.vAb (uc.of b7) j3.out);have f2:=hid (k6.out.below b7);rw[<-hX];clear hX b7 e7 j3 k6;generalize w3.heap.size=rb at *;obtain⟨q8,q9,r0⟩:=c8.out.facts;go_wp2_with fail
      refine(udg X4 0 _ 1100 tv f2.out (by omega)).mono ?_
      rintro e w5⟨rfl,a9⟩;have a2:Hid (Below wq.heap.size wq w5):=j1.out.trans (a9.mono j1.out.size);have j2:=hid (e8.out.below a9 e8.out.lt);have k7:=hid (c8.out.below a9 c8.out.lt);have f1:=hid (uU.vAb (uc.of a9) j4.out);have f3:=hid (f2.out.below a9);clear a9 q8 q9 r0 e8 j4 f2 c8;obtain⟨sg,g2⟩:∃sg,Hid (ujj tv=sg):=⟨_,rfl⟩;rw[g2.out];by_cases g1:sg=0
      ·have HE:Hid (vAh sel (s::ps) (t::qs)=vAh sel (ps) (qs)):=c7.out.1 ((ubf tv).1 (by rw[g2.out,g1]))
       subst g1;go_wp2;go_roundw
       case rel=>exact⟨ps,qs,acc,us,(some ⟨pb,po2,none⟩),pn-1,pc-1,(some ⟨qb,qo2,none⟩),qn-1,qc-1,rfl,rfl,by omega,by omega,by rw[b8.out];omega,hid (uB.vAb (uc.of a2.out) p5.out),hid (uB.vAb (uc.of a2.out) p7.out),hid (HO.out.below uek a2.out),hid (HB.out.trans (a2.out.mono HB.out.size)),hid (by rw[HM.out,HE.out]),hid ⟨fun x h=>c6.out.1 x (by simp[h]),fun x h=>c6.out.2 x (by simp[h])⟩⟩
       case measure=>simp[sliceLen];omega
      ·obtain⟨xt,m8,m9,m6,m7⟩:=c7.out.2 (fun h=>g1 (by rw[<-g2.out];exact(ubf tv).2 h))
       have p9:=hid m7;have p8:=hid m6;rw[<-m8]at f1 a3;rw[<-m9]at f3;have q0:Hid (∀x,Below w5.heap.size w5 x->Calls Tryz.prog 73 #[.agg #[.bool c0,.slice C1 l1 d1,.slice E2 l2 d2]] x (ujh xt.q x)):=fun x hx=>by
        refine(uaq x 0 _ 1100 xt.q.val (f3.out.below hx) (by omega)).mono ?_
        rintro e w2⟨v2,rfl,hr,hb⟩;exact⟨v2,rfl,ub2.ofR p8.out.1 hr,hb⟩
       have q5:Hid (∀x,Below w5.heap.size w5 x->Calls Tryz.prog 74 #[.agg #[.slice A3 n3 c3,.slice A4 n4 c4]] x (uc1 xt.m x)):=fun x hx=>uc2 xt.m _ x (uU.vAb (uc.of hx) f1.out) a3.out.1.1 a3.out.1.2.1 a3.out.1.2.2 a3.out.2
       clear m7 m6 m8 m9 c7 f3 f1 a3;go_upto_region 19 with(fail)
       refine ue (⟨[(rb,0,[.bool c0,.slice C1 l1 d1,.slice E2 l2 d2]),(za+1+1,0,[.slice A3 n3 c3,.slice A4 n4 c4])],[],[udx w5.heap.size xt.q,udn w5.heap.size xt.m,ud1 w5.heap.size xt,ucg w5.heap.size xt],[(10,.v (.slice RA al a4)),(14,.p 1 0),(15,.p 0 0)],[(2,.f 0),(4,.f 1),(5,.f 2),(6,.f 3)]⟩:Sp) [84,85,86,87,88,89,90] w5 (aa.drew) (by kernel_rfl) (by kernel_rfl) (by kernel_rfl) (sI (udx.stays) (sI (udn.stays) (sI (ud1.stays) (sI (ucg.stays) sN)))) (by kernel_rfl)
        (fun x hx=>(mI (ud (k7.out.below hx k7.out.lt)) (mI (ud (j2.out.below hx j2.out.lt)) mN))) (dI (ug [.v (.agg #[.bool c0,.slice C1 l1 d1,.slice E2 l2 d2])] rfl rfl (by kernel_rfl) (by kernel_rfl) fun x vs hx hC hv=>by
         obtain⟨v1,rfl,h1⟩:=ubg hv;obtain rfl:v1 = .agg #[.bool c0,.slice C1 l1 d1,.slice E2 l2 d2]:=h1;refine(q0.out x hx).mono ?_;rintro en w2⟨u,rfl,⟨A3,n3,c3,A4,n4,c4,h1,h2⟩,hb⟩;exact⟨u,rfl,⟨A3,n3,c3,A4,n4,c4,h1,ub2.sub (fun b _ hD=>ag hx.size hD) h2⟩,hb⟩) (
        dI (ug [.v (.agg #[.slice A3 n3 c3,.slice A4 n4 c4])] rfl rfl (by kernel_rfl) (by kernel_rfl) fun x vs hx hC hv=>by
         obtain⟨v1,rfl,h1⟩:=ubg hv;obtain rfl:v1 = .agg #[.slice A3 n3 c3,.slice A4 n4 c4]:=h1;refine(q5.out x hx).mono ?_;rintro en w2⟨u,rfl,⟨A3,n3,c3,A4,n4,c4,h1,h2⟩,hb⟩;exact⟨u,rfl,⟨A3,n3,c3,A4,n4,c4,h1,uU.sub (fun b _ hD=>ag hx.size hD) h2⟩,hb⟩) (
        dI (uX rfl (parts:=[(0,.tmp 86),(1,.tmp 88)]) rfl fun x a hx c9=>by
         obtain⟨A1,n1,c1,A2,n2,c2,h1,h2⟩:=(c9 (.tmp 86) (.f 0) (by kernel_rfl):udx w5.heap.size xt.q (a.eval (.tmp 86)) x)
         obtain⟨A3,n3,c3,A4,n4,c4,h3,h4⟩:=(c9 (.tmp 88) (.f 1) (by kernel_rfl):udn w5.heap.size xt.m (a.eval (.tmp 88)) x)
         refine⟨.agg #[.bool xt.q.neg,.slice A1 n1 c1,.slice A2 n2 c2,.slice A3 n3 c3,.slice A4 n4 c4],?_,A1,n1,c1,A2,n2,c2,A3,n3,c3,A4,n4,c4,rfl,h2,h4⟩;simp only[List.map_cons,List.map_nil,h1,h3];kernel_rfl) (
        dI (uac rfl (parts:=[(0,.tmp 89)]) rfl fun x a hx c9=>by
         obtain⟨A1,n1,c1,A2,n2,c2,A3,n3,c3,A4,n4,c4,h1,h2,h3⟩:=(c9 (.tmp 89) (.f 2) (by kernel_rfl):ud1 w5.heap.size xt (a.eval (.tmp 89)) x)
         refine⟨85,[.bool xt.q.neg,.slice A1 n1 c1,.slice A2 n2 c2,.slice A3 n3 c3,.slice A4 n4 c4],?_,A1,n1,c1,A2,n2,c2,A3,n3,c3,A4,n4,c4,x.heap.size,rfl,Bk.new _ _ _,hx.size,ub2.vAb (uc.of (aa.alloc ab _)) h2,uU.vAb (uc.of (aa.alloc ab _)) h3⟩;simp only[List.map_cons,List.map_nil,h1];kernel_rfl) (dN))))) ?_
       intro S x6 b0 hS;obtain⟨g0,f6,_⟩:S 0 = .slice RA al a4/\(ucg w5.heap.size xt:Value->World->Prop) (S 6) x6/\True:=hS (l:=[(0,.v (.slice RA al a4)),(6,.f 3)]) (by kernel_rfl)
       clear hS;simp only[nv,Nat.reduceAdd,aB,aE,aC,List.drop_zero,g0];clear g0;obtain⟨F1,p1,q1,F2,p2,q2,F3,p3,q3,F4,p4,q4,gb,e5,l4,v0,l5,l7⟩:=(f6:ucg w5.heap.size xt (S 6) x6);rw[e5];generalize hxn:xt.q.neg=xn at *;have e6:Hid (Below wq.heap.size wq x6):=a2.out.trans (b0.mono a2.out.size);have j5:=hid (HO.out.below uek e6.out);have l3:w.heap.size<=x6.heap.size:=by have:=e6.out.size;omega
       have v4:wq.heap.size<=w5.heap.size:=a2.out.size;have HV:Hid (uk9 x6 (fun b=>w.heap.size<=b/\some b≠(Value.slice RA al a4).ownBlock) xt [.bool xn,.slice F1 p1 q1,.slice F2 p2 q2,.slice F3 p3 q3,.slice F4 p4 q4]):=by
        have m5:∀b,b<x6.heap.size->w5.heap.size<=b->w.heap.size<=b/\some b≠(Value.slice RA al a4).ownBlock:=fun b _ hb=>⟨by omega,fun e=>by have:=(HO.out.lt e.symm).2;omega⟩
        refine⟨F1,p1,q1,F2,p2,q2,F3,p3,q3,F4,p4,q4,by rw[hxn],?_,l7.sub m5⟩
        rw[hxn];exact ub2.sub m5 l5
       have f9:=j5.out.1;rw[b8.out]at f9;clear b0 l5 l7;refine uN x6 rfl _ _ 32 85 rfl Tryz.underlying32 5 104 udw (by decide) (by decide) w.heap.size (.slice RA al a4) al (ucr us al) [.bool xn,.slice F1 p1 q1,.slice F2 p2 q2,.slice F3 p3 q3,.slice F4 p4 q4] (by rfl) f9 gb _ l4 (by rfl) rfl (by intro y hy;simp at hy;rcases hy with rfl|rfl|rfl|rfl|rfl<;>rfl) (by omega) l3 ?_
       intro g q6 w7 l8 hg l6 v3;have f8:=j5.out.vBc uek HV.out rfl (g:=g) (cap:=q6) (by rw[b8.out];exact l8) hg l6
       rw[b8.out]at f8;have o9:=hid f8;have q7:∀k,k<w.heap.size->some k≠(Value.slice RA al a4).ownBlock:=fun k hk e=>by have:=(HO.out.lt e.symm).1;omega
       have b2:Hid (Below w.heap.size wq w7):=by
        have h1:Below w.heap.size wq x6:=e6.out.mono x5;exact h1.grown hg l3 (fun k e=>by have:=(HO.out.lt e).1;omega)
       clear f9 l8 l4 l6 hg q7 f8 HV;go_wp2;go_roundw
       case rel=>exact⟨ps,qs,acc++[xt],_,(some ⟨pb,po2,none⟩),pn-1,pc-1,(some ⟨qb,qo2,none⟩),qn-1,qc-1,rfl,rfl,by omega,by omega,by rw[ay,b8.out];simp;omega,hid (uB.vAb ⟨b2.out.size,fun b hb hD=>b2.out.block b hD⟩ p5.out),hid (uB.vAb ⟨b2.out.size,fun b hb hD=>b2.out.block b hD⟩ p7.out),o9,hid (HB.out.trans b2.out),hid (by rw[HM.out,p9.out,aS];rfl),hid ⟨fun x h=>c6.out.1 x (by simp[h]),fun x h=>c6.out.2 x (by simp[h])⟩⟩
       case measure=>simp[sliceLen];omega
  ·have e1:Hid (er=1):=t5.out.2.1 t6.out t0
   rw[uej t0];go_wp2;go_ret2
   have e1:=e1.out;subst e1;exact⟨_,_,_,rfl,o8.out,fun h=>absurd h (by decide)⟩
 ·have e1:Hid (er=1):=t5.out.1 t4
  rw[uej t4];go_wp2;go_ret2
  have e1:=e1.out;subst e1;exact⟨_,_,_,rfl,b1.out,fun h=>absurd h (by decide)⟩
end Go.Proofs.YtnbbpmagijpmpaaGreatDoor
