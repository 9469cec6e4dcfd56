/-
  Polynomials: NonNegative.
-/
import Derived.Test.YtnbbpmagijpmpaaGreatDoorMDu
set_option linter.unusedVariables false
set_option linter.unusedSimpArgs false
namespace Go.Proofs.YtnbbpmagijpmpaaGreatDoor
open Go.Lib (hid)
open Go.RowKit AC
set_option maxHeartbeats 16000000
set_option maxRecDepth 100000
theorem uqo{K:Nat}{D D':Nat->Prop}(l:List Rat)(A:Option Addr)(len cap:Nat)(g:FuncId)(p:Rat->Prop)(w:World)(hs:Sl 5 (RcR K w D) w D' l A len cap)(he:Enters Tryz.prog g)
 (a8:∀(i:Nat) (h:i<l.length) (x:World) (v:List Value),Below w.heap.size w x->RcR K w D l[i] v->Calls Tryz.prog g #[.agg v.toArray] x (uY (.bool (bP (p l[i]))) x)) :
 Calls Tryz.prog 97 #[.slice A len cap,.func (.func g) #[] #[]] w (fun e w'=>((∃i:Nat,e = .returned (.int .i64 (i:Int))/\∃t∈l,p t)\/(e = .returned (.int .i64 (-1))/\∀t∈l,¬p t))/\Below w.heap.size w w'):=by
 unfold Enters at he;have a7:len=l.length:=hs.1;have b1:cap<=maxLen:=hs.2.2.1;have b7:=hs.2.1;have a4:=hid a7;have HS:=hid hs;have a9:=hid a8;unfold maxLen at b1;clear hs a7 a8;go_enter Tryz.func97,Tryz.ntmps97
 go_wp2;go_loopw [8] (fun iv wr=>∃i:Nat,i<=len/\iv = .int .i64 i/\Hid (Below w.heap.size w wr)/\Hid (∀(j:Nat) (h:j<l.length),j<i->¬p l[j])) (fun iv _=>len-(intOf iv).toNat)
 case atStart=>exact⟨0,by omega,rfl,aa,fun j _ h=>absurd h (by omega)⟩
 case round=>
  obtain⟨i,hi,rfl,HB,HG⟩:=hrel;by_cases b8:i<len
  ·have a1:i<l.length:=by have:=a4.out;omega
   obtain⟨b,off,v,rfl,hD,hb,hc,hr⟩:=HS.out.get a1;obtain⟨tn,A1,n1,c1,A2,n2,c2,A3,n3,c3,A4,n4,c4,rfl,hq⟩:=hr;have a0:=hc.sure HB.out hb;have b6:b<wr.heap.size:=af hb HB.out.size;have c0:=a0 0 _ rfl;rw[Nat.add_zero]at c0;have b2:=a0 1 _ rfl;have b3:=a0 2 _ rfl;have b4:=a0 3 _ rfl;have b5:=a0 4 _ rfl;have key:=a9.out i a1 wr _ HB.out ⟨tn,A1,n1,c1,A2,n2,c2,A3,n3,c3,A4,n4,c4,rfl,hq⟩;obtain⟨q,a2⟩:∃q,Hid (bP (p l[i])=q):=⟨_,hid rfl⟩;rw[a2.out]at key;have a5:Hid (q=true↔p l[i]):=by rw[<-a2.out];exact hid uhg
   have b0:=hid key;clear key a0 hc hD hq a2;go_wp2_with fail
   refine b0.out.mono ?_;rintro e w2⟨rfl,a6⟩;have a3:=hid (HB.out.trans (a6.mono HB.out.size));clear a6;cases q with
   | true=>
    go_wp2;go_ret
    exact⟨.inl ⟨i,rfl,l[i],aq a1,a5.out.1 (by first|rfl|trivial)⟩,a3.out⟩
   | false=>
    go_wp2;go_roundw
    case rel=>exact⟨i+1,by omega,by go_num,a3,fun j h hj=>by
     rcases ah j i with h5|h5
     ·exact HG.out j h h5
     ·obtain rfl:j=i:=by omega
      intro hp;have:=a5.out.2 hp;simp at this⟩
    case measure=>simp[intOf];omega
  ·obtain rfl:i=len:=by omega
   go_wp2;go_ret
   exact⟨.inr ⟨rfl,fun t ht=>by
    obtain⟨j,hj,rfl⟩:=aW ht;exact HG.out j hj (by have:=a4.out;omega)⟩,HB.out⟩
theorem ujw{K:Nat}{D D':Nat->Prop}(l:List Rat)(A:Option Addr)(len cap:Nat)(g:FuncId)(p:Rat->Prop)(w:World)(hs:Sl 5 (RcR K w D) w D' l A len cap)(he:Enters Tryz.prog g)
 (a0:∀(i:Nat) (h:i<l.length) (x:World) (v:List Value),Below w.heap.size w x->RcR K w D l[i] v->Calls Tryz.prog g #[.agg v.toArray] x (uY (.bool (bP (p l[i]))) x)) :
 Calls Tryz.prog 49 #[.slice A len cap,.func (.func g) #[] #[]] w (uY (.bool (bP (∃t∈l,p t))) w):=by
 have a1:=hid (uqo l A len cap g p w hs he a0);have QF:Hid ((∀t∈l,¬p t)->bP (∃t∈l,p t)=false):=fun h=>uej fun⟨t,h1,h2⟩=>h t h1 h2
 have QT:Hid ((∃t∈l,p t)->bP (∃t∈l,p t)=true):=fun h=>ue0 h
 generalize bP (∃t∈l,p t)=q at *;clear hs a0;go_enter Tryz.func49,Tryz.ntmps49
 go_wp2_with fail
 refine a1.out.mono ?_;rintro e w2⟨⟨i,rfl,hf⟩|⟨rfl,hf⟩,hb⟩
 ·have e:q=true:=QT.out hf
  have HB:=hid hb;have hi:(0:Int)<=(i:Int):=by omega
  clear hf hb;go_wp2;go_ret
  exact⟨by first|rfl|(rw[e];rfl),HB.out⟩
 ·have e:q=false:=QF.out hf
  have HB:=hid hb;clear hf hb;go_wp2;go_ret
  exact⟨by first|rfl|(rw[e];rfl),HB.out⟩
theorem uqp{K:Nat}{D:Nat->Prop}(hK:K<=4000000000)(q:Rat)(v:List Value)(w x:World)(hx:Below w.heap.size w x)(h:RcR K w D q v):Calls Tryz.prog 50 #[.agg v.toArray] x (uY (.bool (bP (q<0))) x):=by
 obtain⟨tn,A1,n1,c1,A2,n2,c2,A3,n3,c3,A4,n4,c4,rfl,hq⟩:=h;have KS:Hid (∀y,Below x.heap.size x y->Calls Tryz.prog 51 #[.agg #[.bool tn,.slice A1 n1 c1,.slice A2 n2 c2]] y (fun e w'=>e = .returned (.int .i64 (ujj q))/\Below y.heap.size y w')):=fun y hy=>
  udg y 0 _ K q (uK.zero (hq.vBp (hx.trans (hy.mono hx.size)))) (by omega)
 have HZ:Hid (decide (ujj q<0)=bP (q<0)):=by
  show _=_
  by_cases h:q<0
  ·rw[ue0 h,decide_eq_true ((umg q).2 h)]
  ·rw[uej h,aQ fun e=>h ((umg q).1 e)]
 generalize bP (q<0)=r at *;generalize ujj q=z at *;clear hq hx;show Calls Tryz.prog 50 #[.agg #[.bool tn,.slice A1 n1 c1,.slice A2 n2 c2,.slice A3 n3 c3,.slice A4 n4 c4]] x _
 go_enter Tryz.func50,Tryz.ntmps50
 go_upto_region 1 with(fail)
 obtain⟨W,hW⟩:∃W,W=x.alloc (.cells #[.bool tn,.slice A1 n1 c1,.slice A2 n2 c2,.slice A3 n3 c3,.slice A4 n4 c4] 85):=⟨_,rfl⟩;have a0:Hid (Below x.heap.size x W):=by rw[hW];exact aa.alloc ab _
 have HX:Hid (Bk W x.heap.size 85 #[.bool tn,.slice A1 n1 c1,.slice A2 n2 c2,.slice A3 n3 c3,.slice A4 n4 c4]):=by rw[hW];exact Bk.new _ _ _
 rw[<-hW];clear hW;obtain⟨a2,_,_⟩:=HX.out.facts;go_wp2_with fail
 refine(KS.out W a0.out).mono ?_;rintro e w1⟨rfl,hb⟩;have a1:=hid (a0.out.trans (hb.mono a0.out.size));clear hb a2;have e:=HZ.out;subst e;go_wp2;go_ret
 exact⟨rfl,a1.out⟩
set_option maxHeartbeats 200000
set_option maxRecDepth 512
theorem uuo{K:Nat}{D D':Nat->Prop}(hK:K<=4000000000)(l:List Rat)(A:Option Addr)(len cap:Nat)(w:World)(hs:Sl 5 (RcR K w D) w D' l A len cap)(hn:∀q∈l,0<=q) :
 Calls Tryz.prog 24 #[.slice A len cap] w (uY (.bool true) w):=by
 have KC:Hid (Calls Tryz.prog 49 #[.slice A len cap,.func (.func 50) #[] #[]] w (uY (.bool false) w)):=by
  have h:=ujw l A len cap 50 (fun q=>q<0) w hs (enters_of Tryz.func50 (by kernel_rfl) rfl) fun i hi x v hx hr=>uqp hK _ v w x hx hr
  rw[uej (fun⟨t,h1,h2⟩=>(Rat.not_lt.2 (hn t h1)) h2)]at h
  exact h
 clear hs hn;go_enter Tryz.func24,Tryz.ntmps24
 go_wp2_with fail
 refine KC.out.mono ?_;rintro e w1⟨rfl,hb⟩;have HB:=hid hb;clear hb;go_wp2;go_ret
 exact⟨rfl,HB.out⟩
theorem uyn{X:Ctx}{p:List Ter}(h:X.vAl p)(hs:uz p):∀z∈p.map trm,sz z.2<=1000:=fun z hz=>by
 obtain⟨t,ht,rfl⟩:=List.mem_map.1 hz;obtain⟨⟨_,h2,h3⟩,_,_⟩:=((udv X p).1 h).2.1 t ht;have h4:=hs t ht;show max (dl t.q.val.num.natAbs) (dl t.q.val.den)<=1000
 rw[h2.1,h3.1];exact Nat.max_le.2 ⟨h4.1,h4.2.1⟩
theorem usv{X:Ctx}{p:List Ter}(h:X.vAl p)(hs:uz p):∀z∈p.map trm,z.1.vA4:=fun z hz=>by
 obtain⟨t,ht,rfl⟩:=List.mem_map.1 hz;obtain⟨_,_,hm⟩:=((udv X p).1 h).2.1 t ht;obtain⟨h1,h2,h3⟩:=(hs t ht).2.2;refine⟨h1,h2,h3,fun a ha=>?_⟩
 obtain⟨i,hi,rfl⟩:=aW ha;exact⟨(hm.2.2.2 i hi).2.1,(hm.2.2.2 i hi).2.2.1⟩
theorem uFq{w x:World}{p q:List Ter}{A B:Option Addr}{n c m k b:Nat}{T:TypeId}(hp:uB x (· < w.heap.size) p A n c)(hq:uB x (· < w.heap.size) q B m k)(hb:Bk x b T #[.slice A n c,.slice B m k])(hw:w.heap.size<=x.heap.size):uC9 x (· < x.heap.size) [p,q] (some ⟨b,0,none⟩) 2 2:=by
 refine⟨rfl,ab,by unfold maxLen;omega,fun _=>⟨b,0,rfl,hb.lt,hb.lt,fun i hi=>?_⟩⟩
 have a0:i<2:=by simpa using hi
 rcases i with _|_|i
 ·refine⟨[.slice A n c],fun j y hy=>?_,A,n,c,rfl,uB.sub (fun b hb hD=>hb) hp⟩
  have hj:j<1:=(aI.1 hy).1;obtain rfl:j=0:=by omega
  rw[hb.cell];simpa using hy
 ·refine⟨[.slice B m k],fun j y hy=>?_,B,m,k,rfl,uB.sub (fun b hb hD=>hb) hq⟩
  have hj:j<1:=(aI.1 hy).1;obtain rfl:j=0:=by omega
  rw[hb.cell];simpa using hy
 ·omega
theorem TvS.more{K K':Nat}(hK:K<=K'){w:World}{D:Nat->Prop}{l:Pol}{A:Option Addr}{n c:Nat}(h:TvS K w D l A n c):TvS K' w D l A n c:=
 Sl.sub (fun _ _ h=>h) (fun z v h=>by
  obtain⟨b,A1,n1,c1,A2,n2,c2,A3,n3,c3,A4,n4,c4,e,h1,h2⟩:=h;exact⟨b,A1,n1,c1,A2,n2,c2,A3,n3,c3,A4,n4,c4,e,h1.more hK,h2⟩) h
def uFr(w:World)(e:Ending)(w':World):Prop:=e = .returned (.pointer (some ⟨w.heap.size+1,0,none⟩))/\vC8 w' w.heap.size (w.heap.size+1) w.heap.size (.slice none 0 0) [] (fun _=>[])/\Below w.heap.size w w'
set_option maxHeartbeats 16000000
theorem uup(w:World):Calls Tryz.prog 20 #[] w (uFr w):=by
 have a0:= @run_makeMap Tryz.prog;go_enter Tryz.func20,Tryz.ntmps20
 go_wp2;go_ret
 have hb:Below w.heap.size w ((w.alloc (.map #[] 0)).alloc (.cells #[.map (some w.heap.size),.slice none 0 0] 67)):=(aa.alloc ab _).alloc (by simp) _
 refine⟨by simp,⟨uax _ _ _ _,(umn.new w).below (aa.alloc ab _),ucb.nil _ _ _ _ _,(fun g h=>by cases h),⟨by omega,ab,by omega⟩⟩,hb⟩
set_option maxRecDepth 100000
theorem uqq{X:Ctx}(p q:List Ter)(xv:List Value)(A:Option Addr)(n c:Nat)(B:Option Addr)(m k:Nat)(w:World)(hx:uok w (· < w.heap.size) X xv)(hp:uB w (· < w.heap.size) p A n c)(hq:uB w (· < w.heap.size) q B m k)(a2:uz p)(a3:uz q)(hg:Gp w)(c6:X.okP)(a0:X.vAl p)(a1:X.vAl q)(hd:Dom (p.map trm) (q.map trm)) :
 Calls Tryz.prog 8 #[.agg xv.toArray,.slice A n c,.slice B m k] w (uY (.bool true) w):=by
 have KE:Hid (∀(x:World) (b:Nat) (T:TypeId),Below w.heap.size w x->Bk x b T #[.slice A n c,.slice B m k]->Calls Tryz.prog 19 #[.agg xv.toArray,.slice (some ⟨b,0,none⟩) 2 2] x (fun e w'=>(∃sv,e = .returned (.tuple #[sv,.bool true]))/\Below x.heap.size x w')):=fun x b T hb hk=>by
  have h:=uol X [p,q] xv (some ⟨b,0,none⟩) 2 2 x ((hx.vAb (uc.of hb)).sub (fun b f2 _=>f2)) (uFq (uB.vAb (uc.of hb) hp) (uB.vAb (uc.of hb) hq) hk hb.size) (fun r hr=>by
   simp at hr;rcases hr with rfl|rfl
   ·exact a2
   ·exact a3) (hg.below hb hg.2)
  rw[ue0 ⟨c6,fun r hr=>by
   simp at hr;rcases hr with rfl|rfl
   ·exact a0
   ·exact a1⟩]at h
  exact h
 obtain⟨dA,dn,dc,vA,vn,vc,rk,rm,rA,rn,rc,rfl⟩:=hx.form;have c4:=a0.1;have c5:=a1.1;have e9:=hid (uB.tv hp a2);have f0:=hid (uB.tv hq a3);have e1:=hid (uyn a0 a2);have b6:=hid (uyn a1 a3);have e0:=hid (usv a0 a2);have e2:=hid (usv a1 a3);have d4:=hid (((udv X p).1 a0).2.2.dif);have d5:=hid (((udv X q).1 a1).2.2.dif);have d3:=hid hd;have HG:=hid hg;have g1:(p.map trm).length<=1000:=by rw[List.length_map];exact c4
 have b9:(q.map trm).length<=1000:=by rw[List.length_map];exact c5
 generalize p.map trm=P at *;generalize q.map trm=Q at *;clear hx hp hq a2 a3 hg c6 a0 a1 hd c4 c5;show Calls Tryz.prog 8 #[.agg #[.slice dA dn dc,.slice vA vn vc,.int .i64 rk,.int .i64 rm,.slice rA rn rc],.slice A n c,.slice B m k] w _
 go_enter Tryz.func8,Tryz.ntmps8
 go_upto_region 1 with(fail)
 obtain⟨W,hW⟩:∃W,W=w.alloc (.cells #[.slice dA dn dc,.slice vA vn vc,.int .i64 rk,.int .i64 rm,.slice rA rn rc] 27):=⟨_,rfl⟩;have c1:Hid (Below w.heap.size w W):=by rw[hW];exact aa.alloc ab _
 have HX:Hid (Bk W w.heap.size 27 #[.slice dA dn dc,.slice vA vn vc,.int .i64 rk,.int .i64 rm,.slice rA rn rc]):=by rw[hW];exact Bk.new _ _ _
 rw[<-hW];clear hW;obtain⟨f9,_,_⟩:=HX.out.facts;go_wp2_with fail
 have a5:Below w.heap.size w (W.alloc (.cells #[.slice A n c,.slice B m k] 32)):=c1.out.alloc c1.out.size _;refine(KE.out _ W.heap.size 32 a5 (Bk.new _ _ _)).mono ?_;rintro e w1⟨⟨sv,rfl⟩,hb⟩;have a6:Hid (Below w.heap.size w w1):=a5.trans (hb.mono a5.size);clear hb a5 f9;go_wp2_with fail
 refine(uup w1).mono ?_;rintro e w2⟨rfl,c7,hb⟩;have e6:=hid c7;have a7:Hid (Below w.heap.size w w2):=a6.out.trans (hb.mono a6.out.size);have d1:w.heap.size<=w1.heap.size:=a6.out.size;have g4:w1.heap.size<=w2.heap.size:=hb.size;have d6:Hid (Gp w2):=HG.out.below a7.out HG.out.2;have b8:GP<=w1.heap.size:=by have:=HG.out.2;omega
 clear hb c7;generalize w1.heap.size=bs at *;go_wp2_with fail
 refine(uym (D:=(· < w.heap.size)) P A n c w2 ((TvS.vAb (uc.of a7.out) e9.out).more (by decide)) (fun b hb=>⟨by omega,by omega,fun e=>by cases e⟩) e6.out (done:=[]) ⟨vCj.nil,by simp,by simp,fun y hy=>by cases hy⟩ (by simp;omega) (fun z hz=>by have:=e1.out z hz;omega) e0.out d6.out b8).mono ?_
 rintro e w3⟨rfl,g0,l1,g9,c8,b0,f5,a9,f3⟩;rw[List.nil_append,List.take_of_length_le ab]at b0;have e7:=hid c8;have d9:=hid b0;have b3:Hid (Below w.heap.size w w3):=a7.out.trans (a9.mono d1);have g5:w2.heap.size<=w3.heap.size:=a9.size;clear c8 b0 f5 a9 f3;go_wp2_with fail
 refine(uij w3 (-1) (by decide) (by decide)).mono ?_
 rintro e w4⟨rv,rfl,b2,hb⟩;obtain⟨R1,r2,R2,r4,rfl,_,_⟩:=uaj.form b2;have a8:Hid (Below w.heap.size w w4):=b3.out.trans (hb.mono b3.out.size);have a4:=hid (e7.out.below hb);have e3:Hid (ufi w4 0 (.agg #[.bool (decide ((mkRat (-1) 1).num<0)),.slice R1 (dl (mkRat (-1) 1).num.natAbs) r2,.slice R2 (dl (mkRat (-1) 1).den) r4]) 3 (mkRat (-1) 1)):=(ud5.lower b2 (Nat.zero_le _)).toV (uet (-1) 1 (by decide) (by decide) (by decide))
 have g6:w3.heap.size<=w4.heap.size:=hb.size;have f7:∀g,g0.ownBlock=some g->g<w4.heap.size:=fun g hg=>(a4.out.row.lt hg).2
 clear hb b2;generalize (decide ((mkRat (-1) 1).num<0))=rb at *;generalize dl (mkRat (-1) 1).num.natAbs=r1 at *;generalize dl (mkRat (-1) 1).den=r3 at *;go_wp2_with fail
 refine(uun (D:=(· < w.heap.size)) Q B m k w4 (TvS.vAb (uc.of a8.out) f0.out) b9 b6.out rb R1 r1 r2 R2 r3 r4 e3.out).mono ?_
 rintro e w5⟨SA,sn,sc,rfl,d0,hb⟩;have f1:=hid d0;have b4:Hid (Below w.heap.size w w5):=a8.out.trans (hb.mono a8.out.size);have e8:=hid (a4.out.below hb);have d7:Hid (Gp w5):=HG.out.below b4.out HG.out.2;have g7:w4.heap.size<=w5.heap.size:=hb.size;have g3:bs+1<w4.heap.size:=a4.out.blk.lt;clear hb d0;have g2:(ngP Q).length<=1000:=by unfold ngP;rw[List.length_map];exact b9
 go_wp2_with fail
 refine(uym (D:=fun b=>b<w.heap.size\/w4.heap.size<=b) (ngP Q) SA sn sc w5 f1.out (fun b hb=>by
  have h1:b<w.heap.size\/w4.heap.size<=b:=hb;refine⟨by omega,by omega,fun e=>?_⟩
  have h2:=f7 b e.symm;have h3:=(a4.out.own b e.symm).1;omega) e8.out d9.out (by omega) (fun z hz=>by
  unfold ngP at hz;obtain⟨y,hy,rfl⟩:=List.mem_map.1 hz;have h1:=b6.out y hy;have h2:=uCh y.2 (mkRat (-1) 1);have h3:=uet (-1) 1 (by decide) (by decide) (by decide)
  show sz (y.2*mkRat (-1) 1)<=2000
  omega) (fun z hz=>by
  unfold ngP at hz;obtain⟨y,hy,rfl⟩:=List.mem_map.1 hz;exact e2.out y hy) d7.out b8).mono ?_
 rintro e w6⟨rfl,g8,l2,h0,c9,b1,f6,c2,f4⟩;rw[List.take_of_length_le ab]at b1;have b7:=hid c9;have d8:Hid (∀z∈l2,(0:Rat)<=z.2):=vCj.vDb b1.1 d4.out d5.out d3.out;have b5:Hid (Below w.heap.size w w6):=b4.out.trans (c2.mono d1);clear c9 b1 f6 c2 f4;obtain⟨A3,n3,c3,h3,c0⟩:=b7.out.row.done (uyi _ _);subst h3;have e4:=hid c0;have e5:Hid (Bk w6 (bs+1) 67 #[.map (some bs),.slice A3 n3 c3]):=b7.out.blk;clear c0;obtain⟨f8,_,_⟩:=e5.out.facts;go_wp2_with fail
 refine(uuo (K:=5000000) (D:=fun b=>0<=b/\(b≠bs+1/\b≠bs)) (D':=(0 <= ·)) (by decide) (l2.map Prod.snd) A3 n3 c3 w6 e4.out (fun r hr=>by
  obtain⟨z,hz,rfl⟩:=List.mem_map.1 hr;exact d8.out z hz)).mono ?_
 rintro e w7⟨rfl,hb⟩;have d2:Hid (Below w.heap.size w w7):=b5.out.trans (hb.mono b5.out.size);clear hb f8;go_wp2;go_ret
 exact⟨rfl,d2.out⟩
set_option maxHeartbeats 200000
set_option maxRecDepth 512
def TrP(P:Prop)(w:World)(e:Ending)(w':World):Prop:=∃r,e = .returned (.bool r)/\Below w.heap.size w w'/\(r=true->P)
set_option maxHeartbeats 16000000
theorem uyo(b:Bool)(A:Option Addr)(n c:Nat)(B:Option Addr)(m k:Nat)(w:World)(hn:n<=9223372036854775807)(hm:m<=9223372036854775807):Calls Tryz.prog 35 #[.agg #[.bool b,.slice A n c,.slice B m k]] w (TrP (n<=2/\m<=2) w):=by
 go_enter Tryz.func35,Tryz.ntmps35
 by_cases h:n<=2
 ·by_cases h2:m<=2
  ·go_wp2
   go_ret
   exact⟨_,rfl,aa.alloc ab _,fun _=>⟨h,h2⟩⟩
  ·go_wp2
   go_ret
   exact⟨false,by simp;omega,aa.alloc ab _,fun h=>by cases h⟩
 ·go_wp2
  go_ret
  exact⟨false,by simp,aa.alloc ab _,fun h=>by cases h⟩
set_option maxHeartbeats 200000
def uFs(i:Ix)(L:Int)(w:World)(e:Ending)(w':World):Prop:=∃r:Int,e = .returned (.int .i64 r)/\(1<=r/\r<=max L 0+1)/\(r<=L->(i.sz:Int)=r)/\Below w.heap.size w w'
theorem uB9{l:List Ix}{j:Nat}(h:j<l.length):szs (l.take (j+1))=szs (l.take j)+l[j].sz:=by
 have key:∀(a b:List Ix),szs (a++b)=szs a+szs b:=by
  intro a;induction a with
  | nil=>intro b;rw[List.nil_append,szs];omega
  | cons x a ih=>intro b;rw[List.cons_append,szs,szs,ih];omega
 rw[aJ h,key,szs,szs];omega
set_option maxHeartbeats 16000000
set_option maxRecDepth 100000
theorem uyp{D:Nat->Prop}:∀(N:Nat) (i:Ix) (L:Int) (h1 : -1<=L) (hL:L<N) (hN:N<=100) (v:List Value) (w:World) (h:IxR w D i v),Calls Tryz.prog 71 #[.agg v.toArray,.int .i64 L] w (uFs i L w):=by
 intro N;induction N with
 | zero=>
  intro i L h1 hL hN v w h;have b5:L = -1:=by omega
  have a5:=Ix.vBj i;obtain⟨A,n,c,rfl,hs,hk⟩:=h.form;have a4:c<=maxLen:=hs.2.2.1;have b7:=hs.2.1;unfold maxLen at a4;generalize i.k=x0 at *;clear hs h a5;subst b5;show Calls Tryz.prog 71 #[.agg #[.int .i64 x0,.slice A n c],.int .i64 (-1)] w _
  go_enter Tryz.func71,Tryz.ntmps71
  go_upto_region 2 with(fail)
  obtain⟨W,hW⟩:∃W,W=w.alloc (.cells #[.int .i64 x0,.slice A n c] 120):=⟨_,rfl⟩;have a0:Hid (Below w.heap.size w W):=by rw[hW];exact aa.alloc ab _
  have HP:Hid (Bk W w.heap.size 120 #[.int .i64 x0,.slice A n c]):=by rw[hW];exact Bk.new _ _ _
  rw[<-hW];clear hW;obtain⟨a7,_,_⟩:=HP.out.facts;go_wp2;refine wp_loop_once ?_;by_cases b6:n=0
  ·subst b6
   go_wp2;go_ret
   exact⟨1,rfl,by omega,fun h=>absurd h (by omega),a0.out⟩
  ·have c3:0<n:=by omega
   go_wp2;go_ret
   exact⟨1,rfl,by omega,fun h=>absurd h (by omega),a0.out⟩
 | succ N ih=>
  intro i L h1 hL hN v w h;have IH:=hid ih;have a5:=Ix.vBj i;obtain⟨A,n,c,rfl,hs,hk⟩:=h.form;have hn:n=i.l.length:=hs.1;have a4:c<=maxLen:=hs.2.2.1;have b7:=hs.2.1;unfold maxLen at a4;unfold uFs;generalize i.k=x0 at *;have b2:Hid (((i.sz:Nat):Int)=1+(szs i.l:Nat)):=by show _=_;omega
  generalize i.sz=b9 at *;generalize i.l=l at *;have HS:=hid hs;have HN:=hid hn;clear hs hn h hk a5 ih;show Calls Tryz.prog 71 #[.agg #[.int .i64 x0,.slice A n c],.int .i64 L] w _
  go_enter Tryz.func71,Tryz.ntmps71
  go_upto_region 2 with(fail)
  obtain⟨W,hW⟩:∃W,W=w.alloc (.cells #[.int .i64 x0,.slice A n c] 120):=⟨_,rfl⟩;have a0:Hid (Below w.heap.size w W):=by rw[hW];exact aa.alloc ab _
  have HP:Hid (Bk W w.heap.size 120 #[.int .i64 x0,.slice A n c]):=by rw[hW];exact Bk.new _ _ _
  rw[<-hW];clear hW;obtain⟨a7,_,_⟩:=HP.out.facts;go_wp2;clear a7;go_loopw [5,10] (fun nv jv wr=>∃(j:Nat) (s:Int),j<=n/\jv = .int .i64 j/\nv = .int .i64 s/\(1<=s/\s<=max L 0+1)/\Hid (s<=L->s=1+(szs (l.take j):Nat))/\Hid (Below w.heap.size w wr)/\Hid (Bk wr w.heap.size 120 #[.int .i64 x0,.slice A n c])) (fun _ jv _=>n-(intOf jv).toNat)
  case atStart=>exact⟨0,1,by omega,rfl,rfl,by omega,hid (fun _=>by rw[List.take_zero,szs];rfl),a0,HP⟩
  case round=>
   obtain⟨j,s,hj,rfl,rfl,a9,HI,HB,a2⟩:=hrel;by_cases c2:j<n
   ·have a6:j<l.length:=by have:=HN.out;omega
    obtain⟨b8,_,_⟩:=a2.out.facts;by_cases c5:s>L
    ·go_wp2
     go_ret
     exact⟨s,rfl,a9,fun h=>absurd h (by omega),HB.out⟩
    ·have hS:IxS wr D l A n c:=IxS.vAb (uc.of HB.out) HS.out
     obtain⟨b,off,v,rfl,hD,hb,hc,hr⟩:=hS.get a6;obtain⟨A',n',c',rfl,_,_⟩:=hr.form;have c0:=hc 0 _ rfl;rw[Nat.add_zero]at c0;have c1:=hc 1 _ rfl;have b4:Hid (∀x,Below wr.heap.size wr x->Calls Tryz.prog 71 #[.agg #[.int .i64 l[j].k,.slice A' n' c'],.int .i64 (L-s)] x (uFs l[j] (L-s) x)):=fun x hx=>IH.out l[j] (L-s) (by omega) (by omega) (by omega) _ x (hr.vAb (uc.of hx))
     have b3:=hid (uB9 a6);generalize l[j]=kd at *;generalize kd.k=y0 at *;clear hr hc hD hS;go_wp2_with fail
     refine(b4.out _ aa).mono ?_;rintro e w2⟨r,rfl,c4,a8,a3⟩;have b0:=hid (HB.out.trans (a3.mono HB.out.size));have b1:=hid (a2.out.below a3 a2.out.lt);have a1:Hid (s+r<=L->s+r=1+(szs (l.take (j+1)):Nat)):=fun h=>by
      have h1:=HI.out (by omega)
      have h2:=a8 (by omega)
      have h3:=b3.out;omega
     clear a3 a8 c0 c1 b8;go_wp2;go_roundw
     case rel=>exact⟨j+1,s+r,by omega,by go_num,rfl,by omega,a1,b0,b1⟩
     case measure=>simp[intOf];omega
   ·obtain rfl:j=n:=by omega
    have a1:Hid (s<=L->(b9:Int)=s):=fun h=>by
     have h1:=HI.out h;rw[List.take_of_length_le (by have:=HN.out;omega)]at h1
     have:=b2.out;omega
    go_wp2;go_ret
    exact⟨s,rfl,a9,a1.out,HB.out⟩
theorem uyq{D:Nat->Prop}(m:Mon)(mv:List Value)(w:World)(h:uU w D m mv):Calls Tryz.prog 36 #[.agg mv.toArray] w (TrP m.small w):=by
 obtain⟨A,n,c,A',n',c',rfl,a2,a1⟩:=h;have hn:n=m.fs.length:=a2.1;have b3:n'=m.ats.length:=a1.1;have d3:=a2.2.1;have d4:=a1.2.1;have b9:c<=maxLen:=a2.2.2.1;have c3:c'<=maxLen:=a1.2.2.1;unfold maxLen at b9 c3;have HN:=hid hn;have b5:=hid b3;have HF:=hid a2;have HA:=hid a1;have b7:Hid (n<=4->n'<=4->(∀(j:Nat) (h:j<m.fs.length),m.fs[j].i.sz<=12)->m.small):=fun h1 h2 h3=>⟨by omega,by omega,fun f hf=>by
  obtain⟨j,hj,rfl⟩:=aW hf;have:=h3 j hj;omega⟩
 clear hn b3 a2 a1;show Calls Tryz.prog 36 #[.agg #[.slice A n c,.slice A' n' c']] w _
 go_enter Tryz.func36,Tryz.ntmps36
 go_upto_region 1 with(fail)
 obtain⟨W,hW⟩:∃W,W=w.alloc (.cells #[.slice A n c,.slice A' n' c'] 83):=⟨_,rfl⟩;have a7:Hid (Below w.heap.size w W):=by rw[hW];exact aa.alloc ab _
 have HP:Hid (Bk W w.heap.size 83 #[.slice A n c,.slice A' n' c']):=by rw[hW];exact Bk.new _ _ _
 rw[<-hW];clear hW;obtain⟨c7,_,_⟩:=HP.out.facts;by_cases d1:n>4
 ·go_wp2
  go_ret
  exact⟨false,rfl,a7.out,fun h=>by cases h⟩
 by_cases d2:n'>4
 ·go_wp2
  go_ret
  exact⟨false,rfl,a7.out,fun h=>by cases h⟩
 go_wp2;clear c7;go_loopw [18] (fun jv wr=>∃(j:Nat),j<=n/\jv = .int .i64 j/\Hid (∀(i:Nat) (h:i<m.fs.length),i<j->m.fs[i].i.sz<=12)/\Hid (Below w.heap.size w wr)/\Hid (Bk wr w.heap.size 83 #[.slice A n c,.slice A' n' c'])) (fun jv _=>n-(intOf jv).toNat)
 case atStart=>exact⟨0,by omega,rfl,hid (fun i _ h=>absurd h (by omega)),a7,HP⟩
 case round=>
  obtain⟨j,hj,rfl,HI,HB,a0⟩:=hrel;by_cases c6:j<n
  ·have c5:j<m.fs.length:=by have:=HN.out;omega
   have hS:uhl wr D m.fs A n c:=uhl.vAb (uc.of HB.out) HF.out;obtain⟨b,off,v,rfl,hD,hb,hc,b0,B,kn,kc,rfl,a5⟩:=hS.get c5;have c0:=hc 0 _ rfl;rw[Nat.add_zero]at c0;have c1:=hc 1 _ rfl;have c2:=hc 2 _ rfl;have b8:=hid (uyp 14 m.fs[j].i 13 (by omega) (by omega) (by omega) _ wr a5)
   have a6:Hid (m.fs[j].i.sz<=12->∀(i:Nat) (h:i<m.fs.length),i<j+1->m.fs[i].i.sz<=12):=fun h i hi c8=>by
    rcases ah i j with h5|h5
    ·exact HI.out i hi h5
    ·obtain rfl:i=j:=by omega
     exact h
   generalize m.fs[j]=fd at *;generalize fd.v=y0 at *;generalize fd.i.k=y1 at *;obtain⟨a3,_,_⟩:=a0.out.facts;clear a5 b0 hc hD hS;go_wp2_with fail
   refine b8.out.mono ?_;rintro e w2⟨r,rfl,d5,a9,a4⟩;have b1:=hid (HB.out.trans (a4.mono HB.out.size));have b6:=hid (a0.out.below a4 a0.out.lt);by_cases hr:r>12
   ·clear a4 a9 c0 c1 c2 a3
    go_wp2;go_ret
    exact⟨false,rfl,b1.out,fun h=>by cases h⟩
   ·have b4:=hid (a6.out (by have:=a9 (by omega);omega))
    clear a4 a9 c0 c1 c2 a3;go_wp2;go_roundw
    case rel=>exact⟨j+1,by omega,by go_num,b4,b1,b6⟩
    case measure=>simp[intOf];omega
  ·obtain rfl:j=n:=by omega
   have a6:=hid (b7.out (by omega) (by omega) fun i hi=>HI.out i hi (by have:=HN.out;omega))
   obtain⟨a3,_,_⟩:=a0.out.facts;go_wp2;clear a3;obtain⟨V1,b2⟩:∃x,x=wr:=⟨_,rfl⟩;rw[<-b2]at HB a0 ⊢;clear b2;go_loopw [33] (fun jv wr=>∃(j:Nat),j<=n'/\jv = .int .i64 j/\wr=V1) (fun jv _=>n'-(intOf jv).toNat)
   case atStart=>exact⟨0,by omega,rfl,rfl⟩
   case round=>
    obtain⟨i,hi,rfl,rfl⟩:=hrel;obtain⟨a3,_,_⟩:=a0.out.facts;by_cases c6:i<n'
    ·have c4:i<m.ats.length:=by have:=b5.out;omega
     have hS:uht wr D m.ats A' n' c':=uht.vAb (uc.of HB.out) HA.out;obtain⟨b,off,v,rfl,hD,hb,hc,b0,B,kn,kc,rfl,a5⟩:=hS.get c4;have c0:=hc 0 _ rfl;rw[Nat.add_zero]at c0;have c1:=hc 1 _ rfl;have c2:=hc 2 _ rfl;obtain⟨_,_,_,_,e4,a8⟩:=a5;have hk:=a8.2.2.1;have c9:=a8.2.1;simp only[List.cons.injEq,Value.slice.injEq,true_and,and_true]at e4;obtain⟨rfl,rfl,rfl⟩:=e4;unfold maxLen at hk;clear a8 b0 hc hD hS;by_cases d0:kn>4
     ·go_wp2
      go_ret
      exact⟨false,rfl,HB.out,fun h=>by cases h⟩
     ·go_wp2
      go_roundw
      case rel=>exact⟨i+1,by omega,by go_num,(by first|rfl|trivial)⟩
      case measure=>simp[intOf];omega
    ·obtain rfl:i=n':=by omega
     go_wp2;go_ret
     exact⟨true,rfl,HB.out,fun _=>a6.out⟩
theorem uox{D:Nat->Prop}(p:List Ter)(A:Option Addr)(n c:Nat)(w:World)(h:uB w D p A n c):Calls Tryz.prog 13 #[.slice A n c,.int .i64 5] w (TrP (uz p) w):=by
 have hn:n=p.length:=h.1;have c8:=h.2.1;have b4:c<=maxLen:=h.2.2.1;unfold maxLen at b4;have HF:=hid h;have HN:=hid hn;have b3:Hid ((∀(j:Nat) (h:j<p.length),p[j].small)->uz p):=fun h t ht=>by
  obtain⟨j,hj,rfl⟩:=aW ht;exact h j hj
 clear h hn;go_enter Tryz.func13,Tryz.ntmps13
 by_cases c7:n>5
 ·go_wp2
  go_ret
  exact⟨false,rfl,aa,fun h=>by cases h⟩
 go_wp2;go_loopw [12] (fun jv wr=>∃(j:Nat),j<=n/\jv = .int .i64 j/\Hid (∀(i:Nat) (h:i<p.length),i<j->p[i].small)/\Hid (Below w.heap.size w wr)) (fun jv _=>n-(intOf jv).toNat)
 case atStart=>exact⟨0,by omega,rfl,hid (fun i _ h=>absurd h (by omega)),hid aa⟩
 case round=>
  obtain⟨j,hj,rfl,HI,HB⟩:=hrel;by_cases c6:j<n
  ·have b6:j<p.length:=by have:=HN.out;omega
   have hS:uB wr D p A n c:=uB.vAb (uc.of HB.out) HF.out;obtain⟨b,off,v,rfl,hD,hb,hc,hr⟩:=hS.get b6;obtain⟨A1,n1,c1,A2,n2,c2,A3,n3,c3,A4,n4,c4,rfl,b5,a8⟩:=hr;have d0:=hc 0 _ rfl;rw[Nat.add_zero]at d0;have d1:=hc 1 _ rfl;have d2:=hc 2 _ rfl;have d3:=hc 3 _ rfl;have d4:=hc 4 _ rfl;obtain⟨_,_,_,_,_,_,e,a1,a2⟩:=b5;simp only[List.cons.injEq,Value.slice.injEq,true_and,and_true,Value.bool.injEq]at e;obtain⟨⟨rfl,rfl,rfl⟩,rfl,rfl,rfl⟩:=e;have b9:n1=p[j].q.num.length:=a1.2.1;have c0:n2=p[j].q.den.length:=a2.2.1;have b7:=ag a1.2.2.1 a1.2.2.2.1;have b8:=ag a2.2.2.1 a2.2.2.2.1;unfold maxLen at b7 b8;have a4:Hid (n1<=2/\n2<=2->p[j].m.small->∀(i:Nat) (h:i<p.length),i<j+1->p[i].small):=fun h h' i hi c5=>by
    rcases ah i j with h5|h5
    ·exact HI.out i hi h5
    ·obtain rfl:i=j:=by omega
     exact⟨by omega,by omega,h'⟩
   have a6:=hid a8;generalize p[j]=t0 at *;obtain⟨tn,a9⟩:∃tn,t0.q.neg=tn:=⟨_,rfl⟩;rw[a9]at d0;clear b9 c0 a1 a2 a8 hc hD hS a9;go_wp2_with fail
   refine(uyo tn A1 n1 c1 A2 n2 c2 wr (by omega) (by omega)).mono ?_
   rintro e w2⟨r,rfl,a0,hr⟩;have a3:=hid (HB.out.trans (a0.mono HB.out.size));have e0:=(World.cell?_of_block (a0.block _ hb)).trans d0;have e1:=(World.cell?_of_block (a0.block _ hb)).trans d1;have e2:=(World.cell?_of_block (a0.block _ hb)).trans d2;have e3:=(World.cell?_of_block (a0.block _ hb)).trans d3;have e4:=(World.cell?_of_block (a0.block _ hb)).trans d4;have b1:=hid (uU.vAb (uc.of a0) a6.out);have HR:=hid hr;clear a0 hr d0 d1 d2 d3 d4 a6;cases r with
   | false=>
    go_wp2;go_ret
    exact⟨false,rfl,a3.out,fun h=>by cases h⟩
   | true=>
    go_wp2_with fail
    refine(uyq t0.m _ w2 b1.out).mono ?_;rintro e w3⟨r,rfl,a7,hr⟩;have a5:=hid (a3.out.trans (a7.mono a3.out.size));have b2:=hid hr;clear a7 hr e0 e1 e2 e3 e4;cases r with
    | false=>
     go_wp2;go_ret
     exact⟨false,rfl,a5.out,fun h=>by cases h⟩
    | true=>
     have b0:=hid (a4.out (HR.out (by first|rfl|trivial)) (b2.out (by first|rfl|trivial)))
     go_wp2;go_roundw
     case rel=>exact⟨j+1,by omega,by go_num,b0,a5⟩
     case measure=>simp[intOf];omega
  ·obtain rfl:j=n:=by omega
   have a4:=hid (b3.out fun i hi=>HI.out i hi (by have:=HN.out;omega))
   go_wp2;go_ret
   exact⟨true,rfl,HB.out,fun _=>a4.out⟩
theorem uuq{D:Nat->Prop}(b:List Ter×List Ter)(v:List Value)(w:World)(h:uuk w D b v):Calls Tryz.prog 6 #[.agg v.toArray] w (TrP (uz b.1/\uz b.2) w):=by
 obtain⟨A,n,c,B,m,k,rfl,h1,h2⟩:=h;have K1:Hid (∀x,Below w.heap.size w x->Calls Tryz.prog 13 #[.slice A n c,.int .i64 5] x (TrP (uz b.1) x)):=fun x hx=>uox b.1 A n c x (uB.vAb (uc.of hx) h1)
 have K2:Hid (∀x,Below w.heap.size w x->Calls Tryz.prog 13 #[.slice B m k,.int .i64 5] x (TrP (uz b.2) x)):=fun x hx=>uox b.2 B m k x (uB.vAb (uc.of hx) h2)
 clear h1 h2;show Calls Tryz.prog 6 #[.agg #[.slice A n c,.slice B m k]] w _
 go_enter Tryz.func6,Tryz.ntmps6
 go_upto_region 1 with(fail)
 obtain⟨W,hW⟩:∃W,W=w.alloc (.cells #[.slice A n c,.slice B m k] 34):=⟨_,rfl⟩;have a2:Hid (Below w.heap.size w W):=by rw[hW];exact aa.alloc ab _
 have HP:Hid (Bk W w.heap.size 34 #[.slice A n c,.slice B m k]):=by rw[hW];exact Bk.new _ _ _
 rw[<-hW];clear hW;obtain⟨a7,_,_⟩:=HP.out.facts;go_wp2_with fail
 refine(K1.out W a2.out).mono ?_;rintro e w2⟨r,rfl,a1,hr⟩;have a0:=hid (a2.out.trans (a1.mono a2.out.size));have a5:=hid (HP.out.below a1 HP.out.lt);have HR:=hid hr;clear a1 hr a7;obtain⟨a8,_,_⟩:=a5.out.facts;cases r with
 | false=>
  go_wp2;go_ret
  exact⟨false,rfl,a0.out,fun h=>by cases h⟩
 | true=>
  go_wp2_with fail
  refine(K2.out w2 a0.out).mono ?_;rintro e w3⟨r,rfl,a3,hr⟩;have a4:=hid (a0.out.trans (a3.mono a0.out.size));have a6:=hid hr;clear a3 hr a8;go_wp2;go_ret
  exact⟨r,by cases r<;>rfl,a4.out,fun h=>⟨HR.out (by first|rfl|trivial),a6.out h⟩⟩
set_option maxRecDepth 512
theorem uoy(dA:Option Addr)(dn dc:Nat)(vA:Option Addr)(vn vc:Nat)(rk rm:Int)(rA:Option Addr)(rn rc:Nat)(w:World)(h1:dn<=9223372036854775807)(h2:vn<=9223372036854775807):Calls Tryz.prog 5 #[.agg #[.slice dA dn dc,.slice vA vn vc,.int .i64 rk,.int .i64 rm,.slice rA rn rc]] w (TrP True w):=by
 go_enter Tryz.func5,Tryz.ntmps5
 by_cases h:dn<=2
 ·by_cases h2:vn<=6
  ·go_wp2
   go_ret
   exact⟨_,rfl,aa.alloc ab _,fun _=>trivial⟩
  ·go_wp2
   go_ret
   exact⟨_,rfl,aa.alloc ab _,fun _=>trivial⟩
 ·go_wp2
  go_ret
  exact⟨_,rfl,aa.alloc ab _,fun _=>trivial⟩
end Go.Proofs.YtnbbpmagijpmpaaGreatDoor
