/-
  Polynomials: canonical.
-/
import Derived.Test.YtnbbpmagijpmpaaGreatDoorMBf
set_option linter.unusedVariables false
set_option linter.unusedSimpArgs false
namespace Go.Proofs.YtnbbpmagijpmpaaGreatDoor
open Go.Lib (hid)
open Go.RowKit AC
def uC6(q:Cof):Prop:=q.neg=decide (q.val.num<0)/\eqL (dl q.val.num.natAbs) q.num.length (dg q.val.num.natAbs) (fun i=>q.num.getD i 0)/\eqL (dl q.val.den) q.den.length (dg q.val.den) (fun i=>q.den.getD i 0)
def Ter.small(t:Ter):Prop:=t.q.num.length<=1000/\t.q.den.length<=1000/\t.m.small
def dT:Ter:=⟨⟨false,[],[]⟩,⟨[],[]⟩⟩
def Ctx.vCw(X:Ctx)(p:List Ter)(i:Nat):Prop:=uC6 (p.getD i dT).q/\(p.getD i dT).q.val≠0/\X.vBx (p.getD i dT).m/\(0<i->uc9 (p.getD (i-1) dT).m (p.getD i dT).m<0)
def Ctx.vAl(X:Ctx)(p:List Ter):Prop:=p.length<=1000/\∀i,i<p.length->X.vCw p i
theorem ubf(q:Rat):ujj q=0↔q=0:=by
 unfold ujj;rw[Int.sign_eq_zero_iff_zero];exact Rat.num_eq_zero
theorem ubz.of{w:World}{lo:Nat}{v:Value}{n:Nat}(h:uL w lo v n):ubz w (lo <= ·) v (dl n) (dg n):=h
theorem uK.zero{w:World}{D:Nat->Prop}{v:Value}{K:Nat}{q:Rat}(h:uK w D v K q):ufi w 0 v K q:=uK.toV (h.vAb ab fun b hb _=>⟨rfl,Nat.zero_le _⟩)
set_option maxHeartbeats 16000000
set_option maxRecDepth 100000
theorem ux4{D:Nat->Prop}{lo sb mb pb:Nat}{X:Ctx}(p:List Ter)(A:Option Addr)(n c:Nat)(w:World)(h:uB w D p A n c)(j0:∀t∈p,t.small)(hD:∀b,D b->b≠mb)(hs:SpI w lo sb mb pb X) :
 Calls Tryz.prog 43 #[.pointer (some ⟨sb,0,none⟩),.slice A n c] w (fun e w'=>e = .returned (.bool (bP (X.vAl p)))/\SpP w lo sb mb pb X w'):=by
 have hn:n=p.length:=h.1;have o3:=h.2.1;have a5:c<=maxLen:=h.2.2.1;unfold maxLen at a5;have QL:Hid (¬n<=1000->bP (X.vAl p)=false):=fun h=>uej fun hc=>h (by rw[hn];exact hc.1)
 have l8:Hid (∀i,i<p.length->¬X.vCw p i->bP (X.vAl p)=false):=fun i h hn=>uej fun hp=>hn (hp.2 i h)
 have QT:Hid (n<=1000->(∀i,i<p.length->X.vCw p i)->bP (X.vAl p)=true):=fun h1 h2=>ue0 ⟨by rw[<-hn];exact h1,h2⟩
 generalize bP (X.vAl p)=q at *;have HN:=hid hn;have HF:=hid h;have l4:Hid (∀i (h:i<p.length),p[i].small):=fun i h=>j0 _ (aq h)
 have HD:=hid hD;have HS:=hid hs;have o0:=hs.mlt;have f8:=hid (SpP.of hs aa);clear hn h j0 hD hs;go_enter Tryz.func43,Tryz.ntmps43
 by_cases h6:n<=1000
 ·have k8:=hid h6
  go_wp2;go_loopw [14] (fun iv wr=>∃(i:Nat),i<=n/\iv = .int .i64 i/\Hid (SpP w lo sb mb pb X wr)/\Hid (∀j,j<i->X.vCw p j)) (fun iv _=>n-(intOf iv).toNat)
  case atStart=>exact⟨0,by omega,rfl,f8,fun j h=>absurd h (by omega)⟩
  case round=>
   obtain⟨i,hi,rfl,HG,HI⟩:=hrel;by_cases a6:i<n
   ·have e0:i<p.length:=by have:=HN.out;omega
    have hF:uB wr D p A n c:=uB.vAb (ug1 HG.out.1 HD.out) HF.out;obtain⟨b,off,v,rfl,g7,hb,hc,hr⟩:=hF.get e0;obtain⟨A1,n1,c1,A2,n2,c2,A3,n3,c3,A4,n4,c4,rfl,f3,h4⟩:=hr;have d0:=hc 0 _ rfl;rw[Nat.add_zero]at d0;have d1:=hc 1 _ rfl;have d2:=hc 2 _ rfl;have d3:=hc 3 _ rfl;have d4:=hc 4 _ rfl;have f4:p.getD i dT=p[i]:=by rw[aj,ai e0];rfl
    have QF:=hid (l8.out i e0);have m4:=l4.out i e0;have a7:Hid (X.vCw p i->∀j,j<i+1->X.vCw p j):=fun hx j hj=>by
     rcases ah j i with h5|h5
     ·exact HI.out j h5
     ·obtain rfl:j=i:=by omega
      exact hx
    unfold Ctx.vCw at QF a7;have f9:Hid (uC6 p[i].q/\p[i].q.val≠0/\X.vBx p[i].m/\(0<i->uc9 (p.getD (i-1) dT).m p[i].m<0)->∀j,j<i+1->X.vCw p j):=by
     rw[f4]at a7;exact a7
    rw[f4]at QF;clear a7;have a7:=f9;clear f9;obtain⟨pm,e5⟩:∃pm,(p.getD (i-1) dT).m=pm:=⟨_,rfl⟩;have l0:Hid (0<i->∃bn B1 k1 e1 B2 k2 e2 B3 k3 e3 B4 k4 e4,um wr b (off+(i-1)*5) [.bool bn,.slice B1 k1 e1,.slice B2 k2 e2,.slice B3 k3 e3,.slice B4 k4 e4]/\uU wr D pm [.slice B3 k3 e3,.slice B4 k4 e4]):=fun h0=>by
     have hi1:i-1<p.length:=by omega
     obtain⟨b',o7,v,e,_,_,l9,B1,k1,e1,B2,k2,e2,B3,k3,e3,B4,k4,e4,rfl,_,m3⟩:=hF.get hi1;injection e with e;injection e with ea eb;subst ea;subst eb;rw[aj,ai hi1]at e5;subst e5;exact⟨_,B1,k1,e1,B2,k2,e2,B3,k3,e3,B4,k4,e4,l9,m3⟩
    rw[e5]at QF a7;generalize p[i]=t0 at *;obtain⟨j3,j4,j5⟩:=m4;have m0:=f3;obtain⟨m8,o5,n0,m9,o6,n5,e,b6,b7⟩:=m0;simp only[List.cons.injEq,Value.slice.injEq,true_and,and_true,Value.bool.injEq]at e;obtain⟨⟨rfl,rfl,rfl⟩,rfl,rfl,rfl⟩:=e;have k0:=hid b6.vAs;have k5:=hid b7.vAs;have f7:=hid f3;have k6:=hid h4;have l3:=hid j5;have j7:Hid (¬b=mb):=HD.out b g7;have HK:=hid (And.intro j3 j4);clear hc g7 f4 e5 hF b6 b7 f3 h4 j5 j3 j4;obtain⟨ng,b8⟩:∃ng,t0.q.neg=ng:=⟨_,rfl⟩;rw[b8]at d0 f7;obtain⟨C,hC⟩:∃C,C=wr.alloc (.cells #[.bool ng,.slice A1 n1 c1,.slice A2 n2 c2,.slice A3 n3 c3,.slice A4 n4 c4] 85):=⟨_,rfl⟩;have b3:Hid (Below wr.heap.size wr C):=by rw[hC];exact aa.alloc ab _
    have HX:Hid (Bk C wr.heap.size 85 #[.bool ng,.slice A1 n1 c1,.slice A2 n2 c2,.slice A3 n3 c3,.slice A4 n4 c4]):=by rw[hC];exact Bk.new _ _ _
    have j8:=hid (HG.out.below b3.out);have o1:mb<wr.heap.size:=HG.out.2.mlt;go_upto_region 6 with(fail)
    rw[<-hC];clear hC d0 d1 d2 d3 d4;obtain⟨m5,_,_⟩:=HX.out.facts;go_wp2_with fail
    have f6:ufi C 0 (.agg #[.bool ng,.slice A1 n1 c1,.slice A2 n2 c2]) 1000 t0.q.val:=by
     have h:=(ub2.rat (show ub2 C D t0.q [.bool t0.q.neg,.slice A1 n1 c1,.slice A2 n2 c2] from by rw[b8];exact ub2.vAb (uc.of b3.out) f7.out) HK.out.1 HK.out.2).zero
     rw[b8]at h;exact h
    have f5:=ufi.size f6;refine(uaq C 0 _ 1000 t0.q.val f6 (by omega)).mono ?_
    rintro e w1⟨v1,rfl,b9,b1⟩;have b9:ud5 w1 C.heap.size v1 t0.q.val:=b9;obtain⟨B1,k1,B2,k2,rfl,g9,h3⟩:=uaj.form b9;have h8:=ud5.toV b9 (K:=1001) f5;have b6:=ubz.of g9;have b7:=ubz.of h3;have c6:Hid (uC6 t0.q↔decide (t0.q.val.num<0)=ng/\eqL (dl t0.q.val.num.natAbs) t0.q.num.length (dg t0.q.val.num.natAbs) (fun i=>t0.q.num.getD i 0)/\eqL (dl t0.q.val.den) t0.q.den.length (dg t0.q.val.den) (fun i=>t0.q.den.getD i 0)):=by
     unfold uC6;rw[b8];exact⟨fun h=>⟨h.1.symm,h.2⟩,fun h=>⟨h.1.symm,h.2⟩⟩
    have j9:=hid (j8.out.below b1);have g3:=hid (HX.out.below b1 HX.out.lt);have k7:=hid (uU.vAb (uc.of (b3.out.trans (b1.mono b3.out.size))) k6.out);have n9:dl t0.q.val.num.natAbs<=1100/\dl t0.q.val.den<=1100:=by unfold sz at f5;omega
    obtain⟨C2,d9⟩:∃x,x=w1.alloc (.cells #[.bool (decide (t0.q.val.num<0)),.slice B1 (dl t0.q.val.num.natAbs) k1,.slice B2 (dl t0.q.val.den) k2] 62):=⟨_,rfl⟩;have a4:Hid (Below w1.heap.size w1 C2):=by rw[d9];exact aa.alloc ab _
    have HY:Hid (Bk C2 w1.heap.size 62 #[.bool (decide (t0.q.val.num<0)),.slice B1 (dl t0.q.val.num.natAbs) k1,.slice B2 (dl t0.q.val.den) k2]):=by rw[d9];exact Bk.new _ _ _
    have n8:C.heap.size<=w1.heap.size:=b1.size;have o4:wr.heap.size<C.heap.size:=HX.out.lt;have a8:=hid (b3.out.trans ((b1.trans (a4.out.mono b1.size)).mono b3.out.size));have g4:Hid (∀x,Below C2.heap.size C2 x->Calls Tryz.prog 87 #[.slice B1 (dl t0.q.val.num.natAbs) k1,.slice A1 n1 c1] x (uY (.bool (bP (eqL (dl t0.q.val.num.natAbs) t0.q.num.length (dg t0.q.val.num.natAbs) (fun i=>t0.q.num.getD i 0)))) x)):=fun x hx=>
     ujc _ _ x (ubz.vAb (S':=fun b=>C.heap.size<=b) b6 (ag a4.out.size hx.size) (fun b hb a6=>⟨(a4.out.trans (hx.mono a4.out.size)).block b a6,hb⟩)) (ubz.vAb (S':=D) k0.out (ag a8.out.size hx.size) (fun b hb a6=>⟨(a8.out.trans (hx.mono a8.out.size)).block b a6,hb⟩))
    have g5:Hid (∀x,Below C2.heap.size C2 x->Calls Tryz.prog 87 #[.slice B2 (dl t0.q.val.den) k2,.slice A2 n2 c2] x (uY (.bool (bP (eqL (dl t0.q.val.den) t0.q.den.length (dg t0.q.val.den) (fun i=>t0.q.den.getD i 0)))) x)):=fun x hx=>
     ujc _ _ x (ubz.vAb (S':=fun b=>C.heap.size<=b) b7 (ag a4.out.size hx.size) (fun b hb a6=>⟨(a4.out.trans (hx.mono a4.out.size)).block b a6,hb⟩)) (ubz.vAb (S':=D) k5.out (ag a8.out.size hx.size) (fun b hb a6=>⟨(a8.out.trans (hx.mono a8.out.size)).block b a6,hb⟩))
    have KS:Hid (∀x,GSp lo sb mb pb X C2 x->Calls Tryz.prog 51 #[.agg #[.bool (decide (t0.q.val.num<0)),.slice B1 (dl t0.q.val.num.natAbs) k1,.slice B2 (dl t0.q.val.den) k2]] x (uY (.int .i64 (ujj t0.q.val)) x)):=fun x hx=>
     udg x 0 _ 1001 _ (uK.zero (D:=fun b=>C.heap.size<=b) (uK.vAb h8.toP (ag a4.out.size hx.1.size) (fun b hb a6=>⟨(hx.1.block b (af a6 a4.out.size) (by have n6:C.heap.size<=b:=hb;show ¬b=mb;omega)).trans (a4.out.block b a6),hb⟩))) (by omega)
    have a0:=hid (j9.out.below a4.out);have c7:=hid (g3.out.below a4.out g3.out.lt);have g0:=hid (uU.vAb (uc.of a4.out) k7.out);have KM:Hid (∀x,GSp lo sb mb pb X C2 x->Calls Tryz.prog 88 #[.pointer (some ⟨sb,0,none⟩),.agg #[.slice A3 n3 c3,.slice A4 n4 c4]] x (fun e w'=>e = .returned (.bool (bP (X.vBx t0.m)))/\SpP x lo sb mb pb X w')):=fun x hx=>
     uBq t0.m _ x (uU.vAb (ug1 hx.1 HD.out) g0.out) l3.out HD.out (hx.2 a0.out.2)
    have g1:Hid (ujj t0.q.val=0↔t0.q.val=0):=ubf _;generalize a9:eqL (dl t0.q.val.num.natAbs) t0.q.num.length (dg t0.q.val.num.natAbs) (fun i=>t0.q.num.getD i 0)=E1 at *
    generalize b0:eqL (dl t0.q.val.den) t0.q.den.length (dg t0.q.val.den) (fun i=>t0.q.den.getD i 0)=E2 at *
    clear a9 b0 h8 b6 b7 g9 h3 b9 b1 m5 f5 f6 b8;generalize decide (t0.q.val.num<0)=cn at *;generalize dl t0.q.val.num.natAbs=m1 at *;generalize dl t0.q.val.den=m2 at *;generalize ujj t0.q.val=sg at *;go_upto_region 7 with(fail)
    rw[<-d9];clear d9;obtain⟨j2,_,_⟩:=HY.out.facts;obtain⟨j1,_,_⟩:=c7.out.facts;have e9:Hid (¬wr.heap.size=mb):=by exact hid (by omega)
    have f0:Hid (¬w1.heap.size=mb):=by exact hid (by omega)
    by_cases h0:cn=ng
    ·subst h0
     go_wp2_with fail
     refine(g4.out _ aa).mono ?_;rintro e w2⟨rfl,b4⟩;have a0:=hid (a0.out.below b4);have c8:=hid (c7.out.below b4 c7.out.lt);have d6:=hid (HY.out.below b4 HY.out.lt);have l6:=e9;have l7:=f0;have e6:=hid b4;clear b4 j1 j2;by_cases a9:E1
     ·rw[ue0 a9]
      obtain⟨m7,_,_⟩:=d6.out.facts;obtain⟨m6,_,_⟩:=c8.out.facts;go_wp2_with fail
      refine(g5.out _ e6.out).mono ?_;rintro e w3⟨rfl,b5⟩;have a0:=hid (a0.out.below b5);have c9:=hid (c8.out.below b5 c8.out.lt);have d7:=hid (d6.out.below b5 d6.out.lt);have d5:=e9;have d8:=f0;have c5:=hid (e6.out.trans (b5.mono e6.out.size));clear b5 m6 m7;by_cases b0:E2
      ·rw[ue0 b0]
       have g2:Hid (uC6 t0.q):=c6.out.2 ⟨by first|rfl|trivial,a9,b0⟩
       clear a9 b0;go_upto_region 8 with(fail)
       have f1:Hid (∀x,GSp lo sb mb pb X w3 x->Calls Tryz.prog 51 #[.agg #[.bool cn,.slice B1 m1 k1,.slice B2 m2 k2]] x (uY (.int .i64 sg) x)):=fun x hx=>KS.out x (vAi.trans (vAi.of c5.out) hx)
       have g6:Hid (∀x,GSp lo sb mb pb X w3 x->Calls Tryz.prog 88 #[.pointer (some ⟨sb,0,none⟩),.agg #[.slice A3 n3 c3,.slice A4 n4 c4]] x (fun e w'=>e = .returned (.bool (bP (X.vBx t0.m)))/\SpP x lo sb mb pb X w')):=fun x hx=>KM.out x (vAi.trans (vAi.of c5.out) hx)
       clear KS KM g4 g5;by_cases c0:t0.q.val=0
       ·have h9:sg=0:=g1.out.2 c0
        subst h9;have e:q=false:=QF.out (fun h=>h.2.1 c0)
        refine uQ (G:=GSp lo sb mb pb X) (⟨[(wr.heap.size,0,[.bool cn,.slice A1 n1 c1,.slice A2 n2 c2,.slice A3 n3 c3,.slice A4 n4 c4]),(w1.heap.size,0,[.bool cn,.slice B1 m1 k1,.slice B2 m2 k2])],[],[],[(7,.p 1 0),(8,.v (.bool true))],[(4,.v (.int .i64 0))]⟩:Sp) [44,45,46,47,48,49,50,51,52,53,54,55,56,57,58,59,60,61,62,63,64,65,66,67,68,69,70,71,72,73] w3 (vAi.of (aa.drew)) (by kernel_rfl) (by kernel_rfl) (by kernel_rfl) sNG (by kernel_rfl)
         (fun x hx=>(mI (ud (Bk.fw c9.out hx.1 d5.out)) (mI (ud (Bk.fw d7.out hx.1 d8.out)) mN))) (dIG (ua9 [.v (.agg #[.bool cn,.slice B1 m1 k1,.slice B2 m2 k2])] rfl rfl (by kernel_rfl) (by kernel_rfl) fun x vs hx hC hv=>by
          obtain⟨v1,rfl,h1⟩:=ubg hv;obtain rfl:v1 = .agg #[.bool cn,.slice B1 m1 k1,.slice B2 m2 k2]:=h1;refine(f1.out x hx).mono ?_;rintro en w2⟨rfl,hb⟩;exact⟨_,rfl,rfl,vAi.of hb⟩) (dNG)) ?_
        intro S x1 a2 hS;obtain⟨a1,_⟩:S 29 = .bool true/\True:=hS (l:=[(29,.v (.bool true))]) (by kernel_rfl)
        clear hS;simp only[nv,Nat.reduceAdd,aB,aE,aC,List.drop_zero,a1];clear a1;have a3:=hid (a0.out.trans (a2.toP a0.out.2));clear a2;go_wp2;go_ret
        exact⟨by first|rfl|(rw[e];rfl),a3.out⟩
       ·have h9:¬sg=0:=fun h=>c0 (g1.out.1 h)
        rcases aK i with hi0|hi0
        ·subst hi0
         refine uQ (G:=GSp lo sb mb pb X) (⟨[(wr.heap.size,0,[.bool cn,.slice A1 n1 c1,.slice A2 n2 c2,.slice A3 n3 c3,.slice A4 n4 c4]),(w1.heap.size,0,[.bool cn,.slice B1 m1 k1,.slice B2 m2 k2])],[bP (X.vBx t0.m)],[],[(0,.v (.pointer (some ⟨sb,0,none⟩))),(5,.v (.int .i64 (((0:Nat):Int)))),(6,.p 0 0),(7,.p 1 0),(8,.v (.bool true))],[(4,.v (.int .i64 sg)),(5,.b .f),(11,.b (.x 0)),(16,.b .f)]⟩:Sp) [44,45,46,47,48,49,50,51,52,53,54,55,56,57,58,59,60,61,62,63,64,65,66,67,68,69,70,71,72,73] w3 (vAi.of (aa.drew)) (by kernel_rfl) (by kernel_rfl) (by kernel_rfl) sNG (by kernel_rfl)
          (fun x hx=>(mI (ud (Bk.fw c9.out hx.1 d5.out)) (mI (ud (Bk.fw d7.out hx.1 d8.out)) mN))) (dIG (ua9 [.v (.agg #[.bool cn,.slice B1 m1 k1,.slice B2 m2 k2])] rfl rfl (by kernel_rfl) (by kernel_rfl) fun x vs hx hC hv=>by
           obtain⟨v1,rfl,h1⟩:=ubg hv;obtain rfl:v1 = .agg #[.bool cn,.slice B1 m1 k1,.slice B2 m2 k2]:=h1;refine(f1.out x hx).mono ?_;rintro en w2⟨rfl,hb⟩;exact⟨_,rfl,rfl,vAi.of hb⟩) (
          dIG (uaz (op:= .eql) rfl rfl .i64 sg 0 .f (by kernel_rfl) (utg (show ¬(sg:Int)=0 by omega))) (
          dIG (ua9 [.v (.pointer (some ⟨sb,0,none⟩)),.v (.agg #[.slice A3 n3 c3,.slice A4 n4 c4])] rfl rfl (by kernel_rfl) (by kernel_rfl) fun x vs hx hC hv=>by
           obtain⟨v1,v2,rfl,h1,h2⟩:=uec hv;obtain rfl:v1 = .pointer (some ⟨sb,0,none⟩):=h1;obtain rfl:v2 = .agg #[.slice A3 n3 c3,.slice A4 n4 c4]:=h2;refine(g6.out x hx).mono ?_;rintro en w2⟨rfl,hb⟩;exact⟨_,rfl,rfl,hb.toG⟩) (
          dIG (uaz (op:= .gtr) rfl rfl .i64 (((0:Nat):Int)) 0 .f (by kernel_rfl) (utg (show ¬((((0:Nat):Int)):Int)>0 by omega))) (dNG))))) ?_
         intro S x1 a2 hS;obtain⟨a1,_⟩:S 29 = .bool (!bP (X.vBx t0.m))/\True:=hS (l:=[(29,.b (.n (.x 0)))]) (by kernel_rfl)
         clear hS;simp only[nv,Nat.reduceAdd,aB,aE,aC,List.drop_zero,a1];clear a1;have a3:=hid (a0.out.trans (a2.toP a0.out.2));clear a2;by_cases a5:X.vBx t0.m
         ·have b2:=ue0 a5
          simp only[b2,Bool.not_true,Bool.false_or];have e8:=hid (a7.out ⟨g2.out,c0,a5,fun h=>absurd h (by omega)⟩)
          clear a5;go_wp2;go_roundw
          case rel=>exact⟨0+1,by omega,by go_num,a3,e8⟩
          case measure=>simp[intOf];omega
         ·have b2:=uej a5
          have e:q=false:=QF.out (fun h=>a5 h.2.2.1)
          simp only[b2,Bool.not_false,Bool.true_or];go_wp2;go_ret
          exact⟨by first|rfl|(rw[e];rfl),a3.out⟩
        ·obtain⟨bn,D1,r1,s1,D2,r2,s2,D3,r3,s3,D4,r4,s4,g8,h7⟩:=l0.out hi0
         have e7:Hid (Below wr.heap.size wr w3):=a8.out.trans (c5.out.mono a8.out.size);have HQ:Hid (um w3 b (off+(i-1)*5) [.bool bn,.slice D1 r1 s1,.slice D2 r2 s2,.slice D3 r3 s3,.slice D4 r4 s4]):=g8.sure e7.out hb;have l1:Hid (b<w3.heap.size):=af hb e7.out.size;have l2:Hid (¬b=mb):=j7.out;obtain⟨z,hz⟩:∃z,Hid (uc9 pm t0.m=z):=⟨_,hid rfl⟩;have k9:=hid (uU.vAb (uc.of e7.out) h7);have l5:=hid (uU.vAb (uc.of c5.out) g0.out);have KC:Hid (∀x,GSp lo sb mb pb X w3 x->Calls Tryz.prog 72 #[.agg #[.slice D3 r3 s3,.slice D4 r4 s4],.agg #[.slice A3 n3 c3,.slice A4 n4 c4]] x (uY (.int .i64 z) x)):=fun x hx=>by
          have:=uso (D:=D) (D':=D) pm t0.m _ _ x (uU.vAb (ug1 hx.1 HD.out) k9.out) (uU.vAb (ug1 hx.1 HD.out) l5.out);rw[hz.out]at this;exact this
         clear g8 h7;refine uQ (G:=GSp lo sb mb pb X) (⟨[(wr.heap.size,0,[.bool cn,.slice A1 n1 c1,.slice A2 n2 c2,.slice A3 n3 c3,.slice A4 n4 c4]),(w1.heap.size,0,[.bool cn,.slice B1 m1 k1,.slice B2 m2 k2]),(b,(off+(i-1)*5),[.bool bn,.slice D1 r1 s1,.slice D2 r2 s2,.slice D3 r3 s3,.slice D4 r4 s4])],[bP (X.vBx t0.m),decide (z≥0)],[],[(0,.v (.pointer (some ⟨sb,0,none⟩))),(1,.v (.slice (some ⟨b,off,none⟩) n c)),(5,.v (.int .i64 ((i:Int)))),(6,.p 0 0),(7,.p 1 0),(8,.v (.bool true))],[(4,.v (.int .i64 sg)),(5,.b .f),(11,.b (.x 0)),(16,.b .t),(20,.v (.int .i64 (((i-1:Nat):Int)))),(21,.p 2 0),(26,.v (.int .i64 z)),(27,.b (.x 1))]⟩:Sp) [44,45,46,47,48,49,50,51,52,53,54,55,56,57,58,59,60,61,62,63,64,65,66,67,68,69,70,71,72,73] w3 (vAi.of (aa.drew)) (by kernel_rfl) (by kernel_rfl) (by kernel_rfl) sNG (by kernel_rfl)
          (fun x hx=>(mI (ud (Bk.fw c9.out hx.1 d5.out)) (mI (ud (Bk.fw d7.out hx.1 d8.out)) (mI (HQ.out.vAz hx.1 l1.out l2.out) mN)))) (dIG (ua9 [.v (.agg #[.bool cn,.slice B1 m1 k1,.slice B2 m2 k2])] rfl rfl (by kernel_rfl) (by kernel_rfl) fun x vs hx hC hv=>by
           obtain⟨v1,rfl,h1⟩:=ubg hv;obtain rfl:v1 = .agg #[.bool cn,.slice B1 m1 k1,.slice B2 m2 k2]:=h1;refine(f1.out x hx).mono ?_;rintro en w2⟨rfl,hb⟩;exact⟨_,rfl,rfl,vAi.of hb⟩) (
          dIG (uaz (op:= .eql) rfl rfl .i64 sg 0 .f (by kernel_rfl) (utg (show ¬(sg:Int)=0 by omega))) (
          dIG (ua9 [.v (.pointer (some ⟨sb,0,none⟩)),.v (.agg #[.slice A3 n3 c3,.slice A4 n4 c4])] rfl rfl (by kernel_rfl) (by kernel_rfl) fun x vs hx hC hv=>by
           obtain⟨v1,v2,rfl,h1,h2⟩:=uec hv;obtain rfl:v1 = .pointer (some ⟨sb,0,none⟩):=h1;obtain rfl:v2 = .agg #[.slice A3 n3 c3,.slice A4 n4 c4]:=h2;refine(g6.out x hx).mono ?_;rintro en w2⟨rfl,hb⟩;exact⟨_,rfl,rfl,hb.toG⟩) (
          dIG (uaz (op:= .gtr) rfl rfl .i64 ((i:Int)) 0 .t (by kernel_rfl) (uzy (show(((i:Int)):Int)>0 by omega))) (
          dIG (ujf (op:= .sub) rfl rfl ((i:Int)) 1 (((i-1:Nat):Int)) (by kernel_rfl) (.inr ⟨rfl,(by omega)⟩) (fun _=>by omega)) (
          dIG (uE rfl rfl b (off) n c .i64 (i-1) 5 2 (by kernel_rfl) (by kernel_rfl) (fun _=>by omega) rfl) (
          dIG (ua9 [.v (.agg #[.slice D3 r3 s3,.slice D4 r4 s4]),.v (.agg #[.slice A3 n3 c3,.slice A4 n4 c4])] rfl rfl (by kernel_rfl) (by kernel_rfl) fun x vs hx hC hv=>by
           obtain⟨v1,v2,rfl,h1,h2⟩:=uec hv;obtain rfl:v1 = .agg #[.slice D3 r3 s3,.slice D4 r4 s4]:=h1;obtain rfl:v2 = .agg #[.slice A3 n3 c3,.slice A4 n4 c4]:=h2;refine(KC.out x hx).mono ?_;rintro en w2⟨rfl,hb⟩;exact⟨_,rfl,rfl,vAi.of hb⟩) (
          dIG (uaz (op:= .geq) rfl rfl .i64 z 0 (.x 1) (by kernel_rfl) rfl) (dNG))))))))) ?_
         intro S x1 a2 hS;obtain⟨a1,_⟩:S 29 = .bool ((!bP (X.vBx t0.m)||(!(!bP (X.vBx t0.m))&&decide (z≥0))))/\True:=hS (l:=[(29,.b (.o (.n (.x 0)) (.a (.n (.n (.x 0))) (.x 1))))]) (by kernel_rfl)
         clear hS;simp only[nv,Nat.reduceAdd,aB,aE,aC,List.drop_zero,a1];clear a1;have a3:=hid (a0.out.trans (a2.toP a0.out.2));clear a2;by_cases a5:X.vBx t0.m
         ·have b2:=ue0 a5
          simp only[b2,Bool.not_true,Bool.false_or];by_cases j6:z≥0
          ·have f2:decide (z≥0)=true:=decide_eq_true j6
           have e:q=false:=QF.out (fun h=>by have:=h.2.2.2 hi0;rw[hz.out]at this;omega)
           simp only[f2,Bool.not_true,Bool.false_eq_true,Bool.true_and,Bool.and_true];go_wp2;go_ret
           exact⟨by first|rfl|(rw[e];rfl),a3.out⟩
          ·have f2:decide (z≥0)=false:=aQ j6
           have e8:=hid (a7.out ⟨g2.out,c0,a5,fun h=>by rw[hz.out];omega⟩)
           clear a5;simp only[f2,Bool.and_false];go_wp2;go_roundw
           case rel=>exact⟨i+1,by omega,by go_num,a3,e8⟩
           case measure=>simp[intOf];omega
         ·have b2:=uej a5
          have e:q=false:=QF.out (fun h=>a5 h.2.2.1)
          simp only[b2,Bool.not_false,Bool.true_or];go_wp2;go_ret
          exact⟨by first|rfl|(rw[e];rfl),a3.out⟩
      ·rw[uej b0]
       have e:q=false:=QF.out (fun h=>b0 (c6.out.1 h.1).2.2)
       go_upto_region 8 with(fail)
       refine uQ (G:=GSp lo sb mb pb X) (⟨[(wr.heap.size,0,[.bool cn,.slice A1 n1 c1,.slice A2 n2 c2,.slice A3 n3 c3,.slice A4 n4 c4]),(w1.heap.size,0,[.bool cn,.slice B1 m1 k1,.slice B2 m2 k2])],[],[],[(8,.v (.bool false))],[]⟩:Sp) [44,45,46,47,48,49,50,51,52,53,54,55,56,57,58,59,60,61,62,63,64,65,66,67,68,69,70,71,72,73] w3 (vAi.of (aa.drew)) (by kernel_rfl) (by kernel_rfl) (by kernel_rfl) sNG (by kernel_rfl)
        (fun x hx=>(mI (ud (Bk.fw c9.out hx.1 d5.out)) (mI (ud (Bk.fw d7.out hx.1 d8.out)) mN))) (dNG) ?_
       intro S x1 a2 hS;obtain⟨a1,_⟩:S 29 = .bool true/\True:=hS (l:=[(29,.v (.bool true))]) (by kernel_rfl)
       clear hS;simp only[nv,Nat.reduceAdd,aB,aE,aC,List.drop_zero,a1];clear a1;have a3:=hid (a0.out.trans (a2.toP a0.out.2));clear a2;go_wp2;go_ret
       exact⟨by first|rfl|(rw[e];rfl),a3.out⟩
     ·rw[uej a9]
      have e:q=false:=QF.out (fun h=>a9 (c6.out.1 h.1).2.1)
      go_upto_region 8 with(fail)
      refine uQ (G:=GSp lo sb mb pb X) (⟨[(wr.heap.size,0,[.bool cn,.slice A1 n1 c1,.slice A2 n2 c2,.slice A3 n3 c3,.slice A4 n4 c4]),(w1.heap.size,0,[.bool cn,.slice B1 m1 k1,.slice B2 m2 k2])],[],[],[(8,.v (.bool false))],[]⟩:Sp) [44,45,46,47,48,49,50,51,52,53,54,55,56,57,58,59,60,61,62,63,64,65,66,67,68,69,70,71,72,73] w2 (vAi.of (aa.drew)) (by kernel_rfl) (by kernel_rfl) (by kernel_rfl) sNG (by kernel_rfl)
       (fun x hx=>(mI (ud (Bk.fw c8.out hx.1 l6.out)) (mI (ud (Bk.fw d6.out hx.1 l7.out)) mN))) (dNG) ?_
      intro S x1 a2 hS;obtain⟨a1,_⟩:S 29 = .bool true/\True:=hS (l:=[(29,.v (.bool true))]) (by kernel_rfl)
      clear hS;simp only[nv,Nat.reduceAdd,aB,aE,aC,List.drop_zero,a1];clear a1;have a3:=hid (a0.out.trans (a2.toP a0.out.2));clear a2;go_wp2;go_ret
      exact⟨by first|rfl|(rw[e];rfl),a3.out⟩
    ·have n7:(cn==ng)=false:=by simp[h0]
     have e:q=false:=QF.out (fun h=>h0 (c6.out.1 h.1).1)
     go_upto_region 8 with(fail)
     clear j1 j2;refine uQ (G:=GSp lo sb mb pb X) (⟨[(wr.heap.size,0,[.bool ng,.slice A1 n1 c1,.slice A2 n2 c2,.slice A3 n3 c3,.slice A4 n4 c4]),(w1.heap.size,0,[.bool cn,.slice B1 m1 k1,.slice B2 m2 k2])],[],[],[(8,.v (.bool false))],[]⟩:Sp) [44,45,46,47,48,49,50,51,52,53,54,55,56,57,58,59,60,61,62,63,64,65,66,67,68,69,70,71,72,73] C2 (vAi.of (aa.drew)) (by kernel_rfl) (by kernel_rfl) (by kernel_rfl) sNG (by kernel_rfl)
      (fun x hx=>(mI (ud (Bk.fw c7.out hx.1 e9.out)) (mI (ud (Bk.fw HY.out hx.1 f0.out)) mN))) (dNG) ?_
     intro S x1 a2 hS;obtain⟨a1,_⟩:S 29 = .bool true/\True:=hS (l:=[(29,.v (.bool true))]) (by kernel_rfl)
     clear hS;simp only[nv,Nat.reduceAdd,aB,aE,aC,List.drop_zero,a1];clear a1;have a3:=hid (a0.out.trans (a2.toP a0.out.2));clear a2;go_wp2;go_ret
     exact⟨by first|rfl|(rw[e];rfl),a3.out⟩
   ·obtain rfl:n=i:=by omega
    have e:q=true:=QT.out k8.out (fun j h=>HI.out j (by have:=HN.out;omega))
    go_wp2;go_ret
    exact⟨by first|rfl|(rw[e];rfl),HG.out⟩
 ·have e:q=false:=QL.out h6
  have o2:(n:Int)>1000:=by omega
  go_wp2;go_ret
  exact⟨by first|rfl|(rw[e];rfl),f8.out⟩
set_option maxHeartbeats 200000
set_option maxRecDepth 512
def ngP(q:Pol):Pol:=q.map fun z=>(z.1,z.2*mkRat (-1) 1)
theorem uHd(f:Mon->Bool):∀q:Pol,sm f (ngP q) = - sm f q
 | []=>by show(0:Rat) = -0;rfl
 | (m,a)::q=>by
  have ih:=uHd f q;show(if f m=true then a*mkRat (-1) 1 else 0)+sm f (ngP q) = -((if f m=true then a else 0)+sm f q)
  rw[ih,Rat.neg_add];congr 1
  split
  ·rw[show(mkRat (-1) 1:Rat) = -1 by rfl,Rat.mul_neg,Rat.mul_one]
  ·rfl
section
variable {K:Type} [DecidableEq K] {key:Mon->K} {l:List (K×Rat)} {done:Pol}
structure vCj (key:Mon->K) (l:List (K×Rat)) (done:Pol):Prop where
 nd:l.Pairwise fun a b=>a.1≠b.1
 val:∀z∈l,z.2=sm (fun m=>decide (key m=z.1)) done
 all:∀y∈done,∃z∈l,z.1=key y.1
theorem vCj.nil:vCj key [] []:= { nd:= .nil,val:=fun z (h:z∈[])=>(by cases h),all:=fun y (h:y∈[])=>(by cases h) }
theorem ux5{f:Mon->Bool}:∀ {p:Pol},(∀y∈p,f y.1=false)->sm f p=0
 | [],_=>rfl
 | (m,a)::p,h=>by
  have:=h (m,a) (by simp)
  rw[sm,ux5 fun y hy=>h y (by simp[hy])]
  simp only at this;rw[this,Rat.add_zero];rfl
theorem uC7(f:Mon->Bool)(p:Pol)(m:Mon)(c:Rat):sm f (p++[(m,c)])=sm f p+(if f m=true then c else 0):=by
 rw[um1,sm,sm,Rat.add_zero]
theorem vCj.new(h:vCj key l done)(m:Mon)(c:Rat)(hn:∀z∈l,z.1≠key m):vCj key (l++[(key m,c)]) (done++[(m,c)]):=by
 refine⟨?_,fun z hz=>?_,fun y hy=>?_⟩
 ·rw[List.pairwise_append]
  refine⟨h.nd,List.pairwise_singleton _ _,fun a ha b hb=>?_⟩
  rw[List.mem_singleton]at hb;subst hb;exact hn a ha
 ·rw[uC7]
  rcases List.mem_append.1 hz with hz|hz
  ·have h2:decide (key m=z.1)=false:=aQ fun e=>hn z hz e.symm
   rw[h.val z hz];simp[h2,Rat.add_zero]
  ·rw[List.mem_singleton]at hz
   subst hz;rw[ux5 fun y hy=>?_]
   ·simp[Rat.zero_add]
   ·obtain⟨z,hz,e⟩:=h.all y hy
    exact aQ fun e2=>hn z hz (e.trans e2)
 ·rcases List.mem_append.1 hy with hy|hy
  ·obtain⟨z,hz,e⟩:=h.all y hy
   exact⟨z,by simp[hz],e⟩
  ·rw[List.mem_singleton]at hy
   subst hy;exact⟨(key m,c),by simp,rfl⟩
theorem uHe{K:Type}:∀ {l:List (K×Rat)} {i j:Nat} (hi:i<l.length) (hj:j<l.length),(l.Pairwise fun a b=>a.1≠b.1)->i≠j->l[i].1≠l[j].1:=fun {l i j} hi hj h a0=>by
 rw[List.pairwise_iff_getElem]at h;rcases Nat.lt_or_gt_of_ne a0 with hlt|hlt
 ·exact h i j hi hj hlt
 ·exact(h j i hj hi hlt).symm
theorem vCj.more(h:vCj key l done)(m:Mon)(c:Rat){i:Nat}(hi:i<l.length)(hk:l[i].1=key m):vCj key (l.set i (key m,l[i].2+c)) (done++[(m,c)]):=by
 have hl:(l.set i (key m,l[i].2+c)).length=l.length:=List.length_set ..;have a0:∀j (hj:j<l.length),((l.set i (key m,l[i].2+c))[j]'(by rw[hl];exact hj)).1=l[j].1:=fun j hj=>by
  rw[List.getElem_set];split
  ·rename_i e;subst e;exact hk.symm
  ·rfl
 refine⟨?_,fun z hz=>?_,fun y hy=>?_⟩
 ·rw[List.pairwise_iff_getElem]
  intro a b ha hb a1;rw[hl]at ha hb;rw[a0 a ha,a0 b hb];exact uHe ha hb h.nd (by omega)
 ·obtain⟨j,hj,e⟩:=aW hz
  rw[hl]at hj;subst e;rw[uC7,a0 j hj,List.getElem_set];by_cases e:i=j
  ·subst e
   rw[if_pos rfl,h.val _ (aq hj),hk];simp
  ·rw[if_neg e,h.val _ (aq hj)]
   have h2:decide (key m=l[j].1)=false:=aQ fun e2=>uHe hi hj h.nd e (hk.trans e2)
   simp[h2,Rat.add_zero]
 ·rcases List.mem_append.1 hy with hy|hy
  ·obtain⟨z,hz,e⟩:=h.all y hy
   obtain⟨j,hj,e2⟩:=aW hz;exact⟨(l.set i (key m,l[i].2+c))[j]'(by rw[hl];exact hj),aq _,by rw[a0 j hj,e2,e]⟩
  ·rw[List.mem_singleton]at hy
   subst hy;exact⟨(l.set i (key m,l[i].2+c))[i]'(by rw[hl];exact hi),aq _,by rw[a0 i hi,hk]⟩
theorem vCj.vDb{P Q:Pol}(h:vCj key l (P++ngP Q))(hP:Dif P)(hQ:Dif Q)(hd:Dom P Q):∀z∈l,0<=z.2:=fun z hz=>by
 rw[h.val z hz,um1,uHd,<-Rat.sub_eq_add_neg];exact(Rat.le_iff_sub_nonneg _ _).1 (uu8 _ Q P hQ hP hd)
end
def umf(n:Nat):List (ByteArray×Rat)->List (ByteArray×Int)
 | []=>[]
 | z::l=>(z.1,(n:Int))::umf (n+1) l
theorem usp:∀(n:Nat) (l:List (ByteArray×Rat)) (z:ByteArray×Rat),umf n (l++[z])=umf n l++[(z.1,((n+l.length:Nat):Int))]
 | n,[],z=>rfl
 | n,a::l,z=>by
  rw[List.cons_append,umf,usp (n+1) l z,umf,aB,show n+1+l.length=n+(l.length+1) by omega]
  rfl
theorem usq:∀(n:Nat) (l:List (ByteArray×Rat)) (i:Nat) (c:Rat) (hi:i<l.length),umf n (l.set i (l[i].1,c))=umf n l
 | n,[],i,c,h=>absurd h (by simp)
 | n,a::l,0,c,h=>rfl
 | n,a::l,i+1,c,h=>by
  have:=usq (n+1) l i c (by simpa using h)
  rw[List.set_cons_succ,umf,umf];simp only[List.getElem_cons_succ];rw[this]
theorem getD_in{p:List Ter}{i:Nat}(h:i<p.length):p.getD i dT=p[i]:=by rw[aj,ai h];rfl
theorem uC8:∀p:List Ter,(∀i,0<i->i<p.length->uc9 (p.getD (i-1) dT).m (p.getD i dT).m<0)->Asc (p.map trm)
 | [],_=>trivial
 | t::p,h=>by
  have ih:=uC8 p fun i h0 hi=>by
   have:=h (i+1) (by omega) (by simpa using hi)
   rw[show i+1-1=(i-1)+1 from by omega]at this
   simpa using this
  refine⟨fun y hy=>?_,ih⟩
  cases p with
  | nil=>cases hy
  | cons s p=>
   have h1:uc9 t.m s.m<0:=by simpa using h 1 (by omega) (by simp)
   rcases List.mem_cons.1 (show y∈trm s::p.map trm from hy)with rfl|hy
   ·exact h1
   ·exact uu6.trans _ _ _ h1 (ih.1 y hy)
theorem usr:∀p:List Ter,Asc (p.map trm)->∀i,0<i->i<p.length->uc9 (p.getD (i-1) dT).m (p.getD i dT).m<0
 | [],_,i,_,hi=>absurd hi (by simp)
 | t::p,h,i,h0,hi=>by
  cases p with
  | nil=>simp at hi;omega
  | cons s p=>
   have ih:=usr (s::p) h.2;rcases i with _|_|i
   ·omega
   ·exact h.1 (trm s) (by simp)
   ·have:=ih (i+1) (by omega) (by simpa using hi)
    simpa using this
theorem udv(X:Ctx)(p:List Ter):X.vAl p↔p.length<=1000/\(∀t∈p,uC6 t.q/\t.q.val≠0/\X.vBx t.m)/\Asc (p.map trm):=by
 unfold Ctx.vAl Ctx.vCw;constructor
 ·rintro⟨h1,h2⟩
  refine⟨h1,fun t ht=>?_,uC8 p fun i h0 hi=>(h2 i hi).2.2.2 h0⟩
  obtain⟨i,hi,rfl⟩:=aW ht;have:=h2 i hi;rw[getD_in hi]at this;exact⟨this.1,this.2.1,this.2.2.1⟩
 ·rintro⟨h1,h2,h3⟩
  refine⟨h1,fun i hi=>?_⟩
  have:=h2 _ (aq hi);rw[<-getD_in hi]at this;exact⟨this.1,this.2.1,this.2.2,fun h0=>usr p h3 i h0 hi⟩
theorem uBr{X:Ctx}(sel:Rat->Rat->Bool){p q:List Ter}(hp:X.vAl p)(hq:X.vAl q)(hl:(vAh sel p q).length<=1000):X.vAl (vAh sel p q):=by
 rw[udv]at hp hq ⊢;refine⟨hl,fun t ht=>?_,?_⟩
 ·rcases udi sel _ p q ab t ht with h|h
  ·exact hp.2.1 t h
  ·exact hq.2.1 t h
 ·rw[udh sel _ p q ab (fun t ht=>(hp.2.1 t ht).2.1) (fun t ht=>(hq.2.1 t ht).2.1)]
  exact(ug6 (ch:=chS sel) (by unfold chS;split<;>rfl) _ _ _ ab hp.2.2 hq.2.2).1
theorem ujg(q:Rat):q.num<0↔q<0:=by
 have h:=Rat.num_nonneg (q:=q);rw[<-Rat.not_le,<-h,Int.not_le]
theorem uqi(q:Rat):0<q.num↔0<q:=by
 have h:=ujg (-q);rw[Rat.neg_num]at h;have h2 : -q<0↔0<q:=by
  rw[Rat.neg_lt_iff];rfl
 rw[<-h2,<-h];omega
theorem umg(q:Rat):ujj q<0↔q<0:=by
 unfold ujj;rw[Int.sign_neg_iff,ujg]
theorem uBs(q:Rat):0<ujj q↔0<q:=by
 unfold ujj;rw[Int.sign_pos_iff,uqi]
theorem ux7(a b:Rat):upa a b<0↔a<b:=by
 unfold upa;rw[umg,Rat.sub_lt_iff,Rat.zero_add]
theorem ux8(a b:Rat):0<upa a b↔b<a:=by
 unfold upa;rw[uBs,<-Rat.lt_iff_sub_pos]
theorem uJa:chS urk=chJ:=by
 funext a b
 unfold chS urk chJ;by_cases h:a<b
 ·rw[if_pos h,if_pos (decide_eq_true ((ux7 a b).2 h))]
 ·rw[if_neg h,if_neg (by rw[aQ fun e=>h ((ux7 a b).1 e)];exact Bool.false_ne_true)]
theorem uJb:chS url=chM:=by
 funext a b
 unfold chS url chM;by_cases h:b<a
 ·rw[if_pos h,if_pos (decide_eq_true ((ux8 a b).2 h))]
 ·rw[if_neg h,if_neg (by rw[aQ fun e=>h ((ux8 a b).1 e)];exact Bool.false_ne_true)]
def slB(j:Bool):Rat->Rat->Bool:=if j=true then urk else url
def uui(j:Bool)(r a:List Ter):Prop:=if j=true then Dom (r.map trm) (a.map trm)else Dom (a.map trm) (r.map trm)
theorem uui.trans{j:Bool}{a b c:List Ter}(h:uui j a b)(h':uui j b c):uui j a c:=by
 unfold uui at *;cases j
 ·exact Dom.trans h' h
 ·exact Dom.trans h h'
theorem uBt{X:Ctx}(j:Bool){p q:List Ter}(hp:X.vAl p)(hq:X.vAl q):uui j (vAh (slB j) p q) p/\uui j (vAh (slB j) p q) q:=by
 rw[udv]at hp hq;unfold uui;rw[udh (slB j) _ p q ab (fun t ht=>(hp.2.1 t ht).2.1) (fun t ht=>(hq.2.1 t ht).2.1)]
 cases j
 ·simp only[slB,Bool.false_eq_true,if_false,uJb]
  exact(uzg hp.2.2 hq.2.2).2
 ·simp only[slB,if_true,uJa]
  exact(uzf hp.2.2 hq.2.2).2
def Ctx.okP(X:Ctx):Prop:=X.vars.length<=3000/\vA3 X.dat=true/\(uA X.dat 0 200 X.res).isSome=true/\∀t∈X.vars,(uA X.dat 0 200 t).isSome=true
theorem Ctx.okP.ok{X:Ctx}(h:X.okP):X.ok:=⟨(uv4 h.2.1).2,fun t ht=>TOk.valid (h.2.2.2 t ht),TOk.valid h.2.2.1,h.1⟩
def uok(w:World)(D:Nat->Prop)(X:Ctx)(v:List Value):Prop:=∃dA dn dc vA vn vc rk rm rA rn rc,v=[.slice dA dn dc,.slice vA vn vc,.int .i64 rk,.int .i64 rm,.slice rA rn rc]/\DaS w D X.dat dA dn dc/\TrS w D X.vars vA vn vc/\TrR w D X.res [.int .i64 rk,.int .i64 rm,.slice rA rn rc]
theorem uok.vAb{w w':World}{D:Nat->Prop}{X:Ctx}{v:List Value}(h:uok w D X v)(hk:uc D w w'):uok w' D X v:=by
 obtain⟨dA,dn,dc,vA,vn,vc,rk,rm,rA,rn,rc,e,hd,hv,hr⟩:=h;exact⟨dA,dn,dc,vA,vn,vc,rk,rm,rA,rn,rc,e,hd.vAb hk,hv.vAb hk,hr.vAb hk⟩
theorem uok.sub{w:World}{D D':Nat->Prop}{X:Ctx}{v:List Value}(h:uok w D X v)(hd:∀b,b<w.heap.size->D b->D' b):uok w D' X v:=by
 obtain⟨dA,dn,dc,vA,vn,vc,rk,rm,rA,rn,rc,e,h1,h2,h3⟩:=h;exact⟨dA,dn,dc,vA,vn,vc,rk,rm,rA,rn,rc,e,DaS.sub hd h1,h2.sub hd,h3.sub hd⟩
def uHf(w:World)(D:Nat->Prop)(p:List Ter)(v:List Value):Prop:=∃A n c,v=[.slice A n c]/\uB w D p A n c
abbrev uC9(w:World)(D:Nat->Prop)(l:List (List Ter))(A:Option Addr)(n c:Nat):Prop:=Sl 1 (uHf w D) w D l A n c
theorem uHf.vAb{w w':World}{D:Nat->Prop}(hk:uc D w w'){p:List Ter}{v:List Value}(h:uHf w D p v):uHf w' D p v:=by
 obtain⟨A,n,c,e,h⟩:=h;exact⟨A,n,c,e,uB.vAb hk h⟩
theorem uC9.vAb{w w':World}{D:Nat->Prop}(hk:uc D w w'){l:List (List Ter)}{A:Option Addr}{n c:Nat}(h:uC9 w D l A n c):uC9 w' D l A n c:=Sl.vAb hk (fun _ _ h=>uHf.vAb hk h) h
def uz(p:List Ter):Prop:=∀t∈p,t.small
set_option maxHeartbeats 16000000
set_option maxRecDepth 100000
theorem uol(X:Ctx)(ps:List (List Ter))(xv:List Value)(A:Option Addr)(n c:Nat)(w:World)(hx:uok w (· < w.heap.size) X xv)(hp:uC9 w (· < w.heap.size) ps A n c)(c5:∀p∈ps,uz p)(hg:Gp w) :
 Calls Tryz.prog 19 #[.agg xv.toArray,.slice A n c] w (fun e w'=>(∃sv,e = .returned (.tuple #[sv,.bool (bP (X.okP/\∀p∈ps,X.vAl p))]))/\Below w.heap.size w w'):=by
 obtain⟨dA,dn,dc,vA,vn,vc,rk,rm,rA,rn,rc,rfl,hd,hv,hr⟩:=hx;have hn:n=ps.length:=hp.1;have f4:=hp.2.1;have d9:c<=maxLen:=hp.2.2.1;have a8:vn=X.vars.length:=hv.1;have f5:=hv.2.1;have e5:vc<=maxLen:=hv.2.2.1;unfold maxLen at d9 e5;have QL:Hid (¬vn<=3000->bP (X.okP/\∀p∈ps,X.vAl p)=false):=fun h=>uej fun hc=>h (by rw[a8];exact hc.1.1)
 have QD:Hid (vA3 X.dat=false->bP (X.okP/\∀p∈ps,X.vAl p)=false):=fun h=>uej fun hc=>by rw[hc.1.2.1]at h;cases h
 have QR:Hid ((uA X.dat 0 200 X.res).isSome=false->bP (X.okP/\∀p∈ps,X.vAl p)=false):=fun h=>uej fun hc=>by rw[hc.1.2.2.1]at h;cases h
 have QV:Hid (∀i (h:i<X.vars.length),(uA X.dat 0 200 X.vars[i]).isSome=false->bP (X.okP/\∀p∈ps,X.vAl p)=false):=fun i h hf=>uej fun hc=>by rw[hc.1.2.2.2 _ (aq h)]at hf;cases hf
 have QC:Hid (∀i (h:i<ps.length),¬X.vAl ps[i]->bP (X.okP/\∀p∈ps,X.vAl p)=false):=fun i h hf=>uej fun hc=>hf (hc.2 _ (aq h))
 have QO:Hid (vn<=3000->vA3 X.dat=true->(uA X.dat 0 200 X.res).isSome=true->(∀i (h:i<X.vars.length),(uA X.dat 0 200 X.vars[i]).isSome=true)->X.okP):=fun h1 h2 h3 h4=>⟨by rw[<-a8];exact h1,h2,h3,fun t ht=>by
  obtain⟨j,hj,rfl⟩:=aW ht;exact h4 j hj⟩
 have QT:Hid (X.okP->(∀i (h:i<ps.length),X.vAl ps[i])->bP (X.okP/\∀p∈ps,X.vAl p)=true):=fun h1 h2=>ue0 ⟨h1,fun t ht=>by
  obtain⟨j,hj,rfl⟩:=aW ht;exact h2 j hj⟩
 generalize bP (X.okP/\∀p∈ps,X.vAl p)=q at *;have HN:=hid hn;have b7:=hid a8;have HD:=hid hd;have HV:=hid hv;have HR:=hid hr;have HP:=hid hp;have HG:=hid hg;have d1:Hid (∀i (h:i<ps.length),uz ps[i]):=fun i h=>c5 _ (aq h)
 have f3:= @run_makeMap Tryz.prog;clear hn a8 hd hv hr hp hg c5;show Calls Tryz.prog 19 #[.agg #[.slice dA dn dc,.slice vA vn vc,.int .i64 rk,.int .i64 rm,.slice rA rn rc],.slice A n c] w _
 go_enter Tryz.func19,Tryz.ntmps19
 go_upto_region 1 with(fail)
 obtain⟨W,hW⟩:∃W,W=w.alloc (.cells #[.slice dA dn dc,.slice vA vn vc,.int .i64 rk,.int .i64 rm,.slice rA rn rc] 27):=⟨_,rfl⟩;have a7:Hid (Below w.heap.size w W):=by rw[hW];exact aa.alloc ab _
 have HX:Hid (Bk W w.heap.size 27 #[.slice dA dn dc,.slice vA vn vc,.int .i64 rk,.int .i64 rm,.slice rA rn rc]):=by rw[hW];exact Bk.new _ _ _
 rw[<-hW];clear hW;obtain⟨e6,_,_⟩:=HX.out.facts;by_cases hl:vn<=3000
 ·have f1:((vn:Int)>3000)=False:=by simp;omega
  have e3:¬(vn:Int)>3000:=by omega
  have HL:=hid hl;go_wp2_with fail
  refine(uts W (HD.out.below a7.out)).mono ?_;rintro e w1⟨rfl,hb⟩;have a2:=hid (a7.out.trans (hb.mono a7.out.size));have b1:=hid (HX.out.below hb HX.out.lt);clear hb e6;cases hdo:vA3 X.dat with
  | false=>
   have e:q=false:=QD.out hdo;go_wp2;go_ret2
   exact⟨⟨_,by first|rfl|(rw[e];rfl)⟩,a2.out⟩
  | true=>
   have c8:=hid hdo;obtain⟨e7,_,_⟩:=b1.out.facts;have KR:=hid (ugl (vars:=0) (by unfold rng;omega) X.res w1 _ (HR.out.below a2.out) (HD.out.below a2.out))
   go_wp2_with fail
   refine KR.out.mono ?_;rintro e w2⟨rfl,hb⟩;have b5:=hid (a2.out.trans (hb.mono a2.out.size));have b8:=hid (b1.out.below hb b1.out.lt);clear hb e7;cases hro:(uA X.dat 0 200 X.res).isSome with
   | false=>
    have e:q=false:=QR.out hro;go_wp2;go_ret2
    exact⟨⟨_,by first|rfl|(rw[e];rfl)⟩,b5.out⟩
   | true=>
    have c9:=hid hro;obtain⟨e8,_,_⟩:=b8.out.facts;clear hdo hro;go_wp2;clear e8;go_loopw [33] (fun iv wr=>∃(i:Nat),i<=vn/\iv = .int .i64 i/\Hid (Below w.heap.size w wr)/\Hid (Bk wr w.heap.size 27 #[.slice dA dn dc,.slice vA vn vc,.int .i64 rk,.int .i64 rm,.slice rA rn rc])/\Hid (∀j (h:j<X.vars.length),j<i->(uA X.dat 0 200 X.vars[j]).isSome=true)) (fun iv _=>vn-(intOf iv).toNat)
    case atStart=>exact⟨0,by omega,rfl,b5,b8,fun j _ h=>absurd h (by omega)⟩
    case round=>
     obtain⟨i,hi,rfl,HB,a0,HI⟩:=hrel;obtain⟨c6,_,_⟩:=a0.out.facts;by_cases e4:i<vn
     ·have a1:i<X.vars.length:=by have:=b7.out;omega
      have hT:TrS wr (· < w.heap.size) X.vars vA vn vc:=HV.out.below HB.out
      obtain⟨b,off,A1,e9,d7,rfl,hb,e0,e1,e2,c4⟩:=hT.get (i:=i) a1;have d6:=hid (QV.out i a1);have a9:Hid ((uA X.dat 0 200 X.vars[i]).isSome=true->∀j (h:j<X.vars.length),j<i+1->(uA X.dat 0 200 X.vars[j]).isSome=true):=fun hx j h hj=>by
       rcases ah j i with h5|h5
       ·exact HI.out j h h5
       ·obtain rfl:j=i:=by omega
        exact hx
      generalize X.vars[i]=t0 at *;obtain⟨C,hC⟩:∃C,C=wr.alloc (.cells #[.int .i64 t0.k,.int .i64 t0.m,.slice A1 e9 d7] 25):=⟨_,rfl⟩;have b3:Hid (Below wr.heap.size wr C):=by rw[hC];exact aa.alloc ab _
      have c7:=hid (HB.out.trans (b3.out.mono HB.out.size));have KV:=hid (ugl (vars:=0) (by unfold rng;omega) t0 C _ (c4.below b3.out) (HD.out.below c7.out))
      have f0:=hid (a0.out.below b3.out a0.out.lt);rw[hC]at KV;clear c4 hC;generalize (uA X.dat 0 200 t0).isSome=ok at *;generalize t0.k=y0 at *;generalize t0.m=y1 at *;go_wp2_with fail
      refine KV.out.mono ?_;rintro e w3⟨rfl,b2⟩;have a3:Hid (Below w.heap.size w w3):=by
       refine HB.out.trans (Below.mono ?_ HB.out.size);refine Below.trans ?_ (b2.mono (by first|(simp;done)|(simp;omega)))
       exact aa.alloc ab _
      have d4:Hid (Bk w3 w.heap.size 27 #[.slice dA dn dc,.slice (some ⟨b,off,none⟩) vn vc,.int .i64 rk,.int .i64 rm,.slice rA rn rc]):=(a0.out.alloc _).below b2 (by have:=a0.out.lt;simp;omega)
      clear b2 c6 e0 e1 e2;cases ok with
      | false=>
       have e:q=false:=d6.out rfl;go_wp2;go_ret2
       exact⟨⟨_,by first|rfl|(rw[e];rfl)⟩,a3.out⟩
      | true=>
       have b0:=hid (a9.out (by first|rfl|trivial))
       go_wp2;go_roundw
       case rel=>exact⟨i+1,by omega,by go_num,a3,d4,b0⟩
       case measure=>simp[intOf];omega
     ·obtain rfl:vn=i:=by omega
      have b6:=hid (QO.out HL.out c8.out c9.out (fun j h=>HI.out j h (by have:=b7.out;omega)))
      clear HI QV QD QR QL QO;have f2:w.heap.size<=wr.heap.size:=HB.out.size;have f6:w.heap.size<wr.heap.size:=a0.out.lt;go_upto_region 10 with(fail)
      obtain⟨W2,a5⟩:∃x,x=(((wr.alloc (.map #[] 0)).alloc (.map #[] 0)).alloc (.cells #[.slice dA dn dc,.slice vA vn vc,.int .i64 rk,.int .i64 rm,.slice rA rn rc,.map (some wr.heap.size),.map (some (wr.heap.size+1))] 97)):=⟨_,rfl⟩;have b9:Below wr.heap.size wr W2:=by
       rw[a5];exact((aa.alloc ab _).alloc (by simp) _).alloc (by simp;omega) _
      have c2:Bk W2 (wr.heap.size+1+1) 97 #[.slice dA dn dc,.slice vA vn vc,.int .i64 rk,.int .i64 rm,.slice rA rn rc,.map (some wr.heap.size),.map (some (wr.heap.size+1))]:=by
       rw[a5];have:=Bk.new ((wr.alloc (.map #[] 0)).alloc (.map #[] 0)) 97 #[.slice dA dn dc,.slice vA vn vc,.int .i64 rk,.int .i64 rm,.slice rA rn rc,.map (some wr.heap.size),.map (some (wr.heap.size+1))];simpa using this
      have c3:umn W2 wr.heap.size []:=by
       rw[a5];have h1:=umn.new wr;exact(h1.below (Below.alloc aa ab _)).below (Below.alloc aa ab _)
      have a4:=hid (HB.out.trans (b9.mono HB.out.size));have d2:Hid (SpI W2 w.heap.size (wr.heap.size+1+1) wr.heap.size (wr.heap.size+1) X):=
       ⟨⟨dA,dn,dc,vA,vn,vc,rk,rm,rA,rn,rc,c2,HD.out.below a4.out,HV.out.below a4.out,HR.out.below a4.out⟩,⟨[],c3,fun v i d h=>by cases h⟩,b6.out.ok,HG.out.below a4.out HG.out.2,HG.out.2,by omega,by omega,by omega⟩
      rw[<-a5];clear a5 b9 c2 c3 HB a0 c6;generalize wr.heap.size=mb at *;go_wp2;go_loopw [50] (fun iv wx=>∃(i:Nat),i<=n/\iv = .int .i64 i/\Hid (Below w.heap.size w wx)/\Hid (SpI wx w.heap.size (mb+1+1) mb (mb+1) X)/\Hid (∀j (h:j<ps.length),j<i->X.vAl ps[j])) (fun iv _=>n-(intOf iv).toNat)
      case atStart=>exact⟨0,by omega,rfl,a4,d2,fun j _ h=>absurd h (by omega)⟩
      case round=>
       obtain⟨i,hi,rfl,HB,d3,HI⟩:=hrel;by_cases e4:i<n
       ·have a1:i<ps.length:=by have:=HN.out;omega
        have hP:uC9 wr (· < w.heap.size) ps A n c:=uC9.vAb (uc.of HB.out) HP.out
        obtain⟨b,off,v,rfl,d8,hb,hc,A1,n1,c1,rfl,hr⟩:=hP.get a1;have c0:=hc 0 _ rfl;rw[Nat.add_zero,Nat.mul_one]at c0;have d5:=hid (QC.out i a1);have a9:Hid (X.vAl ps[i]->∀j (h:j<ps.length),j<i+1->X.vAl ps[j]):=fun hx j h hj=>by
         rcases ah j i with h5|h5
         ·exact HI.out j h h5
         ·obtain rfl:j=i:=by omega
          exact hx
        have KC:=hid (ux4 ps[i] A1 n1 c1 wr hr (d1.out i a1) (fun b hb=>by omega) d3.out)
        generalize ps[i]=p0 at *;clear hr hc d8;go_wp2_with fail
        refine KC.out.mono ?_;rintro e w3⟨rfl,b4⟩;have a3:Hid (Below w.heap.size w w3):=HB.out.trans (b4.1.toBelow (fun x hx=>by omega) HB.out.size)
        have d0:=hid b4.2;clear b4 c0;by_cases a6:X.vAl p0
        ·have b0:=hid (a9.out a6)
         rw[ue0 a6];clear a6;go_wp2;go_roundw
         case rel=>exact⟨i+1,by omega,by go_num,a3,d0,b0⟩
         case measure=>simp[intOf];omega
        ·have e:q=false:=d5.out a6
         rw[uej a6];go_wp2;go_ret2
         exact⟨⟨_,by first|rfl|(rw[e];rfl)⟩,a3.out⟩
       ·obtain rfl:n=i:=by omega
        have e:q=true:=QT.out b6.out (fun j h=>HI.out j h (by have:=HN.out;omega))
        go_wp2;go_ret2
        exact⟨⟨_,by first|rfl|(rw[e];rfl)⟩,HB.out⟩
 ·have e:q=false:=QL.out hl
  have e3:(vn:Int)>3000:=by omega
  go_wp2;go_ret2
  exact⟨⟨_,by first|rfl|(rw[e];rfl)⟩,a7.out⟩
set_option maxHeartbeats 200000
set_option maxRecDepth 512
theorem uok.form{w:World}{D:Nat->Prop}{X:Ctx}{v:List Value}(h:uok w D X v):∃dA dn dc vA vn vc rk rm rA rn rc,v=[.slice dA dn dc,.slice vA vn vc,.int .i64 rk,.int .i64 rm,.slice rA rn rc]:=by
 obtain⟨dA,dn,dc,vA,vn,vc,rk,rm,rA,rn,rc,e,_⟩:=h;exact⟨dA,dn,dc,vA,vn,vc,rk,rm,rA,rn,rc,e⟩
theorem uFi{w x:World}{p:List Ter}{A:Option Addr}{n c b:Nat}{T:TypeId}(hp:uB x (· < w.heap.size) p A n c)(hb:Bk x b T #[.slice A n c])(hw:w.heap.size<=x.heap.size):uC9 x (· < x.heap.size) [p] (some ⟨b,0,none⟩) 1 1:=by
 refine⟨rfl,ab,by unfold maxLen;omega,fun _=>⟨b,0,rfl,hb.lt,hb.lt,fun i hi=>?_⟩⟩
 obtain rfl:i=0:=by simpa using hi
 refine⟨[.slice A n c],fun j y hy=>?_,A,n,c,rfl,uB.sub (fun b hb hD=>hb) hp⟩
 rw[hb.cell];simpa using hy
set_option maxHeartbeats 16000000
set_option maxRecDepth 100000
theorem ukv(X:Ctx)(p:List Ter)(xv:List Value)(A:Option Addr)(n c:Nat)(w:World)(hx:uok w (· < w.heap.size) X xv)(hp:uB w (· < w.heap.size) p A n c)(a2:uz p)(hg:Gp w) :
 Calls Tryz.prog 54 #[.agg xv.toArray,.slice A n c] w (uY (.bool (bP (X.okP/\X.vAl p))) w):=by
 have e1:(X.okP/\∀q∈[p],X.vAl q)=(X.okP/\X.vAl p):=by simp
 have KE:Hid (∀(x:World) (b:Nat) (T:TypeId),Below w.heap.size w x->Bk x b T #[.slice A n c]->Calls Tryz.prog 19 #[.agg xv.toArray,.slice (some ⟨b,0,none⟩) 1 1] x (fun e w'=>(∃sv,e = .returned (.tuple #[sv,.bool (bP (X.okP/\X.vAl p))]))/\Below x.heap.size x w')):=fun x b T hb hk=>by
  have:=uol X [p] xv (some ⟨b,0,none⟩) 1 1 x ((hx.vAb (uc.of hb)).sub (fun b a4 _=>a4)) (uFi (hp.vAb (uc.of hb)) hk hb.size) (fun q hq=>by simp at hq;subst hq;exact a2) (hg.below hb hg.2)
  rw[e1]at this;exact this
 obtain⟨dA,dn,dc,vA,vn,vc,rk,rm,rA,rn,rc,rfl⟩:=hx.form;generalize bP (X.okP/\X.vAl p)=q at *;clear hx hp a2 hg e1;show Calls Tryz.prog 54 #[.agg #[.slice dA dn dc,.slice vA vn vc,.int .i64 rk,.int .i64 rm,.slice rA rn rc],.slice A n c] w _
 go_enter Tryz.func54,Tryz.ntmps54
 go_upto_region 1 with(fail)
 obtain⟨W,hW⟩:∃W,W=w.alloc (.cells #[.slice dA dn dc,.slice vA vn vc,.int .i64 rk,.int .i64 rm,.slice rA rn rc] 27):=⟨_,rfl⟩;have a1:Hid (Below w.heap.size w W):=by rw[hW];exact aa.alloc ab _
 have HX:Hid (Bk W w.heap.size 27 #[.slice dA dn dc,.slice vA vn vc,.int .i64 rk,.int .i64 rm,.slice rA rn rc]):=by rw[hW];exact Bk.new _ _ _
 rw[<-hW];clear hW;obtain⟨a5,_,_⟩:=HX.out.facts;go_wp2_with fail
 have a0:Below w.heap.size w (W.alloc (.cells #[.slice A n c] 32)):=a1.out.alloc a1.out.size _;refine(KE.out _ W.heap.size 32 a0 (Bk.new _ _ _)).mono ?_;rintro e w1⟨⟨sv,rfl⟩,hb⟩;have a3:Hid (Below w.heap.size w w1):=a0.trans (hb.mono a0.size);clear hb a0 a5;go_wp2;go_ret
 exact⟨rfl,a3.out⟩
set_option maxHeartbeats 200000
set_option maxRecDepth 512
theorem Sl.vCd{α:Type}{sz:Nat}{R:α->List Value->Prop}{w:World}{D:Nat->Prop}{a:α}{l:List α}{A:Option Addr}{n c:Nat}(h:Sl sz R w D (a::l) A n c) :
 ∃b off v,A=some ⟨b,off,none⟩/\D b/\b<w.heap.size/\1<=n/\n=l.length+1/\n<=c/\c<=maxLen/\um w b (off+0*sz) v/\R a v/\Sl sz R w D l (some ⟨b,if c=1 then off else off+1*sz,none⟩) (n-1) (c-1):=by
 obtain⟨h1,h2,h3,h4⟩:=h;rw[aB]at h1;obtain⟨b,off,hA,hD,hb,hf⟩:=h4 (by omega)
 obtain⟨v,h5,h6⟩:=hf 0 (by simp)
 refine⟨b,off,v,hA,hD,hb,by omega,h1,h2,h3,h5,by simpa using h6,by omega,by omega,by omega,fun h0=>⟨b,_,rfl,hD,hb,fun i hi=>?_⟩⟩
 obtain⟨u,h7,h8⟩:=hf (i+1) (by simpa using hi)
 have hc:¬c=1:=by omega
 refine⟨u,?_,by simpa using h8⟩
 rw[if_neg hc,show off+1*sz+i*sz=off+(i+1)*sz from by rw[Nat.add_mul];omega]
 exact h7
theorem upc.ofNat{w:World}{lo n:Nat}{v:Value}{l:List Nat}(h:uL w lo v n)(he:eqL (dl n) l.length (dg n) (fun i=>l.getD i 0)):∃A k c,v = .slice A k c/\upc w (lo <= ·) l A k c:=by
 obtain⟨h1,A,c,rfl,h2,h3,h4⟩:=h;obtain⟨e1,e2⟩:=he;have e3:∀(i:Nat) (hi:i<l.length),dg n i=l[i]:=fun i hi=>by
  rw[e2 i (by omega)]
  show l.getD i 0=_
  rw[aj,ai hi];rfl
 refine⟨A,dl n,c,rfl,fun x hx=>?_,e1,h2,h3,fun h0=>?_⟩
 ·obtain⟨i,hi,rfl⟩:=aW hx
  have:=h1 i (by omega)
  rw[e3 i hi]at this;exact this
 ·obtain⟨b,off,hA,hb,a0,hf⟩:=h4 h0
  refine⟨b,off,hA,hb,a0,fun i hi=>⟨_,fun j x hx=>?_,rfl⟩⟩
  have:=hf i (by omega)
  rw[e3 i hi]at this;rcases j with _|j
  ·simp at hx
   subst hx;rw[Nat.mul_one];exact this
  ·simp at hx
theorem ub2.ofR{w:World}{lo:Nat}{v:Value}{q:Cof}(hc:uC6 q)(h:ud5 w lo v q.val):∃A n c A' n' c',v = .agg #[.bool q.neg,.slice A n c,.slice A' n' c']/\ub2 w (lo <= ·) q [.bool q.neg,.slice A n c,.slice A' n' c']:=by
 obtain⟨c1,c2,c3⟩:=hc;obtain⟨vn,vd,rfl,h1,h2⟩:=h;obtain⟨A,n,c,rfl,h3⟩:=upc.ofNat h1 c2;obtain⟨A',n',c',rfl,h4⟩:=upc.ofNat h2 c3;exact⟨A,n,c,A',n',c',by rw[c1],A,n,c,A',n',c',rfl,h3,h4⟩
def sliceLen:Value->Nat
 | .slice _ n _=>n
 | _=>0
theorem uBu(sel:Rat->Rat->Bool):vAh sel [] []=[]:=by rw[vAh]
open Go Go.RowKit AC
section
variable {P:Program} {ops:Array Oper} {Q:Exit->Act->World->Prop}
theorem umh{id:Nat}{a0:Act}{w0:World}(hm:P.follows .mixedOrders=true)
 (c2:uyu ops=true) (vAa:List Nat) (k:Nat) (b1:(ucw ops vAa&&uvg (ua8 ops) ops (vAa.length+k)&&decide vAa.Nodup&&decide (vAa.length+k<=ops.size))=true)
 (F:Nat->Value->Prop) (JS:(Nat->Bool)->World->Prop) (h0:JS (fun _=>false) w0.drew) (b4:∀d i x,i<vAa.length->JS d x->JS (fun j=>d j||j==i) x)
 (step:∀(i:Nat) (o:Oper) (s:Nat->Value) (d:Nat->Bool) (x:World),ops[i]? = some o->i<vAa.length->d i=false->JS d x ->
  (∀j,uP (ua8 ops) i j=true->j<vAa.length->d j=true/\F j (s j)) ->
  ua5 P ops Q i (fun a' x'=>∃v,a'=(uj a0 vAa 0 s).put (some (vAa.getD i 0)) v/\F i v/\x'=x) (uj a0 vAa 0 s) x)
 (c3:∀(i:Nat) (o:Oper) (s:Nat->Value) (d:Nat->Bool) (x:World),ops[i]? = some o->vAa.length<=i->i<vAa.length+k->d i=false->JS d x ->
  (∀j,uP (ua8 ops) i j=true->d j=true)->(∀j,j<ops.size->uP (ua8 ops) j i=true->d j=false)->(∀j,j<vAa.length->d j=true->F j (s j)) ->
  ua5 P ops Q i (fun a' x'=>a'=uj a0 vAa 0 s/\JS (fun j=>d j||j==i) x') (uj a0 vAa 0 s) x)
 (fin:∀(s:Nat->Value) (d:Nat->Bool) (x:World),(∀i,i<vAa.length+k->d i=true)->JS d x->(∀i,i<vAa.length->F i (s i))->wpList P ops Q (ops.toList.drop (vAa.length+k)) (uj a0 vAa 0 s) x) :
 (Code.region id ops true).wp P Q a0 w0:=by
 simp only[ax,aP]at b1;obtain⟨⟨⟨c4,c0⟩,a9⟩,c5⟩:=b1;have hl:=ufo c2;have c1:∀i,i<ops.size->vAa.length+k<=i->∀j,j<i->uP (ua8 ops) i j=true:=by
  intro i hi hn j hj;have h1:=aT.1 c0 i (aX.2 hi);simp only[aU,aP]at h1;rcases h1 with h1|h1
  ·omega
  ·exact aT.1 h1 j (aX.2 hj)
 refine vAn hm hl (fun d a x=>vAp ops d /\
  (((∀j,vAa.length+k<=j->d j=false)/\∃s:Nat->Value,a=uj a0 vAa 0 s/\JS d x/\∀i,i<vAa.length->d i=true->F i (s i))\/(∃m,vAa.length+k<m/\(∀j,d j=decide (j<m))/\wpList P ops Q (ops.toList.drop m) a x))) ?_ ?_ ?_
 ·refine⟨(fun i o _ h=>by cases h),.inl ⟨fun _ _=>rfl,?_⟩⟩
  obtain⟨s,hs⟩:=ua4 vAa a0 0 a9;exact⟨s,hs.symm,h0,fun i _ h=>by cases h⟩
 ·rintro d i o a x ho a1 a5 ⟨a4,hI⟩
  have hi:i<ops.size:=(au.1 ho).1;have a7:vAp ops (fun k=>d k||k==i):=by
   intro k o' a6 hk e he hb;rw[aU]at hk ⊢;rcases hk with hk|hk
   ·exact .inl (a4 k o' a6 hk e he hb)
   ·have:k=i:=by simpa using hk
    subst this;rw[ho]at a6;injection a6 with a6;subst a6;exact .inl (a5 e he hb)
  have b5:∀j,j<ops.size->uP (ua8 ops) j i=true->d j=false:=fun j b8 ha=>by
   cases a3:d j with
   | false=>rfl
   | true=>
    have b0:ops[j]? = some ops[j]:=aR b8;have:=uM a4 b0 (a4 j _ b0 a3) ha;rw[a1]at this;cases this
  rcases ah i vAa.length with hin|hin
  ·rcases hI with⟨hnone,s,rfl,hJ,hF⟩|⟨m,hk,hdk,hw⟩
   ·refine wpOp_mono ?_ (step i o s d x ho hin a1 hJ fun j hj b7=>⟨uM a4 ho a5 hj,hF j b7 (uM a4 ho a5 hj)⟩).out
    rintro a' x'⟨v,rfl,b2,rfl⟩;refine⟨a7,.inl ⟨fun j hj=>?_,?_⟩⟩
    ·have:(j==i)=false:=by rw[aw];omega
     show(d j||j==i)=false
     rw[hnone j hj,this];rfl
    ·refine⟨fun j=>if j=i then v else s j,?_,b4 d i _ hin hJ,fun j hj a3=>?_⟩
     ·have ht:vAa[i]? = some (vAa.getD i 0):=by rw[aj,ai hin];rfl
      rw[ubi vAa a0 0 i s (vAa.getD i 0) v a9 ht,Nat.zero_add]
     ·by_cases a8:j=i
      ·subst a8
       simp only[if_true];exact b2
      ·simp only[if_neg a8]
       refine hF j hj ?_;rw[aU]at a3;rcases a3 with h|h
       ·exact h
       ·exact absurd (by simpa using h) a8
   ·rw[hdk i]at a1
    simp at a1;omega
  ·rcases ah i (vAa.length+k)with hik|hik
   ·rcases hI with⟨hnone,s,rfl,hJ,hF⟩|⟨m,hk,hdk,hw⟩
    ·refine wpOp_mono ?_ (c3 i o s d x ho hin hik a1 hJ (fun j hj=>uM a4 ho a5 hj) b5 hF).out
     rintro a' x'⟨rfl,b3⟩;refine⟨a7,.inl ⟨fun j hj=>?_,s,rfl,b3,fun j hj a3=>?_⟩⟩
     ·have:(j==i)=false:=by rw[aw];omega
      show(d j||j==i)=false
      rw[hnone j hj,this];rfl
     ·refine hF j hj ?_
      rw[aU]at a3;rcases a3 with h|h
      ·exact h
      ·have:j=i:=by simpa using h
       omega
    ·rw[hdk i]at a1
     simp at a1;omega
   ·have a2:∀j,j<i->d j=true:=fun j hj=>uM a4 ho a5 (c1 i hi hik j hj)
    have key:∃w',w'=wpList P ops Q (ops.toList.drop i) a x/\w':=by
     refine⟨_,rfl,?_⟩;rcases hI with⟨hnone,s,rfl,hJ,hF⟩|⟨m,hk,hdk,hw⟩
     ·have b6:i=vAa.length+k:=by
       rcases ah (vAa.length+k) i with h|h
       ·have:=a2 _ h;rw[hnone _ ab]at this;cases this
       ·omega
      rw[b6];exact fin s d x (fun j hj=>a2 j (by omega)) hJ fun j hj=>hF j hj (a2 j (by omega))
     ·have:i=m:=by
       rcases Nat.lt_trichotomy i m with h|h|h
       ·rw[hdk i]at a1;simp at a1;omega
       ·exact h
       ·have:=a2 m h;rw[hdk m]at this;simp at this
      rw[this];exact hw
    obtain⟨_,rfl,key⟩:=key;rw[vA1 ho]at key;refine wpOp_mono ?_ (vAd ho key);intro a' x' hw;refine⟨a7,.inr ⟨i+1,by omega,fun j=>?_,hw⟩⟩
    show(d j||j==i)=_
    rcases Nat.lt_trichotomy j i with h|h|h
    ·rw[a2 j h];simp;omega
    ·subst h;simp
    ·have a3:d j=false:=by
      rcases hI with⟨hnone,_⟩|⟨m,hk,hdk,hw⟩
      ·exact hnone j (by omega)
      ·rw[hdk i]at a1;rw[hdk j];simp at a1 ⊢;omega
     rw[a3];have:(j==i)=false:=by rw[aw];omega
     rw[this];simp;omega
 ·rintro d a x a2 ⟨a4,hI⟩
  rcases hI with⟨hnone,s,rfl,hJ,hF⟩|⟨m,hk,hdk,hw⟩
  ·have hn:vAa.length+k=ops.size:=by
    rcases ah (vAa.length+k) ops.size with h|h
    ·have:=a2 _ h;rw[hnone _ ab]at this;cases this
    ·omega
   have:=fin s d x (fun j hj=>a2 j (by omega)) hJ fun j hj=>hF j hj (a2 j (by omega))
   rw[hn,List.drop_of_length_le (by simp)]at this
   exact this
  ·have b9:ops.size<=m:=by
    rcases ah m ops.size with h|h
    ·have:=a2 m h;rw[hdk m]at this;simp at this
    ·exact h
   rw[List.drop_of_length_le (by simpa using b9)]at hw
   exact hw
theorem ux9{E:Sp}(a0:E.fs=[]){z:BE×Sy}{v:Value}{x:World}(x':World)(h:E.vBi z v x):E.vBi z v x':=by
 obtain⟨c,s⟩:=z;unfold Sp.vBi at h ⊢;split at h
 ·next hc=>
  rw[if_pos hc];cases s with
  | f k=>
   show(match nth E.fs k with|some R=>R v x'|none=>True)
   rw[a0];trivial
  | _=>exact h
 ·next hc=>rw[if_neg hc];exact h
theorem uya{E:Sp}(a0:E.fs=[]){vAa:List Nat}{j:Nat}{v:Value}{x:World}(x':World)(h:E.fact P ops vAa j v x):E.fact P ops vAa j v x':=by
 unfold Sp.fact at h ⊢;split at h
 ·exact ux9 a0 x' h
 ·exact h.elim
theorem udz{E:Sp}{vAa:List Nat}{j:Nat}{u v:Value}{x:World}(hf:E.fact P ops vAa j u x)(h:E.tab P ops vAa j=some (.t,.v v)):u=v:=by
 unfold Sp.fact at hf;rw[h]at hf;have a0:E.vBi (.t,.v v) u x:=hf;unfold Sp.vBi at a0;rw[if_pos (by rfl)]at a0
 exact a0
def uyb(P:Program)(E:Sp)(ops:Array Oper)(vAa:List Nat)(k:Nat):Bool:=
 uCo E.ext&&uyu ops&&(ucw ops vAa&&uvg (ua8 ops) ops (vAa.length+k)&&decide vAa.Nodup&&decide (vAa.length+k<=ops.size))&&(uj4 P E ops vAa).isSome
theorem uam{id:Nat}{a0:Act}{w0:World}(E:Sp)(vAa:List Nat)(k:Nat)(hm:P.follows .mixedOrders=true)(a1:uyb P E ops vAa k=true)(b8:vAa.all (fun t=>decide (t<a0.tmps.size))=true)
 (a4:E.fs=[]) (b2:(E.ext.map fun z=>a0.eval (.tmp z.1))=E.ext.map fun z=>E.den z.2)
 (JS:(Nat->Bool)->World->Prop) (h0:JS (fun _=>false) w0.drew) (a8:∀d i x,i<vAa.length->JS d x->JS (fun j=>d j||j==i) x)
 (b5:∀d x,JS d x->ufq x E.mem) (b1:∀x,E.vA7 P ops Q vAa (fun x y=>x=y) x E.hint)
 (b9:∀(i:Nat) (o:Oper) (s:Nat->Value) (d:Nat->Bool) (x:World),ops[i]? = some o->vAa.length<=i->i<vAa.length+k->d i=false->JS d x ->
  (∀j,uP (ua8 ops) i j=true->d j=true)->(∀j,j<ops.size->uP (ua8 ops) j i=true->d j=false)->(∀j,j<vAa.length->d j=true->E.fact P ops vAa j (s j) x) ->
  ua5 P ops Q i (fun a' x'=>a'=uj a0 vAa 0 s/\JS (fun j=>d j||j==i) x') (uj a0 vAa 0 s) x)
 (fin:∀(s:Nat->Value) (d:Nat->Bool) (x:World),(∀i,i<vAa.length+k->d i=true)->JS d x->(∀ {l:List (Nat×Sy)},(l.map fun z=>E.tab P ops vAa z.1)=(l.map fun z=>some (.t,z.2))->E.vCy s x l)->wpList P ops Q (ops.toList.drop (vAa.length+k)) (uj a0 vAa 0 s) x) :
 (Code.region id ops true).wp P Q a0 w0:=by
 unfold uyb at a1;rw[ax,ax,ax]at a1;obtain⟨⟨⟨b3,b4⟩,a6⟩,b7⟩:=a1;obtain⟨T,hT⟩:=Option.isSome_iff_exists.1 b7;have a7:=a6;simp only[ax,aP]at a7;obtain⟨⟨⟨b0,_⟩,b6⟩,c0⟩:=a7;refine umh hm b4 vAa k a6 (fun i v=>∀x,E.fact P ops vAa i v x) JS h0 a8 ?_ ?_ ?_
 ·intro i o s d x ho hi a3 hJ a2
  have:=uje (G:=fun x y=>x=y) (W:=x) hT (by omega) (by rw[a4];exact trivial) (a0:=a0) b2 b3 (fun y e=>by subst e;exact b5 d _ hJ) b0 (b1 x) i o s d x (uj a0 vAa 0 s) ho hi rfl (fun j hj a5=>⟨(a2 j hj a5).1,(a2 j hj a5).2 x⟩) (fun j hj=>by
   have ht:vAa[j]? = some (vAa.getD j 0):=by rw[aj,ai hj];rfl
   have:=ucx vAa a0 0 j s _ b6 (fun t ht=>by have:=aT.1 b8 t ht;simpa using this) ht
   rw[Nat.zero_add]at this;exact this) (fun t ht=>ucy vAa a0 0 s t ht)
  refine ua5.of (wpOp_mono ?_ this.out);rintro a' x'⟨v,rfl,h1,h2⟩;exact⟨v,rfl,fun y=>uya a4 y h1,h2.symm⟩
 ·intro i o s d x ho h1 h2 a3 hJ ha hb hF
  exact b9 i o s d x ho h1 h2 a3 hJ ha hb fun j hj hd=>hF j hj hd x
 ·intro s d x a9 hJ hF
  exact fin s d x a9 hJ fun {l} hl=>Sp.vA8 (fun j hj=>hF j hj x) hl
variable {G:World->World->Prop} [vAi G]
theorem uba{E:Sp}{vAa:List Nat}{W:World}{i:Nat}{o:Oper}(ho:ops[i]? = some o){T:TypeId}{x lo:Operand}(a2:o.op = .slice T x (some lo) none none)(b off n c m:Nat)(hA:[E.opC P ops vAa i x,E.opC P ops vAa i lo]=[some (.v (.slice (some ⟨b,off,none⟩) n c)),some (.v (.int .i64 m))])(sz:Nat)(hs:uar P T=some sz)(h1:m<=n) :
 E.vB7 P ops Q vAa G W i (.v (.slice (some ⟨b,if c=m then off else off+m*sz,none⟩) (n-m) (c-m))):=by
 intro o' x' a a0 a3 hC hw a1;rw[ho]at a0;injection a0 with a0;subst a0;simp only[List.cons.injEq,and_true]at hA;exact ok_slice ho hw T x lo a2 b off n c m (a1 x _ hA.1) (a1 lo _ hA.2) sz hs h1 rfl ⟨_,rfl,rfl,vAi.refl _⟩
end
end Go.Proofs.YtnbbpmagijpmpaaGreatDoor
