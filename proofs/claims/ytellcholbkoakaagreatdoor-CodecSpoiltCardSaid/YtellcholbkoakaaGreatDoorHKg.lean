/-
 Which certificates are looked at (printed by kgen.py).
-/
import Derived.Test.YtellcholbkoakaaGreatDoorHKf
import Derived.Test.YtellcholbkoakaaGreatDoorHKb
namespace Go.Proofs.YtellcholbkoakaaGreatDoor
open Go.Lib (hid)
open Go.RowKit AC
set_option linter.unusedVariables false
set_option linter.unusedSimpArgs false
section
variable {w:World} {D:Nat→Prop}
theorem Rep.re5{s1 s2 s3 s4 s5:Shape}{l1 l2 l3 l4 l5:List Value}{t1 t2 t3 t4 t5:List UInt8}(h1:Rep w D s1 l1 [t1])(h2:Rep w D s2 l2 [t2])(h3:Rep w D s3 l3 [t3])(h4:Rep w D s4 l4 [t4])(h5:Rep w D s5 l5 [t5]):Rep w D (.st (.and s1 (.and s2 (.and s3 (.and s4 (.and s5 .fin)))))) (l1++(l2++(l3++(l4++(l5++[]))))) [par (fun i=>[t1,t2,t3,t4,t5].getD i []) 5]:=
 ⟨[t1,t2,t3,t4,t5],rfl,l1,_,t1,_,rfl,rfl,h1,l2,_,t2,_,rfl,rfl,h2,l3,_,t3,_,rfl,rfl,h3,l4,_,t4,_,rfl,rfl,h4,l5,[],t5,[],rfl,rfl,h5,rfl,rfl⟩
theorem uy4{z0 z1 z4:Int}{A A':Option Addr}{k c k' c':Nat}{z2:Int}{t:List UInt8}(h:Rep w D axS [.int .i64 z0,.int .i64 z1,.slice A k c,.int .i64 z2,.slice A' k' c',.int .i64 z4] [t])(hk:k≤4)(a0:k'≤4):t.length≤467:=by
 obtain⟨_,ht,l0,m0,t0,_,e0,rfl,r0,l1,m1,t1,_,e1,rfl,r1,l2,m2,t2,_,e2,rfl,r2,l3,m3,t3,_,e3,rfl,r3,rfl,rfl⟩:=h;injection ht with ht _;subst ht;obtain⟨y0,rfl⟩:=ug r0.ty;obtain⟨y1,y2,y3,y4,rfl⟩:=ua2 r1.ty;obtain⟨y5,y6,y7,y8,rfl⟩:=ua2 r2.ty;obtain⟨y9,rfl⟩:=ug r3.ty;subst e3;subst e2;subst e1;simp only[List.cons_append,List.nil_append,List.append_nil,List.cons.injEq,Value.slice.injEq,Value.int.injEq,true_and,and_true]at e0;have q0:=r0.int_len;have q3:=r3.int_len;have q1:=umh r1 (n:=4) (fun z A k c e=>by injection e with _ e;injection e with e _;injection e with _ e _;omega)
 have q2:=umh r2 (n:=4) (fun z A k c e=>by injection e with _ e;injection e with e _;injection e with _ e _;omega)
 exact uy2 (by omega)
end
set_option maxHeartbeats 4000000 in
set_option maxRecDepth 100000 in
theorem ufp(n:Nat)(w W:World)(D:Nat→Prop)(A:Option Addr)(k c:Nat)(t:List UInt8)(m:Nat)(hm:m≤1000)(h:Rep w D (.list (ugd n)) [.slice A k c] [t])(hW:Below w.heap.size w W) :
 Calls Tryz.prog 24 #[.slice A k c,.int .i64 m] W (KP (Rep w D (.list (un n)) [.slice A k c] [t]∧t.length≤2+m*(3504+1)) W):=by
 have HW:=hid hW;clear hW;have c8:=hid (Below.refl W.heap.size W);have f7:=hid h;clear h;obtain⟨e5,c4,g5,g3,f5,f4,f6⟩:=f7.out.unlist;subst g5;unfold maxLen at f5;have e8:=hid f4;have f9:=hid f6;clear f4 f6;by_cases g4:k≤m
 ·have j3:decide (m<k)=false:=decide_eq_false (by omega)
  go_enter Tryz.func24,Tryz.ntmps24
  go_wp2;go_loopw [12] (fun iv wr=>∃(i:Nat),i≤k∧iv = .int .i64 i∧Hid (∀j,j<i→Rep w D (un n) (e5 j) [c4 j]∧(c4 j).length≤3504)∧Hid (Below W.heap.size W wr)) (fun iv _=>k-(intOf iv).toNat)
  case atStart=>exact⟨0,by omega,rfl,(fun j hj=>absurd hj (by omega)),Below.refl _ _⟩
  obtain⟨a0,j4,rfl,d5,c9⟩:=hrel;obtain⟨c7,g6⟩:∃w:World,w=wr:=⟨_,rfl⟩;subst g6;have f3:=c9.out;have a5:=hid (c8.out.trans (f3.mono c8.out.size));clear f3;by_cases b5:a0<k
  ·obtain⟨a1,a2,g2,_,a3,b4⟩:=e8.out (by omega)
   subst g2;have e1:=f9.out a0 b5;obtain⟨k1,a6⟩:∃u,e5 a0=u:=⟨_,rfl⟩;rw[a6]at e1;have b6:Shape.sz (ugd n)=5:=ubq;obtain⟨j8,e0⟩:∃t,c4 a0=t:=⟨_,rfl⟩;rw[e0]at e1;have f0:=hid e0;clear e0;obtain⟨_,e2,j6,_,j9,_,rfl,rfl,e3,j7,_,k0,_,rfl,rfl,e4,rfl,rfl⟩:=e1;injection e2 with e2 _;obtain⟨b9,b7,c2,c0,b8,c3,c1,rfl⟩:=ukl e3.ty;obtain⟨a7,a9,a8,b0,b2,b1,rfl⟩:=uaj e4.ty;subst e2;have f8:=hid e3;clear e3;have f1:=hid e4;clear e4;have g1:=hid a6;have d0:Hid (w.cell? ⟨a1,a2+a0*5,none⟩=some (.bool b9)):=by
    have h9:=b4 a0 b5 0 (.bool b9) (by rw[a6];rfl)
    rw[b6]at h9;show w.cell? ⟨a1,a2+a0*5,none⟩=some (.bool b9)
    simpa using h9
   have g7:c7.cell? ⟨a1,a2+a0*5,none⟩=some (.bool b9):=((HW.out.trans (a5.out.mono HW.out.size)).cell (p:=⟨a1,a2+a0*5,none⟩) a3).trans d0.out;have d1:Hid (w.cell? ⟨a1,a2+a0*5+1,none⟩=some (.slice b7 c2 c0)):=by
    have h9:=b4 a0 b5 1 (.slice b7 c2 c0) (by rw[a6];rfl)
    rw[b6]at h9;show w.cell? ⟨a1,a2+a0*5+1,none⟩=some (.slice b7 c2 c0)
    exact h9
   have g8:c7.cell? ⟨a1,a2+a0*5+1,none⟩=some (.slice b7 c2 c0):=((HW.out.trans (a5.out.mono HW.out.size)).cell (p:=⟨a1,a2+a0*5+1,none⟩) a3).trans d1.out;have d2:Hid (w.cell? ⟨a1,a2+a0*5+2,none⟩=some (.slice b8 c3 c1)):=by
    have h9:=b4 a0 b5 2 (.slice b8 c3 c1) (by rw[a6];rfl)
    rw[b6]at h9;show w.cell? ⟨a1,a2+a0*5+2,none⟩=some (.slice b8 c3 c1)
    exact h9
   have g9:c7.cell? ⟨a1,a2+a0*5+2,none⟩=some (.slice b8 c3 c1):=((HW.out.trans (a5.out.mono HW.out.size)).cell (p:=⟨a1,a2+a0*5+2,none⟩) a3).trans d2.out;have d3:Hid (w.cell? ⟨a1,a2+a0*5+3,none⟩=some (.slice a7 a9 a8)):=by
    have h9:=b4 a0 b5 3 (.slice a7 a9 a8) (by rw[a6];rfl)
    rw[b6]at h9;show w.cell? ⟨a1,a2+a0*5+3,none⟩=some (.slice a7 a9 a8)
    exact h9
   have h0:c7.cell? ⟨a1,a2+a0*5+3,none⟩=some (.slice a7 a9 a8):=((HW.out.trans (a5.out.mono HW.out.size)).cell (p:=⟨a1,a2+a0*5+3,none⟩) a3).trans d3.out;have d4:Hid (w.cell? ⟨a1,a2+a0*5+4,none⟩=some (.slice b0 b2 b1)):=by
    have h9:=b4 a0 b5 4 (.slice b0 b2 b1) (by rw[a6];rfl)
    rw[b6]at h9;show w.cell? ⟨a1,a2+a0*5+4,none⟩=some (.slice b0 b2 b1)
    exact h9
   have h1:c7.cell? ⟨a1,a2+a0*5+4,none⟩=some (.slice b0 b2 b1):=((HW.out.trans (a5.out.mono HW.out.size)).cell (p:=⟨a1,a2+a0*5+4,none⟩) a3).trans d4.out;clear b4 a6 b6;go_wp2_with fail
   refine(ukk w _ D _ _ _ _ _ _ _ _ f8.out).mono ?_;rintro e c5⟨bb,rfl,d6,d8⟩;have a4:=hid (a5.out.trans (d8.mono a5.out.size));have e6:=hid (c9.out.trans (d8.mono c9.out.size));have h2:c5.cell? ⟨a1,a2+a0*5,none⟩=some (.bool b9):=((HW.out.trans (a4.out.mono HW.out.size)).cell (p:=⟨a1,a2+a0*5,none⟩) a3).trans d0.out;have h3:c5.cell? ⟨a1,a2+a0*5+1,none⟩=some (.slice b7 c2 c0):=((HW.out.trans (a4.out.mono HW.out.size)).cell (p:=⟨a1,a2+a0*5+1,none⟩) a3).trans d1.out;have h4:c5.cell? ⟨a1,a2+a0*5+2,none⟩=some (.slice b8 c3 c1):=((HW.out.trans (a4.out.mono HW.out.size)).cell (p:=⟨a1,a2+a0*5+2,none⟩) a3).trans d2.out;have h5:c5.cell? ⟨a1,a2+a0*5+3,none⟩=some (.slice a7 a9 a8):=((HW.out.trans (a4.out.mono HW.out.size)).cell (p:=⟨a1,a2+a0*5+3,none⟩) a3).trans d3.out;have h6:c5.cell? ⟨a1,a2+a0*5+4,none⟩=some (.slice b0 b2 b1):=((HW.out.trans (a4.out.mono HW.out.size)).cell (p:=⟨a1,a2+a0*5+4,none⟩) a3).trans d4.out;clear d8;rcases bb with _|_
   ·clear d6
    go_wp2;go_ret
    exact KP.no a4.out
   have f2:=hid (d6 rfl);clear d6;go_wp2_with fail
   refine((show Calls _ _ #[.agg #[.slice a7 a9 a8,.slice b0 b2 b1]] _ _ from ufo n w _ D [.slice a7 a9 a8,.slice b0 b2 b1] _ f1.out (HW.out.trans (a4.out.mono HW.out.size)))).mono ?_
   rintro e c6⟨bb,rfl,d7,d9⟩;have b3:=hid (a4.out.trans (d9.mono a4.out.size));have e7:=hid (e6.out.trans (d9.mono e6.out.size));have h7:c6.cell? ⟨a1,a2+a0*5,none⟩=some (.bool b9):=((HW.out.trans (b3.out.mono HW.out.size)).cell (p:=⟨a1,a2+a0*5,none⟩) a3).trans d0.out;have h8:c6.cell? ⟨a1,a2+a0*5+1,none⟩=some (.slice b7 c2 c0):=((HW.out.trans (b3.out.mono HW.out.size)).cell (p:=⟨a1,a2+a0*5+1,none⟩) a3).trans d1.out;have j0:c6.cell? ⟨a1,a2+a0*5+2,none⟩=some (.slice b8 c3 c1):=((HW.out.trans (b3.out.mono HW.out.size)).cell (p:=⟨a1,a2+a0*5+2,none⟩) a3).trans d2.out;have j1:c6.cell? ⟨a1,a2+a0*5+3,none⟩=some (.slice a7 a9 a8):=((HW.out.trans (b3.out.mono HW.out.size)).cell (p:=⟨a1,a2+a0*5+3,none⟩) a3).trans d3.out;have j2:c6.cell? ⟨a1,a2+a0*5+4,none⟩=some (.slice b0 b2 b1):=((HW.out.trans (b3.out.mono HW.out.size)).cell (p:=⟨a1,a2+a0*5+4,none⟩) a3).trans d4.out;clear d9;rcases bb with _|_
   ·clear d7
    go_wp2;go_ret
    exact KP.no b3.out
   have g0:=hid (d7 rfl);clear d7;have e9:Hid (∀j,j<a0+1→Rep w D (un n) (e5 j) [c4 j]∧(c4 j).length≤3504):=fun j hj=>by
    rcases Nat.lt_or_ge j a0 with h|h
    ·exact d5.out j h
    ·obtain rfl:j=a0:=by omega
     first|rw[g1.out,f0.out]|rw[f0.out]
     have q1:=f2.out.2;have q2:=g0.out;exact⟨Rep.re2 f2.out.1 f1.out,ug2 (by omega)⟩
   go_wp2;go_roundw
   case rel=>first|exact⟨a0+1,by omega,by go_num,e9,e7⟩|((repeat apply Exists.intro);exact⟨⟨a0+1,by omega,by go_num,e9,e7⟩,rfl⟩)
   case measure=>simp[intOf];omega
  obtain rfl:a0=k:=by omega
  go_wp2;go_ret
  exact KP.yes (⟨Rep.relist (ugr.trans ubq.symm) g3 f5 e8.out (fun j hj=>(d5.out j hj).1),uah g4 fun j hj=>(d5.out j hj).2⟩) a5.out
 ·have j5:m<k:=by omega
  go_enter Tryz.func24,Tryz.ntmps24
  go_wp2;go_ret
  exact KP.no c8.out
set_option maxHeartbeats 4000000 in
set_option maxRecDepth 100000 in
theorem up5(n:Nat)(w W:World)(D:Nat→Prop)(A:Option Addr)(k c:Nat)(t:List UInt8)(h:Rep w D (.list (uxo n)) [.slice A k c] [t])(hW:Below w.heap.size w W) :
 Calls Tryz.prog 28 #[.slice A k c,.int .i64 3] W (KP (Rep w D (.list (uax n)) [.slice A k c] [t]∧t.length≤2+3*(5394+1)) W):=by
 have HW:=hid hW;clear hW;have e9:=hid (Below.refl W.heap.size W);have l6:=hid h;clear h;obtain⟨g9,d9,m6,m4,j7,j6,j8⟩:=l6.out.unlist;subst m6;unfold maxLen at j7;have h5:=hid j6;have m0:=hid j8;clear j6 j8;by_cases m5:k≤3
 ·have o6:decide (3<k)=false:=decide_eq_false (by omega)
  go_enter Tryz.func28,Tryz.ntmps28
  go_wp2;go_loopw [13] (fun iv wr=>∃(i:Nat),i≤k∧iv = .int .i64 i∧Hid (∀j,j<i→Rep w D (uax n) (g9 j) [d9 j]∧(d9 j).length≤5394)∧Hid (Below W.heap.size W wr)) (fun iv _=>k-(intOf iv).toNat)
  case atStart=>exact⟨0,by omega,rfl,(fun j hj=>absurd hj (by omega)),Below.refl _ _⟩
  obtain⟨a0,o7,rfl,f5,f0⟩:=hrel;obtain⟨a3,m7⟩:∃w:World,w=wr:=⟨_,rfl⟩;subst m7;have j5:=f0.out;have a4:=hid (e9.out.trans (j5.mono e9.out.size));clear j5;by_cases a7:a0<k
  ·obtain⟨a1,a2,m3,_,a9,a6⟩:=h5.out (by omega)
   subst m3;have g2:=m0.out a0 a7;obtain⟨q7,a5⟩:∃u,g9 a0=u:=⟨_,rfl⟩;rw[a5]at g2;have a8:Shape.sz (uxo n)=13:=ub4;obtain⟨p6,g1⟩:∃t,d9 a0=t:=⟨_,rfl⟩;rw[g1]at g2;have h7:=hid g1;clear g1;obtain⟨_,g3,p1,_,p7,_,rfl,rfl,g4,p2,_,p8,_,rfl,rfl,g5,p3,_,p9,_,rfl,rfl,g6,p4,_,q5,_,rfl,rfl,g7,p5,_,q6,_,rfl,rfl,g8,rfl,rfl⟩:=g2;injection g3 with g3 _;obtain⟨b8,b9,c0,b0,c1,c2,c3,b1,c4,c5,rfl⟩:=ufe g4.ty;obtain⟨c8,c6,d1,c9,c7,d2,d0,rfl⟩:=ukl g5.ty;obtain⟨b2,b4,b3,b5,b7,b6,rfl⟩:=uaj g6.ty;obtain⟨d3,d5,d4,rfl⟩:=ua g7.ty;obtain⟨d6,d8,d7,rfl⟩:=ua g8.ty;subst g3;have h8:=hid g4;clear g4;have l7:=hid g5;clear g5;have j0:=hid g6;clear g6;have l8:=hid g7;clear g7;have l9:=hid g8;clear g8;have m2:=hid a5;have k3:Hid (w.cell? ⟨a1,a2+a0*13,none⟩=some (.int .i64 b8)):=by
    have h9:=a6 a0 a7 0 (.int .i64 b8) (by rw[a5];rfl)
    rw[a8]at h9;show w.cell? ⟨a1,a2+a0*13,none⟩=some (.int .i64 b8)
    simpa using h9
   have n3:a3.cell? ⟨a1,a2+a0*13,none⟩=some (.int .i64 b8):=((HW.out.trans (a4.out.mono HW.out.size)).cell (p:=⟨a1,a2+a0*13,none⟩) a9).trans k3.out;have k4:Hid (w.cell? ⟨a1,a2+a0*13+1,none⟩=some (.int .i64 b9)):=by
    have h9:=a6 a0 a7 1 (.int .i64 b9) (by rw[a5];rfl)
    rw[a8]at h9;show w.cell? ⟨a1,a2+a0*13+1,none⟩=some (.int .i64 b9)
    exact h9
   have n4:a3.cell? ⟨a1,a2+a0*13+1,none⟩=some (.int .i64 b9):=((HW.out.trans (a4.out.mono HW.out.size)).cell (p:=⟨a1,a2+a0*13+1,none⟩) a9).trans k4.out;have k5:Hid (w.cell? ⟨a1,a2+a0*13+2,none⟩=some (.slice c0 b0 c1)):=by
    have h9:=a6 a0 a7 2 (.slice c0 b0 c1) (by rw[a5];rfl)
    rw[a8]at h9;show w.cell? ⟨a1,a2+a0*13+2,none⟩=some (.slice c0 b0 c1)
    exact h9
   have n5:a3.cell? ⟨a1,a2+a0*13+2,none⟩=some (.slice c0 b0 c1):=((HW.out.trans (a4.out.mono HW.out.size)).cell (p:=⟨a1,a2+a0*13+2,none⟩) a9).trans k5.out;have k6:Hid (w.cell? ⟨a1,a2+a0*13+3,none⟩=some (.int .i64 c2)):=by
    have h9:=a6 a0 a7 3 (.int .i64 c2) (by rw[a5];rfl)
    rw[a8]at h9;show w.cell? ⟨a1,a2+a0*13+3,none⟩=some (.int .i64 c2)
    exact h9
   have n6:a3.cell? ⟨a1,a2+a0*13+3,none⟩=some (.int .i64 c2):=((HW.out.trans (a4.out.mono HW.out.size)).cell (p:=⟨a1,a2+a0*13+3,none⟩) a9).trans k6.out;have k7:Hid (w.cell? ⟨a1,a2+a0*13+4,none⟩=some (.slice c3 b1 c4)):=by
    have h9:=a6 a0 a7 4 (.slice c3 b1 c4) (by rw[a5];rfl)
    rw[a8]at h9;show w.cell? ⟨a1,a2+a0*13+4,none⟩=some (.slice c3 b1 c4)
    exact h9
   have n7:a3.cell? ⟨a1,a2+a0*13+4,none⟩=some (.slice c3 b1 c4):=((HW.out.trans (a4.out.mono HW.out.size)).cell (p:=⟨a1,a2+a0*13+4,none⟩) a9).trans k7.out;have k8:Hid (w.cell? ⟨a1,a2+a0*13+5,none⟩=some (.int .i64 c5)):=by
    have h9:=a6 a0 a7 5 (.int .i64 c5) (by rw[a5];rfl)
    rw[a8]at h9;show w.cell? ⟨a1,a2+a0*13+5,none⟩=some (.int .i64 c5)
    exact h9
   have n8:a3.cell? ⟨a1,a2+a0*13+5,none⟩=some (.int .i64 c5):=((HW.out.trans (a4.out.mono HW.out.size)).cell (p:=⟨a1,a2+a0*13+5,none⟩) a9).trans k8.out;have k9:Hid (w.cell? ⟨a1,a2+a0*13+6,none⟩=some (.bool c8)):=by
    have h9:=a6 a0 a7 6 (.bool c8) (by rw[a5];rfl)
    rw[a8]at h9;show w.cell? ⟨a1,a2+a0*13+6,none⟩=some (.bool c8)
    exact h9
   have n9:a3.cell? ⟨a1,a2+a0*13+6,none⟩=some (.bool c8):=((HW.out.trans (a4.out.mono HW.out.size)).cell (p:=⟨a1,a2+a0*13+6,none⟩) a9).trans k9.out;have l0:Hid (w.cell? ⟨a1,a2+a0*13+7,none⟩=some (.slice c6 d1 c9)):=by
    have h9:=a6 a0 a7 7 (.slice c6 d1 c9) (by rw[a5];rfl)
    rw[a8]at h9;show w.cell? ⟨a1,a2+a0*13+7,none⟩=some (.slice c6 d1 c9)
    exact h9
   have o0:a3.cell? ⟨a1,a2+a0*13+7,none⟩=some (.slice c6 d1 c9):=((HW.out.trans (a4.out.mono HW.out.size)).cell (p:=⟨a1,a2+a0*13+7,none⟩) a9).trans l0.out;have l1:Hid (w.cell? ⟨a1,a2+a0*13+8,none⟩=some (.slice c7 d2 d0)):=by
    have h9:=a6 a0 a7 8 (.slice c7 d2 d0) (by rw[a5];rfl)
    rw[a8]at h9;show w.cell? ⟨a1,a2+a0*13+8,none⟩=some (.slice c7 d2 d0)
    exact h9
   have o1:a3.cell? ⟨a1,a2+a0*13+8,none⟩=some (.slice c7 d2 d0):=((HW.out.trans (a4.out.mono HW.out.size)).cell (p:=⟨a1,a2+a0*13+8,none⟩) a9).trans l1.out;have l2:Hid (w.cell? ⟨a1,a2+a0*13+9,none⟩=some (.slice b2 b4 b3)):=by
    have h9:=a6 a0 a7 9 (.slice b2 b4 b3) (by rw[a5];rfl)
    rw[a8]at h9;show w.cell? ⟨a1,a2+a0*13+9,none⟩=some (.slice b2 b4 b3)
    exact h9
   have o2:a3.cell? ⟨a1,a2+a0*13+9,none⟩=some (.slice b2 b4 b3):=((HW.out.trans (a4.out.mono HW.out.size)).cell (p:=⟨a1,a2+a0*13+9,none⟩) a9).trans l2.out;have l3:Hid (w.cell? ⟨a1,a2+a0*13+10,none⟩=some (.slice b5 b7 b6)):=by
    have h9:=a6 a0 a7 10 (.slice b5 b7 b6) (by rw[a5];rfl)
    rw[a8]at h9;show w.cell? ⟨a1,a2+a0*13+10,none⟩=some (.slice b5 b7 b6)
    exact h9
   have o3:a3.cell? ⟨a1,a2+a0*13+10,none⟩=some (.slice b5 b7 b6):=((HW.out.trans (a4.out.mono HW.out.size)).cell (p:=⟨a1,a2+a0*13+10,none⟩) a9).trans l3.out;have l4:Hid (w.cell? ⟨a1,a2+a0*13+11,none⟩=some (.slice d3 d5 d4)):=by
    have h9:=a6 a0 a7 11 (.slice d3 d5 d4) (by rw[a5];rfl)
    rw[a8]at h9;show w.cell? ⟨a1,a2+a0*13+11,none⟩=some (.slice d3 d5 d4)
    exact h9
   have o4:a3.cell? ⟨a1,a2+a0*13+11,none⟩=some (.slice d3 d5 d4):=((HW.out.trans (a4.out.mono HW.out.size)).cell (p:=⟨a1,a2+a0*13+11,none⟩) a9).trans l4.out;have l5:Hid (w.cell? ⟨a1,a2+a0*13+12,none⟩=some (.slice d6 d8 d7)):=by
    have h9:=a6 a0 a7 12 (.slice d6 d8 d7) (by rw[a5];rfl)
    rw[a8]at h9;show w.cell? ⟨a1,a2+a0*13+12,none⟩=some (.slice d6 d8 d7)
    exact h9
   have o5:a3.cell? ⟨a1,a2+a0*13+12,none⟩=some (.slice d6 d8 d7):=((HW.out.trans (a4.out.mono HW.out.size)).cell (p:=⟨a1,a2+a0*13+12,none⟩) a9).trans l5.out;clear a6 a5 a8;go_upto_region 7 with(fail)
   obtain⟨j4,e4⟩:∃W,W=a3.alloc (.cells #[.int .i64 b8,.int .i64 b9,.slice c0 b0 c1,.int .i64 c2,.slice c3 b1 c4,.int .i64 c5,.bool c8,.slice c6 d1 c9,.slice c7 d2 d0,.slice b2 b4 b3,.slice b5 b7 b6,.slice d3 d5 d4,.slice d6 d8 d7] 154):=⟨_,rfl⟩;have g0:Below a3.heap.size a3 j4:=by rw[e4];exact(Below.refl _ _).alloc (Nat.le_refl _) _
   have e0:=hid (a4.out.trans (g0.mono a4.out.size));have h0:=hid (f0.out.trans (g0.mono f0.out.size));have f1:Hid (Bk j4 a3.heap.size 154 #[.int .i64 b8,.int .i64 b9,.slice c0 b0 c1,.int .i64 c2,.slice c3 b1 c4,.int .i64 c5,.bool c8,.slice c6 d1 c9,.slice c7 d2 d0,.slice b2 b4 b3,.slice b5 b7 b6,.slice d3 d5 d4,.slice d6 d8 d7]):=by rw[e4];exact Bk.new _ _ _
   obtain⟨m8,_,_⟩:=f1.out.facts;rw[←e4];clear e4 g0;rcases Nat.lt_or_ge 4 b0 with o9|j9
   ·go_wp2
    go_ret
    exact KP.no e0.out
   have j9:b0≤4:=j9;rcases Nat.lt_or_ge 4 b1 with p0|k0
   ·go_wp2
    go_ret
    exact KP.no e0.out
   have k0:b1≤4:=k0;go_wp2_with fail
   refine(ukk w _ D _ _ _ _ _ _ _ _ l7.out).mono ?_;rintro e q8⟨bb,rfl,f6,e5⟩;have e1:=hid (e0.out.trans (e5.mono e0.out.size));have h1:=hid (h0.out.trans (e5.mono h0.out.size));have f2:=hid (f1.out.below e5 f1.out.lt);obtain⟨m9,_,_⟩:=f2.out.facts;clear e5;rcases bb with _|_
   ·clear f6
    go_wp2;go_ret
    exact KP.no e1.out
   have j1:=hid (f6 rfl);clear f6;go_wp2_with fail
   refine((show Calls _ _ #[.agg #[.slice b2 b4 b3,.slice b5 b7 b6]] _ _ from ufo n w _ D [.slice b2 b4 b3,.slice b5 b7 b6] _ j0.out (HW.out.trans (e1.out.mono HW.out.size)))).mono ?_
   rintro e q9⟨bb,rfl,f7,e6⟩;have e2:=hid (e1.out.trans (e6.mono e1.out.size));have h2:=hid (h1.out.trans (e6.mono h1.out.size));have f3:=hid (f2.out.below e6 f2.out.lt);obtain⟨n0,_,_⟩:=f3.out.facts;clear e6;rcases bb with _|_
   ·clear f7
    go_wp2;go_ret
    exact KP.no e2.out
   have m1:=hid (f7 rfl);clear f7;go_wp2_with fail
   refine(umq n w _ D _ _ _ _ 12 (by omega) l8.out (HW.out.trans (e2.out.mono HW.out.size))).mono ?_
   rintro e r0⟨bb,rfl,f8,e7⟩;have e3:=hid (e2.out.trans (e7.mono e2.out.size));have h3:=hid (h2.out.trans (e7.mono h2.out.size));have f4:=hid (f3.out.below e7 f3.out.lt);obtain⟨n1,_,_⟩:=f4.out.facts;clear e7;rcases bb with _|_
   ·clear f8
    go_wp2;go_ret
    exact KP.no e3.out
   have j2:=hid (f8 rfl);clear f8;go_wp2_with fail
   refine(umq n w _ D _ _ _ _ 12 (by omega) l9.out (HW.out.trans (e3.out.mono HW.out.size))).mono ?_
   rintro e r1⟨bb,rfl,f9,e8⟩;have k1:=hid (e3.out.trans (e8.mono e3.out.size));have h4:=hid (h3.out.trans (e8.mono h3.out.size));have k2:=hid (f4.out.below e8 f4.out.lt);obtain⟨n2,_,_⟩:=k2.out.facts;clear e8;rcases bb with _|_
   ·clear f9
    go_wp2;go_ret
    exact KP.no k1.out
   have j3:=hid (f9 rfl);clear f9;have h6:Hid (∀j,j<a0+1→Rep w D (uax n) (g9 j) [d9 j]∧(d9 j).length≤5394):=fun j hj=>by
    rcases Nat.lt_or_ge j a0 with h|h
    ·exact f5.out j h
    ·obtain rfl:j=a0:=by omega
     first|rw[m2.out,h7.out]|rw[h7.out]
     have q0:=uy4 h8.out (by assumption) (by assumption)
     have q1:=j1.out.2;have q2:=m1.out;have q3:=j2.out.2;have q4:=j3.out.2;exact⟨Rep.re5 h8.out j1.out.1 j0.out j2.out.1 j3.out.1,uy3 (by omega)⟩
   go_wp2;go_roundw
   case rel=>first|exact⟨a0+1,by omega,by go_num,h6,h4⟩|((repeat apply Exists.intro);exact⟨⟨a0+1,by omega,by go_num,h6,h4⟩,rfl⟩)
   case measure=>simp[intOf];omega
  obtain rfl:a0=k:=by omega
  go_wp2;go_ret
  exact KP.yes (⟨Rep.relist (uci.trans ub4.symm) m4 j7 h5.out (fun j hj=>(f5.out j hj).1),uah m5 fun j hj=>(f5.out j hj).2⟩) a4.out
 ·have o8:3<k:=by omega
  go_enter Tryz.func28,Tryz.ntmps28
  go_wp2;go_ret
  exact KP.no e9.out
end Go.Proofs.YtellcholbkoakaaGreatDoor
