/-
 Which certificates are looked at (printed by kgen.py).
-/
import Derived.Test.YtellcholbkoakaaGreatDoorHKg
namespace Go.Proofs.YtellcholbkoakaaGreatDoor
open Go.Lib (hid)
open Go.RowKit AC
set_option linter.unusedVariables false
set_option linter.unusedSimpArgs false
section
variable {w:World} {D:Nat→Prop}
theorem Rep.re6{s1 s2 s3 s4 s5 s6:Shape}{l1 l2 l3 l4 l5 l6:List Value}{t1 t2 t3 t4 t5 t6:List UInt8}(h1:Rep w D s1 l1 [t1])(h2:Rep w D s2 l2 [t2])(h3:Rep w D s3 l3 [t3])(h4:Rep w D s4 l4 [t4])(h5:Rep w D s5 l5 [t5])(h6:Rep w D s6 l6 [t6]):Rep w D (.st (.and s1 (.and s2 (.and s3 (.and s4 (.and s5 (.and s6 .fin))))))) (l1++(l2++(l3++(l4++(l5++(l6++[])))))) [par (fun i=>[t1,t2,t3,t4,t5,t6].getD i []) 6]:=
 ⟨[t1,t2,t3,t4,t5,t6],rfl,l1,_,t1,_,rfl,rfl,h1,l2,_,t2,_,rfl,rfl,h2,l3,_,t3,_,rfl,rfl,h3,l4,_,t4,_,rfl,rfl,h4,l5,_,t5,_,rfl,rfl,h5,l6,_,t6,_,rfl,rfl,h6,rfl,rfl⟩
theorem Rep.re11{s1 s2 s3 s4 s5 s6 s7 s8 s9 s10 a4:Shape}{l1 l2 l3 l4 l5 l6 l7 l8 l9 a2 a3:List Value}{t1 t2 t3 t4 t5 t6 t7 t8 t9 a0 a1:List UInt8}(h1:Rep w D s1 l1 [t1])(h2:Rep w D s2 l2 [t2])(h3:Rep w D s3 l3 [t3])(h4:Rep w D s4 l4 [t4])(h5:Rep w D s5 l5 [t5])(h6:Rep w D s6 l6 [t6])(h7:Rep w D s7 l7 [t7])(h8:Rep w D s8 l8 [t8])(h9:Rep w D s9 l9 [t9])(a5:Rep w D s10 a2 [a0])(a6:Rep w D a4 a3 [a1]):Rep w D (.st (.and s1 (.and s2 (.and s3 (.and s4 (.and s5 (.and s6 (.and s7 (.and s8 (.and s9 (.and s10 (.and a4 .fin)))))))))))) (l1++(l2++(l3++(l4++(l5++(l6++(l7++(l8++(l9++(a2++(a3++[]))))))))))) [par (fun i=>[t1,t2,t3,t4,t5,t6,t7,t8,t9,a0,a1].getD i []) 11]:=
 ⟨[t1,t2,t3,t4,t5,t6,t7,t8,t9,a0,a1],rfl,l1,_,t1,_,rfl,rfl,h1,l2,_,t2,_,rfl,rfl,h2,l3,_,t3,_,rfl,rfl,h3,l4,_,t4,_,rfl,rfl,h4,l5,_,t5,_,rfl,rfl,h5,l6,_,t6,_,rfl,rfl,h6,l7,_,t7,_,rfl,rfl,h7,l8,_,t8,_,rfl,rfl,h8,l9,_,t9,_,rfl,rfl,h9,a2,_,a0,_,rfl,rfl,a5,a3,_,a1,_,rfl,rfl,a6,rfl,rfl⟩
theorem uy5{t1 t2 t3 t4 t5 t6:List UInt8}{N:Nat}(h:t1.length+t2.length+t3.length+t4.length+t5.length+t6.length+7≤N):(par (fun i=>[t1,t2,t3,t4,t5,t6].getD i []) [t1,t2,t3,t4,t5,t6].length).length≤N:=by
 have e:(par (fun i=>[t1,t2,t3,t4,t5,t6].getD i []) [t1,t2,t3,t4,t5,t6].length).length=t1.length+t2.length+t3.length+t4.length+t5.length+t6.length+7:=by simp[par,ube];omega
 rw[e];exact h
theorem uxz{t1 t2 t3 t4 t5 t6 t7 t8 t9 a0 a1:List UInt8}{N:Nat}(h:t1.length+t2.length+t3.length+t4.length+t5.length+t6.length+t7.length+t8.length+t9.length+a0.length+a1.length+12≤N):(par (fun i=>[t1,t2,t3,t4,t5,t6,t7,t8,t9,a0,a1].getD i []) [t1,t2,t3,t4,t5,t6,t7,t8,t9,a0,a1].length).length≤N:=by
 have e:(par (fun i=>[t1,t2,t3,t4,t5,t6,t7,t8,t9,a0,a1].getD i []) [t1,t2,t3,t4,t5,t6,t7,t8,t9,a0,a1].length).length=t1.length+t2.length+t3.length+t4.length+t5.length+t6.length+t7.length+t8.length+t9.length+a0.length+a1.length+12:=by simp[par,ube];omega
 rw[e];exact h
theorem up6{A A':Option Addr}{k c k' c':Nat}{t:List UInt8}(h:Rep w D uM [.slice A k c,.slice A' k' c'] [t])(hk:k≤40)(a0:k'≤40):t.length≤1767:=by
 obtain⟨l1,l2,t1,t2,hv,rfl,h1,h2⟩:=h.un2;obtain⟨B,m,d,rfl⟩:=ua h1.ty;obtain⟨B',m',d',rfl⟩:=ua h2.ty;injection hv with e1 hv;injection hv with e2 _;injection e1 with _ e1 _;injection e2 with _ e2 _;have q1:=h1.list_len (n:=40) (by omega) (M:=21) fun v t h=>h.int_len
 have q2:=h2.list_len (n:=40) (by omega) (M:=21) fun v t h=>h.int_len
 rw[uja];omega
end
set_option maxHeartbeats 4000000 in
set_option maxRecDepth 100000 in
theorem uvw(n:Nat)(w W:World)(D:Nat→Prop)(v:List Value)(t:List UInt8)(h:Rep w D (uj2 n) v [t])(hW:Below w.heap.size w W) :
 Calls Tryz.prog 9 #[.agg v.toArray] W (KP (Rep w D (ubb n) v [t]∧t.length≤100000000) W):=by
 have HW:=hid hW;clear hW;have G2:=hid (Below.refl W.heap.size W);obtain⟨_,B4,aj5,_,am2,_,rfl,rfl,B9,aj6,_,am3,_,rfl,rfl,C0,aj7,_,am4,_,rfl,rfl,C1,aj8,_,am5,_,rfl,rfl,C2,aj9,_,am6,_,rfl,rfl,C3,ak0,_,am7,_,rfl,rfl,C4,rfl,rfl⟩:=h;injection B4 with B4 _;obtain⟨F0,rfl⟩:=ua8 B9.ty;obtain⟨F1,o8,F2,F3,o9,F4,rfl⟩:=uch C0.ty;obtain⟨F5,F7,F6,rfl⟩:=ua C1.ty;obtain⟨p0,p2,p1,p3,p5,p4,p6,p8,p7,rfl⟩:=udy C2.ty;obtain⟨F8,d4,F9,rfl⟩:=ua C3.ty;obtain⟨G0,p9,G1,rfl⟩:=ua C4.ty;subst B4;have M0:=hid B9;clear B9;have M1:=hid C0;clear C0;have M2:=hid C1;clear C1;have M3:=hid C2;clear C2;have W2:=hid C3;clear C3;have M4:=hid C4;clear C4;show Calls Tryz.prog 9 #[.agg #[.bool F0,.slice F1 o8 F2,.slice F3 o9 F4,.slice F5 F7 F6,.slice p0 p2 p1,.slice p3 p5 p4,.slice p6 p8 p7,.slice F8 d4 F9,.slice G0 p9 G1]] W _
 go_enter Tryz.func9,Tryz.ntmps9
 go_upto_region 1 with(fail)
 obtain⟨C,hC⟩:∃C,C=W.alloc (.cells #[.bool F0,.slice F1 o8 F2,.slice F3 o9 F4,.slice F5 F7 F6,.slice p0 p2 p1,.slice p3 p5 p4,.slice p6 p8 p7,.slice F8 d4 F9,.slice G0 p9 G1] 34):=⟨_,rfl⟩;have N9:Below W.heap.size W C:=by rw[hC];exact(Below.refl _ _).alloc (Nat.le_refl _) _
 have m6:=hid (G2.out.trans (N9.mono G2.out.size));have v0:Hid (Bk C W.heap.size 34 #[.bool F0,.slice F1 o8 F2,.slice F3 o9 F4,.slice F5 F7 F6,.slice p0 p2 p1,.slice p3 p5 p4,.slice p6 p8 p7,.slice F8 d4 F9,.slice G0 p9 G1]):=by rw[hC];exact Bk.new _ _ _
 obtain⟨aa1,_,_⟩:=v0.out.facts;rw[←hC];clear hC N9;rcases Nat.lt_or_ge 4 d4 with ai6|P9
 ·go_wp2
  go_ret
  exact KP.no m6.out
 have P9:d4≤4:=P9;rcases Nat.lt_or_ge 6 p9 with ai7|Q0
 ·go_wp2
  go_ret
  exact KP.no m6.out
 have Q0:p9≤6:=Q0;go_wp2_with fail
 refine(uxy n w _ D _ _ _ _ 4 (by omega) M2.out (HW.out.trans (m6.out.mono HW.out.size))).mono ?_
 rintro e ap9⟨bb,rfl,z2,A1⟩;have r2:=hid (m6.out.trans (A1.mono m6.out.size));have w1:=hid (v0.out.below A1 v0.out.lt);obtain⟨ab8,_,_⟩:=w1.out.facts;clear A1;rcases bb with _|_
 ·clear z2
  go_wp2;go_ret
  exact KP.no r2.out
 have V8:=hid (z2 rfl);clear z2;go_wp2_with fail
 refine((show Calls _ _ #[.agg #[.slice p0 p2 p1,.slice p3 p5 p4,.slice p6 p8 p7],_] _ _ from us7 n w _ D [.slice p0 p2 p1,.slice p3 p5 p4,.slice p6 p8 p7] _ M3.out (HW.out.trans (r2.out.mono HW.out.size)))).mono ?_
 rintro e Q8⟨bb,rfl,z3,A2⟩;have m7:=hid (r2.out.trans (A2.mono r2.out.size));have w2:=hid (w1.out.below A2 w1.out.lt);obtain⟨ab9,_,_⟩:=w2.out.facts;clear A2;rcases bb with _|_
 ·clear z3
  go_wp2;go_ret
  exact KP.no m7.out
 have V9:=hid (z3 rfl);clear z3;rcases Nat.lt_or_ge 40 o8 with ai8|Q1
 ·go_wp2
  go_ret
  exact KP.no m7.out
 have Q1:o8≤40:=Q1;rcases Nat.lt_or_ge 40 o9 with ai9|Q2
 ·go_wp2
  go_ret
  exact KP.no m7.out
 have Q2:o9≤40:=Q2;obtain⟨E6,o1,Z1,Y6,O8,O3,P4⟩:=W2.out.unlist;subst Z1;unfold maxLen at O8;have I9:=hid O3;have X4:=hid P4;clear O3 P4;go_wp2;go_loopw [52] (fun iv wr=>∃(i:Nat),i≤d4∧iv = .int .i64 i∧Hid (∀j,j<i→Rep w D (uac n) (E6 j) [o1 j]∧(o1 j).length≤190000)∧Hid (Below Q8.heap.size Q8 wr)) (fun iv _=>d4-(intOf iv).toNat)
 case atStart=>exact⟨0,by omega,rfl,(fun j hj=>absurd hj (by omega)),Below.refl _ _⟩
 obtain⟨a0,ai2,rfl,J4,t2⟩:=hrel;obtain⟨b1,d2⟩:∃w:World,w=wr:=⟨_,rfl⟩;subst d2;have A3:=t2.out;have b2:=hid (m7.out.trans (A3.mono m7.out.size));have w3:=hid (w2.out.below A3 w2.out.lt);obtain⟨ac0,_,_⟩:=w3.out.facts;clear A3;by_cases b6:a0<d4
 ·obtain⟨a1,a2,c7,_,c4,b5⟩:=I9.out (by omega)
  subst c7;have B0:=X4.out a0 b6;obtain⟨ap3,b3⟩:∃u,E6 a0=u:=⟨_,rfl⟩;rw[b3]at B0;have b7:Shape.sz (ur2 n)=11:=ufn;obtain⟨am8,A6⟩:∃t,o1 a0=t:=⟨_,rfl⟩;rw[A6]at B0;have L4:=hid A6;clear A6;obtain⟨_,B5,ak1,_,am9,_,rfl,rfl,C5,ak2,_,an0,_,rfl,rfl,C6,ak3,_,an1,_,rfl,rfl,C7,ak4,_,an2,_,rfl,rfl,C8,ak5,_,an3,_,rfl,rfl,C9,ak6,_,an4,_,rfl,rfl,D0,ak7,_,an5,_,rfl,rfl,D1,ak8,_,an6,_,rfl,rfl,D2,ak9,_,an7,_,rfl,rfl,D3,al0,_,an8,_,rfl,rfl,D4,al1,_,an9,_,rfl,rfl,D5,rfl,rfl⟩:=B0;injection B5 with B5 _;obtain⟨h8,rfl⟩:=ug C5.ty;obtain⟨j0,rfl⟩:=ug C6.ty;obtain⟨j1,rfl⟩:=ua8 C7.ty;obtain⟨j2,j4,j3,rfl⟩:=ua C8.ty;obtain⟨j5,j7,j6,rfl⟩:=ua C9.ty;obtain⟨j8,c0,j9,rfl⟩:=ua D0.ty;obtain⟨k0,c1,k1,rfl⟩:=ua D1.ty;obtain⟨k2,k4,k3,rfl⟩:=ua D2.ty;obtain⟨k5,e3,k6,rfl⟩:=ua D3.ty;obtain⟨k7,k9,k8,rfl⟩:=ua D4.ty;obtain⟨l0,c2,l1,rfl⟩:=ua D5.ty;subst B5;have M5:=hid C5;clear C5;have M6:=hid C6;clear C6;have M7:=hid C7;clear C7;have W3:=hid C8;clear C8;have W4:=hid C9;clear C9;have W5:=hid D0;clear D0;have W6:=hid D1;clear D1;have W7:=hid D2;clear D2;have M8:=hid D3;clear D3;have W8:=hid D4;clear D4;have W9:=hid D5;clear D5;have Y1:=hid b3;have S8:Hid (w.cell? ⟨a1,a2+a0*11,none⟩=some (.int .i64 h8)):=by
   have h9:=b5 a0 b6 0 (.int .i64 h8) (by rw[b3];rfl)
   rw[b7]at h9;show w.cell? ⟨a1,a2+a0*11,none⟩=some (.int .i64 h8)
   simpa using h9
  have ag1:b1.cell? ⟨a1,a2+a0*11,none⟩=some (.int .i64 h8):=((HW.out.trans (b2.out.mono HW.out.size)).cell (p:=⟨a1,a2+a0*11,none⟩) c4).trans S8.out;have S9:Hid (w.cell? ⟨a1,a2+a0*11+1,none⟩=some (.int .i64 j0)):=by
   have h9:=b5 a0 b6 1 (.int .i64 j0) (by rw[b3];rfl)
   rw[b7]at h9;show w.cell? ⟨a1,a2+a0*11+1,none⟩=some (.int .i64 j0)
   exact h9
  have ag2:b1.cell? ⟨a1,a2+a0*11+1,none⟩=some (.int .i64 j0):=((HW.out.trans (b2.out.mono HW.out.size)).cell (p:=⟨a1,a2+a0*11+1,none⟩) c4).trans S9.out;have T0:Hid (w.cell? ⟨a1,a2+a0*11+2,none⟩=some (.bool j1)):=by
   have h9:=b5 a0 b6 2 (.bool j1) (by rw[b3];rfl)
   rw[b7]at h9;show w.cell? ⟨a1,a2+a0*11+2,none⟩=some (.bool j1)
   exact h9
  have ag3:b1.cell? ⟨a1,a2+a0*11+2,none⟩=some (.bool j1):=((HW.out.trans (b2.out.mono HW.out.size)).cell (p:=⟨a1,a2+a0*11+2,none⟩) c4).trans T0.out;have T1:Hid (w.cell? ⟨a1,a2+a0*11+3,none⟩=some (.slice j2 j4 j3)):=by
   have h9:=b5 a0 b6 3 (.slice j2 j4 j3) (by rw[b3];rfl)
   rw[b7]at h9;show w.cell? ⟨a1,a2+a0*11+3,none⟩=some (.slice j2 j4 j3)
   exact h9
  have ag4:b1.cell? ⟨a1,a2+a0*11+3,none⟩=some (.slice j2 j4 j3):=((HW.out.trans (b2.out.mono HW.out.size)).cell (p:=⟨a1,a2+a0*11+3,none⟩) c4).trans T1.out;have T2:Hid (w.cell? ⟨a1,a2+a0*11+4,none⟩=some (.slice j5 j7 j6)):=by
   have h9:=b5 a0 b6 4 (.slice j5 j7 j6) (by rw[b3];rfl)
   rw[b7]at h9;show w.cell? ⟨a1,a2+a0*11+4,none⟩=some (.slice j5 j7 j6)
   exact h9
  have ag5:b1.cell? ⟨a1,a2+a0*11+4,none⟩=some (.slice j5 j7 j6):=((HW.out.trans (b2.out.mono HW.out.size)).cell (p:=⟨a1,a2+a0*11+4,none⟩) c4).trans T2.out;have T3:Hid (w.cell? ⟨a1,a2+a0*11+5,none⟩=some (.slice j8 c0 j9)):=by
   have h9:=b5 a0 b6 5 (.slice j8 c0 j9) (by rw[b3];rfl)
   rw[b7]at h9;show w.cell? ⟨a1,a2+a0*11+5,none⟩=some (.slice j8 c0 j9)
   exact h9
  have ag6:b1.cell? ⟨a1,a2+a0*11+5,none⟩=some (.slice j8 c0 j9):=((HW.out.trans (b2.out.mono HW.out.size)).cell (p:=⟨a1,a2+a0*11+5,none⟩) c4).trans T3.out;have T4:Hid (w.cell? ⟨a1,a2+a0*11+6,none⟩=some (.slice k0 c1 k1)):=by
   have h9:=b5 a0 b6 6 (.slice k0 c1 k1) (by rw[b3];rfl)
   rw[b7]at h9;show w.cell? ⟨a1,a2+a0*11+6,none⟩=some (.slice k0 c1 k1)
   exact h9
  have ag7:b1.cell? ⟨a1,a2+a0*11+6,none⟩=some (.slice k0 c1 k1):=((HW.out.trans (b2.out.mono HW.out.size)).cell (p:=⟨a1,a2+a0*11+6,none⟩) c4).trans T4.out;have T5:Hid (w.cell? ⟨a1,a2+a0*11+7,none⟩=some (.slice k2 k4 k3)):=by
   have h9:=b5 a0 b6 7 (.slice k2 k4 k3) (by rw[b3];rfl)
   rw[b7]at h9;show w.cell? ⟨a1,a2+a0*11+7,none⟩=some (.slice k2 k4 k3)
   exact h9
  have ag8:b1.cell? ⟨a1,a2+a0*11+7,none⟩=some (.slice k2 k4 k3):=((HW.out.trans (b2.out.mono HW.out.size)).cell (p:=⟨a1,a2+a0*11+7,none⟩) c4).trans T5.out;have T6:Hid (w.cell? ⟨a1,a2+a0*11+8,none⟩=some (.slice k5 e3 k6)):=by
   have h9:=b5 a0 b6 8 (.slice k5 e3 k6) (by rw[b3];rfl)
   rw[b7]at h9;show w.cell? ⟨a1,a2+a0*11+8,none⟩=some (.slice k5 e3 k6)
   exact h9
  have ag9:b1.cell? ⟨a1,a2+a0*11+8,none⟩=some (.slice k5 e3 k6):=((HW.out.trans (b2.out.mono HW.out.size)).cell (p:=⟨a1,a2+a0*11+8,none⟩) c4).trans T6.out;have T7:Hid (w.cell? ⟨a1,a2+a0*11+9,none⟩=some (.slice k7 k9 k8)):=by
   have h9:=b5 a0 b6 9 (.slice k7 k9 k8) (by rw[b3];rfl)
   rw[b7]at h9;show w.cell? ⟨a1,a2+a0*11+9,none⟩=some (.slice k7 k9 k8)
   exact h9
  have ah0:b1.cell? ⟨a1,a2+a0*11+9,none⟩=some (.slice k7 k9 k8):=((HW.out.trans (b2.out.mono HW.out.size)).cell (p:=⟨a1,a2+a0*11+9,none⟩) c4).trans T7.out;have T8:Hid (w.cell? ⟨a1,a2+a0*11+10,none⟩=some (.slice l0 c2 l1)):=by
   have h9:=b5 a0 b6 10 (.slice l0 c2 l1) (by rw[b3];rfl)
   rw[b7]at h9;show w.cell? ⟨a1,a2+a0*11+10,none⟩=some (.slice l0 c2 l1)
   exact h9
  have ah1:b1.cell? ⟨a1,a2+a0*11+10,none⟩=some (.slice l0 c2 l1):=((HW.out.trans (b2.out.mono HW.out.size)).cell (p:=⟨a1,a2+a0*11+10,none⟩) c4).trans T8.out;clear b5 b3 b7;go_upto_region 6 with(fail)
  obtain⟨N6,s1⟩:∃W,W=b1.alloc (.cells #[.int .i64 h8,.int .i64 j0,.bool j1,.slice j2 j4 j3,.slice j5 j7 j6,.slice j8 c0 j9,.slice k0 c1 k1,.slice k2 k4 k3,.slice k5 e3 k6,.slice k7 k9 k8,.slice l0 c2 l1] 65):=⟨_,rfl⟩;have s4:Below b1.heap.size b1 N6:=by rw[s1];exact(Below.refl _ _).alloc (Nat.le_refl _) _
  have t3:=hid (b2.out.trans (s4.mono b2.out.size));have H2:=hid (t2.out.trans (s4.mono t2.out.size));have w5:=hid (w3.out.below s4 w3.out.lt);obtain⟨ac2,_,_⟩:=w5.out.facts;have w4:Hid (Bk N6 b1.heap.size 65 #[.int .i64 h8,.int .i64 j0,.bool j1,.slice j2 j4 j3,.slice j5 j7 j6,.slice j8 c0 j9,.slice k0 c1 k1,.slice k2 k4 k3,.slice k5 e3 k6,.slice k7 k9 k8,.slice l0 c2 l1]):=by rw[s1];exact Bk.new _ _ _
  obtain⟨ac1,_,_⟩:=w4.out.facts;rw[←s1];clear s1 s4;go_wp2_with fail
  refine(ufp n w _ D _ _ _ _ 4 (by omega) W3.out (HW.out.trans (t3.out.mono HW.out.size))).mono ?_
  rintro e aq0⟨bb,rfl,z4,n3⟩;have r3:=hid (t3.out.trans (n3.mono t3.out.size));have H3:=hid (H2.out.trans (n3.mono H2.out.size));have w6:=hid (w5.out.below n3 w5.out.lt);obtain⟨ac3,_,_⟩:=w6.out.facts;have w7:=hid (w4.out.below n3 w4.out.lt);obtain⟨ac4,_,_⟩:=w7.out.facts;clear n3;rcases bb with _|_
  ·clear z4
   go_wp2;go_ret
   exact KP.no r3.out
  have K7:=hid (z4 rfl);clear z4;go_wp2_with fail
  refine(ufp n w _ D _ _ _ _ 4 (by omega) W4.out (HW.out.trans (r3.out.mono HW.out.size))).mono ?_
  rintro e aq1⟨bb,rfl,z5,n4⟩;have r4:=hid (r3.out.trans (n4.mono r3.out.size));have H4:=hid (H3.out.trans (n4.mono H3.out.size));have w8:=hid (w6.out.below n4 w6.out.lt);obtain⟨ac5,_,_⟩:=w8.out.facts;have w9:=hid (w7.out.below n4 w7.out.lt);obtain⟨ac6,_,_⟩:=w9.out.facts;clear n4;rcases bb with _|_
  ·clear z5
   go_wp2;go_ret
   exact KP.no r4.out
  have K8:=hid (z5 rfl);clear z5;go_wp2_with fail
  refine(ufp n w _ D _ _ _ _ 4 (by omega) W7.out (HW.out.trans (r4.out.mono HW.out.size))).mono ?_
  rintro e aq2⟨bb,rfl,z6,n5⟩;have f0:=hid (r4.out.trans (n5.mono r4.out.size));have H5:=hid (H4.out.trans (n5.mono H4.out.size));have x0:=hid (w8.out.below n5 w8.out.lt);obtain⟨ac7,_,_⟩:=x0.out.facts;have x1:=hid (w9.out.below n5 w9.out.lt);obtain⟨ac8,_,_⟩:=x1.out.facts;clear n5;rcases bb with _|_
  ·clear z6
   go_wp2;go_ret
   exact KP.no f0.out
  have K9:=hid (z6 rfl);clear z6;rcases Nat.lt_or_ge 6 e3 with aj0|Q3
  ·go_wp2
   go_ret
   exact KP.no f0.out
  have Q3:e3≤6:=Q3;rcases Nat.lt_or_ge 3 c1 with aj1|Q4
  ·go_wp2
   go_ret
   exact KP.no f0.out
  have Q4:c1≤3:=Q4;rcases Nat.lt_or_ge 3 c0 with aj2|Q5
  ·go_wp2
   go_ret
   exact KP.no f0.out
  have Q5:c0≤3:=Q5;go_wp2_with fail
  refine(umq n w _ D _ _ _ _ 6 (by omega) W8.out (HW.out.trans (f0.out.mono HW.out.size))).mono ?_
  rintro e Q9⟨bb,rfl,z7,n6⟩;have r5:=hid (f0.out.trans (n6.mono f0.out.size));have H6:=hid (H5.out.trans (n6.mono H5.out.size));have x2:=hid (x0.out.below n6 x0.out.lt);obtain⟨ac9,_,_⟩:=x2.out.facts;have x3:=hid (x1.out.below n6 x1.out.lt);obtain⟨ad0,_,_⟩:=x3.out.facts;clear n6;rcases bb with _|_
  ·clear z7
   go_wp2;go_ret
   exact KP.no r5.out
  have L0:=hid (z7 rfl);clear z7;rcases Nat.lt_or_ge 4 c2 with aj3|Q6
  ·go_wp2
   go_ret
   exact KP.no r5.out
  have Q6:c2≤4:=Q6;obtain⟨E7,o2,Z2,Y7,O9,O4,P5⟩:=W6.out.unlist;subst Z2;unfold maxLen at O9;have J0:=hid O4;have X5:=hid P5;clear O4 P5;go_wp2;go_loopw [105] (fun iv wr=>∃(i:Nat),i≤c1∧iv = .int .i64 i∧Hid (∀j,j<i→Rep w D (uan n) (E7 j) [o2 j]∧(o2 j).length≤3526)∧Hid (Below Q9.heap.size Q9 wr)) (fun iv _=>c1-(intOf iv).toNat)
  case atStart=>exact⟨0,by omega,rfl,(fun j hj=>absurd hj (by omega)),Below.refl _ _⟩
  obtain⟨a3,ai3,rfl,J5,t4⟩:=hrel;obtain⟨b9,d2⟩:∃w:World,w=wr:=⟨_,rfl⟩;subst d2;have n7:=t4.out;have c5:=hid (r5.out.trans (n7.mono r5.out.size));have r6:=hid (H6.out.trans (n7.mono H6.out.size));have m8:=hid (x2.out.below n7 x2.out.lt);obtain⟨ad1,_,_⟩:=m8.out.facts;have m9:=hid (x3.out.below n7 x3.out.lt);obtain⟨ad2,_,_⟩:=m9.out.facts;clear n7;by_cases f8:a3<c1
  ·obtain⟨a6,a8,c7,_,g6,f6⟩:=J0.out (by omega)
   subst c7;have B1:=X5.out a3 f8;obtain⟨ap4,d0⟩:∃u,E7 a3=u:=⟨_,rfl⟩;rw[d0]at B1;have g0:Shape.sz (uus n)=6:=ugi;obtain⟨ao0,A7⟩:∃t,o2 a3=t:=⟨_,rfl⟩;rw[A7]at B1;have L5:=hid A7;clear A7;obtain⟨_,B6,al2,_,ao1,_,rfl,rfl,D6,al3,_,ao2,_,rfl,rfl,D7,al4,_,ao3,_,rfl,rfl,D8,rfl,rfl⟩:=B1;injection B6 with B6 _;obtain⟨l2,rfl⟩:=ug D6.ty;obtain⟨l5,l3,l8,l6,l4,l9,l7,rfl⟩:=ukl D7.ty;obtain⟨e4,e6,e5,e7,e9,e8,rfl⟩:=uaj D8.ty;subst B6;have M9:=hid D6;clear D6;have X0:=hid D7;clear D7;have N0:=hid D8;clear D8;have Y2:=hid d0;have T9:Hid (w.cell? ⟨a6,a8+a3*6,none⟩=some (.int .i64 l2)):=by
    have h9:=f6 a3 f8 0 (.int .i64 l2) (by rw[d0];rfl)
    rw[g0]at h9;show w.cell? ⟨a6,a8+a3*6,none⟩=some (.int .i64 l2)
    simpa using h9
   have ah2:b9.cell? ⟨a6,a8+a3*6,none⟩=some (.int .i64 l2):=((HW.out.trans (c5.out.mono HW.out.size)).cell (p:=⟨a6,a8+a3*6,none⟩) g6).trans T9.out;have V0:Hid (w.cell? ⟨a6,a8+a3*6+1,none⟩=some (.bool l5)):=by
    have h9:=f6 a3 f8 1 (.bool l5) (by rw[d0];rfl)
    rw[g0]at h9;show w.cell? ⟨a6,a8+a3*6+1,none⟩=some (.bool l5)
    exact h9
   have ah3:b9.cell? ⟨a6,a8+a3*6+1,none⟩=some (.bool l5):=((HW.out.trans (c5.out.mono HW.out.size)).cell (p:=⟨a6,a8+a3*6+1,none⟩) g6).trans V0.out;have V1:Hid (w.cell? ⟨a6,a8+a3*6+2,none⟩=some (.slice l3 l8 l6)):=by
    have h9:=f6 a3 f8 2 (.slice l3 l8 l6) (by rw[d0];rfl)
    rw[g0]at h9;show w.cell? ⟨a6,a8+a3*6+2,none⟩=some (.slice l3 l8 l6)
    exact h9
   have ah4:b9.cell? ⟨a6,a8+a3*6+2,none⟩=some (.slice l3 l8 l6):=((HW.out.trans (c5.out.mono HW.out.size)).cell (p:=⟨a6,a8+a3*6+2,none⟩) g6).trans V1.out;have V2:Hid (w.cell? ⟨a6,a8+a3*6+3,none⟩=some (.slice l4 l9 l7)):=by
    have h9:=f6 a3 f8 3 (.slice l4 l9 l7) (by rw[d0];rfl)
    rw[g0]at h9;show w.cell? ⟨a6,a8+a3*6+3,none⟩=some (.slice l4 l9 l7)
    exact h9
   have ah5:b9.cell? ⟨a6,a8+a3*6+3,none⟩=some (.slice l4 l9 l7):=((HW.out.trans (c5.out.mono HW.out.size)).cell (p:=⟨a6,a8+a3*6+3,none⟩) g6).trans V2.out;have V3:Hid (w.cell? ⟨a6,a8+a3*6+4,none⟩=some (.slice e4 e6 e5)):=by
    have h9:=f6 a3 f8 4 (.slice e4 e6 e5) (by rw[d0];rfl)
    rw[g0]at h9;show w.cell? ⟨a6,a8+a3*6+4,none⟩=some (.slice e4 e6 e5)
    exact h9
   have ah6:b9.cell? ⟨a6,a8+a3*6+4,none⟩=some (.slice e4 e6 e5):=((HW.out.trans (c5.out.mono HW.out.size)).cell (p:=⟨a6,a8+a3*6+4,none⟩) g6).trans V3.out;have V4:Hid (w.cell? ⟨a6,a8+a3*6+5,none⟩=some (.slice e7 e9 e8)):=by
    have h9:=f6 a3 f8 5 (.slice e7 e9 e8) (by rw[d0];rfl)
    rw[g0]at h9;show w.cell? ⟨a6,a8+a3*6+5,none⟩=some (.slice e7 e9 e8)
    exact h9
   have ah7:b9.cell? ⟨a6,a8+a3*6+5,none⟩=some (.slice e7 e9 e8):=((HW.out.trans (c5.out.mono HW.out.size)).cell (p:=⟨a6,a8+a3*6+5,none⟩) g6).trans V4.out;clear f6 d0 g0;go_upto_region 11 with(fail)
   obtain⟨N7,s2⟩:∃W,W=b9.alloc (.cells #[.int .i64 l2,.bool l5,.slice l3 l8 l6,.slice l4 l9 l7,.slice e4 e6 e5,.slice e7 e9 e8] 82):=⟨_,rfl⟩;have g4:Below b9.heap.size b9 N7:=by rw[s2];exact(Below.refl _ _).alloc (Nat.le_refl _) _
   have t5:=hid (c5.out.trans (g4.mono c5.out.size));have H7:=hid (r6.out.trans (g4.mono r6.out.size));have H8:=hid (t4.out.trans (g4.mono t4.out.size));have x5:=hid (m8.out.below g4 m8.out.lt);obtain⟨ad4,_,_⟩:=x5.out.facts;have x6:=hid (m9.out.below g4 m9.out.lt);obtain⟨ad5,_,_⟩:=x6.out.facts;have x4:Hid (Bk N7 b9.heap.size 82 #[.int .i64 l2,.bool l5,.slice l3 l8 l6,.slice l4 l9 l7,.slice e4 e6 e5,.slice e7 e9 e8]):=by rw[s2];exact Bk.new _ _ _
   obtain⟨ad3,_,_⟩:=x4.out.facts;rw[←s2];clear s2 g4;go_wp2_with fail
   refine((show Calls _ _ #[.agg #[.slice e4 e6 e5,.slice e7 e9 e8]] _ _ from ufo n w _ D [.slice e4 e6 e5,.slice e7 e9 e8] _ N0.out (HW.out.trans (t5.out.mono HW.out.size)))).mono ?_
   rintro e aq3⟨bb,rfl,z8,f2⟩;have t6:=hid (t5.out.trans (f2.mono t5.out.size));have H9:=hid (H7.out.trans (f2.mono H7.out.size));have I0:=hid (H8.out.trans (f2.mono H8.out.size));have x7:=hid (x5.out.below f2 x5.out.lt);obtain⟨ad6,_,_⟩:=x7.out.facts;have x8:=hid (x6.out.below f2 x6.out.lt);obtain⟨ad7,_,_⟩:=x8.out.facts;have x9:=hid (x4.out.below f2 x4.out.lt);obtain⟨ad8,_,_⟩:=x9.out.facts;clear f2;rcases bb with _|_
   ·clear z8
    go_wp2;go_ret
    exact KP.no t6.out
   have Y4:=hid (z8 rfl);clear z8;go_wp2_with fail
   refine(ukk w _ D _ _ _ _ _ _ _ _ X0.out).mono ?_;rintro e aq4⟨bb,rfl,z9,f3⟩;have R2:=hid (t6.out.trans (f3.mono t6.out.size));have aa0:=hid (H9.out.trans (f3.mono H9.out.size));have I1:=hid (I0.out.trans (f3.mono I0.out.size));have R9:=hid (x7.out.below f3 x7.out.lt);obtain⟨ad9,_,_⟩:=R9.out.facts;have S0:=hid (x8.out.below f3 x8.out.lt);obtain⟨ae0,_,_⟩:=S0.out.facts;have S1:=hid (x9.out.below f3 x9.out.lt);obtain⟨ae1,_,_⟩:=S1.out.facts;clear f3;rcases bb with _|_
   ·clear z9
    go_wp2;go_ret
    exact KP.no R2.out
   have N4:=hid (z9 rfl);clear z9;have K6:Hid (∀j,j<a3+1→Rep w D (uan n) (E7 j) [o2 j]∧(o2 j).length≤3526):=fun j hj=>by
    rcases Nat.lt_or_ge j a3 with h|h
    ·exact J5.out j h
    ·obtain rfl:j=a3:=by omega
     first|rw[Y2.out,L5.out]|rw[L5.out]
     have q0:=M9.out.int_len;have q1:=Y4.out;have q2:=N4.out.2;exact⟨Rep.re3 M9.out N4.out.1 N0.out,uol (by omega)⟩
   go_wp2;go_roundw
   case rel=>first|exact⟨a3+1,by omega,by go_num,K6,I1⟩|((repeat apply Exists.intro);exact⟨⟨a3+1,by omega,by go_num,K6,I1⟩,rfl⟩)
   case measure=>simp[intOf];omega
  obtain rfl:a3=c1:=by omega
  have J8:=hid J5.out;obtain⟨E8,o3,Z3,Y8,P0,O5,P6⟩:=W5.out.unlist;subst Z3;unfold maxLen at P0;have J1:=hid O5;have X6:=hid P6;clear O5 P6;go_wp2;go_loopw [123] (fun iv wr=>∃(i:Nat),i≤c0∧iv = .int .i64 i∧Hid (∀j,j<i→Rep w D (uD n) (E8 j) [o3 j]∧(o3 j).length≤21125)∧Hid (Below b9.heap.size b9 wr)) (fun iv _=>c0-(intOf iv).toNat)
  case atStart=>exact⟨0,by omega,rfl,(fun j hj=>absurd hj (by omega)),Below.refl _ _⟩
  obtain⟨a5,ai4,rfl,J6,t7⟩:=hrel;obtain⟨d3,d2⟩:∃w:World,w=wr:=⟨_,rfl⟩;subst d2;have n8:=t7.out;have f1:=hid (c5.out.trans (n8.mono c5.out.size));have r7:=hid (r6.out.trans (n8.mono r6.out.size));have n0:=hid (m8.out.below n8 m8.out.lt);obtain⟨ae2,_,_⟩:=n0.out.facts;have n1:=hid (m9.out.below n8 m9.out.lt);obtain⟨ae3,_,_⟩:=n1.out.facts;clear n8;by_cases s6:a5<c0
  ·obtain⟨b4,b8,c7,_,A4,s5⟩:=J1.out (by omega)
   subst c7;have B2:=X6.out a5 s6;obtain⟨ap5,g8⟩:∃u,E8 a5=u:=⟨_,rfl⟩;rw[g8]at B2;have s7:Shape.sz (ugp n)=3:=uc9;obtain⟨ao4,A8⟩:∃t,o3 a5=t:=⟨_,rfl⟩;rw[A8]at B2;have L6:=hid A8;clear A8;obtain⟨_,B7,al5,_,ao5,_,rfl,rfl,D9,al6,_,ao6,_,rfl,rfl,E0,al7,_,ao7,_,rfl,rfl,E1,rfl,rfl⟩:=B2;injection B7 with B7 _;obtain⟨m0,rfl⟩:=ug D9.ty;obtain⟨m1,c3,m2,rfl⟩:=ua E0.ty;obtain⟨m3,m5,m4,rfl⟩:=ua E1.ty;subst B7;have N1:=hid D9;clear D9;have X1:=hid E0;clear E0;have X2:=hid E1;clear E1;have Y3:=hid g8;have V5:Hid (w.cell? ⟨b4,b8+a5*3,none⟩=some (.int .i64 m0)):=by
    have h9:=s5 a5 s6 0 (.int .i64 m0) (by rw[g8];rfl)
    rw[s7]at h9;show w.cell? ⟨b4,b8+a5*3,none⟩=some (.int .i64 m0)
    simpa using h9
   have ah8:d3.cell? ⟨b4,b8+a5*3,none⟩=some (.int .i64 m0):=((HW.out.trans (f1.out.mono HW.out.size)).cell (p:=⟨b4,b8+a5*3,none⟩) A4).trans V5.out;have V6:Hid (w.cell? ⟨b4,b8+a5*3+1,none⟩=some (.slice m1 c3 m2)):=by
    have h9:=s5 a5 s6 1 (.slice m1 c3 m2) (by rw[g8];rfl)
    rw[s7]at h9;show w.cell? ⟨b4,b8+a5*3+1,none⟩=some (.slice m1 c3 m2)
    exact h9
   have ah9:d3.cell? ⟨b4,b8+a5*3+1,none⟩=some (.slice m1 c3 m2):=((HW.out.trans (f1.out.mono HW.out.size)).cell (p:=⟨b4,b8+a5*3+1,none⟩) A4).trans V6.out;have V7:Hid (w.cell? ⟨b4,b8+a5*3+2,none⟩=some (.slice m3 m5 m4)):=by
    have h9:=s5 a5 s6 2 (.slice m3 m5 m4) (by rw[g8];rfl)
    rw[s7]at h9;show w.cell? ⟨b4,b8+a5*3+2,none⟩=some (.slice m3 m5 m4)
    exact h9
   have ai0:d3.cell? ⟨b4,b8+a5*3+2,none⟩=some (.slice m3 m5 m4):=((HW.out.trans (f1.out.mono HW.out.size)).cell (p:=⟨b4,b8+a5*3+2,none⟩) A4).trans V7.out;clear s5 g8 s7;go_upto_region 17 with(fail)
   obtain⟨N8,s3⟩:∃W,W=d3.alloc (.cells #[.int .i64 m0,.slice m1 c3 m2,.slice m3 m5 m4] 87):=⟨_,rfl⟩;have g5:Below d3.heap.size d3 N8:=by rw[s3];exact(Below.refl _ _).alloc (Nat.le_refl _) _
   have r8:=hid (f1.out.trans (g5.mono f1.out.size));have I2:=hid (r7.out.trans (g5.mono r7.out.size));have I3:=hid (t7.out.trans (g5.mono t7.out.size));have y1:=hid (n0.out.below g5 n0.out.lt);obtain⟨ae5,_,_⟩:=y1.out.facts;have y2:=hid (n1.out.below g5 n1.out.lt);obtain⟨ae6,_,_⟩:=y2.out.facts;have y0:Hid (Bk N8 d3.heap.size 87 #[.int .i64 m0,.slice m1 c3 m2,.slice m3 m5 m4]):=by rw[s3];exact Bk.new _ _ _
   obtain⟨ae4,_,_⟩:=y0.out.facts;rw[←s3];clear s3 g5;rcases Nat.lt_or_ge 3 c3 with aj4|Q7
   ·go_wp2
    go_ret
    exact KP.no r8.out
   have Q7:c3≤3:=Q7;go_wp2_with fail
   refine(ufp n w _ D _ _ _ _ 3 (by omega) X2.out (HW.out.trans (r8.out.mono HW.out.size))).mono ?_
   rintro e R0⟨bb,rfl,A0,f4⟩;have t8:=hid (r8.out.trans (f4.mono r8.out.size));have I4:=hid (I2.out.trans (f4.mono I2.out.size));have I5:=hid (I3.out.trans (f4.mono I3.out.size));have y3:=hid (y1.out.below f4 y1.out.lt);obtain⟨ae7,_,_⟩:=y3.out.facts;have y4:=hid (y2.out.below f4 y2.out.lt);obtain⟨ae8,_,_⟩:=y4.out.facts;have y5:=hid (y0.out.below f4 y0.out.lt);obtain⟨ae9,_,_⟩:=y5.out.facts;clear f4;rcases bb with _|_
   ·clear A0
    go_wp2;go_ret
    exact KP.no t8.out
   have L1:=hid (A0 rfl);clear A0;obtain⟨E9,o4,Z4,Y9,P1,O6,P7⟩:=X1.out.unlist;subst Z4;unfold maxLen at P1;have J2:=hid O6;have X7:=hid P7;clear O6 P7;go_wp2;go_loopw [140] (fun iv wr=>∃(i:Nat),i≤c3∧iv = .int .i64 i∧Hid (∀j,j<i→Rep w D (uan n) (E9 j) [o4 j]∧(o4 j).length≤3526)∧Hid (Below R0.heap.size R0 wr)) (fun iv _=>c3-(intOf iv).toNat)
   case atStart=>exact⟨0,by omega,rfl,(fun j hj=>absurd hj (by omega)),Below.refl _ _⟩
   obtain⟨a4,ai5,rfl,J7,t9⟩:=hrel;obtain⟨c6,d2⟩:∃w:World,w=wr:=⟨_,rfl⟩;subst d2;have f5:=t9.out;have d5:=hid (t8.out.trans (f5.mono t8.out.size));have I6:=hid (I4.out.trans (f5.mono I4.out.size));have r9:=hid (I5.out.trans (f5.mono I5.out.size));have y6:=hid (y3.out.below f5 y3.out.lt);obtain⟨af0,_,_⟩:=y6.out.facts;have y7:=hid (y4.out.below f5 y4.out.lt);obtain⟨af1,_,_⟩:=y7.out.facts;have y8:=hid (y5.out.below f5 y5.out.lt);obtain⟨af2,_,_⟩:=y8.out.facts;clear f5;by_cases f9:a4<c3
   ·obtain⟨a7,a9,c7,_,g7,f7⟩:=J2.out (by omega)
    subst c7;have B3:=X7.out a4 f9;obtain⟨ap6,d1⟩:∃u,E9 a4=u:=⟨_,rfl⟩;rw[d1]at B3;have g1:Shape.sz (uus n)=6:=ufz;obtain⟨ao8,A9⟩:∃t,o4 a4=t:=⟨_,rfl⟩;rw[A9]at B3;have L7:=hid A9;clear A9;obtain⟨_,B8,al8,_,ao9,_,rfl,rfl,E2,al9,_,ap0,_,rfl,rfl,E3,am0,_,ap1,_,rfl,rfl,E4,rfl,rfl⟩:=B3;injection B8 with B8 _;obtain⟨h0,rfl⟩:=ug E2.ty;obtain⟨h3,h1,h6,h4,h2,h7,h5,rfl⟩:=ukl E3.ty;obtain⟨d7,d9,d8,e0,e2,e1,rfl⟩:=uaj E4.ty;subst B8;have L8:=hid E2;clear E2;have W0:=hid E3;clear E3;have L9:=hid E4;clear E4;have X9:=hid d1;have S2:Hid (w.cell? ⟨a7,a9+a4*6,none⟩=some (.int .i64 h0)):=by
     have h9:=f7 a4 f9 0 (.int .i64 h0) (by rw[d1];rfl)
     rw[g1]at h9;show w.cell? ⟨a7,a9+a4*6,none⟩=some (.int .i64 h0)
     simpa using h9
    have af3:c6.cell? ⟨a7,a9+a4*6,none⟩=some (.int .i64 h0):=((HW.out.trans (d5.out.mono HW.out.size)).cell (p:=⟨a7,a9+a4*6,none⟩) g7).trans S2.out;have S3:Hid (w.cell? ⟨a7,a9+a4*6+1,none⟩=some (.bool h3)):=by
     have h9:=f7 a4 f9 1 (.bool h3) (by rw[d1];rfl)
     rw[g1]at h9;show w.cell? ⟨a7,a9+a4*6+1,none⟩=some (.bool h3)
     exact h9
    have af4:c6.cell? ⟨a7,a9+a4*6+1,none⟩=some (.bool h3):=((HW.out.trans (d5.out.mono HW.out.size)).cell (p:=⟨a7,a9+a4*6+1,none⟩) g7).trans S3.out;have S4:Hid (w.cell? ⟨a7,a9+a4*6+2,none⟩=some (.slice h1 h6 h4)):=by
     have h9:=f7 a4 f9 2 (.slice h1 h6 h4) (by rw[d1];rfl)
     rw[g1]at h9;show w.cell? ⟨a7,a9+a4*6+2,none⟩=some (.slice h1 h6 h4)
     exact h9
    have af5:c6.cell? ⟨a7,a9+a4*6+2,none⟩=some (.slice h1 h6 h4):=((HW.out.trans (d5.out.mono HW.out.size)).cell (p:=⟨a7,a9+a4*6+2,none⟩) g7).trans S4.out;have S5:Hid (w.cell? ⟨a7,a9+a4*6+3,none⟩=some (.slice h2 h7 h5)):=by
     have h9:=f7 a4 f9 3 (.slice h2 h7 h5) (by rw[d1];rfl)
     rw[g1]at h9;show w.cell? ⟨a7,a9+a4*6+3,none⟩=some (.slice h2 h7 h5)
     exact h9
    have af6:c6.cell? ⟨a7,a9+a4*6+3,none⟩=some (.slice h2 h7 h5):=((HW.out.trans (d5.out.mono HW.out.size)).cell (p:=⟨a7,a9+a4*6+3,none⟩) g7).trans S5.out;have S6:Hid (w.cell? ⟨a7,a9+a4*6+4,none⟩=some (.slice d7 d9 d8)):=by
     have h9:=f7 a4 f9 4 (.slice d7 d9 d8) (by rw[d1];rfl)
     rw[g1]at h9;show w.cell? ⟨a7,a9+a4*6+4,none⟩=some (.slice d7 d9 d8)
     exact h9
    have af7:c6.cell? ⟨a7,a9+a4*6+4,none⟩=some (.slice d7 d9 d8):=((HW.out.trans (d5.out.mono HW.out.size)).cell (p:=⟨a7,a9+a4*6+4,none⟩) g7).trans S6.out;have S7:Hid (w.cell? ⟨a7,a9+a4*6+5,none⟩=some (.slice e0 e2 e1)):=by
     have h9:=f7 a4 f9 5 (.slice e0 e2 e1) (by rw[d1];rfl)
     rw[g1]at h9;show w.cell? ⟨a7,a9+a4*6+5,none⟩=some (.slice e0 e2 e1)
     exact h9
    have af8:c6.cell? ⟨a7,a9+a4*6+5,none⟩=some (.slice e0 e2 e1):=((HW.out.trans (d5.out.mono HW.out.size)).cell (p:=⟨a7,a9+a4*6+5,none⟩) g7).trans S7.out;clear f7 d1 g1;go_upto_region 22 with(fail)
    obtain⟨N5,s0⟩:∃W,W=c6.alloc (.cells #[.int .i64 h0,.bool h3,.slice h1 h6 h4,.slice h2 h7 h5,.slice d7 d9 d8,.slice e0 e2 e1] 89):=⟨_,rfl⟩;have d6:Below c6.heap.size c6 N5:=by rw[s0];exact(Below.refl _ _).alloc (Nat.le_refl _) _
    have s9:=hid (d5.out.trans (d6.mono d5.out.size));have G3:=hid (I6.out.trans (d6.mono I6.out.size));have G4:=hid (r9.out.trans (d6.mono r9.out.size));have G5:=hid (t9.out.trans (d6.mono t9.out.size));have v2:=hid (y6.out.below d6 y6.out.lt);obtain⟨aa3,_,_⟩:=v2.out.facts;have v3:=hid (y7.out.below d6 y7.out.lt);obtain⟨aa4,_,_⟩:=v3.out.facts;have v4:=hid (y8.out.below d6 y8.out.lt);obtain⟨aa5,_,_⟩:=v4.out.facts;have v1:Hid (Bk N5 c6.heap.size 89 #[.int .i64 h0,.bool h3,.slice h1 h6 h4,.slice h2 h7 h5,.slice d7 d9 d8,.slice e0 e2 e1]):=by rw[s0];exact Bk.new _ _ _
    obtain⟨aa2,_,_⟩:=v1.out.facts;rw[←s0];clear s0 d6;go_wp2_with fail
    refine((show Calls _ _ #[.agg #[.slice d7 d9 d8,.slice e0 e2 e1]] _ _ from ufo n w _ D [.slice d7 d9 d8,.slice e0 e2 e1] _ L9.out (HW.out.trans (s9.out.mono HW.out.size)))).mono ?_
    rintro e ap7⟨bb,rfl,y9,c8⟩;have t0:=hid (s9.out.trans (c8.mono s9.out.size));have G6:=hid (G3.out.trans (c8.mono G3.out.size));have G7:=hid (G4.out.trans (c8.mono G4.out.size));have G8:=hid (G5.out.trans (c8.mono G5.out.size));have v5:=hid (v2.out.below c8 v2.out.lt);obtain⟨aa6,_,_⟩:=v5.out.facts;have v6:=hid (v3.out.below c8 v3.out.lt);obtain⟨aa7,_,_⟩:=v6.out.facts;have v7:=hid (v4.out.below c8 v4.out.lt);obtain⟨aa8,_,_⟩:=v7.out.facts;have v8:=hid (v1.out.below c8 v1.out.lt);obtain⟨aa9,_,_⟩:=v8.out.facts;clear c8;rcases bb with _|_
    ·clear y9
     go_wp2;go_ret
     exact KP.no t0.out
    have X8:=hid (y9 rfl);clear y9;go_wp2_with fail
    refine(ukk w _ D _ _ _ _ _ _ _ _ W0.out).mono ?_;rintro e ap8⟨bb,rfl,z0,c9⟩;have R1:=hid (t0.out.trans (c9.mono t0.out.size));have Z7:=hid (G6.out.trans (c9.mono G6.out.size));have Z8:=hid (G7.out.trans (c9.mono G7.out.size));have G9:=hid (G8.out.trans (c9.mono G8.out.size));have R3:=hid (v5.out.below c9 v5.out.lt);obtain⟨ab0,_,_⟩:=R3.out.facts;have R4:=hid (v6.out.below c9 v6.out.lt);obtain⟨ab1,_,_⟩:=R4.out.facts;have R5:=hid (v7.out.below c9 v7.out.lt);obtain⟨ab2,_,_⟩:=R5.out.facts;have R6:=hid (v8.out.below c9 v8.out.lt);obtain⟨ab3,_,_⟩:=R6.out.facts;clear c9;rcases bb with _|_
    ·clear z0
     go_wp2;go_ret
     exact KP.no R1.out
    have N3:=hid (z0 rfl);clear z0;have K2:Hid (∀j,j<a4+1→Rep w D (uan n) (E9 j) [o4 j]∧(o4 j).length≤3526):=fun j hj=>by
     rcases Nat.lt_or_ge j a4 with h|h
     ·exact J7.out j h
     ·obtain rfl:j=a4:=by omega
      first|rw[X9.out,L7.out]|rw[L7.out]
      have q0:=L8.out.int_len;have q1:=X8.out;have q2:=N3.out.2;exact⟨Rep.re3 L8.out N3.out.1 L9.out,uol (by omega)⟩
    go_wp2;go_roundw
    case rel=>first|exact⟨a4+1,by omega,by go_num,K2,G9⟩|((repeat apply Exists.intro);exact⟨⟨a4+1,by omega,by go_num,K2,G9⟩,rfl⟩)
    case measure=>simp[intOf];omega
   obtain rfl:a4=c3:=by omega
   have L3:=hid J7.out;have K3:Hid (∀j,j<a5+1→Rep w D (uD n) (E8 j) [o3 j]∧(o3 j).length≤21125):=fun j hj=>by
    rcases Nat.lt_or_ge j a5 with h|h
    ·exact J6.out j h
    ·obtain rfl:j=a5:=by omega
     first|rw[Y3.out,L6.out]|rw[L6.out]
     have q0:=N1.out.int_len;have q1:=L1.out.2;have q2:=uah (show a4≤3 by omega) (fun j hj=>(L3.out j hj).2)
     exact⟨Rep.re3 N1.out (Rep.relist (uel.trans ufz.symm) Y9 P1 J2.out (fun j hj=>(L3.out j hj).1)) L1.out.1,uol (by omega)⟩
   go_wp2;go_roundw
   case rel=>first|exact⟨a5+1,by omega,by go_num,K3,r9⟩|((repeat apply Exists.intro);exact⟨⟨a5+1,by omega,by go_num,K3,r9⟩,rfl⟩)
   case measure=>simp[intOf];omega
  obtain rfl:a5=c0:=by omega
  have J9:=hid J6.out;obtain⟨E5,o0,Z0,Y5,O7,O2,P3⟩:=W9.out.unlist;subst Z0;unfold maxLen at O7;have I8:=hid O2;have X3:=hid P3;clear O2 P3;go_wp2;go_loopw [159] (fun iv wr=>∃(i:Nat),i≤c2∧iv = .int .i64 i∧Hid (∀j,j<i→Rep w D (.list (uax n)) (E5 j) [o0 j]∧(o0 j).length≤16187)∧Hid (Below d3.heap.size d3 wr)) (fun iv _=>c2-(intOf iv).toNat)
  case atStart=>exact⟨0,by omega,rfl,(fun j hj=>absurd hj (by omega)),Below.refl _ _⟩
  obtain⟨b0,ai1,rfl,J3,t1⟩:=hrel;obtain⟨Z6,d2⟩:∃w:World,w=wr:=⟨_,rfl⟩;subst d2;have n2:=t1.out;have r0:=hid (f1.out.trans (n2.mono f1.out.size));have r1:=hid (r7.out.trans (n2.mono r7.out.size));have v9:=hid (n0.out.below n2 n0.out.lt);obtain⟨ab4,_,_⟩:=v9.out.facts;have w0:=hid (n1.out.below n2 n1.out.lt);obtain⟨ab5,_,_⟩:=w0.out.facts;clear n2;by_cases P2:b0<c2
  ·obtain⟨g2,g9,c7,_,O0,O1⟩:=I8.out (by omega)
   subst c7;have n9:=X3.out b0 P2;obtain⟨ap2,s8⟩:∃u,E5 b0=u:=⟨_,rfl⟩;rw[s8]at n9;have P8:Shape.sz (.list (uxo n))=1:=rfl;obtain⟨am1,A5⟩:∃t,o0 b0=t:=⟨_,rfl⟩;rw[A5]at n9;have L2:=hid A5;clear A5;obtain⟨o5,o7,o6,rfl⟩:=ua n9.ty;have W1:=hid n9;clear n9;have Y0:=hid s8;have I7:Hid (w.cell? ⟨g2,g9+b0,none⟩=some (.slice o5 o7 o6)):=by
    have h9:=O1 b0 P2 0 (.slice o5 o7 o6) (by rw[s8];rfl)
    rw[P8]at h9;show w.cell? ⟨g2,g9+b0,none⟩=some (.slice o5 o7 o6)
    simpa using h9
   have af9:Z6.cell? ⟨g2,g9+b0,none⟩=some (.slice o5 o7 o6):=((HW.out.trans (r0.out.mono HW.out.size)).cell (p:=⟨g2,g9+b0,none⟩) O0).trans I7.out;clear O1 s8 P8;go_wp2_with fail
   refine(up5 n w _ D _ _ _ _ W1.out (HW.out.trans (r0.out.mono HW.out.size))).mono ?_;rintro e Z5⟨bb,rfl,z1,g3⟩;have H0:=hid (r0.out.trans (g3.mono r0.out.size));have Z9:=hid (r1.out.trans (g3.mono r1.out.size));have H1:=hid (t1.out.trans (g3.mono t1.out.size));have R7:=hid (v9.out.below g3 v9.out.lt);obtain⟨ab6,_,_⟩:=R7.out.facts;have R8:=hid (w0.out.below g3 w0.out.lt);obtain⟨ab7,_,_⟩:=R8.out.facts;have ag0:Z5.cell? ⟨g2,g9+b0,none⟩=some (.slice o5 o7 o6):=((HW.out.trans (H0.out.mono HW.out.size)).cell (p:=⟨g2,g9+b0,none⟩) O0).trans I7.out;clear g3;rcases bb with _|_
   ·clear z1
    go_wp2;go_ret
    exact KP.no H0.out
   have N2:=hid (z1 rfl);clear z1;have K4:Hid (∀j,j<b0+1→Rep w D (.list (uax n)) (E5 j) [o0 j]∧(o0 j).length≤16187):=fun j hj=>by
    rcases Nat.lt_or_ge j b0 with h|h
    ·exact J3.out j h
    ·obtain rfl:j=b0:=by omega
     first|rw[Y0.out,L2.out]|rw[L2.out]
     have q:=N2.out.2;exact⟨N2.out.1,by omega⟩
   go_wp2;go_roundw
   case rel=>first|exact⟨b0+1,by omega,by go_num,K4,H1⟩|((repeat apply Exists.intro);exact⟨⟨b0+1,by omega,by go_num,K4,H1⟩,rfl⟩)
   case measure=>simp[intOf];omega
  obtain rfl:b0=c2:=by omega
  have K0:=hid J3.out;have K5:Hid (∀j,j<a0+1→Rep w D (uac n) (E6 j) [o1 j]∧(o1 j).length≤190000):=fun j hj=>by
   rcases Nat.lt_or_ge j a0 with h|h
   ·exact J4.out j h
   ·obtain rfl:j=a0:=by omega
    first|rw[Y1.out,L4.out]|rw[L4.out]
    have q0:=M5.out.int_len;have q1:=M6.out.int_len;have q2:=M7.out.bool_len;have q3:=K7.out.2;have q4:=K8.out.2;have q7:=K9.out.2;have q9:=L0.out.2;have q8:=M8.out.list_len (n:=6) (by assumption) (M:=21) fun v t h=>h.int_len
    have q6:=uah (show a3≤3 by omega) (fun j hj=>(J8.out j hj).2)
    have q5:=uah (show a5≤3 by omega) (fun j hj=>(J9.out j hj).2)
    have qa:=uah (show b0≤4 by omega) (fun j hj=>(K0.out j hj).2)
    exact⟨Rep.re11 M5.out M6.out M7.out K7.out.1 K8.out.1 (Rep.relist (ud0.trans uc9.symm) Y8 P0 J1.out (fun j hj=>(J9.out j hj).1)) (Rep.relist (uel.trans ufz.symm) Y7 O9 J0.out (fun j hj=>(J8.out j hj).1)) K9.out.1 M8.out L0.out.1 (Rep.relist rfl Y5 O7 I8.out (fun j hj=>(K0.out j hj).1)),uxz (by omega)⟩
  go_wp2;go_roundw
  case rel=>first|exact⟨a0+1,by omega,by go_num,K5,r1⟩|((repeat apply Exists.intro);exact⟨⟨a0+1,by omega,by go_num,K5,r1⟩,rfl⟩)
  case measure=>simp[intOf];omega
 obtain rfl:a0=d4:=by omega
 have K1:=hid J4.out;go_wp2;go_ret
 exact KP.yes (by
  have q0:=M0.out.bool_len;have q1:=up6 M1.out (by assumption) (by assumption)
  have q2:=V8.out;have q3:=V9.out;have q4:=uah (show a0≤4 by omega) (fun j hj=>(K1.out j hj).2)
  have q5:=M4.out.list_len (n:=6) (by assumption) (M:=45) fun v t h=>ue2 h
  exact⟨Rep.re6 M0.out M1.out M2.out M3.out (Rep.relist (ugs.trans ufn.symm) Y6 O8 I9.out (fun j hj=>(K1.out j hj).1)) M4.out,uy5 (by omega)⟩) b2.out
end Go.Proofs.YtellcholbkoakaaGreatDoor
