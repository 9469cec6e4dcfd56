/-
 The reference's writer: node (printed by tgen.py).
-/
import Derived.Test.YtellcholbkoakaaGreatDoorHTf
namespace Go.Proofs.YtellcholbkoakaaGreatDoor
open Go.Lib (hid)
open Go.RowKit AC
set_option linter.unusedVariables false
set_option linter.unusedSimpArgs false
theorem nq1(a:Act)(k:Nat)(s:Nat→Value):putAll a [] k s=a:=rfl
theorem nq2(a:Act)(t:Nat)(r:List Nat)(k:Nat)(s:Nat→Value):putAll a (t::r) k s=putAll (a.put (some t) (s k)) r (k+1) s:=rfl
theorem nq3(l:List Value)(d)(i:Nat)(v:Value):Act.put ⟨l.toArray,d⟩ (some i) v=⟨(l.set i v).toArray,d⟩:=nm.2.2.1 l d i v
theorem nq4(x y:Value)(l:List Value)(i:Nat):(x::l).set (i+1) y=x::l.set i y:=rfl
theorem nq5(x y:Value)(l:List Value):(x::l).set 0 y=y::l:=rfl
theorem nq6(x y:Nat)(l:List Nat):(x::l).getD 0 y=x:=rfl
theorem nq7(x y i:Nat)(l:List Nat):(x::l).getD (i+1) y=l.getD i y:=rfl
set_option maxHeartbeats 16000000 in
set_option maxRecDepth 100000 in
theorem t_node(n:Nat):Texts 63 (nodeS n):=by
 intro w D v t hrep hl;obtain⟨_,A6,l23,_,t1,_,rfl,rfl,r12,l24,_,t2,_,rfl,rfl,r13,l25,_,t3,_,rfl,rfl,r14,l26,_,t4,_,rfl,rfl,r15,l27,_,t5,_,rfl,rfl,r16,l28,_,t6,_,rfl,rfl,r17,l29,_,t7,_,rfl,rfl,r18,l30,_,t8,_,rfl,rfl,r19,l31,_,t9,_,rfl,rfl,r20,l32,_,t10,_,rfl,rfl,r21,l33,_,t11,_,rfl,rfl,r22,rfl,rfl⟩:=hrep;injection A6 with A6 _;obtain⟨p9,rfl⟩:=ty_int r12.ty;obtain⟨q0,rfl⟩:=ty_int r13.ty;obtain⟨q1,rfl⟩:=ty_bool r14.ty;obtain⟨q2,q3,q4,rfl⟩:=ty_list r15.ty;obtain⟨q5,q6,q7,rfl⟩:=ty_list r16.ty;obtain⟨A7,j3,A8,rfl⟩:=ty_list r17.ty;obtain⟨A9,j4,B0,rfl⟩:=ty_list r18.ty;obtain⟨q8,q9,r0,rfl⟩:=ty_list r19.ty;obtain⟨r1,r2,r3,rfl⟩:=ty_list r20.ty;obtain⟨r4,r5,r6,rfl⟩:=ty_list r21.ty;obtain⟨B1,j5,B2,rfl⟩:=ty_list r22.ty;subst A6;have HL:=hid hl;clear hl;have J7:Hid (t1.length≤MX):=Nat.le_trans (par_len_at (fun i=>[t1,t2,t3,t4,t5,t6,t7,t8,t9,t10,t11].getD i []) (i:=0) (k:=11) (by decide)) (HL.out)
 have J8:=hid r12;clear r12;have J9:Hid (t2.length≤MX):=Nat.le_trans (par_len_at (fun i=>[t1,t2,t3,t4,t5,t6,t7,t8,t9,t10,t11].getD i []) (i:=1) (k:=11) (by decide)) (HL.out)
 have K0:=hid r13;clear r13;have K1:Hid (t3.length≤MX):=Nat.le_trans (par_len_at (fun i=>[t1,t2,t3,t4,t5,t6,t7,t8,t9,t10,t11].getD i []) (i:=2) (k:=11) (by decide)) (HL.out)
 have K2:=hid r14;clear r14;have K3:Hid (t4.length≤MX):=Nat.le_trans (par_len_at (fun i=>[t1,t2,t3,t4,t5,t6,t7,t8,t9,t10,t11].getD i []) (i:=3) (k:=11) (by decide)) (HL.out)
 have K4:=hid r15;clear r15;have K5:Hid (t5.length≤MX):=Nat.le_trans (par_len_at (fun i=>[t1,t2,t3,t4,t5,t6,t7,t8,t9,t10,t11].getD i []) (i:=4) (k:=11) (by decide)) (HL.out)
 have K6:=hid r16;clear r16;have B3:Hid (t6.length≤MX):=Nat.le_trans (par_len_at (fun i=>[t1,t2,t3,t4,t5,t6,t7,t8,t9,t10,t11].getD i []) (i:=5) (k:=11) (by decide)) (HL.out)
 have K7:=hid r17;clear r17;have B4:Hid (t7.length≤MX):=Nat.le_trans (par_len_at (fun i=>[t1,t2,t3,t4,t5,t6,t7,t8,t9,t10,t11].getD i []) (i:=6) (k:=11) (by decide)) (HL.out)
 have K8:=hid r18;clear r18;have K9:Hid (t8.length≤MX):=Nat.le_trans (par_len_at (fun i=>[t1,t2,t3,t4,t5,t6,t7,t8,t9,t10,t11].getD i []) (i:=7) (k:=11) (by decide)) (HL.out)
 have L0:=hid r19;clear r19;have L1:Hid (t9.length≤MX):=Nat.le_trans (par_len_at (fun i=>[t1,t2,t3,t4,t5,t6,t7,t8,t9,t10,t11].getD i []) (i:=8) (k:=11) (by decide)) (HL.out)
 have L2:=hid r20;clear r20;have L3:Hid (t10.length≤MX):=Nat.le_trans (par_len_at (fun i=>[t1,t2,t3,t4,t5,t6,t7,t8,t9,t10,t11].getD i []) (i:=9) (k:=11) (by decide)) (HL.out)
 have L4:=hid r21;clear r21;have B5:Hid (t11.length≤MX):=Nat.le_trans (par_len_at (fun i=>[t1,t2,t3,t4,t5,t6,t7,t8,t9,t10,t11].getD i []) (i:=10) (k:=11) (by decide)) (HL.out)
 have L5:=hid r22;clear r22;show Calls Tryz.prog 63 #[.agg #[.int .i64 p9,.int .i64 q0,.bool q1,.slice q2 q3 q4,.slice q5 q6 q7,.slice A7 j3 A8,.slice A9 j4 B0,.slice q8 q9 r0,.slice r1 r2 r3,.slice r4 r5 r6,.slice B1 j5 B2]] w _
 go_enter Tryz.func63,Tryz.ntmps63
 have E6:=hid (Below.refl w.heap.size w);go_upto_region 1 with(fail)
 obtain⟨W68,x9⟩:∃W,W=w.alloc (.cells #[.int .i64 p9,.int .i64 q0,.bool q1,.slice q2 q3 q4,.slice q5 q6 q7,.slice A7 j3 A8,.slice A9 j4 B0,.slice q8 q9 r0,.slice r1 r2 r3,.slice r4 r5 r6,.slice B1 j5 B2] 65):=⟨_,rfl⟩;have E7:Below w.heap.size w W68:=by rw[x9];exact(Below.refl _ _).alloc (Nat.le_refl _) _
 have E8:=hid (E6.out.trans (E7.mono E6.out.size));have B6:Hid (Bk W68 w.heap.size 65 #[.int .i64 p9,.int .i64 q0,.bool q1,.slice q2 q3 q4,.slice q5 q6 q7,.slice A7 j3 A8,.slice A9 j4 B0,.slice q8 q9 r0,.slice r1 r2 r3,.slice r4 r5 r6,.slice B1 j5 B2]):=by rw[x9];exact Bk.new _ _ _
 rw[←x9];clear x9 E7;obtain⟨W3,_,_⟩:=B6.out.facts;obtain⟨L6,d4,L7,W4,L8,E9,F0⟩:=K7.out.unlist;subst L7;have L9:=hid E9;have M0:=hid F0;have W5:j3≤100000000:=Nat.le_trans (par_len_ge d4 j3) B3.out;unfold maxLen at L8;clear E9 F0;go_wp2;have F1:=hid (TI.start d4 (Below.refl W68.heap.size W68));go_loopw [3,23] (fun ov iv wr=>∃(k:Nat),k≤j3∧iv = .int .i64 k∧Hid (TI d4 W68 ov k wr)) (fun _ iv _=>j3-(intOf iv).toNat)
 case atStart=>exact⟨0,by omega,rfl,F1⟩
 obtain⟨k86,W6,rfl,y0⟩:=hrel;clear F1;obtain⟨d1,hwr⟩:∃w:World,w=wr:=⟨_,rfl⟩;subst hwr;obtain⟨v5,v6,rfl,_,_⟩:=y0.out.form;have B7:=y0.out.2;have r7:=hid (E8.out.trans (B7.mono E8.out.size));have v7:=hid (B6.out.below B7 B6.out.lt);clear B7;by_cases hlt:k86<j3
 ·obtain⟨b95,s7,hAx,_,B8,y1⟩:=L9.out (by omega)
  subst hAx;have F2:=M0.out k86 hlt;obtain⟨u99,v8⟩:∃u,L6 k86=u:=⟨_,rfl⟩;rw[v8]at F2;have y2:Hid ((d4 k86).length≤MX):=Nat.le_trans (par_len_at d4 hlt) B3.out;have y3:Shape.sz (targetS n)=3:=sz_target;obtain⟨_,y4,W7,_,c2,_,rfl,rfl,B9,W8,_,y5,_,rfl,rfl,C0,W9,_,c3,_,rfl,rfl,C1,rfl,rfl⟩:=F2;injection y4 with y4 _;obtain⟨j7,rfl⟩:=ty_int B9.ty;obtain⟨y6,e7,y7,rfl⟩:=ty_list C0.ty;obtain⟨j8,j9,k0,rfl⟩:=ty_list C1.ty;have v9:=hid y4;have M1:Hid (c2.length≤MX):=Nat.le_trans (par_len_at (fun i=>[c2,y5,c3].getD i []) (i:=0) (k:=3) (by decide)) (len_eq v9.out y2.out)
  have M2:=hid B9;clear B9;have C2:Hid (y5.length≤MX):=Nat.le_trans (par_len_at (fun i=>[c2,y5,c3].getD i []) (i:=1) (k:=3) (by decide)) (len_eq v9.out y2.out)
  have M3:=hid C0;clear C0;have M4:Hid (c3.length≤MX):=Nat.le_trans (par_len_at (fun i=>[c2,y5,c3].getD i []) (i:=2) (k:=3) (by decide)) (len_eq v9.out y2.out)
  have M5:=hid C1;clear C1;clear y4;have k1:d1.cell? ⟨b95,s7+k86*3,none⟩=some (.int .i64 j7):=by
   have h9:=(r7.out.cell (p:=⟨b95,s7+k86*Shape.sz (targetS n)+0,none⟩) B8).trans (y1 k86 hlt 0 (.int .i64 j7) (by rw[v8];rfl))
   rw[y3]at h9;simpa using h9
  have r8:d1.cell? ⟨b95,s7+k86*3+1,none⟩=some (.slice y6 e7 y7):=by
   have h9:=(r7.out.cell (p:=⟨b95,s7+k86*Shape.sz (targetS n)+1,none⟩) B8).trans (y1 k86 hlt 1 (.slice y6 e7 y7) (by rw[v8];rfl))
   rw[y3]at h9;simpa using h9
  have r9:d1.cell? ⟨b95,s7+k86*3+2,none⟩=some (.slice j8 j9 k0):=by
   have h9:=(r7.out.cell (p:=⟨b95,s7+k86*Shape.sz (targetS n)+2,none⟩) B8).trans (y1 k86 hlt 2 (.slice j8 j9 k0) (by rw[v8];rfl))
   rw[y3]at h9;simpa using h9
  clear y1 v8 y3;go_upto_region 5 with(fail)
  obtain⟨s8,y8⟩:∃W,W=d1.alloc (.cells #[.int .i64 j7,.slice y6 e7 y7,.slice j8 j9 k0] 87):=⟨_,rfl⟩;have y9:Below d1.heap.size d1 s8:=by rw[y8];exact(Below.refl _ _).alloc (Nat.le_refl _) _
  have F3:=hid (r7.out.trans (y9.mono r7.out.size));have F4:=hid (v7.out.below y9 v7.out.lt);have M6:=hid (y0.out.below y9);have C3:Hid (Bk s8 d1.heap.size 87 #[.int .i64 j7,.slice y6 e7 y7,.slice j8 j9 k0]):=by rw[y8];exact Bk.new _ _ _
  rw[←y8];clear y8 y9;clear k1 r8 r9;obtain⟨X0,_,_⟩:=C3.out.facts;obtain⟨M7,b4,M8,X1,M9,F5,F6⟩:=M3.out.unlist;subst M8;have N0:=hid F5;have N1:=hid F6;have X2:e7≤100000000:=Nat.le_trans (par_len_ge b4 e7) C2.out;unfold maxLen at M9;clear F5 F6;go_wp2;have F7:=hid (TI.start b4 (Below.refl s8.heap.size s8));go_loopw [8,30] (fun ov iv wr=>∃(k:Nat),k≤e7∧iv = .int .i64 k∧Hid (TI b4 s8 ov k wr)) (fun _ iv _=>e7-(intOf iv).toNat)
  case atStart=>exact⟨0,by omega,rfl,F7⟩
  obtain⟨a1,X3,rfl,w0⟩:=hrel;clear F7;obtain⟨c0,hwr⟩:∃w:World,w=wr:=⟨_,rfl⟩;subst hwr;obtain⟨w1,w2,rfl,_,_⟩:=w0.out.form;have w3:=w0.out.2;have d7:=hid (F3.out.trans (w3.mono F3.out.size));have z0:=hid (F4.out.below w3 F4.out.lt);have k2:=hid (C3.out.below w3 C3.out.lt);have F8:=hid (M6.out.below w3);clear w3;by_cases hlt:a1<e7
  ·obtain⟨e2,e3,hAx,_,s9,s0⟩:=N0.out (by omega)
   subst hAx;have F9:=N1.out a1 hlt;obtain⟨X4,k3⟩:∃u,M7 a1=u:=⟨_,rfl⟩;rw[k3]at F9;have z1:Hid ((b4 a1).length≤MX):=Nat.le_trans (par_len_at b4 hlt) C2.out;have s1:Shape.sz (useS n)=6:=sz_use;obtain⟨_,z2,X5,_,c4,_,rfl,rfl,C4,X6,_,c5,_,rfl,rfl,C5,X7,_,c6,_,rfl,rfl,C6,rfl,rfl⟩:=F9;injection z2 with z2 _;obtain⟨k4,rfl⟩:=ty_int C4.ty;obtain⟨k5,k6,k7,k8,k9,l0,l1,rfl⟩:=ty_rat C5.ty;obtain⟨l2,l3,l4,l5,l6,l7,rfl⟩:=ty_mono C6.ty;have w5:=hid z2;have N2:Hid (c4.length≤MX):=Nat.le_trans (par_len_at (fun i=>[c4,c5,c6].getD i []) (i:=0) (k:=3) (by decide)) (len_eq w5.out z1.out)
   have N3:=hid C4;clear C4;have N4:Hid (c5.length≤MX):=Nat.le_trans (par_len_at (fun i=>[c4,c5,c6].getD i []) (i:=1) (k:=3) (by decide)) (len_eq w5.out z1.out)
   have N5:=hid C5;clear C5;have N6:Hid (c6.length≤MX):=Nat.le_trans (par_len_at (fun i=>[c4,c5,c6].getD i []) (i:=2) (k:=3) (by decide)) (len_eq w5.out z1.out)
   have N7:=hid C6;clear C6;clear z2;have k1:c0.cell? ⟨e2,e3+a1*6,none⟩=some (.int .i64 k4):=by
    have h9:=(d7.out.cell (p:=⟨e2,e3+a1*Shape.sz (useS n)+0,none⟩) s9).trans (s0 a1 hlt 0 (.int .i64 k4) (by rw[k3];rfl))
    rw[s1]at h9;simpa using h9
   have r8:c0.cell? ⟨e2,e3+a1*6+1,none⟩=some (.bool k5):=by
    have h9:=(d7.out.cell (p:=⟨e2,e3+a1*Shape.sz (useS n)+1,none⟩) s9).trans (s0 a1 hlt 1 (.bool k5) (by rw[k3];rfl))
    rw[s1]at h9;simpa using h9
   have r9:c0.cell? ⟨e2,e3+a1*6+2,none⟩=some (.slice k6 k7 k8):=by
    have h9:=(d7.out.cell (p:=⟨e2,e3+a1*Shape.sz (useS n)+2,none⟩) s9).trans (s0 a1 hlt 2 (.slice k6 k7 k8) (by rw[k3];rfl))
    rw[s1]at h9;simpa using h9
   have w6:c0.cell? ⟨e2,e3+a1*6+3,none⟩=some (.slice k9 l0 l1):=by
    have h9:=(d7.out.cell (p:=⟨e2,e3+a1*Shape.sz (useS n)+3,none⟩) s9).trans (s0 a1 hlt 3 (.slice k9 l0 l1) (by rw[k3];rfl))
    rw[s1]at h9;simpa using h9
   have w7:c0.cell? ⟨e2,e3+a1*6+4,none⟩=some (.slice l2 l3 l4):=by
    have h9:=(d7.out.cell (p:=⟨e2,e3+a1*Shape.sz (useS n)+4,none⟩) s9).trans (s0 a1 hlt 4 (.slice l2 l3 l4) (by rw[k3];rfl))
    rw[s1]at h9;simpa using h9
   have w8:c0.cell? ⟨e2,e3+a1*6+5,none⟩=some (.slice l5 l6 l7):=by
    have h9:=(d7.out.cell (p:=⟨e2,e3+a1*Shape.sz (useS n)+5,none⟩) s9).trans (s0 a1 hlt 5 (.slice l5 l6 l7) (by rw[k3];rfl))
    rw[s1]at h9;simpa using h9
   clear s0 k3 s1;go_upto_region 9 with(fail)
   obtain⟨G0,z3⟩:∃W,W=c0.alloc (.cells #[.int .i64 k4,.bool k5,.slice k6 k7 k8,.slice k9 l0 l1,.slice l2 l3 l4,.slice l5 l6 l7] 89):=⟨_,rfl⟩;have v0:Below c0.heap.size c0 G0:=by rw[z3];exact(Below.refl _ _).alloc (Nat.le_refl _) _
   have l8:=hid (d7.out.trans (v0.mono d7.out.size));have G1:=hid (z0.out.below v0 z0.out.lt);have G2:=hid (k2.out.below v0 k2.out.lt);have N8:=hid (F8.out.below v0);have N9:=hid (w0.out.below v0);have l9:Hid (Bk G0 c0.heap.size 89 #[.int .i64 k4,.bool k5,.slice k6 k7 k8,.slice k9 l0 l1,.slice l2 l3 l4,.slice l5 l6 l7]):=by rw[z3];exact Bk.new _ _ _
   rw[←z3];clear z3 v0;clear k1 r8 r9 w6 w7 w8;go_upto_region 9 with(fail)
   refine wp_region_facts (by kernel_rfl) (by kernel_rfl) [34,35,36,37,38,39,40,41,42,43,44,45,46] 40 (by kernel_rfl) (fun io v x=>match io with
    | 0=>v = .slice w1 a1 w2
    | 1=>v = .pointer (some ⟨c0.heap.size,0,none⟩)
    | 2=>v = .int .i64 k4
    | 3=>v = .string ⟨c4.toArray⟩
    | 4=>v = .pointer (some ⟨c0.heap.size,1,none⟩)
    | 5=>v = .agg #[.bool k5,.slice k6 k7 k8,.slice k9 l0 l1]
    | 6=>v = .string ⟨c5.toArray⟩
    | 7=>v = .pointer (some ⟨c0.heap.size,4,none⟩)
    | 8=>v = .agg #[.slice l2 l3 l4,.slice l5 l6 l7]
    | 9=>v = .string ⟨c6.toArray⟩
    | 10=>Strs x v 3 (fun i=>[c4,c5,c6].getD i [])
    | 11=>v = .string ⟨(par (fun i=>[c4,c5,c6].getD i []) 3).toArray⟩
    | _=>Strs x v 1 (fun _=>(par (fun i=>[c4,c5,c6].getD i []) 3))) ?_ ?_ ?_
   ·intro io v x x' hio h hb
    rcases io with _|_|_|_|_|_|_|_|_|_|_|_|io
    ·exact h
    ·exact h
    ·exact h
    ·exact h
    ·exact h
    ·exact h
    ·exact h
    ·exact h
    ·exact h
    ·exact h
    ·exact Strs.below h hb
    ·exact h
    ·exact Strs.below h hb
   ·intro io oo S x ho hio hbx hdep
    rcases io with _|_|_|_|_|_|_|_|_|_|_|_|_|io
    ·cases ho
     refine opOk_h rfl rfl fun KK HK=>?_
     clear hdep hio;simp only[nq1,nq2,nq3,nq4,nq5,nq6,nq7,Nat.zero_add,Nat.reduceAdd]at HK ⊢;go_wp2;exact HK.out _ _ ⟨_,rfl,rfl,Below.refl _ _⟩
    ·cases ho
     refine opOk_h rfl rfl fun KK HK=>?_
     clear hdep hio;simp only[nq1,nq2,nq3,nq4,nq5,nq6,nq7,Nat.zero_add,Nat.reduceAdd]at HK ⊢;go_wp2;exact HK.out _ _ ⟨_,rfl,rfl,Below.refl _ _⟩
    ·cases ho
     have h1:S 1 = .pointer (some ⟨c0.heap.size,0,none⟩):=hdep 1 (by kernel_rfl) (by decide)
     obtain⟨X8,_,_⟩:=(l9.out.below hbx l9.out.lt).facts;refine opOk_h rfl rfl fun KK HK=>?_
     clear hdep hio;simp only[nq1,nq2,nq3,nq4,nq5,nq6,nq7,Nat.zero_add,Nat.reduceAdd]at HK ⊢;generalize S 1=t1 at *;subst h1;go_wp2;exact HK.out _ _ ⟨_,rfl,rfl,Below.refl _ _⟩
    ·cases ho
     have h2:S 2 = .int .i64 k4:=hdep 2 (by kernel_rfl) (by decide)
     refine opOk_h rfl rfl fun KK HK=>?_
     clear hdep hio;simp only[nq1,nq2,nq3,nq4,nq5,nq6,nq7,Nat.zero_add,Nat.reduceAdd]at HK ⊢;generalize S 2=t2 at *;subst h2;go_wp2_with fail
     have key:=t_dec x D [.int .i64 k4] c4 (N3.out.below (l8.out.trans (hbx.mono l8.out.size))) N2.out;rw[val_int]at key;refine(key).mono ?_;rintro e xN⟨rfl,hbN⟩;exact HK.out _ _ ⟨_,rfl,rfl,hbN⟩
    ·cases ho
     refine opOk_h rfl rfl fun KK HK=>?_
     clear hdep hio;simp only[nq1,nq2,nq3,nq4,nq5,nq6,nq7,Nat.zero_add,Nat.reduceAdd]at HK ⊢;go_wp2;exact HK.out _ _ ⟨_,rfl,rfl,Below.refl _ _⟩
    ·cases ho
     have h4:S 4 = .pointer (some ⟨c0.heap.size,1,none⟩):=hdep 4 (by kernel_rfl) (by decide)
     obtain⟨X9,_,_⟩:=(l9.out.below hbx l9.out.lt).facts;refine opOk_h rfl rfl fun KK HK=>?_
     clear hdep hio;simp only[nq1,nq2,nq3,nq4,nq5,nq6,nq7,Nat.zero_add,Nat.reduceAdd]at HK ⊢;generalize S 4=t4 at *;subst h4;go_wp2;exact HK.out _ _ ⟨_,rfl,rfl,Below.refl _ _⟩
    ·cases ho
     have h5:S 5 = .agg #[.bool k5,.slice k6 k7 k8,.slice k9 l0 l1]:=hdep 5 (by kernel_rfl) (by decide)
     refine opOk_h rfl rfl fun KK HK=>?_
     clear hdep hio;simp only[nq1,nq2,nq3,nq4,nq5,nq6,nq7,Nat.zero_add,Nat.reduceAdd]at HK ⊢;generalize S 5=t5 at *;subst h5;go_wp2_with fail
     have key:=t_fmt x D [.bool k5,.slice k6 k7 k8,.slice k9 l0 l1] c5 (N5.out.below (l8.out.trans (hbx.mono l8.out.size))) N4.out;rw[val_rat]at key;refine(key).mono ?_;rintro e xN⟨rfl,hbN⟩;exact HK.out _ _ ⟨_,rfl,rfl,hbN⟩
    ·cases ho
     refine opOk_h rfl rfl fun KK HK=>?_
     clear hdep hio;simp only[nq1,nq2,nq3,nq4,nq5,nq6,nq7,Nat.zero_add,Nat.reduceAdd]at HK ⊢;go_wp2;exact HK.out _ _ ⟨_,rfl,rfl,Below.refl _ _⟩
    ·cases ho
     have h7:S 7 = .pointer (some ⟨c0.heap.size,4,none⟩):=hdep 7 (by kernel_rfl) (by decide)
     obtain⟨Y0,_,_⟩:=(l9.out.below hbx l9.out.lt).facts;refine opOk_h rfl rfl fun KK HK=>?_
     clear hdep hio;simp only[nq1,nq2,nq3,nq4,nq5,nq6,nq7,Nat.zero_add,Nat.reduceAdd]at HK ⊢;generalize S 7=t7 at *;subst h7;go_wp2;exact HK.out _ _ ⟨_,rfl,rfl,Below.refl _ _⟩
    ·cases ho
     have h8:S 8 = .agg #[.slice l2 l3 l4,.slice l5 l6 l7]:=hdep 8 (by kernel_rfl) (by decide)
     refine opOk_h rfl rfl fun KK HK=>?_
     clear hdep hio;simp only[nq1,nq2,nq3,nq4,nq5,nq6,nq7,Nat.zero_add,Nat.reduceAdd]at HK ⊢;generalize S 8=t8 at *;subst h8;go_wp2_with fail
     have key:=(t_mono n) x D [.slice l2 l3 l4,.slice l5 l6 l7] c6 (N7.out.below (l8.out.trans (hbx.mono l8.out.size))) N6.out;rw[val_mono]at key;refine(key).mono ?_;rintro e xN⟨rfl,hbN⟩;exact HK.out _ _ ⟨_,rfl,rfl,hbN⟩
    ·cases ho
     have h3:S 3 = .string ⟨c4.toArray⟩:=hdep 3 (by kernel_rfl) (by decide)
     have h6:S 6 = .string ⟨c5.toArray⟩:=hdep 6 (by kernel_rfl) (by decide)
     have h9:S 9 = .string ⟨c6.toArray⟩:=hdep 9 (by kernel_rfl) (by decide)
     refine opOk_h rfl rfl fun KK HK=>?_
     clear hdep hio;simp only[nq1,nq2,nq3,nq4,nq5,nq6,nq7,Nat.zero_add,Nat.reduceAdd]at HK ⊢;generalize S 3=t3 at *;subst h3;generalize S 6=t6 at *;subst h6;generalize S 9=t9 at *;subst h9;go_wp2;exact HK.out _ _ ⟨_,rfl,Strs.new x _ [c4,c5,c6] _ rfl _ rfl (by decide),(Below.refl _ _).alloc (Nat.le_refl _) _⟩
    ·cases ho
     have h10:Strs x (S 10) 3 (fun i=>[c4,c5,c6].getD i []):=hdep 10 (by kernel_rfl) (by decide)
     refine opOk_h rfl rfl fun KK HK=>?_
     clear hdep hio;simp only[nq1,nq2,nq3,nq4,nq5,nq6,nq7,Nat.zero_add,Nat.reduceAdd]at HK ⊢;go_wp2_with fail
     refine(group_any _ _ 3 _ h10 (len_eq w5.out z1.out)).mono ?_;rintro e xN⟨rfl,hbN⟩;exact HK.out _ _ ⟨_,rfl,rfl,hbN⟩
    ·cases ho
     have h11:S 11 = .string ⟨(par (fun i=>[c4,c5,c6].getD i []) 3).toArray⟩:=hdep 11 (by kernel_rfl) (by decide)
     refine opOk_h rfl rfl fun KK HK=>?_
     clear hdep hio;simp only[nq1,nq2,nq3,nq4,nq5,nq6,nq7,Nat.zero_add,Nat.reduceAdd]at HK ⊢;generalize S 11=t11 at *;subst h11;go_wp2;exact HK.out _ _ ⟨_,rfl,Strs.new1 x _ _,(Below.refl _ _).alloc (Nat.le_refl _) _⟩
    ·exact absurd hio (by simp)
   intro S x hbx hF;have g0:S 0 = .slice w1 a1 w2:=hF 0 (by decide)
   have g1:S 1 = .pointer (some ⟨c0.heap.size,0,none⟩):=hF 1 (by decide)
   have g2:S 2 = .int .i64 k4:=hF 2 (by decide)
   have g3:S 3 = .string ⟨c4.toArray⟩:=hF 3 (by decide)
   have g4:S 4 = .pointer (some ⟨c0.heap.size,1,none⟩):=hF 4 (by decide)
   have g5:S 5 = .agg #[.bool k5,.slice k6 k7 k8,.slice k9 l0 l1]:=hF 5 (by decide)
   have g6:S 6 = .string ⟨c5.toArray⟩:=hF 6 (by decide)
   have g7:S 7 = .pointer (some ⟨c0.heap.size,4,none⟩):=hF 7 (by decide)
   have g8:S 8 = .agg #[.slice l2 l3 l4,.slice l5 l6 l7]:=hF 8 (by decide)
   have g9:S 9 = .string ⟨c6.toArray⟩:=hF 9 (by decide)
   have g10:Strs x (S 10) 3 (fun i=>[c4,c5,c6].getD i []):=hF 10 (by decide)
   have g11:S 11 = .string ⟨(par (fun i=>[c4,c5,c6].getD i []) 3).toArray⟩:=hF 11 (by decide)
   have g12:Strs x (S 12) 1 (fun _=>(par (fun i=>[c4,c5,c6].getD i []) 3)):=hF 12 (by decide)
   clear hF;simp only[nm,Nat.reduceAdd,List.length_cons,List.length_nil,List.drop_succ_cons,List.drop_zero];generalize S 0=t0 at *;subst g0;generalize S 1=t1 at *;subst g1;generalize S 2=t2 at *;subst g2;generalize S 3=t3 at *;subst g3;generalize S 4=t4 at *;subst g4;generalize S 5=t5 at *;subst g5;generalize S 6=t6 at *;subst g6;generalize S 7=t7 at *;subst g7;generalize S 8=t8 at *;subst g8;generalize S 9=t9 at *;subst g9;generalize S 10=t10 at *;generalize S 11=t11 at *;subst g11;generalize S 12=t12 at *;obtain⟨O0,hxn⟩:∃y:World,y=x:=⟨_,rfl⟩;subst hxn;have Y1:=hid (l8.out.trans (hbx.mono l8.out.size));have Y2:=hid (G1.out.below hbx G1.out.lt);have Y3:=hid (G2.out.below hbx G2.out.lt);have Y4:=hid (l9.out.below hbx l9.out.lt);have Y5:=hid (N8.out.below hbx);have O1:=hid (N9.out.below hbx);obtain⟨b1,o1,c1,rfl,hce⟩:=Strs.one g12;go_wp2_with (at_builtin;refine wpList_pushT O0 rfl _ _ rfl s8 b4 a1 _ rfl O1.out b1 o1 c1 rfl (par (fun i=>[c4,c5,c6].getD i []) 3) hce (w5.out.symm) (by omega) ?_)
   intro g2 z4 w4 d8;have j6:=hid d8;clear d8;go_wp2;go_roundw
   case rel=>exact⟨a1+1,by omega,by go_num,j6⟩
   case measure=>simp[intOf];omega
  obtain rfl:a1=e7:=by omega
  go_upto_region 11 with(fail)
  refine wp_region_facts (by kernel_rfl) (by kernel_rfl) [49,50,51,52,53,54,55,56,57,58,59,60] 40 (by kernel_rfl) (fun io v x=>match io with
   | 0=>v = .slice v5 k86 v6
   | 1=>v = .pointer (some ⟨d1.heap.size,0,none⟩)
   | 2=>v = .int .i64 j7
   | 3=>v = .string ⟨c2.toArray⟩
   | 4=>v = .slice w1 a1 w2
   | 5=>v = .string ⟨(par b4 a1).toArray⟩
   | 6=>v = .pointer (some ⟨d1.heap.size,2,none⟩)
   | 7=>v = .slice j8 j9 k0
   | 8=>v = .string ⟨c3.toArray⟩
   | 9=>Strs x v 3 (fun i=>[c2,(par b4 a1),c3].getD i [])
   | 10=>v = .string ⟨(par (fun i=>[c2,(par b4 a1),c3].getD i []) 3).toArray⟩
   | _=>Strs x v 1 (fun _=>(par (fun i=>[c2,(par b4 a1),c3].getD i []) 3))) ?_ ?_ ?_
  ·intro io v x x' hio h hb
   rcases io with _|_|_|_|_|_|_|_|_|_|_|io
   ·exact h
   ·exact h
   ·exact h
   ·exact h
   ·exact h
   ·exact h
   ·exact h
   ·exact h
   ·exact h
   ·exact Strs.below h hb
   ·exact h
   ·exact Strs.below h hb
  ·intro io oo S x ho hio hbx hdep
   rcases io with _|_|_|_|_|_|_|_|_|_|_|_|io
   ·cases ho
    refine opOk_h rfl rfl fun KK HK=>?_
    clear hdep hio;simp only[nq1,nq2,nq3,nq4,nq5,nq6,nq7,Nat.zero_add,Nat.reduceAdd]at HK ⊢;go_wp2;exact HK.out _ _ ⟨_,rfl,rfl,Below.refl _ _⟩
   ·cases ho
    refine opOk_h rfl rfl fun KK HK=>?_
    clear hdep hio;simp only[nq1,nq2,nq3,nq4,nq5,nq6,nq7,Nat.zero_add,Nat.reduceAdd]at HK ⊢;go_wp2;exact HK.out _ _ ⟨_,rfl,rfl,Below.refl _ _⟩
   ·cases ho
    have h1:S 1 = .pointer (some ⟨d1.heap.size,0,none⟩):=hdep 1 (by kernel_rfl) (by decide)
    obtain⟨Y6,_,_⟩:=(k2.out.below hbx k2.out.lt).facts;refine opOk_h rfl rfl fun KK HK=>?_
    clear hdep hio;simp only[nq1,nq2,nq3,nq4,nq5,nq6,nq7,Nat.zero_add,Nat.reduceAdd]at HK ⊢;generalize S 1=t1 at *;subst h1;go_wp2;exact HK.out _ _ ⟨_,rfl,rfl,Below.refl _ _⟩
   ·cases ho
    have h2:S 2 = .int .i64 j7:=hdep 2 (by kernel_rfl) (by decide)
    refine opOk_h rfl rfl fun KK HK=>?_
    clear hdep hio;simp only[nq1,nq2,nq3,nq4,nq5,nq6,nq7,Nat.zero_add,Nat.reduceAdd]at HK ⊢;generalize S 2=t2 at *;subst h2;go_wp2_with fail
    have key:=t_dec x D [.int .i64 j7] c2 (M2.out.below (d7.out.trans (hbx.mono d7.out.size))) M1.out;rw[val_int]at key;refine(key).mono ?_;rintro e xN⟨rfl,hbN⟩;exact HK.out _ _ ⟨_,rfl,rfl,hbN⟩
   ·cases ho
    refine opOk_h rfl rfl fun KK HK=>?_
    clear hdep hio;simp only[nq1,nq2,nq3,nq4,nq5,nq6,nq7,Nat.zero_add,Nat.reduceAdd]at HK ⊢;go_wp2;exact HK.out _ _ ⟨_,rfl,rfl,Below.refl _ _⟩
   ·cases ho
    have h4:S 4 = .slice w1 a1 w2:=hdep 4 (by kernel_rfl) (by decide)
    refine opOk_h rfl rfl fun KK HK=>?_
    clear hdep hio;simp only[nq1,nq2,nq3,nq4,nq5,nq6,nq7,Nat.zero_add,Nat.reduceAdd]at HK ⊢;generalize S 4=t4 at *;subst h4;go_wp2_with fail
    refine(group_any _ _ a1 b4 ((w0.out.strs).below hbx) C2.out).mono ?_;rintro e xN⟨rfl,hbN⟩;exact HK.out _ _ ⟨_,rfl,rfl,hbN⟩
   ·cases ho
    refine opOk_h rfl rfl fun KK HK=>?_
    clear hdep hio;simp only[nq1,nq2,nq3,nq4,nq5,nq6,nq7,Nat.zero_add,Nat.reduceAdd]at HK ⊢;go_wp2;exact HK.out _ _ ⟨_,rfl,rfl,Below.refl _ _⟩
   ·cases ho
    have h6:S 6 = .pointer (some ⟨d1.heap.size,2,none⟩):=hdep 6 (by kernel_rfl) (by decide)
    obtain⟨Y7,_,_⟩:=(k2.out.below hbx k2.out.lt).facts;refine opOk_h rfl rfl fun KK HK=>?_
    clear hdep hio;simp only[nq1,nq2,nq3,nq4,nq5,nq6,nq7,Nat.zero_add,Nat.reduceAdd]at HK ⊢;generalize S 6=t6 at *;subst h6;go_wp2;exact HK.out _ _ ⟨_,rfl,rfl,Below.refl _ _⟩
   ·cases ho
    have h7:S 7 = .slice j8 j9 k0:=hdep 7 (by kernel_rfl) (by decide)
    refine opOk_h rfl rfl fun KK HK=>?_
    clear hdep hio;simp only[nq1,nq2,nq3,nq4,nq5,nq6,nq7,Nat.zero_add,Nat.reduceAdd]at HK ⊢;generalize S 7=t7 at *;subst h7;go_wp2_with fail
    have key:=(t_poly n) x D [.slice j8 j9 k0] c3 (M5.out.below (d7.out.trans (hbx.mono d7.out.size))) M4.out;rw[val_list]at key;refine(key).mono ?_;rintro e xN⟨rfl,hbN⟩;exact HK.out _ _ ⟨_,rfl,rfl,hbN⟩
   ·cases ho
    have h3:S 3 = .string ⟨c2.toArray⟩:=hdep 3 (by kernel_rfl) (by decide)
    have h5:S 5 = .string ⟨(par b4 a1).toArray⟩:=hdep 5 (by kernel_rfl) (by decide)
    have h8:S 8 = .string ⟨c3.toArray⟩:=hdep 8 (by kernel_rfl) (by decide)
    refine opOk_h rfl rfl fun KK HK=>?_
    clear hdep hio;simp only[nq1,nq2,nq3,nq4,nq5,nq6,nq7,Nat.zero_add,Nat.reduceAdd]at HK ⊢;generalize S 3=t3 at *;subst h3;generalize S 5=t5 at *;subst h5;generalize S 8=t8 at *;subst h8;go_wp2;exact HK.out _ _ ⟨_,rfl,Strs.new x _ [c2,(par b4 a1),c3] _ rfl _ rfl (by decide),(Below.refl _ _).alloc (Nat.le_refl _) _⟩
   ·cases ho
    have h9:Strs x (S 9) 3 (fun i=>[c2,(par b4 a1),c3].getD i []):=hdep 9 (by kernel_rfl) (by decide)
    refine opOk_h rfl rfl fun KK HK=>?_
    clear hdep hio;simp only[nq1,nq2,nq3,nq4,nq5,nq6,nq7,Nat.zero_add,Nat.reduceAdd]at HK ⊢;go_wp2_with fail
    refine(group_any _ _ 3 _ h9 (len_eq v9.out y2.out)).mono ?_;rintro e xN⟨rfl,hbN⟩;exact HK.out _ _ ⟨_,rfl,rfl,hbN⟩
   ·cases ho
    have h10:S 10 = .string ⟨(par (fun i=>[c2,(par b4 a1),c3].getD i []) 3).toArray⟩:=hdep 10 (by kernel_rfl) (by decide)
    refine opOk_h rfl rfl fun KK HK=>?_
    clear hdep hio;simp only[nq1,nq2,nq3,nq4,nq5,nq6,nq7,Nat.zero_add,Nat.reduceAdd]at HK ⊢;generalize S 10=t10 at *;subst h10;go_wp2;exact HK.out _ _ ⟨_,rfl,Strs.new1 x _ _,(Below.refl _ _).alloc (Nat.le_refl _) _⟩
   ·exact absurd hio (by simp)
  intro S x hbx hF;have g0:S 0 = .slice v5 k86 v6:=hF 0 (by decide)
  have g1:S 1 = .pointer (some ⟨d1.heap.size,0,none⟩):=hF 1 (by decide)
  have g2:S 2 = .int .i64 j7:=hF 2 (by decide)
  have g3:S 3 = .string ⟨c2.toArray⟩:=hF 3 (by decide)
  have g4:S 4 = .slice w1 a1 w2:=hF 4 (by decide)
  have g5:S 5 = .string ⟨(par b4 a1).toArray⟩:=hF 5 (by decide)
  have g6:S 6 = .pointer (some ⟨d1.heap.size,2,none⟩):=hF 6 (by decide)
  have g7:S 7 = .slice j8 j9 k0:=hF 7 (by decide)
  have g8:S 8 = .string ⟨c3.toArray⟩:=hF 8 (by decide)
  have g9:Strs x (S 9) 3 (fun i=>[c2,(par b4 a1),c3].getD i []):=hF 9 (by decide)
  have g10:S 10 = .string ⟨(par (fun i=>[c2,(par b4 a1),c3].getD i []) 3).toArray⟩:=hF 10 (by decide)
  have g11:Strs x (S 11) 1 (fun _=>(par (fun i=>[c2,(par b4 a1),c3].getD i []) 3)):=hF 11 (by decide)
  clear hF;simp only[nm,Nat.reduceAdd,List.length_cons,List.length_nil,List.drop_succ_cons,List.drop_zero];generalize S 0=t0 at *;subst g0;generalize S 1=t1 at *;subst g1;generalize S 2=t2 at *;subst g2;generalize S 3=t3 at *;subst g3;generalize S 4=t4 at *;subst g4;generalize S 5=t5 at *;subst g5;generalize S 6=t6 at *;subst g6;generalize S 7=t7 at *;subst g7;generalize S 8=t8 at *;subst g8;generalize S 9=t9 at *;generalize S 10=t10 at *;subst g10;generalize S 11=t11 at *;obtain⟨O2,hxn⟩:∃y:World,y=x:=⟨_,rfl⟩;subst hxn;have Y8:=hid (d7.out.trans (hbx.mono d7.out.size));have Y9:=hid (z0.out.below hbx z0.out.lt);have Z0:=hid (k2.out.below hbx k2.out.lt);have O3:=hid (F8.out.below hbx);have Z1:=hid (w0.out.below hbx);obtain⟨b1,o1,c1,rfl,hce⟩:=Strs.one g11;go_wp2_with (at_builtin;refine wpList_pushT O2 rfl _ _ rfl W68 d4 k86 _ rfl O3.out b1 o1 c1 rfl (par (fun i=>[c2,(par b4 a1),c3].getD i []) 3) hce (v9.out.symm) (by omega) ?_)
  intro g2 z4 w4 d8;have j6:=hid d8;clear d8;go_wp2;go_roundw
  case rel=>exact⟨k86+1,by omega,by go_num,j6⟩
  case measure=>simp[intOf];omega
 obtain rfl:k86=j3:=by omega
 obtain⟨Z2,_,_⟩:=v7.out.facts;obtain⟨O4,d5,O5,Z3,O6,G3,G4⟩:=K8.out.unlist;subst O5;have O7:=hid G3;have O8:=hid G4;have Z4:j4≤100000000:=Nat.le_trans (par_len_ge d5 j4) B4.out;unfold maxLen at O6;clear G3 G4;go_wp2;have G5:=hid (TI.start d5 (Below.refl d1.heap.size d1));go_loopw [4,66] (fun ov iv wr=>∃(k:Nat),k≤j4∧iv = .int .i64 k∧Hid (TI d5 d1 ov k wr)) (fun _ iv _=>j4-(intOf iv).toNat)
 case atStart=>exact⟨0,by omega,rfl,G5⟩
 obtain⟨a2,Z5,rfl,z5⟩:=hrel;clear G5;obtain⟨b2,hwr⟩:∃w:World,w=wr:=⟨_,rfl⟩;subst hwr;obtain⟨w9,x0,rfl,_,_⟩:=z5.out.form;have z6:=z5.out.2;have e8:=hid (r7.out.trans (z6.mono r7.out.size));have x1:=hid (v7.out.below z6 v7.out.lt);have G6:=hid (y0.out.below z6);clear z6;by_cases hlt:a2<j4
 ·obtain⟨e4,e5,hAx,_,v1,s2⟩:=O7.out (by omega)
  subst hAx;have G7:=O8.out a2 hlt;obtain⟨Z6,m0⟩:∃u,O4 a2=u:=⟨_,rfl⟩;rw[m0]at G7;have z7:Hid ((d5 a2).length≤MX):=Nat.le_trans (par_len_at d5 hlt) B4.out;have s3:Shape.sz (useS n)=6:=sz_use;obtain⟨_,z8,Z7,_,c7,_,rfl,rfl,C7,Z8,_,c8,_,rfl,rfl,C8,Z9,_,c9,_,rfl,rfl,C9,rfl,rfl⟩:=G7;injection z8 with z8 _;obtain⟨m1,rfl⟩:=ty_int C7.ty;obtain⟨m2,m3,m4,m5,m6,m7,m8,rfl⟩:=ty_rat C8.ty;obtain⟨m9,n0,n1,n2,n3,n4,rfl⟩:=ty_mono C9.ty;have x2:=hid z8;have O9:Hid (c7.length≤MX):=Nat.le_trans (par_len_at (fun i=>[c7,c8,c9].getD i []) (i:=0) (k:=3) (by decide)) (len_eq x2.out z7.out)
  have P0:=hid C7;clear C7;have P1:Hid (c8.length≤MX):=Nat.le_trans (par_len_at (fun i=>[c7,c8,c9].getD i []) (i:=1) (k:=3) (by decide)) (len_eq x2.out z7.out)
  have P2:=hid C8;clear C8;have P3:Hid (c9.length≤MX):=Nat.le_trans (par_len_at (fun i=>[c7,c8,c9].getD i []) (i:=2) (k:=3) (by decide)) (len_eq x2.out z7.out)
  have P4:=hid C9;clear C9;clear z8;have k1:b2.cell? ⟨e4,e5+a2*6,none⟩=some (.int .i64 m1):=by
   have h9:=(e8.out.cell (p:=⟨e4,e5+a2*Shape.sz (useS n)+0,none⟩) v1).trans (s2 a2 hlt 0 (.int .i64 m1) (by rw[m0];rfl))
   rw[s3]at h9;simpa using h9
  have r8:b2.cell? ⟨e4,e5+a2*6+1,none⟩=some (.bool m2):=by
   have h9:=(e8.out.cell (p:=⟨e4,e5+a2*Shape.sz (useS n)+1,none⟩) v1).trans (s2 a2 hlt 1 (.bool m2) (by rw[m0];rfl))
   rw[s3]at h9;simpa using h9
  have r9:b2.cell? ⟨e4,e5+a2*6+2,none⟩=some (.slice m3 m4 m5):=by
   have h9:=(e8.out.cell (p:=⟨e4,e5+a2*Shape.sz (useS n)+2,none⟩) v1).trans (s2 a2 hlt 2 (.slice m3 m4 m5) (by rw[m0];rfl))
   rw[s3]at h9;simpa using h9
  have w6:b2.cell? ⟨e4,e5+a2*6+3,none⟩=some (.slice m6 m7 m8):=by
   have h9:=(e8.out.cell (p:=⟨e4,e5+a2*Shape.sz (useS n)+3,none⟩) v1).trans (s2 a2 hlt 3 (.slice m6 m7 m8) (by rw[m0];rfl))
   rw[s3]at h9;simpa using h9
  have w7:b2.cell? ⟨e4,e5+a2*6+4,none⟩=some (.slice m9 n0 n1):=by
   have h9:=(e8.out.cell (p:=⟨e4,e5+a2*Shape.sz (useS n)+4,none⟩) v1).trans (s2 a2 hlt 4 (.slice m9 n0 n1) (by rw[m0];rfl))
   rw[s3]at h9;simpa using h9
  have w8:b2.cell? ⟨e4,e5+a2*6+5,none⟩=some (.slice n2 n3 n4):=by
   have h9:=(e8.out.cell (p:=⟨e4,e5+a2*Shape.sz (useS n)+5,none⟩) v1).trans (s2 a2 hlt 5 (.slice n2 n3 n4) (by rw[m0];rfl))
   rw[s3]at h9;simpa using h9
  clear s2 m0 s3;go_upto_region 16 with(fail)
  obtain⟨G8,z9⟩:∃W,W=b2.alloc (.cells #[.int .i64 m1,.bool m2,.slice m3 m4 m5,.slice m6 m7 m8,.slice m9 n0 n1,.slice n2 n3 n4] 82):=⟨_,rfl⟩;have x3:Below b2.heap.size b2 G8:=by rw[z9];exact(Below.refl _ _).alloc (Nat.le_refl _) _
  have n5:=hid (e8.out.trans (x3.mono e8.out.size));have G9:=hid (x1.out.below x3 x1.out.lt);have P5:=hid (G6.out.below x3);have P6:=hid (z5.out.below x3);have n6:Hid (Bk G8 b2.heap.size 82 #[.int .i64 m1,.bool m2,.slice m3 m4 m5,.slice m6 m7 m8,.slice m9 n0 n1,.slice n2 n3 n4]):=by rw[z9];exact Bk.new _ _ _
  rw[←z9];clear z9 x3;clear k1 r8 r9 w6 w7 w8;go_upto_region 16 with(fail)
  refine wp_region_facts (by kernel_rfl) (by kernel_rfl) [70,71,72,73,74,75,76,77,78,79,80,81,82] 40 (by kernel_rfl) (fun io v x=>match io with
   | 0=>v = .slice w9 a2 x0
   | 1=>v = .pointer (some ⟨b2.heap.size,0,none⟩)
   | 2=>v = .int .i64 m1
   | 3=>v = .string ⟨c7.toArray⟩
   | 4=>v = .pointer (some ⟨b2.heap.size,1,none⟩)
   | 5=>v = .agg #[.bool m2,.slice m3 m4 m5,.slice m6 m7 m8]
   | 6=>v = .string ⟨c8.toArray⟩
   | 7=>v = .pointer (some ⟨b2.heap.size,4,none⟩)
   | 8=>v = .agg #[.slice m9 n0 n1,.slice n2 n3 n4]
   | 9=>v = .string ⟨c9.toArray⟩
   | 10=>Strs x v 3 (fun i=>[c7,c8,c9].getD i [])
   | 11=>v = .string ⟨(par (fun i=>[c7,c8,c9].getD i []) 3).toArray⟩
   | _=>Strs x v 1 (fun _=>(par (fun i=>[c7,c8,c9].getD i []) 3))) ?_ ?_ ?_
  ·intro io v x x' hio h hb
   rcases io with _|_|_|_|_|_|_|_|_|_|_|_|io
   ·exact h
   ·exact h
   ·exact h
   ·exact h
   ·exact h
   ·exact h
   ·exact h
   ·exact h
   ·exact h
   ·exact h
   ·exact Strs.below h hb
   ·exact h
   ·exact Strs.below h hb
  ·intro io oo S x ho hio hbx hdep
   rcases io with _|_|_|_|_|_|_|_|_|_|_|_|_|io
   ·cases ho
    refine opOk_h rfl rfl fun KK HK=>?_
    clear hdep hio;simp only[nq1,nq2,nq3,nq4,nq5,nq6,nq7,Nat.zero_add,Nat.reduceAdd]at HK ⊢;go_wp2;exact HK.out _ _ ⟨_,rfl,rfl,Below.refl _ _⟩
   ·cases ho
    refine opOk_h rfl rfl fun KK HK=>?_
    clear hdep hio;simp only[nq1,nq2,nq3,nq4,nq5,nq6,nq7,Nat.zero_add,Nat.reduceAdd]at HK ⊢;go_wp2;exact HK.out _ _ ⟨_,rfl,rfl,Below.refl _ _⟩
   ·cases ho
    have h1:S 1 = .pointer (some ⟨b2.heap.size,0,none⟩):=hdep 1 (by kernel_rfl) (by decide)
    obtain⟨aa0,_,_⟩:=(n6.out.below hbx n6.out.lt).facts;refine opOk_h rfl rfl fun KK HK=>?_
    clear hdep hio;simp only[nq1,nq2,nq3,nq4,nq5,nq6,nq7,Nat.zero_add,Nat.reduceAdd]at HK ⊢;generalize S 1=t1 at *;subst h1;go_wp2;exact HK.out _ _ ⟨_,rfl,rfl,Below.refl _ _⟩
   ·cases ho
    have h2:S 2 = .int .i64 m1:=hdep 2 (by kernel_rfl) (by decide)
    refine opOk_h rfl rfl fun KK HK=>?_
    clear hdep hio;simp only[nq1,nq2,nq3,nq4,nq5,nq6,nq7,Nat.zero_add,Nat.reduceAdd]at HK ⊢;generalize S 2=t2 at *;subst h2;go_wp2_with fail
    have key:=t_dec x D [.int .i64 m1] c7 (P0.out.below (n5.out.trans (hbx.mono n5.out.size))) O9.out;rw[val_int]at key;refine(key).mono ?_;rintro e xN⟨rfl,hbN⟩;exact HK.out _ _ ⟨_,rfl,rfl,hbN⟩
   ·cases ho
    refine opOk_h rfl rfl fun KK HK=>?_
    clear hdep hio;simp only[nq1,nq2,nq3,nq4,nq5,nq6,nq7,Nat.zero_add,Nat.reduceAdd]at HK ⊢;go_wp2;exact HK.out _ _ ⟨_,rfl,rfl,Below.refl _ _⟩
   ·cases ho
    have h4:S 4 = .pointer (some ⟨b2.heap.size,1,none⟩):=hdep 4 (by kernel_rfl) (by decide)
    obtain⟨aa1,_,_⟩:=(n6.out.below hbx n6.out.lt).facts;refine opOk_h rfl rfl fun KK HK=>?_
    clear hdep hio;simp only[nq1,nq2,nq3,nq4,nq5,nq6,nq7,Nat.zero_add,Nat.reduceAdd]at HK ⊢;generalize S 4=t4 at *;subst h4;go_wp2;exact HK.out _ _ ⟨_,rfl,rfl,Below.refl _ _⟩
   ·cases ho
    have h5:S 5 = .agg #[.bool m2,.slice m3 m4 m5,.slice m6 m7 m8]:=hdep 5 (by kernel_rfl) (by decide)
    refine opOk_h rfl rfl fun KK HK=>?_
    clear hdep hio;simp only[nq1,nq2,nq3,nq4,nq5,nq6,nq7,Nat.zero_add,Nat.reduceAdd]at HK ⊢;generalize S 5=t5 at *;subst h5;go_wp2_with fail
    have key:=t_fmt x D [.bool m2,.slice m3 m4 m5,.slice m6 m7 m8] c8 (P2.out.below (n5.out.trans (hbx.mono n5.out.size))) P1.out;rw[val_rat]at key;refine(key).mono ?_;rintro e xN⟨rfl,hbN⟩;exact HK.out _ _ ⟨_,rfl,rfl,hbN⟩
   ·cases ho
    refine opOk_h rfl rfl fun KK HK=>?_
    clear hdep hio;simp only[nq1,nq2,nq3,nq4,nq5,nq6,nq7,Nat.zero_add,Nat.reduceAdd]at HK ⊢;go_wp2;exact HK.out _ _ ⟨_,rfl,rfl,Below.refl _ _⟩
   ·cases ho
    have h7:S 7 = .pointer (some ⟨b2.heap.size,4,none⟩):=hdep 7 (by kernel_rfl) (by decide)
    obtain⟨aa2,_,_⟩:=(n6.out.below hbx n6.out.lt).facts;refine opOk_h rfl rfl fun KK HK=>?_
    clear hdep hio;simp only[nq1,nq2,nq3,nq4,nq5,nq6,nq7,Nat.zero_add,Nat.reduceAdd]at HK ⊢;generalize S 7=t7 at *;subst h7;go_wp2;exact HK.out _ _ ⟨_,rfl,rfl,Below.refl _ _⟩
   ·cases ho
    have h8:S 8 = .agg #[.slice m9 n0 n1,.slice n2 n3 n4]:=hdep 8 (by kernel_rfl) (by decide)
    refine opOk_h rfl rfl fun KK HK=>?_
    clear hdep hio;simp only[nq1,nq2,nq3,nq4,nq5,nq6,nq7,Nat.zero_add,Nat.reduceAdd]at HK ⊢;generalize S 8=t8 at *;subst h8;go_wp2_with fail
    have key:=(t_mono n) x D [.slice m9 n0 n1,.slice n2 n3 n4] c9 (P4.out.below (n5.out.trans (hbx.mono n5.out.size))) P3.out;rw[val_mono]at key;refine(key).mono ?_;rintro e xN⟨rfl,hbN⟩;exact HK.out _ _ ⟨_,rfl,rfl,hbN⟩
   ·cases ho
    have h3:S 3 = .string ⟨c7.toArray⟩:=hdep 3 (by kernel_rfl) (by decide)
    have h6:S 6 = .string ⟨c8.toArray⟩:=hdep 6 (by kernel_rfl) (by decide)
    have h9:S 9 = .string ⟨c9.toArray⟩:=hdep 9 (by kernel_rfl) (by decide)
    refine opOk_h rfl rfl fun KK HK=>?_
    clear hdep hio;simp only[nq1,nq2,nq3,nq4,nq5,nq6,nq7,Nat.zero_add,Nat.reduceAdd]at HK ⊢;generalize S 3=t3 at *;subst h3;generalize S 6=t6 at *;subst h6;generalize S 9=t9 at *;subst h9;go_wp2;exact HK.out _ _ ⟨_,rfl,Strs.new x _ [c7,c8,c9] _ rfl _ rfl (by decide),(Below.refl _ _).alloc (Nat.le_refl _) _⟩
   ·cases ho
    have h10:Strs x (S 10) 3 (fun i=>[c7,c8,c9].getD i []):=hdep 10 (by kernel_rfl) (by decide)
    refine opOk_h rfl rfl fun KK HK=>?_
    clear hdep hio;simp only[nq1,nq2,nq3,nq4,nq5,nq6,nq7,Nat.zero_add,Nat.reduceAdd]at HK ⊢;go_wp2_with fail
    refine(group_any _ _ 3 _ h10 (len_eq x2.out z7.out)).mono ?_;rintro e xN⟨rfl,hbN⟩;exact HK.out _ _ ⟨_,rfl,rfl,hbN⟩
   ·cases ho
    have h11:S 11 = .string ⟨(par (fun i=>[c7,c8,c9].getD i []) 3).toArray⟩:=hdep 11 (by kernel_rfl) (by decide)
    refine opOk_h rfl rfl fun KK HK=>?_
    clear hdep hio;simp only[nq1,nq2,nq3,nq4,nq5,nq6,nq7,Nat.zero_add,Nat.reduceAdd]at HK ⊢;generalize S 11=t11 at *;subst h11;go_wp2;exact HK.out _ _ ⟨_,rfl,Strs.new1 x _ _,(Below.refl _ _).alloc (Nat.le_refl _) _⟩
   ·exact absurd hio (by simp)
  intro S x hbx hF;have g0:S 0 = .slice w9 a2 x0:=hF 0 (by decide)
  have g1:S 1 = .pointer (some ⟨b2.heap.size,0,none⟩):=hF 1 (by decide)
  have g2:S 2 = .int .i64 m1:=hF 2 (by decide)
  have g3:S 3 = .string ⟨c7.toArray⟩:=hF 3 (by decide)
  have g4:S 4 = .pointer (some ⟨b2.heap.size,1,none⟩):=hF 4 (by decide)
  have g5:S 5 = .agg #[.bool m2,.slice m3 m4 m5,.slice m6 m7 m8]:=hF 5 (by decide)
  have g6:S 6 = .string ⟨c8.toArray⟩:=hF 6 (by decide)
  have g7:S 7 = .pointer (some ⟨b2.heap.size,4,none⟩):=hF 7 (by decide)
  have g8:S 8 = .agg #[.slice m9 n0 n1,.slice n2 n3 n4]:=hF 8 (by decide)
  have g9:S 9 = .string ⟨c9.toArray⟩:=hF 9 (by decide)
  have g10:Strs x (S 10) 3 (fun i=>[c7,c8,c9].getD i []):=hF 10 (by decide)
  have g11:S 11 = .string ⟨(par (fun i=>[c7,c8,c9].getD i []) 3).toArray⟩:=hF 11 (by decide)
  have g12:Strs x (S 12) 1 (fun _=>(par (fun i=>[c7,c8,c9].getD i []) 3)):=hF 12 (by decide)
  clear hF;simp only[nm,Nat.reduceAdd,List.length_cons,List.length_nil,List.drop_succ_cons,List.drop_zero];generalize S 0=t0 at *;subst g0;generalize S 1=t1 at *;subst g1;generalize S 2=t2 at *;subst g2;generalize S 3=t3 at *;subst g3;generalize S 4=t4 at *;subst g4;generalize S 5=t5 at *;subst g5;generalize S 6=t6 at *;subst g6;generalize S 7=t7 at *;subst g7;generalize S 8=t8 at *;subst g8;generalize S 9=t9 at *;subst g9;generalize S 10=t10 at *;generalize S 11=t11 at *;subst g11;generalize S 12=t12 at *;obtain⟨P7,hxn⟩:∃y:World,y=x:=⟨_,rfl⟩;subst hxn;have aa3:=hid (n5.out.trans (hbx.mono n5.out.size));have aa4:=hid (G9.out.below hbx G9.out.lt);have aa5:=hid (n6.out.below hbx n6.out.lt);have aa6:=hid (P5.out.below hbx);have P8:=hid (P6.out.below hbx);obtain⟨b1,o1,c1,rfl,hce⟩:=Strs.one g12;go_wp2_with (at_builtin;refine wpList_pushT P7 rfl _ _ rfl d1 d5 a2 _ rfl P8.out b1 o1 c1 rfl (par (fun i=>[c7,c8,c9].getD i []) 3) hce (x2.out.symm) (by omega) ?_)
  intro g2 z4 w4 d8;have j6:=hid d8;clear d8;go_wp2;go_roundw
  case rel=>exact⟨a2+1,by omega,by go_num,j6⟩
  case measure=>simp[intOf];omega
 obtain rfl:a2=j4:=by omega
 obtain⟨aa7,_,_⟩:=x1.out.facts;obtain⟨P9,d2,Q0,aa8,Q1,H0,H1⟩:=L5.out.unlist;subst Q0;have Q2:=hid H0;have Q3:=hid H1;have aa9:j5≤100000000:=Nat.le_trans (par_len_ge d2 j5) B5.out;unfold maxLen at Q1;clear H0 H1;go_wp2;have H2:=hid (TI.start d2 (Below.refl b2.heap.size b2));go_loopw [5,88] (fun ov iv wr=>∃(k:Nat),k≤j5∧iv = .int .i64 k∧Hid (TI d2 b2 ov k wr)) (fun _ iv _=>j5-(intOf iv).toNat)
 case atStart=>exact⟨0,by omega,rfl,H2⟩
 obtain⟨b0,ab0,rfl,x4⟩:=hrel;clear H2;obtain⟨x5,hwr⟩:∃w:World,w=wr:=⟨_,rfl⟩;subst hwr;obtain⟨D0,D1,rfl,_,_⟩:=x4.out.form;have x6:=x4.out.2;have b3:=hid (e8.out.trans (x6.mono e8.out.size));have b5:=hid (x1.out.below x6 x1.out.lt);have D2:=hid (G6.out.below x6);have D3:=hid (z5.out.below x6);clear x6;by_cases hlt:b0<j5
 ·obtain⟨H3,H4,hAx,_,Q4,H5⟩:=Q2.out (by omega)
  subst hAx;have A0:=Q3.out b0 hlt;obtain⟨ab1,D4⟩:∃u,P9 b0=u:=⟨_,rfl⟩;rw[D4]at A0;have A1:Hid ((d2 b0).length≤MX):=Nat.le_trans (par_len_at d2 hlt) B5.out;have H6:Shape.sz (.list (axuS n))=1:=rfl;obtain⟨H7,n7,H8,rfl⟩:=ty_list A0.ty;have H9:=hid A0;clear A0;obtain⟨ab2,D5⟩:∃t,d2 b0=t:=⟨_,rfl⟩;rw[D5]at H9 A1;have Q5:=hid D5;clear D5;have k1:x5.cell? ⟨H3,H4+b0,none⟩=some (.slice H7 n7 H8):=by
   have h9:=(b3.out.cell (p:=⟨H3,H4+b0*Shape.sz (.list (axuS n))+0,none⟩) Q4).trans (H5 b0 hlt 0 (.slice H7 n7 H8) (by rw[D4];rfl))
   rw[H6]at h9;simpa using h9
  clear H5 D4 H6;obtain⟨Q6,e6,Q7,ab3,Q8,I0,I1⟩:=H9.out.unlist;subst Q7;have Q9:=hid I0;have R0:=hid I1;have ab4:n7≤100000000:=Nat.le_trans (par_len_ge e6 n7) A1.out;unfold maxLen at Q8;clear I0 I1;go_wp2;have I2:=hid (TI.start e6 (Below.refl x5.heap.size x5));go_loopw [15,94] (fun ov iv wr=>∃(k:Nat),k≤n7∧iv = .int .i64 k∧Hid (TI e6 x5 ov k wr)) (fun _ iv _=>n7-(intOf iv).toNat)
  case atStart=>exact⟨0,by omega,rfl,I2⟩
  obtain⟨a0,ab5,rfl,x7⟩:=hrel;clear I2;obtain⟨a7,hwr⟩:∃w:World,w=wr:=⟨_,rfl⟩;subst hwr;obtain⟨I3,I4,rfl,_,_⟩:=x7.out.form;have v2:=x7.out.2;have d3:=hid (b3.out.trans (v2.mono b3.out.size));have A2:=hid (b5.out.below v2 b5.out.lt);have I5:=hid (D2.out.below v2);have I6:=hid (D3.out.below v2);have I7:=hid (x4.out.below v2);clear v2;by_cases hlt:a0<n7
  ·obtain⟨a8,a9,hAx,_,e1,d9⟩:=Q9.out (by omega)
   subst hAx;have I8:=R0.out a0 hlt;obtain⟨ab6,d6⟩:∃u,Q6 a0=u:=⟨_,rfl⟩;rw[d6]at I8;have v3:Hid ((e6 a0).length≤MX):=Nat.le_trans (par_len_at e6 hlt) A1.out;have e0:Shape.sz (axuS n)=13:=sz_axiomUse;obtain⟨_,A3,ab7,_,ab8,_,rfl,rfl,R1,ab9,_,b6,_,rfl,rfl,D6,ac0,_,b7,_,rfl,rfl,D7,ac1,_,b8,_,rfl,rfl,D8,ac2,_,b9,_,rfl,rfl,D9,rfl,rfl⟩:=I8;injection A3 with A3 _;obtain⟨_,E0,ac3,_,a3,_,rfl,rfl,E1,ac4,_,a4,_,rfl,rfl,E2,ac5,_,a5,_,rfl,rfl,E3,ac6,_,a6,_,rfl,rfl,E4,rfl,rfl⟩:=R1;injection E0 with E0 _;obtain⟨e9,rfl⟩:=ty_int E1.ty;obtain⟨f0,f1,f2,f3,rfl⟩:=ty_lin E2.ty;obtain⟨f4,f5,f6,f7,rfl⟩:=ty_lin E3.ty;obtain⟨f8,rfl⟩:=ty_int E4.ty;subst E0;obtain⟨n8,n9,o0,o2,o3,o4,o5,rfl⟩:=ty_rat D6.ty;obtain⟨o6,o7,o8,o9,p0,p1,rfl⟩:=ty_mono D7.ty;obtain⟨p2,p3,p4,rfl⟩:=ty_list D8.ty;obtain⟨p5,p6,p7,rfl⟩:=ty_list D9.ty;have s4:=hid A3;have x8:Hid ((par (fun i=>[a3,a4,a5,a6].getD i []) 4).length≤MX):=Nat.le_trans (par_len_at (fun i=>[(par (fun i=>[a3,a4,a5,a6].getD i []) 4),b6,b7,b8,b9].getD i []) (i:=0) (k:=5) (by decide)) (len_eq s4.out v3.out)
   have R2:Hid (a3.length≤MX):=Nat.le_trans (par_len_at (fun i=>[a3,a4,a5,a6].getD i []) (i:=0) (k:=4) (by decide)) (x8.out)
   have R3:=hid E1;clear E1;have R4:Hid (a4.length≤MX):=Nat.le_trans (par_len_at (fun i=>[a3,a4,a5,a6].getD i []) (i:=1) (k:=4) (by decide)) (x8.out)
   have R5:=hid E2;clear E2;have R6:Hid (a5.length≤MX):=Nat.le_trans (par_len_at (fun i=>[a3,a4,a5,a6].getD i []) (i:=2) (k:=4) (by decide)) (x8.out)
   have R7:=hid E3;clear E3;have R8:Hid (a6.length≤MX):=Nat.le_trans (par_len_at (fun i=>[a3,a4,a5,a6].getD i []) (i:=3) (k:=4) (by decide)) (x8.out)
   have R9:=hid E4;clear E4;have S0:Hid (b6.length≤MX):=Nat.le_trans (par_len_at (fun i=>[(par (fun i=>[a3,a4,a5,a6].getD i []) 4),b6,b7,b8,b9].getD i []) (i:=1) (k:=5) (by decide)) (len_eq s4.out v3.out)
   have S1:=hid D6;clear D6;have S2:Hid (b7.length≤MX):=Nat.le_trans (par_len_at (fun i=>[(par (fun i=>[a3,a4,a5,a6].getD i []) 4),b6,b7,b8,b9].getD i []) (i:=2) (k:=5) (by decide)) (len_eq s4.out v3.out)
   have S3:=hid D7;clear D7;have S4:Hid (b8.length≤MX):=Nat.le_trans (par_len_at (fun i=>[(par (fun i=>[a3,a4,a5,a6].getD i []) 4),b6,b7,b8,b9].getD i []) (i:=3) (k:=5) (by decide)) (len_eq s4.out v3.out)
   have S5:=hid D8;clear D8;have S6:Hid (b9.length≤MX):=Nat.le_trans (par_len_at (fun i=>[(par (fun i=>[a3,a4,a5,a6].getD i []) 4),b6,b7,b8,b9].getD i []) (i:=4) (k:=5) (by decide)) (len_eq s4.out v3.out)
   have S7:=hid D9;clear D9;clear A3;have k1:a7.cell? ⟨a8,a9+a0*13,none⟩=some (.int .i64 e9):=by
    have h9:=(d3.out.cell (p:=⟨a8,a9+a0*Shape.sz (axuS n)+0,none⟩) e1).trans (d9 a0 hlt 0 (.int .i64 e9) (by rw[d6];rfl))
    rw[e0]at h9;simpa using h9
   have r8:a7.cell? ⟨a8,a9+a0*13+1,none⟩=some (.int .i64 f0):=by
    have h9:=(d3.out.cell (p:=⟨a8,a9+a0*Shape.sz (axuS n)+1,none⟩) e1).trans (d9 a0 hlt 1 (.int .i64 f0) (by rw[d6];rfl))
    rw[e0]at h9;simpa using h9
   have r9:a7.cell? ⟨a8,a9+a0*13+2,none⟩=some (.slice f1 f2 f3):=by
    have h9:=(d3.out.cell (p:=⟨a8,a9+a0*Shape.sz (axuS n)+2,none⟩) e1).trans (d9 a0 hlt 2 (.slice f1 f2 f3) (by rw[d6];rfl))
    rw[e0]at h9;simpa using h9
   have w6:a7.cell? ⟨a8,a9+a0*13+3,none⟩=some (.int .i64 f4):=by
    have h9:=(d3.out.cell (p:=⟨a8,a9+a0*Shape.sz (axuS n)+3,none⟩) e1).trans (d9 a0 hlt 3 (.int .i64 f4) (by rw[d6];rfl))
    rw[e0]at h9;simpa using h9
   have w7:a7.cell? ⟨a8,a9+a0*13+4,none⟩=some (.slice f5 f6 f7):=by
    have h9:=(d3.out.cell (p:=⟨a8,a9+a0*Shape.sz (axuS n)+4,none⟩) e1).trans (d9 a0 hlt 4 (.slice f5 f6 f7) (by rw[d6];rfl))
    rw[e0]at h9;simpa using h9
   have w8:a7.cell? ⟨a8,a9+a0*13+5,none⟩=some (.int .i64 f8):=by
    have h9:=(d3.out.cell (p:=⟨a8,a9+a0*Shape.sz (axuS n)+5,none⟩) e1).trans (d9 a0 hlt 5 (.int .i64 f8) (by rw[d6];rfl))
    rw[e0]at h9;simpa using h9
   have S8:a7.cell? ⟨a8,a9+a0*13+6,none⟩=some (.bool n8):=by
    have h9:=(d3.out.cell (p:=⟨a8,a9+a0*Shape.sz (axuS n)+6,none⟩) e1).trans (d9 a0 hlt 6 (.bool n8) (by rw[d6];rfl))
    rw[e0]at h9;simpa using h9
   have S9:a7.cell? ⟨a8,a9+a0*13+7,none⟩=some (.slice n9 o0 o2):=by
    have h9:=(d3.out.cell (p:=⟨a8,a9+a0*Shape.sz (axuS n)+7,none⟩) e1).trans (d9 a0 hlt 7 (.slice n9 o0 o2) (by rw[d6];rfl))
    rw[e0]at h9;simpa using h9
   have T0:a7.cell? ⟨a8,a9+a0*13+8,none⟩=some (.slice o3 o4 o5):=by
    have h9:=(d3.out.cell (p:=⟨a8,a9+a0*Shape.sz (axuS n)+8,none⟩) e1).trans (d9 a0 hlt 8 (.slice o3 o4 o5) (by rw[d6];rfl))
    rw[e0]at h9;simpa using h9
   have T1:a7.cell? ⟨a8,a9+a0*13+9,none⟩=some (.slice o6 o7 o8):=by
    have h9:=(d3.out.cell (p:=⟨a8,a9+a0*Shape.sz (axuS n)+9,none⟩) e1).trans (d9 a0 hlt 9 (.slice o6 o7 o8) (by rw[d6];rfl))
    rw[e0]at h9;simpa using h9
   have T2:a7.cell? ⟨a8,a9+a0*13+10,none⟩=some (.slice o9 p0 p1):=by
    have h9:=(d3.out.cell (p:=⟨a8,a9+a0*Shape.sz (axuS n)+10,none⟩) e1).trans (d9 a0 hlt 10 (.slice o9 p0 p1) (by rw[d6];rfl))
    rw[e0]at h9;simpa using h9
   have T3:a7.cell? ⟨a8,a9+a0*13+11,none⟩=some (.slice p2 p3 p4):=by
    have h9:=(d3.out.cell (p:=⟨a8,a9+a0*Shape.sz (axuS n)+11,none⟩) e1).trans (d9 a0 hlt 11 (.slice p2 p3 p4) (by rw[d6];rfl))
    rw[e0]at h9;simpa using h9
   have T4:a7.cell? ⟨a8,a9+a0*13+12,none⟩=some (.slice p5 p6 p7):=by
    have h9:=(d3.out.cell (p:=⟨a8,a9+a0*Shape.sz (axuS n)+12,none⟩) e1).trans (d9 a0 hlt 12 (.slice p5 p6 p7) (by rw[d6];rfl))
    rw[e0]at h9;simpa using h9
   clear d9 d6 e0;go_upto_region 25 with(fail)
   obtain⟨d0,A4⟩:∃W,W=a7.alloc (.cells #[.int .i64 e9,.int .i64 f0,.slice f1 f2 f3,.int .i64 f4,.slice f5 f6 f7,.int .i64 f8,.bool n8,.slice n9 o0 o2,.slice o3 o4 o5,.slice o6 o7 o8,.slice o9 p0 p1,.slice p2 p3 p4,.slice p5 p6 p7] 154):=⟨_,rfl⟩;have s5:Below a7.heap.size a7 d0:=by rw[A4];exact(Below.refl _ _).alloc (Nat.le_refl _) _
   have I9:=hid (d3.out.trans (s5.mono d3.out.size));have J0:=hid (A2.out.below s5 A2.out.lt);have T5:=hid (I5.out.below s5);have T6:=hid (I6.out.below s5);have T7:=hid (I7.out.below s5);have T8:=hid (x7.out.below s5);have E5:Hid (Bk d0 a7.heap.size 154 #[.int .i64 e9,.int .i64 f0,.slice f1 f2 f3,.int .i64 f4,.slice f5 f6 f7,.int .i64 f8,.bool n8,.slice n9 o0 o2,.slice o3 o4 o5,.slice o6 o7 o8,.slice o9 p0 p1,.slice p2 p3 p4,.slice p5 p6 p7]):=by rw[A4];exact Bk.new _ _ _
   rw[←A4];clear A4 s5;clear k1 r8 r9 w6 w7 w8 S8 S9 T0 T1 T2 T3 T4;obtain⟨ac7,_,_⟩:=E5.out.facts;go_upto_region 26 with(fail)
   obtain⟨J1,A5⟩:∃W,W=d0.alloc (.cells #[.int .i64 e9,.int .i64 f0,.slice f1 f2 f3,.int .i64 f4,.slice f5 f6 f7,.int .i64 f8] 152):=⟨_,rfl⟩;have p8:Below d0.heap.size d0 J1:=by rw[A5];exact(Below.refl _ _).alloc (Nat.le_refl _) _
   have f9:=hid (I9.out.trans (p8.mono I9.out.size));have J2:=hid (J0.out.below p8 J0.out.lt);have J3:=hid (E5.out.below p8 E5.out.lt);have T9:=hid (T5.out.below p8);have V0:=hid (T6.out.below p8);have V1:=hid (T7.out.below p8);have V2:=hid (T8.out.below p8);have j0:Hid (Bk J1 d0.heap.size 152 #[.int .i64 e9,.int .i64 f0,.slice f1 f2 f3,.int .i64 f4,.slice f5 f6 f7,.int .i64 f8]):=by rw[A5];exact Bk.new _ _ _
   rw[←A5];clear A5 p8;refine wp_region_facts (by kernel_rfl) (by kernel_rfl) [100,101,102,103,104,105,106,107,108,109,110,111,112,113] 40 (by kernel_rfl) (fun io v x=>match io with
    | 0=>v = .pointer (some ⟨d0.heap.size,0,none⟩)
    | 1=>v = .int .i64 e9
    | 2=>v = .string ⟨a3.toArray⟩
    | 3=>v = .pointer (some ⟨d0.heap.size,1,none⟩)
    | 4=>v = .agg #[.int .i64 f0,.slice f1 f2 f3]
    | 5=>v = .string ⟨a4.toArray⟩
    | 6=>v = .pointer (some ⟨d0.heap.size,3,none⟩)
    | 7=>v = .agg #[.int .i64 f4,.slice f5 f6 f7]
    | 8=>v = .string ⟨a5.toArray⟩
    | 9=>v = .pointer (some ⟨d0.heap.size,5,none⟩)
    | 10=>v = .int .i64 f8
    | 11=>v = .string ⟨a6.toArray⟩
    | 12=>Strs x v 4 (fun i=>[a3,a4,a5,a6].getD i [])
    | _=>v = .string ⟨(par (fun i=>[a3,a4,a5,a6].getD i []) 4).toArray⟩) ?_ ?_ ?_
   ·intro io v x x' hio h hb
    rcases io with _|_|_|_|_|_|_|_|_|_|_|_|_|io
    ·exact h
    ·exact h
    ·exact h
    ·exact h
    ·exact h
    ·exact h
    ·exact h
    ·exact h
    ·exact h
    ·exact h
    ·exact h
    ·exact h
    ·exact Strs.below h hb
    ·exact h
   ·intro io oo S x ho hio hbx hdep
    rcases io with _|_|_|_|_|_|_|_|_|_|_|_|_|_|io
    ·cases ho
     refine opOk_h rfl rfl fun KK HK=>?_
     clear hdep hio;simp only[nq1,nq2,nq3,nq4,nq5,nq6,nq7,Nat.zero_add,Nat.reduceAdd]at HK ⊢;go_wp2;exact HK.out _ _ ⟨_,rfl,rfl,Below.refl _ _⟩
    ·cases ho
     have h0:S 0 = .pointer (some ⟨d0.heap.size,0,none⟩):=hdep 0 (by kernel_rfl) (by decide)
     obtain⟨ac8,_,_⟩:=(j0.out.below hbx j0.out.lt).facts;refine opOk_h rfl rfl fun KK HK=>?_
     clear hdep hio;simp only[nq1,nq2,nq3,nq4,nq5,nq6,nq7,Nat.zero_add,Nat.reduceAdd]at HK ⊢;generalize S 0=t0 at *;subst h0;go_wp2;exact HK.out _ _ ⟨_,rfl,rfl,Below.refl _ _⟩
    ·cases ho
     have h1:S 1 = .int .i64 e9:=hdep 1 (by kernel_rfl) (by decide)
     refine opOk_h rfl rfl fun KK HK=>?_
     clear hdep hio;simp only[nq1,nq2,nq3,nq4,nq5,nq6,nq7,Nat.zero_add,Nat.reduceAdd]at HK ⊢;generalize S 1=t1 at *;subst h1;go_wp2_with fail
     have key:=t_dec x D [.int .i64 e9] a3 (R3.out.below (f9.out.trans (hbx.mono f9.out.size))) R2.out;rw[val_int]at key;refine(key).mono ?_;rintro e xN⟨rfl,hbN⟩;exact HK.out _ _ ⟨_,rfl,rfl,hbN⟩
    ·cases ho
     refine opOk_h rfl rfl fun KK HK=>?_
     clear hdep hio;simp only[nq1,nq2,nq3,nq4,nq5,nq6,nq7,Nat.zero_add,Nat.reduceAdd]at HK ⊢;go_wp2;exact HK.out _ _ ⟨_,rfl,rfl,Below.refl _ _⟩
    ·cases ho
     have h3:S 3 = .pointer (some ⟨d0.heap.size,1,none⟩):=hdep 3 (by kernel_rfl) (by decide)
     obtain⟨ac9,_,_⟩:=(j0.out.below hbx j0.out.lt).facts;refine opOk_h rfl rfl fun KK HK=>?_
     clear hdep hio;simp only[nq1,nq2,nq3,nq4,nq5,nq6,nq7,Nat.zero_add,Nat.reduceAdd]at HK ⊢;generalize S 3=t3 at *;subst h3;go_wp2;exact HK.out _ _ ⟨_,rfl,rfl,Below.refl _ _⟩
    ·cases ho
     have h4:S 4 = .agg #[.int .i64 f0,.slice f1 f2 f3]:=hdep 4 (by kernel_rfl) (by decide)
     refine opOk_h rfl rfl fun KK HK=>?_
     clear hdep hio;simp only[nq1,nq2,nq3,nq4,nq5,nq6,nq7,Nat.zero_add,Nat.reduceAdd]at HK ⊢;generalize S 4=t4 at *;subst h4;go_wp2_with fail
     have key:=t_lin x D [.int .i64 f0,.slice f1 f2 f3] a4 (R5.out.below (f9.out.trans (hbx.mono f9.out.size))) R4.out;rw[val_lin]at key;refine(key).mono ?_;rintro e xN⟨rfl,hbN⟩;exact HK.out _ _ ⟨_,rfl,rfl,hbN⟩
    ·cases ho
     refine opOk_h rfl rfl fun KK HK=>?_
     clear hdep hio;simp only[nq1,nq2,nq3,nq4,nq5,nq6,nq7,Nat.zero_add,Nat.reduceAdd]at HK ⊢;go_wp2;exact HK.out _ _ ⟨_,rfl,rfl,Below.refl _ _⟩
    ·cases ho
     have h6:S 6 = .pointer (some ⟨d0.heap.size,3,none⟩):=hdep 6 (by kernel_rfl) (by decide)
     obtain⟨ad0,_,_⟩:=(j0.out.below hbx j0.out.lt).facts;refine opOk_h rfl rfl fun KK HK=>?_
     clear hdep hio;simp only[nq1,nq2,nq3,nq4,nq5,nq6,nq7,Nat.zero_add,Nat.reduceAdd]at HK ⊢;generalize S 6=t6 at *;subst h6;go_wp2;exact HK.out _ _ ⟨_,rfl,rfl,Below.refl _ _⟩
    ·cases ho
     have h7:S 7 = .agg #[.int .i64 f4,.slice f5 f6 f7]:=hdep 7 (by kernel_rfl) (by decide)
     refine opOk_h rfl rfl fun KK HK=>?_
     clear hdep hio;simp only[nq1,nq2,nq3,nq4,nq5,nq6,nq7,Nat.zero_add,Nat.reduceAdd]at HK ⊢;generalize S 7=t7 at *;subst h7;go_wp2_with fail
     have key:=t_lin x D [.int .i64 f4,.slice f5 f6 f7] a5 (R7.out.below (f9.out.trans (hbx.mono f9.out.size))) R6.out;rw[val_lin]at key;refine(key).mono ?_;rintro e xN⟨rfl,hbN⟩;exact HK.out _ _ ⟨_,rfl,rfl,hbN⟩
    ·cases ho
     refine opOk_h rfl rfl fun KK HK=>?_
     clear hdep hio;simp only[nq1,nq2,nq3,nq4,nq5,nq6,nq7,Nat.zero_add,Nat.reduceAdd]at HK ⊢;go_wp2;exact HK.out _ _ ⟨_,rfl,rfl,Below.refl _ _⟩
    ·cases ho
     have h9:S 9 = .pointer (some ⟨d0.heap.size,5,none⟩):=hdep 9 (by kernel_rfl) (by decide)
     obtain⟨ad1,_,_⟩:=(j0.out.below hbx j0.out.lt).facts;refine opOk_h rfl rfl fun KK HK=>?_
     clear hdep hio;simp only[nq1,nq2,nq3,nq4,nq5,nq6,nq7,Nat.zero_add,Nat.reduceAdd]at HK ⊢;generalize S 9=t9 at *;subst h9;go_wp2;exact HK.out _ _ ⟨_,rfl,rfl,Below.refl _ _⟩
    ·cases ho
     have h10:S 10 = .int .i64 f8:=hdep 10 (by kernel_rfl) (by decide)
     refine opOk_h rfl rfl fun KK HK=>?_
     clear hdep hio;simp only[nq1,nq2,nq3,nq4,nq5,nq6,nq7,Nat.zero_add,Nat.reduceAdd]at HK ⊢;generalize S 10=t10 at *;subst h10;go_wp2_with fail
     have key:=t_dec x D [.int .i64 f8] a6 (R9.out.below (f9.out.trans (hbx.mono f9.out.size))) R8.out;rw[val_int]at key;refine(key).mono ?_;rintro e xN⟨rfl,hbN⟩;exact HK.out _ _ ⟨_,rfl,rfl,hbN⟩
    ·cases ho
     have h2:S 2 = .string ⟨a3.toArray⟩:=hdep 2 (by kernel_rfl) (by decide)
     have h5:S 5 = .string ⟨a4.toArray⟩:=hdep 5 (by kernel_rfl) (by decide)
     have h8:S 8 = .string ⟨a5.toArray⟩:=hdep 8 (by kernel_rfl) (by decide)
     have h11:S 11 = .string ⟨a6.toArray⟩:=hdep 11 (by kernel_rfl) (by decide)
     refine opOk_h rfl rfl fun KK HK=>?_
     clear hdep hio;simp only[nq1,nq2,nq3,nq4,nq5,nq6,nq7,Nat.zero_add,Nat.reduceAdd]at HK ⊢;generalize S 2=t2 at *;subst h2;generalize S 5=t5 at *;subst h5;generalize S 8=t8 at *;subst h8;generalize S 11=t11 at *;subst h11;go_wp2;exact HK.out _ _ ⟨_,rfl,Strs.new x _ [a3,a4,a5,a6] _ rfl _ rfl (by decide),(Below.refl _ _).alloc (Nat.le_refl _) _⟩
    ·cases ho
     have h12:Strs x (S 12) 4 (fun i=>[a3,a4,a5,a6].getD i []):=hdep 12 (by kernel_rfl) (by decide)
     refine opOk_h rfl rfl fun KK HK=>?_
     clear hdep hio;simp only[nq1,nq2,nq3,nq4,nq5,nq6,nq7,Nat.zero_add,Nat.reduceAdd]at HK ⊢;go_wp2_with fail
     refine(group_any _ _ 4 _ h12 (x8.out)).mono ?_;rintro e xN⟨rfl,hbN⟩;exact HK.out _ _ ⟨_,rfl,rfl,hbN⟩
    ·exact absurd hio (by simp)
   intro S x hbx hF;have g0:S 0 = .pointer (some ⟨d0.heap.size,0,none⟩):=hF 0 (by decide)
   have g1:S 1 = .int .i64 e9:=hF 1 (by decide)
   have g2:S 2 = .string ⟨a3.toArray⟩:=hF 2 (by decide)
   have g3:S 3 = .pointer (some ⟨d0.heap.size,1,none⟩):=hF 3 (by decide)
   have g4:S 4 = .agg #[.int .i64 f0,.slice f1 f2 f3]:=hF 4 (by decide)
   have g5:S 5 = .string ⟨a4.toArray⟩:=hF 5 (by decide)
   have g6:S 6 = .pointer (some ⟨d0.heap.size,3,none⟩):=hF 6 (by decide)
   have g7:S 7 = .agg #[.int .i64 f4,.slice f5 f6 f7]:=hF 7 (by decide)
   have g8:S 8 = .string ⟨a5.toArray⟩:=hF 8 (by decide)
   have g9:S 9 = .pointer (some ⟨d0.heap.size,5,none⟩):=hF 9 (by decide)
   have g10:S 10 = .int .i64 f8:=hF 10 (by decide)
   have g11:S 11 = .string ⟨a6.toArray⟩:=hF 11 (by decide)
   have g12:Strs x (S 12) 4 (fun i=>[a3,a4,a5,a6].getD i []):=hF 12 (by decide)
   have g13:S 13 = .string ⟨(par (fun i=>[a3,a4,a5,a6].getD i []) 4).toArray⟩:=hF 13 (by decide)
   clear hF;simp only[nm,Nat.reduceAdd,List.length_cons,List.length_nil,List.drop_succ_cons,List.drop_zero];generalize S 0=t0 at *;subst g0;generalize S 1=t1 at *;subst g1;generalize S 2=t2 at *;subst g2;generalize S 3=t3 at *;subst g3;generalize S 4=t4 at *;subst g4;generalize S 5=t5 at *;subst g5;generalize S 6=t6 at *;subst g6;generalize S 7=t7 at *;subst g7;generalize S 8=t8 at *;subst g8;generalize S 9=t9 at *;subst g9;generalize S 10=t10 at *;subst g10;generalize S 11=t11 at *;subst g11;generalize S 12=t12 at *;generalize S 13=t13 at *;subst g13;obtain⟨ad2,hxn⟩:∃y:World,y=x:=⟨_,rfl⟩;subst hxn;have j1:=hid (f9.out.trans (hbx.mono f9.out.size));have J4:=hid (J2.out.below hbx J2.out.lt);have j2:=hid (J3.out.below hbx J3.out.lt);have J5:=hid (j0.out.below hbx j0.out.lt);have V3:=hid (T9.out.below hbx);have V4:=hid (V0.out.below hbx);have V5:=hid (V1.out.below hbx);have V6:=hid (V2.out.below hbx);go_upto_region 27 with(fail)
   refine wp_region_facts (by kernel_rfl) (by kernel_rfl) [114,115,116,117,118,119,120,121,122,123,124,125,126,127,128,129,130] 40 (by kernel_rfl) (fun io v x=>match io with
    | 0=>v = .slice I3 a0 I4
    | 1=>v = .string ⟨(par (fun i=>[a3,a4,a5,a6].getD i []) 4).toArray⟩
    | 2=>v = .pointer (some ⟨a7.heap.size,6,none⟩)
    | 3=>v = .agg #[.bool n8,.slice n9 o0 o2,.slice o3 o4 o5]
    | 4=>v = .string ⟨b6.toArray⟩
    | 5=>v = .pointer (some ⟨a7.heap.size,9,none⟩)
    | 6=>v = .agg #[.slice o6 o7 o8,.slice o9 p0 p1]
    | 7=>v = .string ⟨b7.toArray⟩
    | 8=>v = .pointer (some ⟨a7.heap.size,11,none⟩)
    | 9=>v = .slice p2 p3 p4
    | 10=>v = .string ⟨b8.toArray⟩
    | 11=>v = .pointer (some ⟨a7.heap.size,12,none⟩)
    | 12=>v = .slice p5 p6 p7
    | 13=>v = .string ⟨b9.toArray⟩
    | 14=>Strs x v 5 (fun i=>[(par (fun i=>[a3,a4,a5,a6].getD i []) 4),b6,b7,b8,b9].getD i [])
    | 15=>v = .string ⟨(par (fun i=>[(par (fun i=>[a3,a4,a5,a6].getD i []) 4),b6,b7,b8,b9].getD i []) 5).toArray⟩
    | _=>Strs x v 1 (fun _=>(par (fun i=>[(par (fun i=>[a3,a4,a5,a6].getD i []) 4),b6,b7,b8,b9].getD i []) 5))) ?_ ?_ ?_
   ·intro io v x x' hio h hb
    rcases io with _|_|_|_|_|_|_|_|_|_|_|_|_|_|_|_|io
    ·exact h
    ·exact h
    ·exact h
    ·exact h
    ·exact h
    ·exact h
    ·exact h
    ·exact h
    ·exact h
    ·exact h
    ·exact h
    ·exact h
    ·exact h
    ·exact h
    ·exact Strs.below h hb
    ·exact h
    ·exact Strs.below h hb
   ·intro io oo S x ho hio hbx hdep
    rcases io with _|_|_|_|_|_|_|_|_|_|_|_|_|_|_|_|_|io
    ·cases ho
     refine opOk_h rfl rfl fun KK HK=>?_
     clear hdep hio;simp only[nq1,nq2,nq3,nq4,nq5,nq6,nq7,Nat.zero_add,Nat.reduceAdd]at HK ⊢;go_wp2;exact HK.out _ _ ⟨_,rfl,rfl,Below.refl _ _⟩
    ·cases ho
     refine opOk_h rfl rfl fun KK HK=>?_
     clear hdep hio;simp only[nq1,nq2,nq3,nq4,nq5,nq6,nq7,Nat.zero_add,Nat.reduceAdd]at HK ⊢;go_wp2;exact HK.out _ _ ⟨_,rfl,rfl,Below.refl _ _⟩
    ·cases ho
     refine opOk_h rfl rfl fun KK HK=>?_
     clear hdep hio;simp only[nq1,nq2,nq3,nq4,nq5,nq6,nq7,Nat.zero_add,Nat.reduceAdd]at HK ⊢;go_wp2;exact HK.out _ _ ⟨_,rfl,rfl,Below.refl _ _⟩
    ·cases ho
     have h2:S 2 = .pointer (some ⟨a7.heap.size,6,none⟩):=hdep 2 (by kernel_rfl) (by decide)
     obtain⟨ad3,_,_⟩:=(j2.out.below hbx j2.out.lt).facts;refine opOk_h rfl rfl fun KK HK=>?_
     clear hdep hio;simp only[nq1,nq2,nq3,nq4,nq5,nq6,nq7,Nat.zero_add,Nat.reduceAdd]at HK ⊢;generalize S 2=t2 at *;subst h2;go_wp2;exact HK.out _ _ ⟨_,rfl,rfl,Below.refl _ _⟩
    ·cases ho
     have h3:S 3 = .agg #[.bool n8,.slice n9 o0 o2,.slice o3 o4 o5]:=hdep 3 (by kernel_rfl) (by decide)
     refine opOk_h rfl rfl fun KK HK=>?_
     clear hdep hio;simp only[nq1,nq2,nq3,nq4,nq5,nq6,nq7,Nat.zero_add,Nat.reduceAdd]at HK ⊢;generalize S 3=t3 at *;subst h3;go_wp2_with fail
     have key:=t_fmt x D [.bool n8,.slice n9 o0 o2,.slice o3 o4 o5] b6 (S1.out.below (j1.out.trans (hbx.mono j1.out.size))) S0.out;rw[val_rat]at key;refine(key).mono ?_;rintro e xN⟨rfl,hbN⟩;exact HK.out _ _ ⟨_,rfl,rfl,hbN⟩
    ·cases ho
     refine opOk_h rfl rfl fun KK HK=>?_
     clear hdep hio;simp only[nq1,nq2,nq3,nq4,nq5,nq6,nq7,Nat.zero_add,Nat.reduceAdd]at HK ⊢;go_wp2;exact HK.out _ _ ⟨_,rfl,rfl,Below.refl _ _⟩
    ·cases ho
     have h5:S 5 = .pointer (some ⟨a7.heap.size,9,none⟩):=hdep 5 (by kernel_rfl) (by decide)
     obtain⟨ad4,_,_⟩:=(j2.out.below hbx j2.out.lt).facts;refine opOk_h rfl rfl fun KK HK=>?_
     clear hdep hio;simp only[nq1,nq2,nq3,nq4,nq5,nq6,nq7,Nat.zero_add,Nat.reduceAdd]at HK ⊢;generalize S 5=t5 at *;subst h5;go_wp2;exact HK.out _ _ ⟨_,rfl,rfl,Below.refl _ _⟩
    ·cases ho
     have h6:S 6 = .agg #[.slice o6 o7 o8,.slice o9 p0 p1]:=hdep 6 (by kernel_rfl) (by decide)
     refine opOk_h rfl rfl fun KK HK=>?_
     clear hdep hio;simp only[nq1,nq2,nq3,nq4,nq5,nq6,nq7,Nat.zero_add,Nat.reduceAdd]at HK ⊢;generalize S 6=t6 at *;subst h6;go_wp2_with fail
     have key:=(t_mono n) x D [.slice o6 o7 o8,.slice o9 p0 p1] b7 (S3.out.below (j1.out.trans (hbx.mono j1.out.size))) S2.out;rw[val_mono]at key;refine(key).mono ?_;rintro e xN⟨rfl,hbN⟩;exact HK.out _ _ ⟨_,rfl,rfl,hbN⟩
    ·cases ho
     refine opOk_h rfl rfl fun KK HK=>?_
     clear hdep hio;simp only[nq1,nq2,nq3,nq4,nq5,nq6,nq7,Nat.zero_add,Nat.reduceAdd]at HK ⊢;go_wp2;exact HK.out _ _ ⟨_,rfl,rfl,Below.refl _ _⟩
    ·cases ho
     have h8:S 8 = .pointer (some ⟨a7.heap.size,11,none⟩):=hdep 8 (by kernel_rfl) (by decide)
     obtain⟨ad5,_,_⟩:=(j2.out.below hbx j2.out.lt).facts;refine opOk_h rfl rfl fun KK HK=>?_
     clear hdep hio;simp only[nq1,nq2,nq3,nq4,nq5,nq6,nq7,Nat.zero_add,Nat.reduceAdd]at HK ⊢;generalize S 8=t8 at *;subst h8;go_wp2;exact HK.out _ _ ⟨_,rfl,rfl,Below.refl _ _⟩
    ·cases ho
     have h9:S 9 = .slice p2 p3 p4:=hdep 9 (by kernel_rfl) (by decide)
     refine opOk_h rfl rfl fun KK HK=>?_
     clear hdep hio;simp only[nq1,nq2,nq3,nq4,nq5,nq6,nq7,Nat.zero_add,Nat.reduceAdd]at HK ⊢;generalize S 9=t9 at *;subst h9;go_wp2_with fail
     have key:=t_rats x D [.slice p2 p3 p4] b8 (S5.out.below (j1.out.trans (hbx.mono j1.out.size))) S4.out;rw[val_list]at key;refine(key).mono ?_;rintro e xN⟨rfl,hbN⟩;exact HK.out _ _ ⟨_,rfl,rfl,hbN⟩
    ·cases ho
     refine opOk_h rfl rfl fun KK HK=>?_
     clear hdep hio;simp only[nq1,nq2,nq3,nq4,nq5,nq6,nq7,Nat.zero_add,Nat.reduceAdd]at HK ⊢;go_wp2;exact HK.out _ _ ⟨_,rfl,rfl,Below.refl _ _⟩
    ·cases ho
     have h11:S 11 = .pointer (some ⟨a7.heap.size,12,none⟩):=hdep 11 (by kernel_rfl) (by decide)
     obtain⟨ad6,_,_⟩:=(j2.out.below hbx j2.out.lt).facts;refine opOk_h rfl rfl fun KK HK=>?_
     clear hdep hio;simp only[nq1,nq2,nq3,nq4,nq5,nq6,nq7,Nat.zero_add,Nat.reduceAdd]at HK ⊢;generalize S 11=t11 at *;subst h11;go_wp2;exact HK.out _ _ ⟨_,rfl,rfl,Below.refl _ _⟩
    ·cases ho
     have h12:S 12 = .slice p5 p6 p7:=hdep 12 (by kernel_rfl) (by decide)
     refine opOk_h rfl rfl fun KK HK=>?_
     clear hdep hio;simp only[nq1,nq2,nq3,nq4,nq5,nq6,nq7,Nat.zero_add,Nat.reduceAdd]at HK ⊢;generalize S 12=t12 at *;subst h12;go_wp2_with fail
     have key:=t_rats x D [.slice p5 p6 p7] b9 (S7.out.below (j1.out.trans (hbx.mono j1.out.size))) S6.out;rw[val_list]at key;refine(key).mono ?_;rintro e xN⟨rfl,hbN⟩;exact HK.out _ _ ⟨_,rfl,rfl,hbN⟩
    ·cases ho
     have h1:S 1 = .string ⟨(par (fun i=>[a3,a4,a5,a6].getD i []) 4).toArray⟩:=hdep 1 (by kernel_rfl) (by decide)
     have h4:S 4 = .string ⟨b6.toArray⟩:=hdep 4 (by kernel_rfl) (by decide)
     have h7:S 7 = .string ⟨b7.toArray⟩:=hdep 7 (by kernel_rfl) (by decide)
     have h10:S 10 = .string ⟨b8.toArray⟩:=hdep 10 (by kernel_rfl) (by decide)
     have h13:S 13 = .string ⟨b9.toArray⟩:=hdep 13 (by kernel_rfl) (by decide)
     refine opOk_h rfl rfl fun KK HK=>?_
     clear hdep hio;simp only[nq1,nq2,nq3,nq4,nq5,nq6,nq7,Nat.zero_add,Nat.reduceAdd]at HK ⊢;generalize S 1=t1 at *;subst h1;generalize S 4=t4 at *;subst h4;generalize S 7=t7 at *;subst h7;generalize S 10=t10 at *;subst h10;generalize S 13=t13 at *;subst h13;go_wp2;exact HK.out _ _ ⟨_,rfl,Strs.new x _ [(par (fun i=>[a3,a4,a5,a6].getD i []) 4),b6,b7,b8,b9] _ rfl _ rfl (by decide),(Below.refl _ _).alloc (Nat.le_refl _) _⟩
    ·cases ho
     have h14:Strs x (S 14) 5 (fun i=>[(par (fun i=>[a3,a4,a5,a6].getD i []) 4),b6,b7,b8,b9].getD i []):=hdep 14 (by kernel_rfl) (by decide)
     refine opOk_h rfl rfl fun KK HK=>?_
     clear hdep hio;simp only[nq1,nq2,nq3,nq4,nq5,nq6,nq7,Nat.zero_add,Nat.reduceAdd]at HK ⊢;go_wp2_with fail
     refine(group_any _ _ 5 _ h14 (len_eq s4.out v3.out)).mono ?_;rintro e xN⟨rfl,hbN⟩;exact HK.out _ _ ⟨_,rfl,rfl,hbN⟩
    ·cases ho
     have h15:S 15 = .string ⟨(par (fun i=>[(par (fun i=>[a3,a4,a5,a6].getD i []) 4),b6,b7,b8,b9].getD i []) 5).toArray⟩:=hdep 15 (by kernel_rfl) (by decide)
     refine opOk_h rfl rfl fun KK HK=>?_
     clear hdep hio;simp only[nq1,nq2,nq3,nq4,nq5,nq6,nq7,Nat.zero_add,Nat.reduceAdd]at HK ⊢;generalize S 15=t15 at *;subst h15;go_wp2;exact HK.out _ _ ⟨_,rfl,Strs.new1 x _ _,(Below.refl _ _).alloc (Nat.le_refl _) _⟩
    ·exact absurd hio (by simp)
   intro S x hbx hF;have g0:S 0 = .slice I3 a0 I4:=hF 0 (by decide)
   have g1:S 1 = .string ⟨(par (fun i=>[a3,a4,a5,a6].getD i []) 4).toArray⟩:=hF 1 (by decide)
   have g2:S 2 = .pointer (some ⟨a7.heap.size,6,none⟩):=hF 2 (by decide)
   have g3:S 3 = .agg #[.bool n8,.slice n9 o0 o2,.slice o3 o4 o5]:=hF 3 (by decide)
   have g4:S 4 = .string ⟨b6.toArray⟩:=hF 4 (by decide)
   have g5:S 5 = .pointer (some ⟨a7.heap.size,9,none⟩):=hF 5 (by decide)
   have g6:S 6 = .agg #[.slice o6 o7 o8,.slice o9 p0 p1]:=hF 6 (by decide)
   have g7:S 7 = .string ⟨b7.toArray⟩:=hF 7 (by decide)
   have g8:S 8 = .pointer (some ⟨a7.heap.size,11,none⟩):=hF 8 (by decide)
   have g9:S 9 = .slice p2 p3 p4:=hF 9 (by decide)
   have g10:S 10 = .string ⟨b8.toArray⟩:=hF 10 (by decide)
   have g11:S 11 = .pointer (some ⟨a7.heap.size,12,none⟩):=hF 11 (by decide)
   have g12:S 12 = .slice p5 p6 p7:=hF 12 (by decide)
   have g13:S 13 = .string ⟨b9.toArray⟩:=hF 13 (by decide)
   have g14:Strs x (S 14) 5 (fun i=>[(par (fun i=>[a3,a4,a5,a6].getD i []) 4),b6,b7,b8,b9].getD i []):=hF 14 (by decide)
   have g15:S 15 = .string ⟨(par (fun i=>[(par (fun i=>[a3,a4,a5,a6].getD i []) 4),b6,b7,b8,b9].getD i []) 5).toArray⟩:=hF 15 (by decide)
   have g16:Strs x (S 16) 1 (fun _=>(par (fun i=>[(par (fun i=>[a3,a4,a5,a6].getD i []) 4),b6,b7,b8,b9].getD i []) 5)):=hF 16 (by decide)
   clear hF;simp only[nm,Nat.reduceAdd,List.length_cons,List.length_nil,List.drop_succ_cons,List.drop_zero];generalize S 0=t0 at *;subst g0;generalize S 1=t1 at *;subst g1;generalize S 2=t2 at *;subst g2;generalize S 3=t3 at *;subst g3;generalize S 4=t4 at *;subst g4;generalize S 5=t5 at *;subst g5;generalize S 6=t6 at *;subst g6;generalize S 7=t7 at *;subst g7;generalize S 8=t8 at *;subst g8;generalize S 9=t9 at *;subst g9;generalize S 10=t10 at *;subst g10;generalize S 11=t11 at *;subst g11;generalize S 12=t12 at *;subst g12;generalize S 13=t13 at *;subst g13;generalize S 14=t14 at *;generalize S 15=t15 at *;subst g15;generalize S 16=t16 at *;obtain⟨V7,hxn⟩:∃y:World,y=x:=⟨_,rfl⟩;subst hxn;have ad7:=hid (j1.out.trans (hbx.mono j1.out.size));have ad8:=hid (J4.out.below hbx J4.out.lt);have ad9:=hid (j2.out.below hbx j2.out.lt);have ae0:=hid (J5.out.below hbx J5.out.lt);have ae1:=hid (V3.out.below hbx);have ae2:=hid (V4.out.below hbx);have ae3:=hid (V5.out.below hbx);have V8:=hid (V6.out.below hbx);obtain⟨b1,o1,c1,rfl,hce⟩:=Strs.one g16;go_wp2_with (at_builtin;refine wpList_pushT V7 rfl _ _ rfl x5 e6 a0 _ rfl V8.out b1 o1 c1 rfl (par (fun i=>[(par (fun i=>[a3,a4,a5,a6].getD i []) 4),b6,b7,b8,b9].getD i []) 5) hce (s4.out.symm) (by omega) ?_)
   intro g2 z4 w4 d8;have j6:=hid d8;clear d8;go_wp2;go_roundw
   case rel=>exact⟨a0+1,by omega,by go_num,j6⟩
   case measure=>simp[intOf];omega
  obtain rfl:a0=n7:=by omega
  go_wp2_with fail
  refine(group_any _ _ a0 e6 (x7.out.strs) A1.out).mono ?_;rintro e v4⟨rfl,J6⟩;have s6:=J6;have ae4:=hid (d3.out.trans (s6.mono d3.out.size));have ae5:=hid (A2.out.below s6 A2.out.lt);have ae6:=hid (I5.out.below s6);have ae7:=hid (I6.out.below s6);have V9:=hid (I7.out.below s6);have ae8:=hid (x7.out.below s6);clear s6 J6;have W0:(v4.alloc (.cells #[.string ⟨(par e6 a0).toArray⟩] 9)).cell? ⟨v4.heap.size,0,none⟩=some (.string ⟨(par e6 a0).toArray⟩):=by rw[World.cell?_alloc_at _ _ _ _ rfl];rfl
  have W1:=hid (V9.out.below ((Below.refl v4.heap.size v4).alloc (Nat.le_refl _) (.cells #[.string ⟨(par e6 a0).toArray⟩] 9)));go_wp2_with (at_builtin;refine wpList_pushT (v4.alloc (.cells #[.string ⟨(par e6 a0).toArray⟩] 9)) rfl _ _ rfl b2 d2 b0 _ rfl W1.out v4.heap.size 0 1 rfl (par e6 a0) W0 (Q5.out.symm) (by omega) ?_)
  intro g2 z4 w4 d8;have j6:=hid d8;clear d8;go_wp2;go_roundw
  case rel=>exact⟨b0+1,by omega,by go_num,j6⟩
  case measure=>simp[intOf];omega
 obtain rfl:b0=j5:=by omega
 go_upto_region 31 with(fail)
 refine wp_region_facts (by kernel_rfl) (by kernel_rfl) [139,140,141,142,143,144,145,146,147,148,149,150,151,152,153,154,155,156,157,158,159,160,161,162,163,164,165,166,167,168,169,170] 40 (by kernel_rfl) (fun io v x=>match io with
  | 0=>v = .pointer (some ⟨w.heap.size,0,none⟩)
  | 1=>v = .int .i64 p9
  | 2=>v = .string ⟨t1.toArray⟩
  | 3=>v = .pointer (some ⟨w.heap.size,1,none⟩)
  | 4=>v = .int .i64 q0
  | 5=>v = .string ⟨t2.toArray⟩
  | 6=>v = .pointer (some ⟨w.heap.size,2,none⟩)
  | 7=>v = .bool q1
  | 8=>v = .string ⟨t3.toArray⟩
  | 9=>v = .pointer (some ⟨w.heap.size,3,none⟩)
  | 10=>v = .slice q2 q3 q4
  | 11=>v = .string ⟨t4.toArray⟩
  | 12=>v = .pointer (some ⟨w.heap.size,4,none⟩)
  | 13=>v = .slice q5 q6 q7
  | 14=>v = .string ⟨t5.toArray⟩
  | 15=>v = .slice v5 k86 v6
  | 16=>v = .string ⟨(par d4 k86).toArray⟩
  | 17=>v = .slice w9 a2 x0
  | 18=>v = .string ⟨(par d5 a2).toArray⟩
  | 19=>v = .pointer (some ⟨w.heap.size,7,none⟩)
  | 20=>v = .slice q8 q9 r0
  | 21=>v = .string ⟨t8.toArray⟩
  | 22=>v = .pointer (some ⟨w.heap.size,8,none⟩)
  | 23=>v = .slice r1 r2 r3
  | 24=>v = .string ⟨t9.toArray⟩
  | 25=>v = .pointer (some ⟨w.heap.size,9,none⟩)
  | 26=>v = .slice r4 r5 r6
  | 27=>v = .string ⟨t10.toArray⟩
  | 28=>v = .slice D0 b0 D1
  | 29=>v = .string ⟨(par d2 b0).toArray⟩
  | 30=>Strs x v 11 (fun i=>[t1,t2,t3,t4,t5,(par d4 k86),(par d5 a2),t8,t9,t10,(par d2 b0)].getD i [])
  | _=>v = .string ⟨(par (fun i=>[t1,t2,t3,t4,t5,(par d4 k86),(par d5 a2),t8,t9,t10,(par d2 b0)].getD i []) 11).toArray⟩) ?_ ?_ ?_
 ·intro io v x x' hio h hb
  rcases io with _|_|_|_|_|_|_|_|_|_|_|_|_|_|_|_|_|_|_|_|_|_|_|_|_|_|_|_|_|_|_|io
  ·exact h
  ·exact h
  ·exact h
  ·exact h
  ·exact h
  ·exact h
  ·exact h
  ·exact h
  ·exact h
  ·exact h
  ·exact h
  ·exact h
  ·exact h
  ·exact h
  ·exact h
  ·exact h
  ·exact h
  ·exact h
  ·exact h
  ·exact h
  ·exact h
  ·exact h
  ·exact h
  ·exact h
  ·exact h
  ·exact h
  ·exact h
  ·exact h
  ·exact h
  ·exact h
  ·exact Strs.below h hb
  ·exact h
 ·intro io oo S x ho hio hbx hdep
  rcases io with _|_|_|_|_|_|_|_|_|_|_|_|_|_|_|_|_|_|_|_|_|_|_|_|_|_|_|_|_|_|_|_|io
  ·cases ho
   refine opOk_h rfl rfl fun KK HK=>?_
   clear hdep hio;simp only[nq1,nq2,nq3,nq4,nq5,nq6,nq7,Nat.zero_add,Nat.reduceAdd]at HK ⊢;go_wp2;exact HK.out _ _ ⟨_,rfl,rfl,Below.refl _ _⟩
  ·cases ho
   have h0:S 0 = .pointer (some ⟨w.heap.size,0,none⟩):=hdep 0 (by kernel_rfl) (by decide)
   obtain⟨ae9,_,_⟩:=(b5.out.below hbx b5.out.lt).facts;refine opOk_h rfl rfl fun KK HK=>?_
   clear hdep hio;simp only[nq1,nq2,nq3,nq4,nq5,nq6,nq7,Nat.zero_add,Nat.reduceAdd]at HK ⊢;generalize S 0=t0 at *;subst h0;go_wp2;exact HK.out _ _ ⟨_,rfl,rfl,Below.refl _ _⟩
  ·cases ho
   have h1:S 1 = .int .i64 p9:=hdep 1 (by kernel_rfl) (by decide)
   refine opOk_h rfl rfl fun KK HK=>?_
   clear hdep hio;simp only[nq1,nq2,nq3,nq4,nq5,nq6,nq7,Nat.zero_add,Nat.reduceAdd]at HK ⊢;generalize S 1=t1 at *;subst h1;go_wp2_with fail
   have key:=t_dec x D [.int .i64 p9] t1 (J8.out.below (b3.out.trans (hbx.mono b3.out.size))) J7.out;rw[val_int]at key;refine(key).mono ?_;rintro e xN⟨rfl,hbN⟩;exact HK.out _ _ ⟨_,rfl,rfl,hbN⟩
  ·cases ho
   refine opOk_h rfl rfl fun KK HK=>?_
   clear hdep hio;simp only[nq1,nq2,nq3,nq4,nq5,nq6,nq7,Nat.zero_add,Nat.reduceAdd]at HK ⊢;go_wp2;exact HK.out _ _ ⟨_,rfl,rfl,Below.refl _ _⟩
  ·cases ho
   have h3:S 3 = .pointer (some ⟨w.heap.size,1,none⟩):=hdep 3 (by kernel_rfl) (by decide)
   obtain⟨af0,_,_⟩:=(b5.out.below hbx b5.out.lt).facts;refine opOk_h rfl rfl fun KK HK=>?_
   clear hdep hio;simp only[nq1,nq2,nq3,nq4,nq5,nq6,nq7,Nat.zero_add,Nat.reduceAdd]at HK ⊢;generalize S 3=t3 at *;subst h3;go_wp2;exact HK.out _ _ ⟨_,rfl,rfl,Below.refl _ _⟩
  ·cases ho
   have h4:S 4 = .int .i64 q0:=hdep 4 (by kernel_rfl) (by decide)
   refine opOk_h rfl rfl fun KK HK=>?_
   clear hdep hio;simp only[nq1,nq2,nq3,nq4,nq5,nq6,nq7,Nat.zero_add,Nat.reduceAdd]at HK ⊢;generalize S 4=t4 at *;subst h4;go_wp2_with fail
   have key:=t_dec x D [.int .i64 q0] t2 (K0.out.below (b3.out.trans (hbx.mono b3.out.size))) J9.out;rw[val_int]at key;refine(key).mono ?_;rintro e xN⟨rfl,hbN⟩;exact HK.out _ _ ⟨_,rfl,rfl,hbN⟩
  ·cases ho
   refine opOk_h rfl rfl fun KK HK=>?_
   clear hdep hio;simp only[nq1,nq2,nq3,nq4,nq5,nq6,nq7,Nat.zero_add,Nat.reduceAdd]at HK ⊢;go_wp2;exact HK.out _ _ ⟨_,rfl,rfl,Below.refl _ _⟩
  ·cases ho
   have h6:S 6 = .pointer (some ⟨w.heap.size,2,none⟩):=hdep 6 (by kernel_rfl) (by decide)
   obtain⟨af1,_,_⟩:=(b5.out.below hbx b5.out.lt).facts;refine opOk_h rfl rfl fun KK HK=>?_
   clear hdep hio;simp only[nq1,nq2,nq3,nq4,nq5,nq6,nq7,Nat.zero_add,Nat.reduceAdd]at HK ⊢;generalize S 6=t6 at *;subst h6;go_wp2;exact HK.out _ _ ⟨_,rfl,rfl,Below.refl _ _⟩
  ·cases ho
   have h7:S 7 = .bool q1:=hdep 7 (by kernel_rfl) (by decide)
   refine opOk_h rfl rfl fun KK HK=>?_
   clear hdep hio;simp only[nq1,nq2,nq3,nq4,nq5,nq6,nq7,Nat.zero_add,Nat.reduceAdd]at HK ⊢;generalize S 7=t7 at *;subst h7;go_wp2_with fail
   have key:=t_flag x D [.bool q1] t3 (K2.out.below (b3.out.trans (hbx.mono b3.out.size))) K1.out;rw[val_bool]at key;refine(key).mono ?_;rintro e xN⟨rfl,hbN⟩;exact HK.out _ _ ⟨_,rfl,rfl,hbN⟩
  ·cases ho
   refine opOk_h rfl rfl fun KK HK=>?_
   clear hdep hio;simp only[nq1,nq2,nq3,nq4,nq5,nq6,nq7,Nat.zero_add,Nat.reduceAdd]at HK ⊢;go_wp2;exact HK.out _ _ ⟨_,rfl,rfl,Below.refl _ _⟩
  ·cases ho
   have h9:S 9 = .pointer (some ⟨w.heap.size,3,none⟩):=hdep 9 (by kernel_rfl) (by decide)
   obtain⟨af2,_,_⟩:=(b5.out.below hbx b5.out.lt).facts;refine opOk_h rfl rfl fun KK HK=>?_
   clear hdep hio;simp only[nq1,nq2,nq3,nq4,nq5,nq6,nq7,Nat.zero_add,Nat.reduceAdd]at HK ⊢;generalize S 9=t9 at *;subst h9;go_wp2;exact HK.out _ _ ⟨_,rfl,rfl,Below.refl _ _⟩
  ·cases ho
   have h10:S 10 = .slice q2 q3 q4:=hdep 10 (by kernel_rfl) (by decide)
   refine opOk_h rfl rfl fun KK HK=>?_
   clear hdep hio;simp only[nq1,nq2,nq3,nq4,nq5,nq6,nq7,Nat.zero_add,Nat.reduceAdd]at HK ⊢;generalize S 10=t10 at *;subst h10;go_wp2_with fail
   have key:=(t_poly n) x D [.slice q2 q3 q4] t4 (K4.out.below (b3.out.trans (hbx.mono b3.out.size))) K3.out;rw[val_list]at key;refine(key).mono ?_;rintro e xN⟨rfl,hbN⟩;exact HK.out _ _ ⟨_,rfl,rfl,hbN⟩
  ·cases ho
   refine opOk_h rfl rfl fun KK HK=>?_
   clear hdep hio;simp only[nq1,nq2,nq3,nq4,nq5,nq6,nq7,Nat.zero_add,Nat.reduceAdd]at HK ⊢;go_wp2;exact HK.out _ _ ⟨_,rfl,rfl,Below.refl _ _⟩
  ·cases ho
   have h12:S 12 = .pointer (some ⟨w.heap.size,4,none⟩):=hdep 12 (by kernel_rfl) (by decide)
   obtain⟨af3,_,_⟩:=(b5.out.below hbx b5.out.lt).facts;refine opOk_h rfl rfl fun KK HK=>?_
   clear hdep hio;simp only[nq1,nq2,nq3,nq4,nq5,nq6,nq7,Nat.zero_add,Nat.reduceAdd]at HK ⊢;generalize S 12=t12 at *;subst h12;go_wp2;exact HK.out _ _ ⟨_,rfl,rfl,Below.refl _ _⟩
  ·cases ho
   have h13:S 13 = .slice q5 q6 q7:=hdep 13 (by kernel_rfl) (by decide)
   refine opOk_h rfl rfl fun KK HK=>?_
   clear hdep hio;simp only[nq1,nq2,nq3,nq4,nq5,nq6,nq7,Nat.zero_add,Nat.reduceAdd]at HK ⊢;generalize S 13=t13 at *;subst h13;go_wp2_with fail
   have key:=(t_poly n) x D [.slice q5 q6 q7] t5 (K6.out.below (b3.out.trans (hbx.mono b3.out.size))) K5.out;rw[val_list]at key;refine(key).mono ?_;rintro e xN⟨rfl,hbN⟩;exact HK.out _ _ ⟨_,rfl,rfl,hbN⟩
  ·cases ho
   refine opOk_h rfl rfl fun KK HK=>?_
   clear hdep hio;simp only[nq1,nq2,nq3,nq4,nq5,nq6,nq7,Nat.zero_add,Nat.reduceAdd]at HK ⊢;go_wp2;exact HK.out _ _ ⟨_,rfl,rfl,Below.refl _ _⟩
  ·cases ho
   have h15:S 15 = .slice v5 k86 v6:=hdep 15 (by kernel_rfl) (by decide)
   refine opOk_h rfl rfl fun KK HK=>?_
   clear hdep hio;simp only[nq1,nq2,nq3,nq4,nq5,nq6,nq7,Nat.zero_add,Nat.reduceAdd]at HK ⊢;generalize S 15=t15 at *;subst h15;go_wp2_with fail
   refine(group_any _ _ k86 d4 ((D2.out.strs).below hbx) B3.out).mono ?_;rintro e xN⟨rfl,hbN⟩;exact HK.out _ _ ⟨_,rfl,rfl,hbN⟩
  ·cases ho
   refine opOk_h rfl rfl fun KK HK=>?_
   clear hdep hio;simp only[nq1,nq2,nq3,nq4,nq5,nq6,nq7,Nat.zero_add,Nat.reduceAdd]at HK ⊢;go_wp2;exact HK.out _ _ ⟨_,rfl,rfl,Below.refl _ _⟩
  ·cases ho
   have h17:S 17 = .slice w9 a2 x0:=hdep 17 (by kernel_rfl) (by decide)
   refine opOk_h rfl rfl fun KK HK=>?_
   clear hdep hio;simp only[nq1,nq2,nq3,nq4,nq5,nq6,nq7,Nat.zero_add,Nat.reduceAdd]at HK ⊢;generalize S 17=t17 at *;subst h17;go_wp2_with fail
   refine(group_any _ _ a2 d5 ((D3.out.strs).below hbx) B4.out).mono ?_;rintro e xN⟨rfl,hbN⟩;exact HK.out _ _ ⟨_,rfl,rfl,hbN⟩
  ·cases ho
   refine opOk_h rfl rfl fun KK HK=>?_
   clear hdep hio;simp only[nq1,nq2,nq3,nq4,nq5,nq6,nq7,Nat.zero_add,Nat.reduceAdd]at HK ⊢;go_wp2;exact HK.out _ _ ⟨_,rfl,rfl,Below.refl _ _⟩
  ·cases ho
   have h19:S 19 = .pointer (some ⟨w.heap.size,7,none⟩):=hdep 19 (by kernel_rfl) (by decide)
   obtain⟨af4,_,_⟩:=(b5.out.below hbx b5.out.lt).facts;refine opOk_h rfl rfl fun KK HK=>?_
   clear hdep hio;simp only[nq1,nq2,nq3,nq4,nq5,nq6,nq7,Nat.zero_add,Nat.reduceAdd]at HK ⊢;generalize S 19=t19 at *;subst h19;go_wp2;exact HK.out _ _ ⟨_,rfl,rfl,Below.refl _ _⟩
  ·cases ho
   have h20:S 20 = .slice q8 q9 r0:=hdep 20 (by kernel_rfl) (by decide)
   refine opOk_h rfl rfl fun KK HK=>?_
   clear hdep hio;simp only[nq1,nq2,nq3,nq4,nq5,nq6,nq7,Nat.zero_add,Nat.reduceAdd]at HK ⊢;generalize S 20=t20 at *;subst h20;go_wp2_with fail
   have key:=(t_poly n) x D [.slice q8 q9 r0] t8 (L0.out.below (b3.out.trans (hbx.mono b3.out.size))) K9.out;rw[val_list]at key;refine(key).mono ?_;rintro e xN⟨rfl,hbN⟩;exact HK.out _ _ ⟨_,rfl,rfl,hbN⟩
  ·cases ho
   refine opOk_h rfl rfl fun KK HK=>?_
   clear hdep hio;simp only[nq1,nq2,nq3,nq4,nq5,nq6,nq7,Nat.zero_add,Nat.reduceAdd]at HK ⊢;go_wp2;exact HK.out _ _ ⟨_,rfl,rfl,Below.refl _ _⟩
  ·cases ho
   have h22:S 22 = .pointer (some ⟨w.heap.size,8,none⟩):=hdep 22 (by kernel_rfl) (by decide)
   obtain⟨af5,_,_⟩:=(b5.out.below hbx b5.out.lt).facts;refine opOk_h rfl rfl fun KK HK=>?_
   clear hdep hio;simp only[nq1,nq2,nq3,nq4,nq5,nq6,nq7,Nat.zero_add,Nat.reduceAdd]at HK ⊢;generalize S 22=t22 at *;subst h22;go_wp2;exact HK.out _ _ ⟨_,rfl,rfl,Below.refl _ _⟩
  ·cases ho
   have h23:S 23 = .slice r1 r2 r3:=hdep 23 (by kernel_rfl) (by decide)
   refine opOk_h rfl rfl fun KK HK=>?_
   clear hdep hio;simp only[nq1,nq2,nq3,nq4,nq5,nq6,nq7,Nat.zero_add,Nat.reduceAdd]at HK ⊢;generalize S 23=t23 at *;subst h23;go_wp2_with fail
   have key:=t_ints x D [.slice r1 r2 r3] t9 (L2.out.below (b3.out.trans (hbx.mono b3.out.size))) L1.out;rw[val_list]at key;refine(key).mono ?_;rintro e xN⟨rfl,hbN⟩;exact HK.out _ _ ⟨_,rfl,rfl,hbN⟩
  ·cases ho
   refine opOk_h rfl rfl fun KK HK=>?_
   clear hdep hio;simp only[nq1,nq2,nq3,nq4,nq5,nq6,nq7,Nat.zero_add,Nat.reduceAdd]at HK ⊢;go_wp2;exact HK.out _ _ ⟨_,rfl,rfl,Below.refl _ _⟩
  ·cases ho
   have h25:S 25 = .pointer (some ⟨w.heap.size,9,none⟩):=hdep 25 (by kernel_rfl) (by decide)
   obtain⟨af6,_,_⟩:=(b5.out.below hbx b5.out.lt).facts;refine opOk_h rfl rfl fun KK HK=>?_
   clear hdep hio;simp only[nq1,nq2,nq3,nq4,nq5,nq6,nq7,Nat.zero_add,Nat.reduceAdd]at HK ⊢;generalize S 25=t25 at *;subst h25;go_wp2;exact HK.out _ _ ⟨_,rfl,rfl,Below.refl _ _⟩
  ·cases ho
   have h26:S 26 = .slice r4 r5 r6:=hdep 26 (by kernel_rfl) (by decide)
   refine opOk_h rfl rfl fun KK HK=>?_
   clear hdep hio;simp only[nq1,nq2,nq3,nq4,nq5,nq6,nq7,Nat.zero_add,Nat.reduceAdd]at HK ⊢;generalize S 26=t26 at *;subst h26;go_wp2_with fail
   have key:=t_rats x D [.slice r4 r5 r6] t10 (L4.out.below (b3.out.trans (hbx.mono b3.out.size))) L3.out;rw[val_list]at key;refine(key).mono ?_;rintro e xN⟨rfl,hbN⟩;exact HK.out _ _ ⟨_,rfl,rfl,hbN⟩
  ·cases ho
   refine opOk_h rfl rfl fun KK HK=>?_
   clear hdep hio;simp only[nq1,nq2,nq3,nq4,nq5,nq6,nq7,Nat.zero_add,Nat.reduceAdd]at HK ⊢;go_wp2;exact HK.out _ _ ⟨_,rfl,rfl,Below.refl _ _⟩
  ·cases ho
   have h28:S 28 = .slice D0 b0 D1:=hdep 28 (by kernel_rfl) (by decide)
   refine opOk_h rfl rfl fun KK HK=>?_
   clear hdep hio;simp only[nq1,nq2,nq3,nq4,nq5,nq6,nq7,Nat.zero_add,Nat.reduceAdd]at HK ⊢;generalize S 28=t28 at *;subst h28;go_wp2_with fail
   refine(group_any _ _ b0 d2 ((x4.out.strs).below hbx) B5.out).mono ?_;rintro e xN⟨rfl,hbN⟩;exact HK.out _ _ ⟨_,rfl,rfl,hbN⟩
  ·cases ho
   have h2:S 2 = .string ⟨t1.toArray⟩:=hdep 2 (by kernel_rfl) (by decide)
   have h5:S 5 = .string ⟨t2.toArray⟩:=hdep 5 (by kernel_rfl) (by decide)
   have h8:S 8 = .string ⟨t3.toArray⟩:=hdep 8 (by kernel_rfl) (by decide)
   have h11:S 11 = .string ⟨t4.toArray⟩:=hdep 11 (by kernel_rfl) (by decide)
   have h14:S 14 = .string ⟨t5.toArray⟩:=hdep 14 (by kernel_rfl) (by decide)
   have h16:S 16 = .string ⟨(par d4 k86).toArray⟩:=hdep 16 (by kernel_rfl) (by decide)
   have h18:S 18 = .string ⟨(par d5 a2).toArray⟩:=hdep 18 (by kernel_rfl) (by decide)
   have h21:S 21 = .string ⟨t8.toArray⟩:=hdep 21 (by kernel_rfl) (by decide)
   have h24:S 24 = .string ⟨t9.toArray⟩:=hdep 24 (by kernel_rfl) (by decide)
   have h27:S 27 = .string ⟨t10.toArray⟩:=hdep 27 (by kernel_rfl) (by decide)
   have h29:S 29 = .string ⟨(par d2 b0).toArray⟩:=hdep 29 (by kernel_rfl) (by decide)
   refine opOk_h rfl rfl fun KK HK=>?_
   clear hdep hio;simp only[nq1,nq2,nq3,nq4,nq5,nq6,nq7,Nat.zero_add,Nat.reduceAdd]at HK ⊢;generalize S 2=t2 at *;subst h2;generalize S 5=t5 at *;subst h5;generalize S 8=t8 at *;subst h8;generalize S 11=t11 at *;subst h11;generalize S 14=t14 at *;subst h14;generalize S 16=t16 at *;subst h16;generalize S 18=t18 at *;subst h18;generalize S 21=t21 at *;subst h21;generalize S 24=t24 at *;subst h24;generalize S 27=t27 at *;subst h27;generalize S 29=t29 at *;subst h29;go_wp2;exact HK.out _ _ ⟨_,rfl,Strs.new x _ [t1,t2,t3,t4,t5,(par d4 k86),(par d5 a2),t8,t9,t10,(par d2 b0)] _ rfl _ rfl (by decide),(Below.refl _ _).alloc (Nat.le_refl _) _⟩
  ·cases ho
   have h30:Strs x (S 30) 11 (fun i=>[t1,t2,t3,t4,t5,(par d4 k86),(par d5 a2),t8,t9,t10,(par d2 b0)].getD i []):=hdep 30 (by kernel_rfl) (by decide)
   refine opOk_h rfl rfl fun KK HK=>?_
   clear hdep hio;simp only[nq1,nq2,nq3,nq4,nq5,nq6,nq7,Nat.zero_add,Nat.reduceAdd]at HK ⊢;go_wp2_with fail
   refine(group_any _ _ 11 _ h30 (HL.out)).mono ?_;rintro e xN⟨rfl,hbN⟩;exact HK.out _ _ ⟨_,rfl,rfl,hbN⟩
  ·exact absurd hio (by simp)
 intro S x hbx hF;have g0:S 0 = .pointer (some ⟨w.heap.size,0,none⟩):=hF 0 (by decide)
 have g1:S 1 = .int .i64 p9:=hF 1 (by decide)
 have g2:S 2 = .string ⟨t1.toArray⟩:=hF 2 (by decide)
 have g3:S 3 = .pointer (some ⟨w.heap.size,1,none⟩):=hF 3 (by decide)
 have g4:S 4 = .int .i64 q0:=hF 4 (by decide)
 have g5:S 5 = .string ⟨t2.toArray⟩:=hF 5 (by decide)
 have g6:S 6 = .pointer (some ⟨w.heap.size,2,none⟩):=hF 6 (by decide)
 have g7:S 7 = .bool q1:=hF 7 (by decide)
 have g8:S 8 = .string ⟨t3.toArray⟩:=hF 8 (by decide)
 have g9:S 9 = .pointer (some ⟨w.heap.size,3,none⟩):=hF 9 (by decide)
 have g10:S 10 = .slice q2 q3 q4:=hF 10 (by decide)
 have g11:S 11 = .string ⟨t4.toArray⟩:=hF 11 (by decide)
 have g12:S 12 = .pointer (some ⟨w.heap.size,4,none⟩):=hF 12 (by decide)
 have g13:S 13 = .slice q5 q6 q7:=hF 13 (by decide)
 have g14:S 14 = .string ⟨t5.toArray⟩:=hF 14 (by decide)
 have g15:S 15 = .slice v5 k86 v6:=hF 15 (by decide)
 have g16:S 16 = .string ⟨(par d4 k86).toArray⟩:=hF 16 (by decide)
 have g17:S 17 = .slice w9 a2 x0:=hF 17 (by decide)
 have g18:S 18 = .string ⟨(par d5 a2).toArray⟩:=hF 18 (by decide)
 have g19:S 19 = .pointer (some ⟨w.heap.size,7,none⟩):=hF 19 (by decide)
 have g20:S 20 = .slice q8 q9 r0:=hF 20 (by decide)
 have g21:S 21 = .string ⟨t8.toArray⟩:=hF 21 (by decide)
 have g22:S 22 = .pointer (some ⟨w.heap.size,8,none⟩):=hF 22 (by decide)
 have g23:S 23 = .slice r1 r2 r3:=hF 23 (by decide)
 have g24:S 24 = .string ⟨t9.toArray⟩:=hF 24 (by decide)
 have g25:S 25 = .pointer (some ⟨w.heap.size,9,none⟩):=hF 25 (by decide)
 have g26:S 26 = .slice r4 r5 r6:=hF 26 (by decide)
 have g27:S 27 = .string ⟨t10.toArray⟩:=hF 27 (by decide)
 have g28:S 28 = .slice D0 b0 D1:=hF 28 (by decide)
 have g29:S 29 = .string ⟨(par d2 b0).toArray⟩:=hF 29 (by decide)
 have g30:Strs x (S 30) 11 (fun i=>[t1,t2,t3,t4,t5,(par d4 k86),(par d5 a2),t8,t9,t10,(par d2 b0)].getD i []):=hF 30 (by decide)
 have g31:S 31 = .string ⟨(par (fun i=>[t1,t2,t3,t4,t5,(par d4 k86),(par d5 a2),t8,t9,t10,(par d2 b0)].getD i []) 11).toArray⟩:=hF 31 (by decide)
 clear hF;simp only[nm,Nat.reduceAdd,List.length_cons,List.length_nil,List.drop_succ_cons,List.drop_zero];generalize S 0=t0 at *;subst g0;generalize S 1=t1 at *;subst g1;generalize S 2=t2 at *;subst g2;generalize S 3=t3 at *;subst g3;generalize S 4=t4 at *;subst g4;generalize S 5=t5 at *;subst g5;generalize S 6=t6 at *;subst g6;generalize S 7=t7 at *;subst g7;generalize S 8=t8 at *;subst g8;generalize S 9=t9 at *;subst g9;generalize S 10=t10 at *;subst g10;generalize S 11=t11 at *;subst g11;generalize S 12=t12 at *;subst g12;generalize S 13=t13 at *;subst g13;generalize S 14=t14 at *;subst g14;generalize S 15=t15 at *;subst g15;generalize S 16=t16 at *;subst g16;generalize S 17=t17 at *;subst g17;generalize S 18=t18 at *;subst g18;generalize S 19=t19 at *;subst g19;generalize S 20=t20 at *;subst g20;generalize S 21=t21 at *;subst g21;generalize S 22=t22 at *;subst g22;generalize S 23=t23 at *;subst g23;generalize S 24=t24 at *;subst g24;generalize S 25=t25 at *;subst g25;generalize S 26=t26 at *;subst g26;generalize S 27=t27 at *;subst g27;generalize S 28=t28 at *;subst g28;generalize S 29=t29 at *;subst g29;generalize S 30=t30 at *;generalize S 31=t31 at *;subst g31;obtain⟨af7,hxn⟩:∃y:World,y=x:=⟨_,rfl⟩;subst hxn;have W2:=hid (b3.out.trans (hbx.mono b3.out.size));have af8:=hid (b5.out.below hbx b5.out.lt);have af9:=hid (D2.out.below hbx);have ag0:=hid (D3.out.below hbx);have ag1:=hid (x4.out.below hbx);go_wp2;go_ret
 exact⟨rfl,W2.out⟩
end Go.Proofs.YtellcholbkoakaaGreatDoor
