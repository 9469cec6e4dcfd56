/-
 The reference's writer: node (printed by tgen.py).
-/
import Derived.Test.YtellcholbkoakaaGreatDoorHTf
namespace Go.Proofs.YtellcholbkoakaaGreatDoor
open Go.Lib (hid)
open Go.RowKit AC
set_option linter.unusedVariables false
set_option linter.unusedSimpArgs false
theorem nq1(a:Act)(k:Nat)(s:Nat→Value):uF a [] k s=a:=rfl
theorem nq2(a:Act)(t:Nat)(r:List Nat)(k:Nat)(s:Nat→Value):uF a (t::r) k s=uF (a.put (some t) (s k)) r (k+1) s:=rfl
theorem nq3(l:List Value)(d)(i:Nat)(v:Value):Act.put ⟨l.toArray,d⟩ (some i) v=⟨(l.set i v).toArray,d⟩:=nm.2.2.1 l d i v
theorem nq4(x y:Value)(l:List Value)(i:Nat):(x::l).set (i+1) y=x::l.set i y:=rfl
theorem nq5(x y:Value)(l:List Value):(x::l).set 0 y=y::l:=rfl
theorem nq6(x y:Nat)(l:List Nat):(x::l).getD 0 y=x:=rfl
theorem nq7(x y i:Nat)(l:List Nat):(x::l).getD (i+1) y=l.getD i y:=rfl
set_option maxHeartbeats 16000000 in
set_option maxRecDepth 100000 in
theorem uzv(n:Nat):ud8 63 (uac n):=by
 intro w D v t ab3 hl;obtain⟨_,E3,l23,_,t1,_,rfl,rfl,F1,l24,_,t2,_,rfl,rfl,F2,l25,_,t3,_,rfl,rfl,F3,l26,_,t4,_,rfl,rfl,F4,l27,_,t5,_,rfl,rfl,F5,l28,_,t6,_,rfl,rfl,F9,l29,_,t7,_,rfl,rfl,G0,l30,_,t8,_,rfl,rfl,G1,l31,_,t9,_,rfl,rfl,G2,l32,_,b3,_,rfl,rfl,G3,l33,_,t11,_,rfl,rfl,r22,rfl,rfl⟩:=ab3;injection E3 with E3 _;obtain⟨s5,rfl⟩:=ug F1.ty;obtain⟨s6,rfl⟩:=ug F2.ty;obtain⟨s7,rfl⟩:=ua8 F3.ty;obtain⟨s8,v0,s9,rfl⟩:=ua F4.ty;obtain⟨v1,v3,v2,rfl⟩:=ua F5.ty;obtain⟨H5,k8,H6,rfl⟩:=ua F9.ty;obtain⟨H7,k9,H8,rfl⟩:=ua G0.ty;obtain⟨v4,v6,v5,rfl⟩:=ua G1.ty;obtain⟨v7,v9,v8,rfl⟩:=ua G2.ty;obtain⟨w0,w2,w1,rfl⟩:=ua G3.ty;obtain⟨H9,l0,I0,rfl⟩:=ua r22.ty;subst E3;have HL:=hid hl;clear hl;have aa5:Hid (t1.length≤MX):=Nat.le_trans (uc (fun i=>[t1,t2,t3,t4,t5,t6,t7,t8,t9,b3,t11].getD i []) (i:=0) (k:=11) (by decide)) (HL.out)
 have P7:=hid F1;clear F1;have aa6:Hid (t2.length≤MX):=Nat.le_trans (uc (fun i=>[t1,t2,t3,t4,t5,t6,t7,t8,t9,b3,t11].getD i []) (i:=1) (k:=11) (by decide)) (HL.out)
 have P8:=hid F2;clear F2;have aa7:Hid (t3.length≤MX):=Nat.le_trans (uc (fun i=>[t1,t2,t3,t4,t5,t6,t7,t8,t9,b3,t11].getD i []) (i:=2) (k:=11) (by decide)) (HL.out)
 have P9:=hid F3;clear F3;have aa8:Hid (t4.length≤MX):=Nat.le_trans (uc (fun i=>[t1,t2,t3,t4,t5,t6,t7,t8,t9,b3,t11].getD i []) (i:=3) (k:=11) (by decide)) (HL.out)
 have Q0:=hid F4;clear F4;have aa9:Hid (t5.length≤MX):=Nat.le_trans (uc (fun i=>[t1,t2,t3,t4,t5,t6,t7,t8,t9,b3,t11].getD i []) (i:=4) (k:=11) (by decide)) (HL.out)
 have Q1:=hid F5;clear F5;have E0:Hid (t6.length≤MX):=Nat.le_trans (uc (fun i=>[t1,t2,t3,t4,t5,t6,t7,t8,t9,b3,t11].getD i []) (i:=5) (k:=11) (by decide)) (HL.out)
 have Q2:=hid F9;clear F9;have E1:Hid (t7.length≤MX):=Nat.le_trans (uc (fun i=>[t1,t2,t3,t4,t5,t6,t7,t8,t9,b3,t11].getD i []) (i:=6) (k:=11) (by decide)) (HL.out)
 have Q3:=hid G0;clear G0;have ab0:Hid (t8.length≤MX):=Nat.le_trans (uc (fun i=>[t1,t2,t3,t4,t5,t6,t7,t8,t9,b3,t11].getD i []) (i:=7) (k:=11) (by decide)) (HL.out)
 have Q4:=hid G1;clear G1;have ab1:Hid (t9.length≤MX):=Nat.le_trans (uc (fun i=>[t1,t2,t3,t4,t5,t6,t7,t8,t9,b3,t11].getD i []) (i:=8) (k:=11) (by decide)) (HL.out)
 have Q5:=hid G2;clear G2;have ab2:Hid (b3.length≤MX):=Nat.le_trans (uc (fun i=>[t1,t2,t3,t4,t5,t6,t7,t8,t9,b3,t11].getD i []) (i:=9) (k:=11) (by decide)) (HL.out)
 have Q6:=hid G3;clear G3;have E2:Hid (t11.length≤MX):=Nat.le_trans (uc (fun i=>[t1,t2,t3,t4,t5,t6,t7,t8,t9,b3,t11].getD i []) (i:=10) (k:=11) (by decide)) (HL.out)
 have Q7:=hid r22;clear r22;show Calls Tryz.prog 63 #[.agg #[.int .i64 s5,.int .i64 s6,.bool s7,.slice s8 v0 s9,.slice v1 v3 v2,.slice H5 k8 H6,.slice H7 k9 H8,.slice v4 v6 v5,.slice v7 v9 v8,.slice w0 w2 w1,.slice H9 l0 I0]] w _
 go_enter Tryz.func63,Tryz.ntmps63
 have I1:=hid (Below.refl w.heap.size w);go_upto_region 1 with(fail)
 obtain⟨w5,A9⟩:∃W,W=w.alloc (.cells #[.int .i64 s5,.int .i64 s6,.bool s7,.slice s8 v0 s9,.slice v1 v3 v2,.slice H5 k8 H6,.slice H7 k9 H8,.slice v4 v6 v5,.slice v7 v9 v8,.slice w0 w2 w1,.slice H9 l0 I0] 65):=⟨_,rfl⟩;have L1:Below w.heap.size w w5:=by rw[A9];exact(Below.refl _ _).alloc (Nat.le_refl _) _
 have I4:=hid (I1.out.trans (L1.mono I1.out.size));have C8:Hid (Bk w5 w.heap.size 65 #[.int .i64 s5,.int .i64 s6,.bool s7,.slice s8 v0 s9,.slice v1 v3 v2,.slice H5 k8 H6,.slice H7 k9 H8,.slice v4 v6 v5,.slice v7 v9 v8,.slice w0 w2 w1,.slice H9 l0 I0]):=by rw[A9];exact Bk.new _ _ _
 rw[←A9];clear A9 L1;obtain⟨ai7,_,_⟩:=C8.out.facts;obtain⟨ac4,e2,ab8,ak2,Y8,L7,M6⟩:=Q2.out.unlist;subst ab8;have N8:=hid L7;have R2:=hid M6;have aj7:k8≤100000000:=Nat.le_trans (uN e2 k8) E0.out;unfold maxLen at Y8;clear L7 M6;go_wp2;have J9:=hid (TI.start e2 (Below.refl w5.heap.size w5));go_loopw [3,23] (fun ov iv wr=>∃(k:Nat),k≤k8∧iv = .int .i64 k∧Hid (TI e2 w5 ov k wr)) (fun _ iv _=>k8-(intOf iv).toNat)
 case atStart=>exact⟨0,by omega,rfl,J9⟩
 obtain⟨b4,aj2,rfl,A3⟩:=hrel;clear J9;obtain⟨e0,k7⟩:∃w:World,w=wr:=⟨_,rfl⟩;subst k7;obtain⟨z4,z7,rfl,_,_⟩:=A3.out.form;have D7:=A3.out.2;have r4:=hid (I4.out.trans (D7.mono I4.out.size));have x5:=hid (C8.out.below D7 C8.out.lt);clear D7;by_cases a6:b4<k8
 ·obtain⟨w6,x2,k6,_,D8,B2⟩:=N8.out (by omega)
  subst k6;have L8:=R2.out b4 a6;obtain⟨u99,z1⟩:∃u,ac4 b4=u:=⟨_,rfl⟩;rw[z1]at L8;have B3:Hid ((e2 b4).length≤MX):=Nat.le_trans (uc e2 a6) E0.out;have B8:Shape.sz (uD n)=3:=ud0;obtain⟨_,B9,ak3,_,d0,_,rfl,rfl,E8,ak4,_,C3,_,rfl,rfl,E9,ak5,_,d1,_,rfl,rfl,F0,rfl,rfl⟩:=L8;injection B9 with B9 _;obtain⟨m1,rfl⟩:=ug E8.ty;obtain⟨C4,j2,C5,rfl⟩:=ua E9.ty;obtain⟨m2,m4,m3,rfl⟩:=ua F0.ty;have x6:=hid B9;have Y9:Hid (d0.length≤MX):=Nat.le_trans (uc (fun i=>[d0,C3,d1].getD i []) (i:=0) (k:=3) (by decide)) (uag x6.out B3.out)
  have O0:=hid E8;clear E8;have D9:Hid (C3.length≤MX):=Nat.le_trans (uc (fun i=>[d0,C3,d1].getD i []) (i:=1) (k:=3) (by decide)) (uag x6.out B3.out)
  have O1:=hid E9;clear E9;have Z0:Hid (d1.length≤MX):=Nat.le_trans (uc (fun i=>[d0,C3,d1].getD i []) (i:=2) (k:=3) (by decide)) (uag x6.out B3.out)
  have O2:=hid F0;clear F0;clear B9;have l8:e0.cell? ⟨w6,x2+b4*3,none⟩=some (.int .i64 m1):=by
   have h9:=(r4.out.cell (p:=⟨w6,x2+b4*Shape.sz (uD n)+0,none⟩) D8).trans (B2 b4 a6 0 (.int .i64 m1) (by rw[z1];rfl))
   rw[B8]at h9;simpa using h9
  have r8:e0.cell? ⟨w6,x2+b4*3+1,none⟩=some (.slice C4 j2 C5):=by
   have h9:=(r4.out.cell (p:=⟨w6,x2+b4*Shape.sz (uD n)+1,none⟩) D8).trans (B2 b4 a6 1 (.slice C4 j2 C5) (by rw[z1];rfl))
   rw[B8]at h9;simpa using h9
  have r9:e0.cell? ⟨w6,x2+b4*3+2,none⟩=some (.slice m2 m4 m3):=by
   have h9:=(r4.out.cell (p:=⟨w6,x2+b4*Shape.sz (uD n)+2,none⟩) D8).trans (B2 b4 a6 2 (.slice m2 m4 m3) (by rw[z1];rfl))
   rw[B8]at h9;simpa using h9
  clear B2 z1 B8;go_upto_region 5 with(fail)
  obtain⟨w3,A4⟩:∃W,W=e0.alloc (.cells #[.int .i64 m1,.slice C4 j2 C5,.slice m2 m4 m3] 87):=⟨_,rfl⟩;have B0:Below e0.heap.size e0 w3:=by rw[A4];exact(Below.refl _ _).alloc (Nat.le_refl _) _
  have I2:=hid (r4.out.trans (B0.mono r4.out.size));have I5:=hid (x5.out.below B0 x5.out.lt);have R3:=hid (A3.out.below B0);have C6:Hid (Bk w3 e0.heap.size 87 #[.int .i64 m1,.slice C4 j2 C5,.slice m2 m4 m3]):=by rw[A4];exact Bk.new _ _ _
  rw[←A4];clear A4 B0;clear l8 r8 r9;obtain⟨af9,_,_⟩:=C6.out.facts;obtain⟨ac0,c7,ab4,aj8,Y4,L3,M2⟩:=O1.out.unlist;subst ab4;have N4:=hid L3;have Q8:=hid M2;have aj3:j2≤100000000:=Nat.le_trans (uN c7 j2) D9.out;unfold maxLen at Y4;clear L3 M2;go_wp2;have J5:=hid (TI.start c7 (Below.refl w3.heap.size w3));go_loopw [8,30] (fun ov iv wr=>∃(k:Nat),k≤j2∧iv = .int .i64 k∧Hid (TI c7 w3 ov k wr)) (fun _ iv _=>j2-(intOf iv).toNat)
  case atStart=>exact⟨0,by omega,rfl,J5⟩
  obtain⟨a5,ai8,rfl,y1⟩:=hrel;clear J5;obtain⟨c8,k7⟩:∃w:World,w=wr:=⟨_,rfl⟩;subst k7;obtain⟨z2,z5,rfl,_,_⟩:=y1.out.form;have y4:=y1.out.2;have e4:=hid (I2.out.trans (y4.mono I2.out.size));have z9:=hid (I5.out.below y4 I5.out.lt);have l3:=hid (C6.out.below y4 C6.out.lt);have K0:=hid (R3.out.below y4);clear y4;by_cases a6:a5<j2
  ·obtain⟨e9,f1,k6,_,w9,s1⟩:=N4.out (by omega)
   subst k6;have L9:=Q8.out a5 a6;obtain⟨an4,l9⟩:∃u,ac0 a5=u:=⟨_,rfl⟩;rw[l9]at L9;have B4:Hid ((c7 a5).length≤MX):=Nat.le_trans (uc c7 a6) D9.out;have s3:Shape.sz (uan n)=6:=uel;obtain⟨_,C0,ak6,_,d2,_,rfl,rfl,F6,ak7,_,d3,_,rfl,rfl,F7,ak8,_,d4,_,rfl,rfl,F8,rfl,rfl⟩:=L9;injection C0 with C0 _;obtain⟨m5,rfl⟩:=ug F6.ty;obtain⟨m8,m6,n1,m9,m7,n2,n0,rfl⟩:=uay F7.ty;obtain⟨n3,n5,n4,n6,n8,n7,rfl⟩:=uaj F8.ty;have x7:=hid C0;have Z1:Hid (d2.length≤MX):=Nat.le_trans (uc (fun i=>[d2,d3,d4].getD i []) (i:=0) (k:=3) (by decide)) (uag x7.out B4.out)
   have O3:=hid F6;clear F6;have Z2:Hid (d3.length≤MX):=Nat.le_trans (uc (fun i=>[d2,d3,d4].getD i []) (i:=1) (k:=3) (by decide)) (uag x7.out B4.out)
   have O4:=hid F7;clear F7;have Z3:Hid (d4.length≤MX):=Nat.le_trans (uc (fun i=>[d2,d3,d4].getD i []) (i:=2) (k:=3) (by decide)) (uag x7.out B4.out)
   have O5:=hid F8;clear F8;clear C0;have l8:c8.cell? ⟨e9,f1+a5*6,none⟩=some (.int .i64 m5):=by
    have h9:=(e4.out.cell (p:=⟨e9,f1+a5*Shape.sz (uan n)+0,none⟩) w9).trans (s1 a5 a6 0 (.int .i64 m5) (by rw[l9];rfl))
    rw[s3]at h9;simpa using h9
   have r8:c8.cell? ⟨e9,f1+a5*6+1,none⟩=some (.bool m8):=by
    have h9:=(e4.out.cell (p:=⟨e9,f1+a5*Shape.sz (uan n)+1,none⟩) w9).trans (s1 a5 a6 1 (.bool m8) (by rw[l9];rfl))
    rw[s3]at h9;simpa using h9
   have r9:c8.cell? ⟨e9,f1+a5*6+2,none⟩=some (.slice m6 n1 m9):=by
    have h9:=(e4.out.cell (p:=⟨e9,f1+a5*Shape.sz (uan n)+2,none⟩) w9).trans (s1 a5 a6 2 (.slice m6 n1 m9) (by rw[l9];rfl))
    rw[s3]at h9;simpa using h9
   have y7:c8.cell? ⟨e9,f1+a5*6+3,none⟩=some (.slice m7 n2 n0):=by
    have h9:=(e4.out.cell (p:=⟨e9,f1+a5*Shape.sz (uan n)+3,none⟩) w9).trans (s1 a5 a6 3 (.slice m7 n2 n0) (by rw[l9];rfl))
    rw[s3]at h9;simpa using h9
   have y8:c8.cell? ⟨e9,f1+a5*6+4,none⟩=some (.slice n3 n5 n4):=by
    have h9:=(e4.out.cell (p:=⟨e9,f1+a5*Shape.sz (uan n)+4,none⟩) w9).trans (s1 a5 a6 4 (.slice n3 n5 n4) (by rw[l9];rfl))
    rw[s3]at h9;simpa using h9
   have y9:c8.cell? ⟨e9,f1+a5*6+5,none⟩=some (.slice n6 n8 n7):=by
    have h9:=(e4.out.cell (p:=⟨e9,f1+a5*Shape.sz (uan n)+5,none⟩) w9).trans (s1 a5 a6 5 (.slice n6 n8 n7) (by rw[l9];rfl))
    rw[s3]at h9;simpa using h9
   clear s1 l9 s3;go_upto_region 9 with(fail)
   obtain⟨K5,A5⟩:∃W,W=c8.alloc (.cells #[.int .i64 m5,.bool m8,.slice m6 n1 m9,.slice m7 n2 n0,.slice n3 n5 n4,.slice n6 n8 n7] 89):=⟨_,rfl⟩;have w7:Below c8.heap.size c8 K5:=by rw[A5];exact(Below.refl _ _).alloc (Nat.le_refl _) _
   have l1:=hid (e4.out.trans (w7.mono e4.out.size));have I6:=hid (z9.out.below w7 z9.out.lt);have I7:=hid (l3.out.below w7 l3.out.lt);have R4:=hid (K0.out.below w7);have R5:=hid (y1.out.below w7);have l4:Hid (Bk K5 c8.heap.size 89 #[.int .i64 m5,.bool m8,.slice m6 n1 m9,.slice m7 n2 n0,.slice n3 n5 n4,.slice n6 n8 n7]):=by rw[A5];exact Bk.new _ _ _
   rw[←A5];clear A5 w7;clear l8 r8 r9 y7 y8 y9;go_upto_region 9 with(fail)
   refine uv (by kernel_rfl) (by kernel_rfl) [34,35,36,37,38,39,40,41,42,43,44,45,46] 40 (by kernel_rfl) (fun io v x=>match io with
    | 0=>v = .slice z2 a5 z5
    | 1=>v = .pointer (some ⟨c8.heap.size,0,none⟩)
    | 2=>v = .int .i64 m5
    | 3=>v = .string ⟨d2.toArray⟩
    | 4=>v = .pointer (some ⟨c8.heap.size,1,none⟩)
    | 5=>v = .agg #[.bool m8,.slice m6 n1 m9,.slice m7 n2 n0]
    | 6=>v = .string ⟨d3.toArray⟩
    | 7=>v = .pointer (some ⟨c8.heap.size,4,none⟩)
    | 8=>v = .agg #[.slice n3 n5 n4,.slice n6 n8 n7]
    | 9=>v = .string ⟨d4.toArray⟩
    | 10=>Strs x v 3 (fun i=>[d2,d3,d4].getD i [])
    | 11=>v = .string ⟨(par (fun i=>[d2,d3,d4].getD i []) 3).toArray⟩
    | _=>Strs x v 1 (fun _=>(par (fun i=>[d2,d3,d4].getD i []) 3))) ?_ ?_ ?_
   ·intro io v x x' a1 h hb
    rcases io with _|_|_|_|_|_|_|_|_|_|_|_|io
    ·exact h
    ·exact h
    ·exact h
    ·exact h
    ·exact h
    ·exact h
    ·exact h
    ·exact h
    ·exact h
    ·exact h
    ·exact Strs.below h hb
    ·exact h
    ·exact Strs.below h hb
   ·intro io oo S x ho a1 a2 a0
    rcases io with _|_|_|_|_|_|_|_|_|_|_|_|_|io
    ·cases ho
     refine ub rfl rfl fun KK HK=>?_
     clear a0 a1;simp only[nq1,nq2,nq3,nq4,nq5,nq6,nq7,Nat.zero_add,Nat.reduceAdd]at HK ⊢;go_wp2;exact HK.out _ _ ⟨_,rfl,rfl,Below.refl _ _⟩
    ·cases ho
     refine ub rfl rfl fun KK HK=>?_
     clear a0 a1;simp only[nq1,nq2,nq3,nq4,nq5,nq6,nq7,Nat.zero_add,Nat.reduceAdd]at HK ⊢;go_wp2;exact HK.out _ _ ⟨_,rfl,rfl,Below.refl _ _⟩
    ·cases ho
     have h1:S 1 = .pointer (some ⟨c8.heap.size,0,none⟩):=a0 1 (by kernel_rfl) (by decide)
     obtain⟨ag0,_,_⟩:=(l4.out.below a2 l4.out.lt).facts;refine ub rfl rfl fun KK HK=>?_
     clear a0 a1;simp only[nq1,nq2,nq3,nq4,nq5,nq6,nq7,Nat.zero_add,Nat.reduceAdd]at HK ⊢;generalize S 1=t1 at *;subst h1;go_wp2;exact HK.out _ _ ⟨_,rfl,rfl,Below.refl _ _⟩
    ·cases ho
     have h2:S 2 = .int .i64 m5:=a0 2 (by kernel_rfl) (by decide)
     refine ub rfl rfl fun KK HK=>?_
     clear a0 a1;simp only[nq1,nq2,nq3,nq4,nq5,nq6,nq7,Nat.zero_add,Nat.reduceAdd]at HK ⊢;generalize S 2=t2 at *;subst h2;go_wp2_with fail
     have key:=udo x D [.int .i64 m5] d2 (O3.out.below (l1.out.trans (a2.mono l1.out.size))) Z1.out;rw[uo]at key;refine(key).mono ?_;rintro e xN⟨rfl,a3⟩;exact HK.out _ _ ⟨_,rfl,rfl,a3⟩
    ·cases ho
     refine ub rfl rfl fun KK HK=>?_
     clear a0 a1;simp only[nq1,nq2,nq3,nq4,nq5,nq6,nq7,Nat.zero_add,Nat.reduceAdd]at HK ⊢;go_wp2;exact HK.out _ _ ⟨_,rfl,rfl,Below.refl _ _⟩
    ·cases ho
     have h4:S 4 = .pointer (some ⟨c8.heap.size,1,none⟩):=a0 4 (by kernel_rfl) (by decide)
     obtain⟨ag1,_,_⟩:=(l4.out.below a2 l4.out.lt).facts;refine ub rfl rfl fun KK HK=>?_
     clear a0 a1;simp only[nq1,nq2,nq3,nq4,nq5,nq6,nq7,Nat.zero_add,Nat.reduceAdd]at HK ⊢;generalize S 4=t4 at *;subst h4;go_wp2;exact HK.out _ _ ⟨_,rfl,rfl,Below.refl _ _⟩
    ·cases ho
     have h5:S 5 = .agg #[.bool m8,.slice m6 n1 m9,.slice m7 n2 n0]:=a0 5 (by kernel_rfl) (by decide)
     refine ub rfl rfl fun KK HK=>?_
     clear a0 a1;simp only[nq1,nq2,nq3,nq4,nq5,nq6,nq7,Nat.zero_add,Nat.reduceAdd]at HK ⊢;generalize S 5=t5 at *;subst h5;go_wp2_with fail
     have key:=uui x D [.bool m8,.slice m6 n1 m9,.slice m7 n2 n0] d3 (O4.out.below (l1.out.trans (a2.mono l1.out.size))) Z2.out;rw[uaz]at key;refine(key).mono ?_;rintro e xN⟨rfl,a3⟩;exact HK.out _ _ ⟨_,rfl,rfl,a3⟩
    ·cases ho
     refine ub rfl rfl fun KK HK=>?_
     clear a0 a1;simp only[nq1,nq2,nq3,nq4,nq5,nq6,nq7,Nat.zero_add,Nat.reduceAdd]at HK ⊢;go_wp2;exact HK.out _ _ ⟨_,rfl,rfl,Below.refl _ _⟩
    ·cases ho
     have h7:S 7 = .pointer (some ⟨c8.heap.size,4,none⟩):=a0 7 (by kernel_rfl) (by decide)
     obtain⟨ag2,_,_⟩:=(l4.out.below a2 l4.out.lt).facts;refine ub rfl rfl fun KK HK=>?_
     clear a0 a1;simp only[nq1,nq2,nq3,nq4,nq5,nq6,nq7,Nat.zero_add,Nat.reduceAdd]at HK ⊢;generalize S 7=t7 at *;subst h7;go_wp2;exact HK.out _ _ ⟨_,rfl,rfl,Below.refl _ _⟩
    ·cases ho
     have h8:S 8 = .agg #[.slice n3 n5 n4,.slice n6 n8 n7]:=a0 8 (by kernel_rfl) (by decide)
     refine ub rfl rfl fun KK HK=>?_
     clear a0 a1;simp only[nq1,nq2,nq3,nq4,nq5,nq6,nq7,Nat.zero_add,Nat.reduceAdd]at HK ⊢;generalize S 8=t8 at *;subst h8;go_wp2_with fail
     have key:=(uo5 n) x D [.slice n3 n5 n4,.slice n6 n8 n7] d4 (O5.out.below (l1.out.trans (a2.mono l1.out.size))) Z3.out;rw[uau]at key;refine(key).mono ?_;rintro e xN⟨rfl,a3⟩;exact HK.out _ _ ⟨_,rfl,rfl,a3⟩
    ·cases ho
     have h3:S 3 = .string ⟨d2.toArray⟩:=a0 3 (by kernel_rfl) (by decide)
     have h6:S 6 = .string ⟨d3.toArray⟩:=a0 6 (by kernel_rfl) (by decide)
     have h9:S 9 = .string ⟨d4.toArray⟩:=a0 9 (by kernel_rfl) (by decide)
     refine ub rfl rfl fun KK HK=>?_
     clear a0 a1;simp only[nq1,nq2,nq3,nq4,nq5,nq6,nq7,Nat.zero_add,Nat.reduceAdd]at HK ⊢;generalize S 3=t3 at *;subst h3;generalize S 6=t6 at *;subst h6;generalize S 9=t9 at *;subst h9;go_wp2;exact HK.out _ _ ⟨_,rfl,Strs.new x _ [d2,d3,d4] _ rfl _ rfl (by decide),(Below.refl _ _).alloc (Nat.le_refl _) _⟩
    ·cases ho
     have f5:Strs x (S 10) 3 (fun i=>[d2,d3,d4].getD i []):=a0 10 (by kernel_rfl) (by decide)
     refine ub rfl rfl fun KK HK=>?_
     clear a0 a1;simp only[nq1,nq2,nq3,nq4,nq5,nq6,nq7,Nat.zero_add,Nat.reduceAdd]at HK ⊢;go_wp2_with fail
     refine(ux _ _ 3 _ f5 (uag x7.out B4.out)).mono ?_;rintro e xN⟨rfl,a3⟩;exact HK.out _ _ ⟨_,rfl,rfl,a3⟩
    ·cases ho
     have k5:S 11 = .string ⟨(par (fun i=>[d2,d3,d4].getD i []) 3).toArray⟩:=a0 11 (by kernel_rfl) (by decide)
     refine ub rfl rfl fun KK HK=>?_
     clear a0 a1;simp only[nq1,nq2,nq3,nq4,nq5,nq6,nq7,Nat.zero_add,Nat.reduceAdd]at HK ⊢;generalize S 11=t11 at *;subst k5;go_wp2;exact HK.out _ _ ⟨_,rfl,Strs.new1 x _ _,(Below.refl _ _).alloc (Nat.le_refl _) _⟩
    ·exact absurd a1 (by simp)
   intro S x a2 hF;have g0:S 0 = .slice z2 a5 z5:=hF 0 (by decide)
   have g1:S 1 = .pointer (some ⟨c8.heap.size,0,none⟩):=hF 1 (by decide)
   have g2:S 2 = .int .i64 m5:=hF 2 (by decide)
   have g3:S 3 = .string ⟨d2.toArray⟩:=hF 3 (by decide)
   have g4:S 4 = .pointer (some ⟨c8.heap.size,1,none⟩):=hF 4 (by decide)
   have g5:S 5 = .agg #[.bool m8,.slice m6 n1 m9,.slice m7 n2 n0]:=hF 5 (by decide)
   have g6:S 6 = .string ⟨d3.toArray⟩:=hF 6 (by decide)
   have g7:S 7 = .pointer (some ⟨c8.heap.size,4,none⟩):=hF 7 (by decide)
   have g8:S 8 = .agg #[.slice n3 n5 n4,.slice n6 n8 n7]:=hF 8 (by decide)
   have g9:S 9 = .string ⟨d4.toArray⟩:=hF 9 (by decide)
   have k4:Strs x (S 10) 3 (fun i=>[d2,d3,d4].getD i []):=hF 10 (by decide)
   have f4:S 11 = .string ⟨(par (fun i=>[d2,d3,d4].getD i []) 3).toArray⟩:=hF 11 (by decide)
   have l6:Strs x (S 12) 1 (fun _=>(par (fun i=>[d2,d3,d4].getD i []) 3)):=hF 12 (by decide)
   clear hF;simp only[nm,Nat.reduceAdd,List.length_cons,List.length_nil,List.drop_succ_cons,List.drop_zero];generalize S 0=t0 at *;subst g0;generalize S 1=t1 at *;subst g1;generalize S 2=t2 at *;subst g2;generalize S 3=t3 at *;subst g3;generalize S 4=t4 at *;subst g4;generalize S 5=t5 at *;subst g5;generalize S 6=t6 at *;subst g6;generalize S 7=t7 at *;subst g7;generalize S 8=t8 at *;subst g8;generalize S 9=t9 at *;subst g9;generalize S 10=b3 at *;generalize S 11=t11 at *;subst f4;generalize S 12=t12 at *;obtain⟨ac5,f6⟩:∃y:World,y=x:=⟨_,rfl⟩;subst f6;have ac9:=hid (l1.out.trans (a2.mono l1.out.size));have ad4:=hid (I6.out.below a2 I6.out.lt);have ad5:=hid (I7.out.below a2 I7.out.lt);have ad6:=hid (l4.out.below a2 l4.out.lt);have ae6:=hid (R4.out.below a2);have R6:=hid (R5.out.below a2);obtain⟨b1,o1,c1,rfl,s0⟩:=Strs.one l6;go_wp2_with (at_builtin;refine uI ac5 rfl _ _ rfl w3 c7 a5 _ rfl R6.out b1 o1 c1 rfl (par (fun i=>[d2,d3,d4].getD i []) 3) s0 (x7.out.symm) (by omega) ?_)
   intro g2 A1 w4 e5;have k3:=hid e5;clear e5;go_wp2;go_roundw
   case rel=>exact⟨a5+1,by omega,by go_num,k3⟩
   case measure=>simp[intOf];omega
  obtain rfl:a5=j2:=by omega
  go_upto_region 11 with(fail)
  refine uv (by kernel_rfl) (by kernel_rfl) [49,50,51,52,53,54,55,56,57,58,59,60] 40 (by kernel_rfl) (fun io v x=>match io with
   | 0=>v = .slice z4 b4 z7
   | 1=>v = .pointer (some ⟨e0.heap.size,0,none⟩)
   | 2=>v = .int .i64 m1
   | 3=>v = .string ⟨d0.toArray⟩
   | 4=>v = .slice z2 a5 z5
   | 5=>v = .string ⟨(par c7 a5).toArray⟩
   | 6=>v = .pointer (some ⟨e0.heap.size,2,none⟩)
   | 7=>v = .slice m2 m4 m3
   | 8=>v = .string ⟨d1.toArray⟩
   | 9=>Strs x v 3 (fun i=>[d0,(par c7 a5),d1].getD i [])
   | 10=>v = .string ⟨(par (fun i=>[d0,(par c7 a5),d1].getD i []) 3).toArray⟩
   | _=>Strs x v 1 (fun _=>(par (fun i=>[d0,(par c7 a5),d1].getD i []) 3))) ?_ ?_ ?_
  ·intro io v x x' a1 h hb
   rcases io with _|_|_|_|_|_|_|_|_|_|_|io
   ·exact h
   ·exact h
   ·exact h
   ·exact h
   ·exact h
   ·exact h
   ·exact h
   ·exact h
   ·exact h
   ·exact Strs.below h hb
   ·exact h
   ·exact Strs.below h hb
  ·intro io oo S x ho a1 a2 a0
   rcases io with _|_|_|_|_|_|_|_|_|_|_|_|io
   ·cases ho
    refine ub rfl rfl fun KK HK=>?_
    clear a0 a1;simp only[nq1,nq2,nq3,nq4,nq5,nq6,nq7,Nat.zero_add,Nat.reduceAdd]at HK ⊢;go_wp2;exact HK.out _ _ ⟨_,rfl,rfl,Below.refl _ _⟩
   ·cases ho
    refine ub rfl rfl fun KK HK=>?_
    clear a0 a1;simp only[nq1,nq2,nq3,nq4,nq5,nq6,nq7,Nat.zero_add,Nat.reduceAdd]at HK ⊢;go_wp2;exact HK.out _ _ ⟨_,rfl,rfl,Below.refl _ _⟩
   ·cases ho
    have h1:S 1 = .pointer (some ⟨e0.heap.size,0,none⟩):=a0 1 (by kernel_rfl) (by decide)
    obtain⟨ag3,_,_⟩:=(l3.out.below a2 l3.out.lt).facts;refine ub rfl rfl fun KK HK=>?_
    clear a0 a1;simp only[nq1,nq2,nq3,nq4,nq5,nq6,nq7,Nat.zero_add,Nat.reduceAdd]at HK ⊢;generalize S 1=t1 at *;subst h1;go_wp2;exact HK.out _ _ ⟨_,rfl,rfl,Below.refl _ _⟩
   ·cases ho
    have h2:S 2 = .int .i64 m1:=a0 2 (by kernel_rfl) (by decide)
    refine ub rfl rfl fun KK HK=>?_
    clear a0 a1;simp only[nq1,nq2,nq3,nq4,nq5,nq6,nq7,Nat.zero_add,Nat.reduceAdd]at HK ⊢;generalize S 2=t2 at *;subst h2;go_wp2_with fail
    have key:=udo x D [.int .i64 m1] d0 (O0.out.below (e4.out.trans (a2.mono e4.out.size))) Y9.out;rw[uo]at key;refine(key).mono ?_;rintro e xN⟨rfl,a3⟩;exact HK.out _ _ ⟨_,rfl,rfl,a3⟩
   ·cases ho
    refine ub rfl rfl fun KK HK=>?_
    clear a0 a1;simp only[nq1,nq2,nq3,nq4,nq5,nq6,nq7,Nat.zero_add,Nat.reduceAdd]at HK ⊢;go_wp2;exact HK.out _ _ ⟨_,rfl,rfl,Below.refl _ _⟩
   ·cases ho
    have h4:S 4 = .slice z2 a5 z5:=a0 4 (by kernel_rfl) (by decide)
    refine ub rfl rfl fun KK HK=>?_
    clear a0 a1;simp only[nq1,nq2,nq3,nq4,nq5,nq6,nq7,Nat.zero_add,Nat.reduceAdd]at HK ⊢;generalize S 4=t4 at *;subst h4;go_wp2_with fail
    refine(ux _ _ a5 c7 ((y1.out.strs).below a2) D9.out).mono ?_;rintro e xN⟨rfl,a3⟩;exact HK.out _ _ ⟨_,rfl,rfl,a3⟩
   ·cases ho
    refine ub rfl rfl fun KK HK=>?_
    clear a0 a1;simp only[nq1,nq2,nq3,nq4,nq5,nq6,nq7,Nat.zero_add,Nat.reduceAdd]at HK ⊢;go_wp2;exact HK.out _ _ ⟨_,rfl,rfl,Below.refl _ _⟩
   ·cases ho
    have h6:S 6 = .pointer (some ⟨e0.heap.size,2,none⟩):=a0 6 (by kernel_rfl) (by decide)
    obtain⟨ag4,_,_⟩:=(l3.out.below a2 l3.out.lt).facts;refine ub rfl rfl fun KK HK=>?_
    clear a0 a1;simp only[nq1,nq2,nq3,nq4,nq5,nq6,nq7,Nat.zero_add,Nat.reduceAdd]at HK ⊢;generalize S 6=t6 at *;subst h6;go_wp2;exact HK.out _ _ ⟨_,rfl,rfl,Below.refl _ _⟩
   ·cases ho
    have h7:S 7 = .slice m2 m4 m3:=a0 7 (by kernel_rfl) (by decide)
    refine ub rfl rfl fun KK HK=>?_
    clear a0 a1;simp only[nq1,nq2,nq3,nq4,nq5,nq6,nq7,Nat.zero_add,Nat.reduceAdd]at HK ⊢;generalize S 7=t7 at *;subst h7;go_wp2_with fail
    have key:=(uo6 n) x D [.slice m2 m4 m3] d1 (O2.out.below (e4.out.trans (a2.mono e4.out.size))) Z0.out;rw[ue]at key;refine(key).mono ?_;rintro e xN⟨rfl,a3⟩;exact HK.out _ _ ⟨_,rfl,rfl,a3⟩
   ·cases ho
    have h3:S 3 = .string ⟨d0.toArray⟩:=a0 3 (by kernel_rfl) (by decide)
    have h5:S 5 = .string ⟨(par c7 a5).toArray⟩:=a0 5 (by kernel_rfl) (by decide)
    have h8:S 8 = .string ⟨d1.toArray⟩:=a0 8 (by kernel_rfl) (by decide)
    refine ub rfl rfl fun KK HK=>?_
    clear a0 a1;simp only[nq1,nq2,nq3,nq4,nq5,nq6,nq7,Nat.zero_add,Nat.reduceAdd]at HK ⊢;generalize S 3=t3 at *;subst h3;generalize S 5=t5 at *;subst h5;generalize S 8=t8 at *;subst h8;go_wp2;exact HK.out _ _ ⟨_,rfl,Strs.new x _ [d0,(par c7 a5),d1] _ rfl _ rfl (by decide),(Below.refl _ _).alloc (Nat.le_refl _) _⟩
   ·cases ho
    have h9:Strs x (S 9) 3 (fun i=>[d0,(par c7 a5),d1].getD i []):=a0 9 (by kernel_rfl) (by decide)
    refine ub rfl rfl fun KK HK=>?_
    clear a0 a1;simp only[nq1,nq2,nq3,nq4,nq5,nq6,nq7,Nat.zero_add,Nat.reduceAdd]at HK ⊢;go_wp2_with fail
    refine(ux _ _ 3 _ h9 (uag x6.out B3.out)).mono ?_;rintro e xN⟨rfl,a3⟩;exact HK.out _ _ ⟨_,rfl,rfl,a3⟩
   ·cases ho
    have f5:S 10 = .string ⟨(par (fun i=>[d0,(par c7 a5),d1].getD i []) 3).toArray⟩:=a0 10 (by kernel_rfl) (by decide)
    refine ub rfl rfl fun KK HK=>?_
    clear a0 a1;simp only[nq1,nq2,nq3,nq4,nq5,nq6,nq7,Nat.zero_add,Nat.reduceAdd]at HK ⊢;generalize S 10=b3 at *;subst f5;go_wp2;exact HK.out _ _ ⟨_,rfl,Strs.new1 x _ _,(Below.refl _ _).alloc (Nat.le_refl _) _⟩
   ·exact absurd a1 (by simp)
  intro S x a2 hF;have g0:S 0 = .slice z4 b4 z7:=hF 0 (by decide)
  have g1:S 1 = .pointer (some ⟨e0.heap.size,0,none⟩):=hF 1 (by decide)
  have g2:S 2 = .int .i64 m1:=hF 2 (by decide)
  have g3:S 3 = .string ⟨d0.toArray⟩:=hF 3 (by decide)
  have g4:S 4 = .slice z2 a5 z5:=hF 4 (by decide)
  have g5:S 5 = .string ⟨(par c7 a5).toArray⟩:=hF 5 (by decide)
  have g6:S 6 = .pointer (some ⟨e0.heap.size,2,none⟩):=hF 6 (by decide)
  have g7:S 7 = .slice m2 m4 m3:=hF 7 (by decide)
  have g8:S 8 = .string ⟨d1.toArray⟩:=hF 8 (by decide)
  have g9:Strs x (S 9) 3 (fun i=>[d0,(par c7 a5),d1].getD i []):=hF 9 (by decide)
  have k4:S 10 = .string ⟨(par (fun i=>[d0,(par c7 a5),d1].getD i []) 3).toArray⟩:=hF 10 (by decide)
  have f4:Strs x (S 11) 1 (fun _=>(par (fun i=>[d0,(par c7 a5),d1].getD i []) 3)):=hF 11 (by decide)
  clear hF;simp only[nm,Nat.reduceAdd,List.length_cons,List.length_nil,List.drop_succ_cons,List.drop_zero];generalize S 0=t0 at *;subst g0;generalize S 1=t1 at *;subst g1;generalize S 2=t2 at *;subst g2;generalize S 3=t3 at *;subst g3;generalize S 4=t4 at *;subst g4;generalize S 5=t5 at *;subst g5;generalize S 6=t6 at *;subst g6;generalize S 7=t7 at *;subst g7;generalize S 8=t8 at *;subst g8;generalize S 9=t9 at *;generalize S 10=b3 at *;subst k4;generalize S 11=t11 at *;obtain⟨ac6,f6⟩:∃y:World,y=x:=⟨_,rfl⟩;subst f6;have ad0:=hid (e4.out.trans (a2.mono e4.out.size));have ad7:=hid (z9.out.below a2 z9.out.lt);have ad8:=hid (l3.out.below a2 l3.out.lt);have R7:=hid (K0.out.below a2);have ae7:=hid (y1.out.below a2);obtain⟨b1,o1,c1,rfl,s0⟩:=Strs.one f4;go_wp2_with (at_builtin;refine uI ac6 rfl _ _ rfl w5 e2 b4 _ rfl R7.out b1 o1 c1 rfl (par (fun i=>[d0,(par c7 a5),d1].getD i []) 3) s0 (x6.out.symm) (by omega) ?_)
  intro g2 A1 w4 e5;have k3:=hid e5;clear e5;go_wp2;go_roundw
  case rel=>exact⟨b4+1,by omega,by go_num,k3⟩
  case measure=>simp[intOf];omega
 obtain rfl:b4=k8:=by omega
 obtain⟨ag5,_,_⟩:=x5.out.facts;obtain⟨ac1,e1,ab5,aj9,Y5,L4,M3⟩:=Q3.out.unlist;subst ab5;have N5:=hid L4;have Q9:=hid M3;have aj4:k9≤100000000:=Nat.le_trans (uN e1 k9) E1.out;unfold maxLen at Y5;clear L4 M3;go_wp2;have J6:=hid (TI.start e1 (Below.refl e0.heap.size e0));go_loopw [4,66] (fun ov iv wr=>∃(k:Nat),k≤k9∧iv = .int .i64 k∧Hid (TI e1 e0 ov k wr)) (fun _ iv _=>k9-(intOf iv).toNat)
 case atStart=>exact⟨0,by omega,rfl,J6⟩
 obtain⟨a7,ai9,rfl,A2⟩:=hrel;clear J6;obtain⟨b9,k7⟩:∃w:World,w=wr:=⟨_,rfl⟩;subst k7;obtain⟨z3,z6,rfl,_,_⟩:=A2.out.form;have B1:=A2.out.2;have f7:=hid (r4.out.trans (B1.mono r4.out.size));have x4:=hid (x5.out.below B1 x5.out.lt);have K1:=hid (A3.out.below B1);clear B1;by_cases a6:a7<k9
 ·obtain⟨f0,f2,k6,_,x0,s2⟩:=N5.out (by omega)
  subst k6;have M0:=Q9.out a7 a6;obtain⟨an5,m0⟩:∃u,ac1 a7=u:=⟨_,rfl⟩;rw[m0]at M0;have B5:Hid ((e1 a7).length≤MX):=Nat.le_trans (uc e1 a6) E1.out;have s4:Shape.sz (uan n)=6:=uel;obtain⟨_,C1,al1,_,d5,_,rfl,rfl,G4,al3,_,d6,_,rfl,rfl,G5,al4,_,d7,_,rfl,rfl,G6,rfl,rfl⟩:=M0;injection C1 with C1 _;obtain⟨n9,rfl⟩:=ug G4.ty;obtain⟨o3,o0,o6,o4,o2,o7,o5,rfl⟩:=uay G5.ty;obtain⟨o8,p0,o9,p1,p3,p2,rfl⟩:=uaj G6.ty;have x8:=hid C1;have Z4:Hid (d5.length≤MX):=Nat.le_trans (uc (fun i=>[d5,d6,d7].getD i []) (i:=0) (k:=3) (by decide)) (uag x8.out B5.out)
  have O6:=hid G4;clear G4;have Z5:Hid (d6.length≤MX):=Nat.le_trans (uc (fun i=>[d5,d6,d7].getD i []) (i:=1) (k:=3) (by decide)) (uag x8.out B5.out)
  have O7:=hid G5;clear G5;have Z6:Hid (d7.length≤MX):=Nat.le_trans (uc (fun i=>[d5,d6,d7].getD i []) (i:=2) (k:=3) (by decide)) (uag x8.out B5.out)
  have O8:=hid G6;clear G6;clear C1;have l8:b9.cell? ⟨f0,f2+a7*6,none⟩=some (.int .i64 n9):=by
   have h9:=(f7.out.cell (p:=⟨f0,f2+a7*Shape.sz (uan n)+0,none⟩) x0).trans (s2 a7 a6 0 (.int .i64 n9) (by rw[m0];rfl))
   rw[s4]at h9;simpa using h9
  have r8:b9.cell? ⟨f0,f2+a7*6+1,none⟩=some (.bool o3):=by
   have h9:=(f7.out.cell (p:=⟨f0,f2+a7*Shape.sz (uan n)+1,none⟩) x0).trans (s2 a7 a6 1 (.bool o3) (by rw[m0];rfl))
   rw[s4]at h9;simpa using h9
  have r9:b9.cell? ⟨f0,f2+a7*6+2,none⟩=some (.slice o0 o6 o4):=by
   have h9:=(f7.out.cell (p:=⟨f0,f2+a7*Shape.sz (uan n)+2,none⟩) x0).trans (s2 a7 a6 2 (.slice o0 o6 o4) (by rw[m0];rfl))
   rw[s4]at h9;simpa using h9
  have y7:b9.cell? ⟨f0,f2+a7*6+3,none⟩=some (.slice o2 o7 o5):=by
   have h9:=(f7.out.cell (p:=⟨f0,f2+a7*Shape.sz (uan n)+3,none⟩) x0).trans (s2 a7 a6 3 (.slice o2 o7 o5) (by rw[m0];rfl))
   rw[s4]at h9;simpa using h9
  have y8:b9.cell? ⟨f0,f2+a7*6+4,none⟩=some (.slice o8 p0 o9):=by
   have h9:=(f7.out.cell (p:=⟨f0,f2+a7*Shape.sz (uan n)+4,none⟩) x0).trans (s2 a7 a6 4 (.slice o8 p0 o9) (by rw[m0];rfl))
   rw[s4]at h9;simpa using h9
  have y9:b9.cell? ⟨f0,f2+a7*6+5,none⟩=some (.slice p1 p3 p2):=by
   have h9:=(f7.out.cell (p:=⟨f0,f2+a7*Shape.sz (uan n)+5,none⟩) x0).trans (s2 a7 a6 5 (.slice p1 p3 p2) (by rw[m0];rfl))
   rw[s4]at h9;simpa using h9
  clear s2 m0 s4;go_upto_region 16 with(fail)
  obtain⟨K6,A6⟩:∃W,W=b9.alloc (.cells #[.int .i64 n9,.bool o3,.slice o0 o6 o4,.slice o2 o7 o5,.slice o8 p0 o9,.slice p1 p3 p2] 82):=⟨_,rfl⟩;have y5:Below b9.heap.size b9 K6:=by rw[A6];exact(Below.refl _ _).alloc (Nat.le_refl _) _
  have l2:=hid (f7.out.trans (y5.mono f7.out.size));have I8:=hid (x4.out.below y5 x4.out.lt);have R8:=hid (K1.out.below y5);have R9:=hid (A2.out.below y5);have l5:Hid (Bk K6 b9.heap.size 82 #[.int .i64 n9,.bool o3,.slice o0 o6 o4,.slice o2 o7 o5,.slice o8 p0 o9,.slice p1 p3 p2]):=by rw[A6];exact Bk.new _ _ _
  rw[←A6];clear A6 y5;clear l8 r8 r9 y7 y8 y9;go_upto_region 16 with(fail)
  refine uv (by kernel_rfl) (by kernel_rfl) [70,71,72,73,74,75,76,77,78,79,80,81,82] 40 (by kernel_rfl) (fun io v x=>match io with
   | 0=>v = .slice z3 a7 z6
   | 1=>v = .pointer (some ⟨b9.heap.size,0,none⟩)
   | 2=>v = .int .i64 n9
   | 3=>v = .string ⟨d5.toArray⟩
   | 4=>v = .pointer (some ⟨b9.heap.size,1,none⟩)
   | 5=>v = .agg #[.bool o3,.slice o0 o6 o4,.slice o2 o7 o5]
   | 6=>v = .string ⟨d6.toArray⟩
   | 7=>v = .pointer (some ⟨b9.heap.size,4,none⟩)
   | 8=>v = .agg #[.slice o8 p0 o9,.slice p1 p3 p2]
   | 9=>v = .string ⟨d7.toArray⟩
   | 10=>Strs x v 3 (fun i=>[d5,d6,d7].getD i [])
   | 11=>v = .string ⟨(par (fun i=>[d5,d6,d7].getD i []) 3).toArray⟩
   | _=>Strs x v 1 (fun _=>(par (fun i=>[d5,d6,d7].getD i []) 3))) ?_ ?_ ?_
  ·intro io v x x' a1 h hb
   rcases io with _|_|_|_|_|_|_|_|_|_|_|_|io
   ·exact h
   ·exact h
   ·exact h
   ·exact h
   ·exact h
   ·exact h
   ·exact h
   ·exact h
   ·exact h
   ·exact h
   ·exact Strs.below h hb
   ·exact h
   ·exact Strs.below h hb
  ·intro io oo S x ho a1 a2 a0
   rcases io with _|_|_|_|_|_|_|_|_|_|_|_|_|io
   ·cases ho
    refine ub rfl rfl fun KK HK=>?_
    clear a0 a1;simp only[nq1,nq2,nq3,nq4,nq5,nq6,nq7,Nat.zero_add,Nat.reduceAdd]at HK ⊢;go_wp2;exact HK.out _ _ ⟨_,rfl,rfl,Below.refl _ _⟩
   ·cases ho
    refine ub rfl rfl fun KK HK=>?_
    clear a0 a1;simp only[nq1,nq2,nq3,nq4,nq5,nq6,nq7,Nat.zero_add,Nat.reduceAdd]at HK ⊢;go_wp2;exact HK.out _ _ ⟨_,rfl,rfl,Below.refl _ _⟩
   ·cases ho
    have h1:S 1 = .pointer (some ⟨b9.heap.size,0,none⟩):=a0 1 (by kernel_rfl) (by decide)
    obtain⟨ag6,_,_⟩:=(l5.out.below a2 l5.out.lt).facts;refine ub rfl rfl fun KK HK=>?_
    clear a0 a1;simp only[nq1,nq2,nq3,nq4,nq5,nq6,nq7,Nat.zero_add,Nat.reduceAdd]at HK ⊢;generalize S 1=t1 at *;subst h1;go_wp2;exact HK.out _ _ ⟨_,rfl,rfl,Below.refl _ _⟩
   ·cases ho
    have h2:S 2 = .int .i64 n9:=a0 2 (by kernel_rfl) (by decide)
    refine ub rfl rfl fun KK HK=>?_
    clear a0 a1;simp only[nq1,nq2,nq3,nq4,nq5,nq6,nq7,Nat.zero_add,Nat.reduceAdd]at HK ⊢;generalize S 2=t2 at *;subst h2;go_wp2_with fail
    have key:=udo x D [.int .i64 n9] d5 (O6.out.below (l2.out.trans (a2.mono l2.out.size))) Z4.out;rw[uo]at key;refine(key).mono ?_;rintro e xN⟨rfl,a3⟩;exact HK.out _ _ ⟨_,rfl,rfl,a3⟩
   ·cases ho
    refine ub rfl rfl fun KK HK=>?_
    clear a0 a1;simp only[nq1,nq2,nq3,nq4,nq5,nq6,nq7,Nat.zero_add,Nat.reduceAdd]at HK ⊢;go_wp2;exact HK.out _ _ ⟨_,rfl,rfl,Below.refl _ _⟩
   ·cases ho
    have h4:S 4 = .pointer (some ⟨b9.heap.size,1,none⟩):=a0 4 (by kernel_rfl) (by decide)
    obtain⟨ag7,_,_⟩:=(l5.out.below a2 l5.out.lt).facts;refine ub rfl rfl fun KK HK=>?_
    clear a0 a1;simp only[nq1,nq2,nq3,nq4,nq5,nq6,nq7,Nat.zero_add,Nat.reduceAdd]at HK ⊢;generalize S 4=t4 at *;subst h4;go_wp2;exact HK.out _ _ ⟨_,rfl,rfl,Below.refl _ _⟩
   ·cases ho
    have h5:S 5 = .agg #[.bool o3,.slice o0 o6 o4,.slice o2 o7 o5]:=a0 5 (by kernel_rfl) (by decide)
    refine ub rfl rfl fun KK HK=>?_
    clear a0 a1;simp only[nq1,nq2,nq3,nq4,nq5,nq6,nq7,Nat.zero_add,Nat.reduceAdd]at HK ⊢;generalize S 5=t5 at *;subst h5;go_wp2_with fail
    have key:=uui x D [.bool o3,.slice o0 o6 o4,.slice o2 o7 o5] d6 (O7.out.below (l2.out.trans (a2.mono l2.out.size))) Z5.out;rw[uaz]at key;refine(key).mono ?_;rintro e xN⟨rfl,a3⟩;exact HK.out _ _ ⟨_,rfl,rfl,a3⟩
   ·cases ho
    refine ub rfl rfl fun KK HK=>?_
    clear a0 a1;simp only[nq1,nq2,nq3,nq4,nq5,nq6,nq7,Nat.zero_add,Nat.reduceAdd]at HK ⊢;go_wp2;exact HK.out _ _ ⟨_,rfl,rfl,Below.refl _ _⟩
   ·cases ho
    have h7:S 7 = .pointer (some ⟨b9.heap.size,4,none⟩):=a0 7 (by kernel_rfl) (by decide)
    obtain⟨ag8,_,_⟩:=(l5.out.below a2 l5.out.lt).facts;refine ub rfl rfl fun KK HK=>?_
    clear a0 a1;simp only[nq1,nq2,nq3,nq4,nq5,nq6,nq7,Nat.zero_add,Nat.reduceAdd]at HK ⊢;generalize S 7=t7 at *;subst h7;go_wp2;exact HK.out _ _ ⟨_,rfl,rfl,Below.refl _ _⟩
   ·cases ho
    have h8:S 8 = .agg #[.slice o8 p0 o9,.slice p1 p3 p2]:=a0 8 (by kernel_rfl) (by decide)
    refine ub rfl rfl fun KK HK=>?_
    clear a0 a1;simp only[nq1,nq2,nq3,nq4,nq5,nq6,nq7,Nat.zero_add,Nat.reduceAdd]at HK ⊢;generalize S 8=t8 at *;subst h8;go_wp2_with fail
    have key:=(uo5 n) x D [.slice o8 p0 o9,.slice p1 p3 p2] d7 (O8.out.below (l2.out.trans (a2.mono l2.out.size))) Z6.out;rw[uau]at key;refine(key).mono ?_;rintro e xN⟨rfl,a3⟩;exact HK.out _ _ ⟨_,rfl,rfl,a3⟩
   ·cases ho
    have h3:S 3 = .string ⟨d5.toArray⟩:=a0 3 (by kernel_rfl) (by decide)
    have h6:S 6 = .string ⟨d6.toArray⟩:=a0 6 (by kernel_rfl) (by decide)
    have h9:S 9 = .string ⟨d7.toArray⟩:=a0 9 (by kernel_rfl) (by decide)
    refine ub rfl rfl fun KK HK=>?_
    clear a0 a1;simp only[nq1,nq2,nq3,nq4,nq5,nq6,nq7,Nat.zero_add,Nat.reduceAdd]at HK ⊢;generalize S 3=t3 at *;subst h3;generalize S 6=t6 at *;subst h6;generalize S 9=t9 at *;subst h9;go_wp2;exact HK.out _ _ ⟨_,rfl,Strs.new x _ [d5,d6,d7] _ rfl _ rfl (by decide),(Below.refl _ _).alloc (Nat.le_refl _) _⟩
   ·cases ho
    have f5:Strs x (S 10) 3 (fun i=>[d5,d6,d7].getD i []):=a0 10 (by kernel_rfl) (by decide)
    refine ub rfl rfl fun KK HK=>?_
    clear a0 a1;simp only[nq1,nq2,nq3,nq4,nq5,nq6,nq7,Nat.zero_add,Nat.reduceAdd]at HK ⊢;go_wp2_with fail
    refine(ux _ _ 3 _ f5 (uag x8.out B5.out)).mono ?_;rintro e xN⟨rfl,a3⟩;exact HK.out _ _ ⟨_,rfl,rfl,a3⟩
   ·cases ho
    have k5:S 11 = .string ⟨(par (fun i=>[d5,d6,d7].getD i []) 3).toArray⟩:=a0 11 (by kernel_rfl) (by decide)
    refine ub rfl rfl fun KK HK=>?_
    clear a0 a1;simp only[nq1,nq2,nq3,nq4,nq5,nq6,nq7,Nat.zero_add,Nat.reduceAdd]at HK ⊢;generalize S 11=t11 at *;subst k5;go_wp2;exact HK.out _ _ ⟨_,rfl,Strs.new1 x _ _,(Below.refl _ _).alloc (Nat.le_refl _) _⟩
   ·exact absurd a1 (by simp)
  intro S x a2 hF;have g0:S 0 = .slice z3 a7 z6:=hF 0 (by decide)
  have g1:S 1 = .pointer (some ⟨b9.heap.size,0,none⟩):=hF 1 (by decide)
  have g2:S 2 = .int .i64 n9:=hF 2 (by decide)
  have g3:S 3 = .string ⟨d5.toArray⟩:=hF 3 (by decide)
  have g4:S 4 = .pointer (some ⟨b9.heap.size,1,none⟩):=hF 4 (by decide)
  have g5:S 5 = .agg #[.bool o3,.slice o0 o6 o4,.slice o2 o7 o5]:=hF 5 (by decide)
  have g6:S 6 = .string ⟨d6.toArray⟩:=hF 6 (by decide)
  have g7:S 7 = .pointer (some ⟨b9.heap.size,4,none⟩):=hF 7 (by decide)
  have g8:S 8 = .agg #[.slice o8 p0 o9,.slice p1 p3 p2]:=hF 8 (by decide)
  have g9:S 9 = .string ⟨d7.toArray⟩:=hF 9 (by decide)
  have k4:Strs x (S 10) 3 (fun i=>[d5,d6,d7].getD i []):=hF 10 (by decide)
  have f4:S 11 = .string ⟨(par (fun i=>[d5,d6,d7].getD i []) 3).toArray⟩:=hF 11 (by decide)
  have l6:Strs x (S 12) 1 (fun _=>(par (fun i=>[d5,d6,d7].getD i []) 3)):=hF 12 (by decide)
  clear hF;simp only[nm,Nat.reduceAdd,List.length_cons,List.length_nil,List.drop_succ_cons,List.drop_zero];generalize S 0=t0 at *;subst g0;generalize S 1=t1 at *;subst g1;generalize S 2=t2 at *;subst g2;generalize S 3=t3 at *;subst g3;generalize S 4=t4 at *;subst g4;generalize S 5=t5 at *;subst g5;generalize S 6=t6 at *;subst g6;generalize S 7=t7 at *;subst g7;generalize S 8=t8 at *;subst g8;generalize S 9=t9 at *;subst g9;generalize S 10=b3 at *;generalize S 11=t11 at *;subst f4;generalize S 12=t12 at *;obtain⟨ac7,f6⟩:∃y:World,y=x:=⟨_,rfl⟩;subst f6;have ad1:=hid (l2.out.trans (a2.mono l2.out.size));have ad9:=hid (I8.out.below a2 I8.out.lt);have ae0:=hid (l5.out.below a2 l5.out.lt);have ae8:=hid (R8.out.below a2);have S0:=hid (R9.out.below a2);obtain⟨b1,o1,c1,rfl,s0⟩:=Strs.one l6;go_wp2_with (at_builtin;refine uI ac7 rfl _ _ rfl e0 e1 a7 _ rfl S0.out b1 o1 c1 rfl (par (fun i=>[d5,d6,d7].getD i []) 3) s0 (x8.out.symm) (by omega) ?_)
  intro g2 A1 w4 e5;have k3:=hid e5;clear e5;go_wp2;go_roundw
  case rel=>exact⟨a7+1,by omega,by go_num,k3⟩
  case measure=>simp[intOf];omega
 obtain rfl:a7=k9:=by omega
 obtain⟨ag9,_,_⟩:=x4.out.facts;obtain⟨ac2,d9,ab6,ak0,Y6,L5,M4⟩:=Q7.out.unlist;subst ab6;have N6:=hid L5;have R0:=hid M4;have aj5:l0≤100000000:=Nat.le_trans (uN d9 l0) E2.out;unfold maxLen at Y6;clear L5 M4;go_wp2;have J7:=hid (TI.start d9 (Below.refl b9.heap.size b9));go_loopw [5,88] (fun ov iv wr=>∃(k:Nat),k≤l0∧iv = .int .i64 k∧Hid (TI d9 b9 ov k wr)) (fun _ iv _=>l0-(intOf iv).toNat)
 case atStart=>exact⟨0,by omega,rfl,J7⟩
 obtain⟨b8,aj0,rfl,y2⟩:=hrel;clear J7;obtain⟨z8,k7⟩:∃w:World,w=wr:=⟨_,rfl⟩;subst k7;obtain⟨E6,E7,rfl,_,_⟩:=y2.out.form;have y6:=y2.out.2;have c0:=hid (f7.out.trans (y6.mono f7.out.size));have c2:=hid (x4.out.below y6 x4.out.lt);have D0:=hid (K1.out.below y6);have D1:=hid (A2.out.below y6);clear y6;by_cases a6:b8<l0
 ·obtain⟨K8,N0,k6,_,X5,L2⟩:=N6.out (by omega)
  subst k6;have B7:=R0.out b8 a6;obtain⟨an6,E5⟩:∃u,ac2 b8=u:=⟨_,rfl⟩;rw[E5]at B7;have B6:Hid ((d9 b8).length≤MX):=Nat.le_trans (uc d9 a6) E2.out;have M7:Shape.sz (.list (uax n))=1:=rfl;obtain⟨N1,p4,N2,rfl⟩:=ua B7.ty;have J4:=hid B7;clear B7;obtain⟨an2,C9⟩:∃t,d9 b8=t:=⟨_,rfl⟩;rw[C9]at J4 B6;have N9:=hid C9;clear C9;have l8:z8.cell? ⟨K8,N0+b8,none⟩=some (.slice N1 p4 N2):=by
   have h9:=(c0.out.cell (p:=⟨K8,N0+b8*Shape.sz (.list (uax n))+0,none⟩) X5).trans (L2 b8 a6 0 (.slice N1 p4 N2) (by rw[E5];rfl))
   rw[M7]at h9;simpa using h9
  clear L2 E5 M7;obtain⟨ac3,f3,ab7,ak1,Y7,L6,M5⟩:=J4.out.unlist;subst ab7;have N7:=hid L6;have R1:=hid M5;have aj6:p4≤100000000:=Nat.le_trans (uN f3 p4) B6.out;unfold maxLen at Y7;clear L6 M5;go_wp2;have J8:=hid (TI.start f3 (Below.refl z8.heap.size z8));go_loopw [15,94] (fun ov iv wr=>∃(k:Nat),k≤p4∧iv = .int .i64 k∧Hid (TI f3 z8 ov k wr)) (fun _ iv _=>p4-(intOf iv).toNat)
  case atStart=>exact⟨0,by omega,rfl,J8⟩
  obtain⟨a4,aj1,rfl,y3⟩:=hrel;clear J8;obtain⟨b5,k7⟩:∃w:World,w=wr:=⟨_,rfl⟩;subst k7;obtain⟨M8,M9,rfl,_,_⟩:=y3.out.form;have w8:=y3.out.2;have d8:=hid (c0.out.trans (w8.mono c0.out.size));have A0:=hid (c2.out.below w8 c2.out.lt);have K2:=hid (D0.out.below w8);have K3:=hid (D1.out.below w8);have K4:=hid (y2.out.below w8);clear w8;by_cases a6:a4<p4
  ·obtain⟨b6,b7,k6,_,e8,e6⟩:=N7.out (by omega)
   subst k6;have M1:=R1.out a4 a6;obtain⟨an7,e3⟩:∃u,ac3 a4=u:=⟨_,rfl⟩;rw[e3]at M1;have x1:Hid ((f3 a4).length≤MX):=Nat.le_trans (uc f3 a6) B6.out;have e7:Shape.sz (uax n)=13:=uci;obtain⟨_,C2,am3,_,an3,_,rfl,rfl,ab9,am4,_,c3,_,rfl,rfl,G7,am5,_,c4,_,rfl,rfl,G8,am6,_,c5,_,rfl,rfl,G9,am7,_,c6,_,rfl,rfl,H0,rfl,rfl⟩:=M1;injection C2 with C2 _;obtain⟨_,E4,am8,_,a8,_,rfl,rfl,H1,am9,_,a9,_,rfl,rfl,H2,an0,_,b0,_,rfl,rfl,H3,an1,_,b2,_,rfl,rfl,H4,rfl,rfl⟩:=ab9;injection E4 with E4 _;obtain⟨j3,rfl⟩:=ug H1.ty;obtain⟨j4,j5,j7,j6,rfl⟩:=ua2 H2.ty;obtain⟨j8,j9,k1,k0,rfl⟩:=ua2 H3.ty;obtain⟨k2,rfl⟩:=ug H4.ty;subst E4;obtain⟨p7,p5,q0,p8,p6,q1,p9,rfl⟩:=uay G7.ty;obtain⟨q2,q4,q3,q5,q7,q6,rfl⟩:=uaj G8.ty;obtain⟨q8,r0,q9,rfl⟩:=ua G9.ty;obtain⟨r1,r3,r2,rfl⟩:=ua H0.ty;have r5:=hid C2;have z0:Hid ((par (fun i=>[a8,a9,b0,b2].getD i []) 4).length≤MX):=Nat.le_trans (uc (fun i=>[(par (fun i=>[a8,a9,b0,b2].getD i []) 4),c3,c4,c5,c6].getD i []) (i:=0) (k:=5) (by decide)) (uag r5.out x1.out)
   have Z7:Hid (a8.length≤MX):=Nat.le_trans (uc (fun i=>[a8,a9,b0,b2].getD i []) (i:=0) (k:=4) (by decide)) (z0.out)
   have O9:=hid H1;clear H1;have Z8:Hid (a9.length≤MX):=Nat.le_trans (uc (fun i=>[a8,a9,b0,b2].getD i []) (i:=1) (k:=4) (by decide)) (z0.out)
   have P0:=hid H2;clear H2;have Z9:Hid (b0.length≤MX):=Nat.le_trans (uc (fun i=>[a8,a9,b0,b2].getD i []) (i:=2) (k:=4) (by decide)) (z0.out)
   have P1:=hid H3;clear H3;have aa0:Hid (b2.length≤MX):=Nat.le_trans (uc (fun i=>[a8,a9,b0,b2].getD i []) (i:=3) (k:=4) (by decide)) (z0.out)
   have P2:=hid H4;clear H4;have aa1:Hid (c3.length≤MX):=Nat.le_trans (uc (fun i=>[(par (fun i=>[a8,a9,b0,b2].getD i []) 4),c3,c4,c5,c6].getD i []) (i:=1) (k:=5) (by decide)) (uag r5.out x1.out)
   have P3:=hid G7;clear G7;have aa2:Hid (c4.length≤MX):=Nat.le_trans (uc (fun i=>[(par (fun i=>[a8,a9,b0,b2].getD i []) 4),c3,c4,c5,c6].getD i []) (i:=2) (k:=5) (by decide)) (uag r5.out x1.out)
   have P4:=hid G8;clear G8;have aa3:Hid (c5.length≤MX):=Nat.le_trans (uc (fun i=>[(par (fun i=>[a8,a9,b0,b2].getD i []) 4),c3,c4,c5,c6].getD i []) (i:=3) (k:=5) (by decide)) (uag r5.out x1.out)
   have P5:=hid G9;clear G9;have aa4:Hid (c6.length≤MX):=Nat.le_trans (uc (fun i=>[(par (fun i=>[a8,a9,b0,b2].getD i []) 4),c3,c4,c5,c6].getD i []) (i:=4) (k:=5) (by decide)) (uag r5.out x1.out)
   have P6:=hid H0;clear H0;clear C2;have l8:b5.cell? ⟨b6,b7+a4*13,none⟩=some (.int .i64 j3):=by
    have h9:=(d8.out.cell (p:=⟨b6,b7+a4*Shape.sz (uax n)+0,none⟩) e8).trans (e6 a4 a6 0 (.int .i64 j3) (by rw[e3];rfl))
    rw[e7]at h9;simpa using h9
   have r8:b5.cell? ⟨b6,b7+a4*13+1,none⟩=some (.int .i64 j4):=by
    have h9:=(d8.out.cell (p:=⟨b6,b7+a4*Shape.sz (uax n)+1,none⟩) e8).trans (e6 a4 a6 1 (.int .i64 j4) (by rw[e3];rfl))
    rw[e7]at h9;simpa using h9
   have r9:b5.cell? ⟨b6,b7+a4*13+2,none⟩=some (.slice j5 j7 j6):=by
    have h9:=(d8.out.cell (p:=⟨b6,b7+a4*Shape.sz (uax n)+2,none⟩) e8).trans (e6 a4 a6 2 (.slice j5 j7 j6) (by rw[e3];rfl))
    rw[e7]at h9;simpa using h9
   have y7:b5.cell? ⟨b6,b7+a4*13+3,none⟩=some (.int .i64 j8):=by
    have h9:=(d8.out.cell (p:=⟨b6,b7+a4*Shape.sz (uax n)+3,none⟩) e8).trans (e6 a4 a6 3 (.int .i64 j8) (by rw[e3];rfl))
    rw[e7]at h9;simpa using h9
   have y8:b5.cell? ⟨b6,b7+a4*13+4,none⟩=some (.slice j9 k1 k0):=by
    have h9:=(d8.out.cell (p:=⟨b6,b7+a4*Shape.sz (uax n)+4,none⟩) e8).trans (e6 a4 a6 4 (.slice j9 k1 k0) (by rw[e3];rfl))
    rw[e7]at h9;simpa using h9
   have y9:b5.cell? ⟨b6,b7+a4*13+5,none⟩=some (.int .i64 k2):=by
    have h9:=(d8.out.cell (p:=⟨b6,b7+a4*Shape.sz (uax n)+5,none⟩) e8).trans (e6 a4 a6 5 (.int .i64 k2) (by rw[e3];rfl))
    rw[e7]at h9;simpa using h9
   have X9:b5.cell? ⟨b6,b7+a4*13+6,none⟩=some (.bool p7):=by
    have h9:=(d8.out.cell (p:=⟨b6,b7+a4*Shape.sz (uax n)+6,none⟩) e8).trans (e6 a4 a6 6 (.bool p7) (by rw[e3];rfl))
    rw[e7]at h9;simpa using h9
   have Y0:b5.cell? ⟨b6,b7+a4*13+7,none⟩=some (.slice p5 q0 p8):=by
    have h9:=(d8.out.cell (p:=⟨b6,b7+a4*Shape.sz (uax n)+7,none⟩) e8).trans (e6 a4 a6 7 (.slice p5 q0 p8) (by rw[e3];rfl))
    rw[e7]at h9;simpa using h9
   have Y1:b5.cell? ⟨b6,b7+a4*13+8,none⟩=some (.slice p6 q1 p9):=by
    have h9:=(d8.out.cell (p:=⟨b6,b7+a4*Shape.sz (uax n)+8,none⟩) e8).trans (e6 a4 a6 8 (.slice p6 q1 p9) (by rw[e3];rfl))
    rw[e7]at h9;simpa using h9
   have Y2:b5.cell? ⟨b6,b7+a4*13+9,none⟩=some (.slice q2 q4 q3):=by
    have h9:=(d8.out.cell (p:=⟨b6,b7+a4*Shape.sz (uax n)+9,none⟩) e8).trans (e6 a4 a6 9 (.slice q2 q4 q3) (by rw[e3];rfl))
    rw[e7]at h9;simpa using h9
   have X6:b5.cell? ⟨b6,b7+a4*13+10,none⟩=some (.slice q5 q7 q6):=by
    have h9:=(d8.out.cell (p:=⟨b6,b7+a4*Shape.sz (uax n)+10,none⟩) e8).trans (e6 a4 a6 10 (.slice q5 q7 q6) (by rw[e3];rfl))
    rw[e7]at h9;simpa using h9
   have X7:b5.cell? ⟨b6,b7+a4*13+11,none⟩=some (.slice q8 r0 q9):=by
    have h9:=(d8.out.cell (p:=⟨b6,b7+a4*Shape.sz (uax n)+11,none⟩) e8).trans (e6 a4 a6 11 (.slice q8 r0 q9) (by rw[e3];rfl))
    rw[e7]at h9;simpa using h9
   have X8:b5.cell? ⟨b6,b7+a4*13+12,none⟩=some (.slice r1 r3 r2):=by
    have h9:=(d8.out.cell (p:=⟨b6,b7+a4*Shape.sz (uax n)+12,none⟩) e8).trans (e6 a4 a6 12 (.slice r1 r3 r2) (by rw[e3];rfl))
    rw[e7]at h9;simpa using h9
   clear e6 e3 e7;go_upto_region 25 with(fail)
   obtain⟨c9,A7⟩:∃W,W=b5.alloc (.cells #[.int .i64 j3,.int .i64 j4,.slice j5 j7 j6,.int .i64 j8,.slice j9 k1 k0,.int .i64 k2,.bool p7,.slice p5 q0 p8,.slice p6 q1 p9,.slice q2 q4 q3,.slice q5 q7 q6,.slice q8 r0 q9,.slice r1 r3 r2] 154):=⟨_,rfl⟩;have r6:Below b5.heap.size b5 c9:=by rw[A7];exact(Below.refl _ _).alloc (Nat.le_refl _) _
   have I3:=hid (d8.out.trans (r6.mono d8.out.size));have I9:=hid (A0.out.below r6 A0.out.lt);have S1:=hid (K2.out.below r6);have S2:=hid (K3.out.below r6);have S3:=hid (K4.out.below r6);have S4:=hid (y3.out.below r6);have C7:Hid (Bk c9 b5.heap.size 154 #[.int .i64 j3,.int .i64 j4,.slice j5 j7 j6,.int .i64 j8,.slice j9 k1 k0,.int .i64 k2,.bool p7,.slice p5 q0 p8,.slice p6 q1 p9,.slice q2 q4 q3,.slice q5 q7 q6,.slice q8 r0 q9,.slice r1 r3 r2]):=by rw[A7];exact Bk.new _ _ _
   rw[←A7];clear A7 r6;clear l8 r8 r9 y7 y8 y9 X9 Y0 Y1 Y2 X6 X7 X8;obtain⟨ah0,_,_⟩:=C7.out.facts;go_upto_region 26 with(fail)
   obtain⟨K7,A8⟩:∃W,W=c9.alloc (.cells #[.int .i64 j3,.int .i64 j4,.slice j5 j7 j6,.int .i64 j8,.slice j9 k1 k0,.int .i64 k2] 152):=⟨_,rfl⟩;have l7:Below c9.heap.size c9 K7:=by rw[A8];exact(Below.refl _ _).alloc (Nat.le_refl _) _
   have f8:=hid (I3.out.trans (l7.mono I3.out.size));have J0:=hid (I9.out.below l7 I9.out.lt);have J1:=hid (C7.out.below l7 C7.out.lt);have S5:=hid (S1.out.below l7);have S6:=hid (S2.out.below l7);have S7:=hid (S3.out.below l7);have S8:=hid (S4.out.below l7);have j0:Hid (Bk K7 c9.heap.size 152 #[.int .i64 j3,.int .i64 j4,.slice j5 j7 j6,.int .i64 j8,.slice j9 k1 k0,.int .i64 k2]):=by rw[A8];exact Bk.new _ _ _
   rw[←A8];clear A8 l7;refine uv (by kernel_rfl) (by kernel_rfl) [100,101,102,103,104,105,106,107,108,109,110,111,112,113] 40 (by kernel_rfl) (fun io v x=>match io with
    | 0=>v = .pointer (some ⟨c9.heap.size,0,none⟩)
    | 1=>v = .int .i64 j3
    | 2=>v = .string ⟨a8.toArray⟩
    | 3=>v = .pointer (some ⟨c9.heap.size,1,none⟩)
    | 4=>v = .agg #[.int .i64 j4,.slice j5 j7 j6]
    | 5=>v = .string ⟨a9.toArray⟩
    | 6=>v = .pointer (some ⟨c9.heap.size,3,none⟩)
    | 7=>v = .agg #[.int .i64 j8,.slice j9 k1 k0]
    | 8=>v = .string ⟨b0.toArray⟩
    | 9=>v = .pointer (some ⟨c9.heap.size,5,none⟩)
    | 10=>v = .int .i64 k2
    | 11=>v = .string ⟨b2.toArray⟩
    | 12=>Strs x v 4 (fun i=>[a8,a9,b0,b2].getD i [])
    | _=>v = .string ⟨(par (fun i=>[a8,a9,b0,b2].getD i []) 4).toArray⟩) ?_ ?_ ?_
   ·intro io v x x' a1 h hb
    rcases io with _|_|_|_|_|_|_|_|_|_|_|_|_|io
    ·exact h
    ·exact h
    ·exact h
    ·exact h
    ·exact h
    ·exact h
    ·exact h
    ·exact h
    ·exact h
    ·exact h
    ·exact h
    ·exact h
    ·exact Strs.below h hb
    ·exact h
   ·intro io oo S x ho a1 a2 a0
    rcases io with _|_|_|_|_|_|_|_|_|_|_|_|_|_|io
    ·cases ho
     refine ub rfl rfl fun KK HK=>?_
     clear a0 a1;simp only[nq1,nq2,nq3,nq4,nq5,nq6,nq7,Nat.zero_add,Nat.reduceAdd]at HK ⊢;go_wp2;exact HK.out _ _ ⟨_,rfl,rfl,Below.refl _ _⟩
    ·cases ho
     have h0:S 0 = .pointer (some ⟨c9.heap.size,0,none⟩):=a0 0 (by kernel_rfl) (by decide)
     obtain⟨ah1,_,_⟩:=(j0.out.below a2 j0.out.lt).facts;refine ub rfl rfl fun KK HK=>?_
     clear a0 a1;simp only[nq1,nq2,nq3,nq4,nq5,nq6,nq7,Nat.zero_add,Nat.reduceAdd]at HK ⊢;generalize S 0=t0 at *;subst h0;go_wp2;exact HK.out _ _ ⟨_,rfl,rfl,Below.refl _ _⟩
    ·cases ho
     have h1:S 1 = .int .i64 j3:=a0 1 (by kernel_rfl) (by decide)
     refine ub rfl rfl fun KK HK=>?_
     clear a0 a1;simp only[nq1,nq2,nq3,nq4,nq5,nq6,nq7,Nat.zero_add,Nat.reduceAdd]at HK ⊢;generalize S 1=t1 at *;subst h1;go_wp2_with fail
     have key:=udo x D [.int .i64 j3] a8 (O9.out.below (f8.out.trans (a2.mono f8.out.size))) Z7.out;rw[uo]at key;refine(key).mono ?_;rintro e xN⟨rfl,a3⟩;exact HK.out _ _ ⟨_,rfl,rfl,a3⟩
    ·cases ho
     refine ub rfl rfl fun KK HK=>?_
     clear a0 a1;simp only[nq1,nq2,nq3,nq4,nq5,nq6,nq7,Nat.zero_add,Nat.reduceAdd]at HK ⊢;go_wp2;exact HK.out _ _ ⟨_,rfl,rfl,Below.refl _ _⟩
    ·cases ho
     have h3:S 3 = .pointer (some ⟨c9.heap.size,1,none⟩):=a0 3 (by kernel_rfl) (by decide)
     obtain⟨ah2,_,_⟩:=(j0.out.below a2 j0.out.lt).facts;refine ub rfl rfl fun KK HK=>?_
     clear a0 a1;simp only[nq1,nq2,nq3,nq4,nq5,nq6,nq7,Nat.zero_add,Nat.reduceAdd]at HK ⊢;generalize S 3=t3 at *;subst h3;go_wp2;exact HK.out _ _ ⟨_,rfl,rfl,Below.refl _ _⟩
    ·cases ho
     have h4:S 4 = .agg #[.int .i64 j4,.slice j5 j7 j6]:=a0 4 (by kernel_rfl) (by decide)
     refine ub rfl rfl fun KK HK=>?_
     clear a0 a1;simp only[nq1,nq2,nq3,nq4,nq5,nq6,nq7,Nat.zero_add,Nat.reduceAdd]at HK ⊢;generalize S 4=t4 at *;subst h4;go_wp2_with fail
     have key:=uwz x D [.int .i64 j4,.slice j5 j7 j6] a9 (P0.out.below (f8.out.trans (a2.mono f8.out.size))) Z8.out;rw[ubg]at key;refine(key).mono ?_;rintro e xN⟨rfl,a3⟩;exact HK.out _ _ ⟨_,rfl,rfl,a3⟩
    ·cases ho
     refine ub rfl rfl fun KK HK=>?_
     clear a0 a1;simp only[nq1,nq2,nq3,nq4,nq5,nq6,nq7,Nat.zero_add,Nat.reduceAdd]at HK ⊢;go_wp2;exact HK.out _ _ ⟨_,rfl,rfl,Below.refl _ _⟩
    ·cases ho
     have h6:S 6 = .pointer (some ⟨c9.heap.size,3,none⟩):=a0 6 (by kernel_rfl) (by decide)
     obtain⟨ah3,_,_⟩:=(j0.out.below a2 j0.out.lt).facts;refine ub rfl rfl fun KK HK=>?_
     clear a0 a1;simp only[nq1,nq2,nq3,nq4,nq5,nq6,nq7,Nat.zero_add,Nat.reduceAdd]at HK ⊢;generalize S 6=t6 at *;subst h6;go_wp2;exact HK.out _ _ ⟨_,rfl,rfl,Below.refl _ _⟩
    ·cases ho
     have h7:S 7 = .agg #[.int .i64 j8,.slice j9 k1 k0]:=a0 7 (by kernel_rfl) (by decide)
     refine ub rfl rfl fun KK HK=>?_
     clear a0 a1;simp only[nq1,nq2,nq3,nq4,nq5,nq6,nq7,Nat.zero_add,Nat.reduceAdd]at HK ⊢;generalize S 7=t7 at *;subst h7;go_wp2_with fail
     have key:=uwz x D [.int .i64 j8,.slice j9 k1 k0] b0 (P1.out.below (f8.out.trans (a2.mono f8.out.size))) Z9.out;rw[ubg]at key;refine(key).mono ?_;rintro e xN⟨rfl,a3⟩;exact HK.out _ _ ⟨_,rfl,rfl,a3⟩
    ·cases ho
     refine ub rfl rfl fun KK HK=>?_
     clear a0 a1;simp only[nq1,nq2,nq3,nq4,nq5,nq6,nq7,Nat.zero_add,Nat.reduceAdd]at HK ⊢;go_wp2;exact HK.out _ _ ⟨_,rfl,rfl,Below.refl _ _⟩
    ·cases ho
     have h9:S 9 = .pointer (some ⟨c9.heap.size,5,none⟩):=a0 9 (by kernel_rfl) (by decide)
     obtain⟨ah4,_,_⟩:=(j0.out.below a2 j0.out.lt).facts;refine ub rfl rfl fun KK HK=>?_
     clear a0 a1;simp only[nq1,nq2,nq3,nq4,nq5,nq6,nq7,Nat.zero_add,Nat.reduceAdd]at HK ⊢;generalize S 9=t9 at *;subst h9;go_wp2;exact HK.out _ _ ⟨_,rfl,rfl,Below.refl _ _⟩
    ·cases ho
     have f5:S 10 = .int .i64 k2:=a0 10 (by kernel_rfl) (by decide)
     refine ub rfl rfl fun KK HK=>?_
     clear a0 a1;simp only[nq1,nq2,nq3,nq4,nq5,nq6,nq7,Nat.zero_add,Nat.reduceAdd]at HK ⊢;generalize S 10=b3 at *;subst f5;go_wp2_with fail
     have key:=udo x D [.int .i64 k2] b2 (P2.out.below (f8.out.trans (a2.mono f8.out.size))) aa0.out;rw[uo]at key;refine(key).mono ?_;rintro e xN⟨rfl,a3⟩;exact HK.out _ _ ⟨_,rfl,rfl,a3⟩
    ·cases ho
     have h2:S 2 = .string ⟨a8.toArray⟩:=a0 2 (by kernel_rfl) (by decide)
     have h5:S 5 = .string ⟨a9.toArray⟩:=a0 5 (by kernel_rfl) (by decide)
     have h8:S 8 = .string ⟨b0.toArray⟩:=a0 8 (by kernel_rfl) (by decide)
     have k5:S 11 = .string ⟨b2.toArray⟩:=a0 11 (by kernel_rfl) (by decide)
     refine ub rfl rfl fun KK HK=>?_
     clear a0 a1;simp only[nq1,nq2,nq3,nq4,nq5,nq6,nq7,Nat.zero_add,Nat.reduceAdd]at HK ⊢;generalize S 2=t2 at *;subst h2;generalize S 5=t5 at *;subst h5;generalize S 8=t8 at *;subst h8;generalize S 11=t11 at *;subst k5;go_wp2;exact HK.out _ _ ⟨_,rfl,Strs.new x _ [a8,a9,b0,b2] _ rfl _ rfl (by decide),(Below.refl _ _).alloc (Nat.le_refl _) _⟩
    ·cases ho
     have y0:Strs x (S 12) 4 (fun i=>[a8,a9,b0,b2].getD i []):=a0 12 (by kernel_rfl) (by decide)
     refine ub rfl rfl fun KK HK=>?_
     clear a0 a1;simp only[nq1,nq2,nq3,nq4,nq5,nq6,nq7,Nat.zero_add,Nat.reduceAdd]at HK ⊢;go_wp2_with fail
     refine(ux _ _ 4 _ y0 (z0.out)).mono ?_;rintro e xN⟨rfl,a3⟩;exact HK.out _ _ ⟨_,rfl,rfl,a3⟩
    ·exact absurd a1 (by simp)
   intro S x a2 hF;have g0:S 0 = .pointer (some ⟨c9.heap.size,0,none⟩):=hF 0 (by decide)
   have g1:S 1 = .int .i64 j3:=hF 1 (by decide)
   have g2:S 2 = .string ⟨a8.toArray⟩:=hF 2 (by decide)
   have g3:S 3 = .pointer (some ⟨c9.heap.size,1,none⟩):=hF 3 (by decide)
   have g4:S 4 = .agg #[.int .i64 j4,.slice j5 j7 j6]:=hF 4 (by decide)
   have g5:S 5 = .string ⟨a9.toArray⟩:=hF 5 (by decide)
   have g6:S 6 = .pointer (some ⟨c9.heap.size,3,none⟩):=hF 6 (by decide)
   have g7:S 7 = .agg #[.int .i64 j8,.slice j9 k1 k0]:=hF 7 (by decide)
   have g8:S 8 = .string ⟨b0.toArray⟩:=hF 8 (by decide)
   have g9:S 9 = .pointer (some ⟨c9.heap.size,5,none⟩):=hF 9 (by decide)
   have k4:S 10 = .int .i64 k2:=hF 10 (by decide)
   have f4:S 11 = .string ⟨b2.toArray⟩:=hF 11 (by decide)
   have l6:Strs x (S 12) 4 (fun i=>[a8,a9,b0,b2].getD i []):=hF 12 (by decide)
   have x9:S 13 = .string ⟨(par (fun i=>[a8,a9,b0,b2].getD i []) 4).toArray⟩:=hF 13 (by decide)
   clear hF;simp only[nm,Nat.reduceAdd,List.length_cons,List.length_nil,List.drop_succ_cons,List.drop_zero];generalize S 0=t0 at *;subst g0;generalize S 1=t1 at *;subst g1;generalize S 2=t2 at *;subst g2;generalize S 3=t3 at *;subst g3;generalize S 4=t4 at *;subst g4;generalize S 5=t5 at *;subst g5;generalize S 6=t6 at *;subst g6;generalize S 7=t7 at *;subst g7;generalize S 8=t8 at *;subst g8;generalize S 9=t9 at *;subst g9;generalize S 10=b3 at *;subst k4;generalize S 11=t11 at *;subst f4;generalize S 12=t12 at *;generalize S 13=t13 at *;subst x9;obtain⟨an9,f6⟩:∃y:World,y=x:=⟨_,rfl⟩;subst f6;have f9:=hid (f8.out.trans (a2.mono f8.out.size));have J2:=hid (J0.out.below a2 J0.out.lt);have j1:=hid (J1.out.below a2 J1.out.lt);have J3:=hid (j0.out.below a2 j0.out.lt);have S9:=hid (S5.out.below a2);have T0:=hid (S6.out.below a2);have T1:=hid (S7.out.below a2);have T2:=hid (S8.out.below a2);go_upto_region 27 with(fail)
   refine uv (by kernel_rfl) (by kernel_rfl) [114,115,116,117,118,119,120,121,122,123,124,125,126,127,128,129,130] 40 (by kernel_rfl) (fun io v x=>match io with
    | 0=>v = .slice M8 a4 M9
    | 1=>v = .string ⟨(par (fun i=>[a8,a9,b0,b2].getD i []) 4).toArray⟩
    | 2=>v = .pointer (some ⟨b5.heap.size,6,none⟩)
    | 3=>v = .agg #[.bool p7,.slice p5 q0 p8,.slice p6 q1 p9]
    | 4=>v = .string ⟨c3.toArray⟩
    | 5=>v = .pointer (some ⟨b5.heap.size,9,none⟩)
    | 6=>v = .agg #[.slice q2 q4 q3,.slice q5 q7 q6]
    | 7=>v = .string ⟨c4.toArray⟩
    | 8=>v = .pointer (some ⟨b5.heap.size,11,none⟩)
    | 9=>v = .slice q8 r0 q9
    | 10=>v = .string ⟨c5.toArray⟩
    | 11=>v = .pointer (some ⟨b5.heap.size,12,none⟩)
    | 12=>v = .slice r1 r3 r2
    | 13=>v = .string ⟨c6.toArray⟩
    | 14=>Strs x v 5 (fun i=>[(par (fun i=>[a8,a9,b0,b2].getD i []) 4),c3,c4,c5,c6].getD i [])
    | 15=>v = .string ⟨(par (fun i=>[(par (fun i=>[a8,a9,b0,b2].getD i []) 4),c3,c4,c5,c6].getD i []) 5).toArray⟩
    | _=>Strs x v 1 (fun _=>(par (fun i=>[(par (fun i=>[a8,a9,b0,b2].getD i []) 4),c3,c4,c5,c6].getD i []) 5))) ?_ ?_ ?_
   ·intro io v x x' a1 h hb
    rcases io with _|_|_|_|_|_|_|_|_|_|_|_|_|_|_|_|io
    ·exact h
    ·exact h
    ·exact h
    ·exact h
    ·exact h
    ·exact h
    ·exact h
    ·exact h
    ·exact h
    ·exact h
    ·exact h
    ·exact h
    ·exact h
    ·exact h
    ·exact Strs.below h hb
    ·exact h
    ·exact Strs.below h hb
   ·intro io oo S x ho a1 a2 a0
    rcases io with _|_|_|_|_|_|_|_|_|_|_|_|_|_|_|_|_|io
    ·cases ho
     refine ub rfl rfl fun KK HK=>?_
     clear a0 a1;simp only[nq1,nq2,nq3,nq4,nq5,nq6,nq7,Nat.zero_add,Nat.reduceAdd]at HK ⊢;go_wp2;exact HK.out _ _ ⟨_,rfl,rfl,Below.refl _ _⟩
    ·cases ho
     refine ub rfl rfl fun KK HK=>?_
     clear a0 a1;simp only[nq1,nq2,nq3,nq4,nq5,nq6,nq7,Nat.zero_add,Nat.reduceAdd]at HK ⊢;go_wp2;exact HK.out _ _ ⟨_,rfl,rfl,Below.refl _ _⟩
    ·cases ho
     refine ub rfl rfl fun KK HK=>?_
     clear a0 a1;simp only[nq1,nq2,nq3,nq4,nq5,nq6,nq7,Nat.zero_add,Nat.reduceAdd]at HK ⊢;go_wp2;exact HK.out _ _ ⟨_,rfl,rfl,Below.refl _ _⟩
    ·cases ho
     have h2:S 2 = .pointer (some ⟨b5.heap.size,6,none⟩):=a0 2 (by kernel_rfl) (by decide)
     obtain⟨ah5,_,_⟩:=(j1.out.below a2 j1.out.lt).facts;refine ub rfl rfl fun KK HK=>?_
     clear a0 a1;simp only[nq1,nq2,nq3,nq4,nq5,nq6,nq7,Nat.zero_add,Nat.reduceAdd]at HK ⊢;generalize S 2=t2 at *;subst h2;go_wp2;exact HK.out _ _ ⟨_,rfl,rfl,Below.refl _ _⟩
    ·cases ho
     have h3:S 3 = .agg #[.bool p7,.slice p5 q0 p8,.slice p6 q1 p9]:=a0 3 (by kernel_rfl) (by decide)
     refine ub rfl rfl fun KK HK=>?_
     clear a0 a1;simp only[nq1,nq2,nq3,nq4,nq5,nq6,nq7,Nat.zero_add,Nat.reduceAdd]at HK ⊢;generalize S 3=t3 at *;subst h3;go_wp2_with fail
     have key:=uui x D [.bool p7,.slice p5 q0 p8,.slice p6 q1 p9] c3 (P3.out.below (f9.out.trans (a2.mono f9.out.size))) aa1.out;rw[uaz]at key;refine(key).mono ?_;rintro e xN⟨rfl,a3⟩;exact HK.out _ _ ⟨_,rfl,rfl,a3⟩
    ·cases ho
     refine ub rfl rfl fun KK HK=>?_
     clear a0 a1;simp only[nq1,nq2,nq3,nq4,nq5,nq6,nq7,Nat.zero_add,Nat.reduceAdd]at HK ⊢;go_wp2;exact HK.out _ _ ⟨_,rfl,rfl,Below.refl _ _⟩
    ·cases ho
     have h5:S 5 = .pointer (some ⟨b5.heap.size,9,none⟩):=a0 5 (by kernel_rfl) (by decide)
     obtain⟨ah6,_,_⟩:=(j1.out.below a2 j1.out.lt).facts;refine ub rfl rfl fun KK HK=>?_
     clear a0 a1;simp only[nq1,nq2,nq3,nq4,nq5,nq6,nq7,Nat.zero_add,Nat.reduceAdd]at HK ⊢;generalize S 5=t5 at *;subst h5;go_wp2;exact HK.out _ _ ⟨_,rfl,rfl,Below.refl _ _⟩
    ·cases ho
     have h6:S 6 = .agg #[.slice q2 q4 q3,.slice q5 q7 q6]:=a0 6 (by kernel_rfl) (by decide)
     refine ub rfl rfl fun KK HK=>?_
     clear a0 a1;simp only[nq1,nq2,nq3,nq4,nq5,nq6,nq7,Nat.zero_add,Nat.reduceAdd]at HK ⊢;generalize S 6=t6 at *;subst h6;go_wp2_with fail
     have key:=(uo5 n) x D [.slice q2 q4 q3,.slice q5 q7 q6] c4 (P4.out.below (f9.out.trans (a2.mono f9.out.size))) aa2.out;rw[uau]at key;refine(key).mono ?_;rintro e xN⟨rfl,a3⟩;exact HK.out _ _ ⟨_,rfl,rfl,a3⟩
    ·cases ho
     refine ub rfl rfl fun KK HK=>?_
     clear a0 a1;simp only[nq1,nq2,nq3,nq4,nq5,nq6,nq7,Nat.zero_add,Nat.reduceAdd]at HK ⊢;go_wp2;exact HK.out _ _ ⟨_,rfl,rfl,Below.refl _ _⟩
    ·cases ho
     have h8:S 8 = .pointer (some ⟨b5.heap.size,11,none⟩):=a0 8 (by kernel_rfl) (by decide)
     obtain⟨ah7,_,_⟩:=(j1.out.below a2 j1.out.lt).facts;refine ub rfl rfl fun KK HK=>?_
     clear a0 a1;simp only[nq1,nq2,nq3,nq4,nq5,nq6,nq7,Nat.zero_add,Nat.reduceAdd]at HK ⊢;generalize S 8=t8 at *;subst h8;go_wp2;exact HK.out _ _ ⟨_,rfl,rfl,Below.refl _ _⟩
    ·cases ho
     have h9:S 9 = .slice q8 r0 q9:=a0 9 (by kernel_rfl) (by decide)
     refine ub rfl rfl fun KK HK=>?_
     clear a0 a1;simp only[nq1,nq2,nq3,nq4,nq5,nq6,nq7,Nat.zero_add,Nat.reduceAdd]at HK ⊢;generalize S 9=t9 at *;subst h9;go_wp2_with fail
     have key:=uul x D [.slice q8 r0 q9] c5 (P5.out.below (f9.out.trans (a2.mono f9.out.size))) aa3.out;rw[ue]at key;refine(key).mono ?_;rintro e xN⟨rfl,a3⟩;exact HK.out _ _ ⟨_,rfl,rfl,a3⟩
    ·cases ho
     refine ub rfl rfl fun KK HK=>?_
     clear a0 a1;simp only[nq1,nq2,nq3,nq4,nq5,nq6,nq7,Nat.zero_add,Nat.reduceAdd]at HK ⊢;go_wp2;exact HK.out _ _ ⟨_,rfl,rfl,Below.refl _ _⟩
    ·cases ho
     have k5:S 11 = .pointer (some ⟨b5.heap.size,12,none⟩):=a0 11 (by kernel_rfl) (by decide)
     obtain⟨ah8,_,_⟩:=(j1.out.below a2 j1.out.lt).facts;refine ub rfl rfl fun KK HK=>?_
     clear a0 a1;simp only[nq1,nq2,nq3,nq4,nq5,nq6,nq7,Nat.zero_add,Nat.reduceAdd]at HK ⊢;generalize S 11=t11 at *;subst k5;go_wp2;exact HK.out _ _ ⟨_,rfl,rfl,Below.refl _ _⟩
    ·cases ho
     have y0:S 12 = .slice r1 r3 r2:=a0 12 (by kernel_rfl) (by decide)
     refine ub rfl rfl fun KK HK=>?_
     clear a0 a1;simp only[nq1,nq2,nq3,nq4,nq5,nq6,nq7,Nat.zero_add,Nat.reduceAdd]at HK ⊢;generalize S 12=t12 at *;subst y0;go_wp2_with fail
     have key:=uul x D [.slice r1 r3 r2] c6 (P6.out.below (f9.out.trans (a2.mono f9.out.size))) aa4.out;rw[ue]at key;refine(key).mono ?_;rintro e xN⟨rfl,a3⟩;exact HK.out _ _ ⟨_,rfl,rfl,a3⟩
    ·cases ho
     have h1:S 1 = .string ⟨(par (fun i=>[a8,a9,b0,b2].getD i []) 4).toArray⟩:=a0 1 (by kernel_rfl) (by decide)
     have h4:S 4 = .string ⟨c3.toArray⟩:=a0 4 (by kernel_rfl) (by decide)
     have h7:S 7 = .string ⟨c4.toArray⟩:=a0 7 (by kernel_rfl) (by decide)
     have f5:S 10 = .string ⟨c5.toArray⟩:=a0 10 (by kernel_rfl) (by decide)
     have D4:S 13 = .string ⟨c6.toArray⟩:=a0 13 (by kernel_rfl) (by decide)
     refine ub rfl rfl fun KK HK=>?_
     clear a0 a1;simp only[nq1,nq2,nq3,nq4,nq5,nq6,nq7,Nat.zero_add,Nat.reduceAdd]at HK ⊢;generalize S 1=t1 at *;subst h1;generalize S 4=t4 at *;subst h4;generalize S 7=t7 at *;subst h7;generalize S 10=b3 at *;subst f5;generalize S 13=t13 at *;subst D4;go_wp2;exact HK.out _ _ ⟨_,rfl,Strs.new x _ [(par (fun i=>[a8,a9,b0,b2].getD i []) 4),c3,c4,c5,c6] _ rfl _ rfl (by decide),(Below.refl _ _).alloc (Nat.le_refl _) _⟩
    ·cases ho
     have D5:Strs x (S 14) 5 (fun i=>[(par (fun i=>[a8,a9,b0,b2].getD i []) 4),c3,c4,c5,c6].getD i []):=a0 14 (by kernel_rfl) (by decide)
     refine ub rfl rfl fun KK HK=>?_
     clear a0 a1;simp only[nq1,nq2,nq3,nq4,nq5,nq6,nq7,Nat.zero_add,Nat.reduceAdd]at HK ⊢;go_wp2_with fail
     refine(ux _ _ 5 _ D5 (uag r5.out x1.out)).mono ?_;rintro e xN⟨rfl,a3⟩;exact HK.out _ _ ⟨_,rfl,rfl,a3⟩
    ·cases ho
     have D6:S 15 = .string ⟨(par (fun i=>[(par (fun i=>[a8,a9,b0,b2].getD i []) 4),c3,c4,c5,c6].getD i []) 5).toArray⟩:=a0 15 (by kernel_rfl) (by decide)
     refine ub rfl rfl fun KK HK=>?_
     clear a0 a1;simp only[nq1,nq2,nq3,nq4,nq5,nq6,nq7,Nat.zero_add,Nat.reduceAdd]at HK ⊢;generalize S 15=t15 at *;subst D6;go_wp2;exact HK.out _ _ ⟨_,rfl,Strs.new1 x _ _,(Below.refl _ _).alloc (Nat.le_refl _) _⟩
    ·exact absurd a1 (by simp)
   intro S x a2 hF;have g0:S 0 = .slice M8 a4 M9:=hF 0 (by decide)
   have g1:S 1 = .string ⟨(par (fun i=>[a8,a9,b0,b2].getD i []) 4).toArray⟩:=hF 1 (by decide)
   have g2:S 2 = .pointer (some ⟨b5.heap.size,6,none⟩):=hF 2 (by decide)
   have g3:S 3 = .agg #[.bool p7,.slice p5 q0 p8,.slice p6 q1 p9]:=hF 3 (by decide)
   have g4:S 4 = .string ⟨c3.toArray⟩:=hF 4 (by decide)
   have g5:S 5 = .pointer (some ⟨b5.heap.size,9,none⟩):=hF 5 (by decide)
   have g6:S 6 = .agg #[.slice q2 q4 q3,.slice q5 q7 q6]:=hF 6 (by decide)
   have g7:S 7 = .string ⟨c4.toArray⟩:=hF 7 (by decide)
   have g8:S 8 = .pointer (some ⟨b5.heap.size,11,none⟩):=hF 8 (by decide)
   have g9:S 9 = .slice q8 r0 q9:=hF 9 (by decide)
   have k4:S 10 = .string ⟨c5.toArray⟩:=hF 10 (by decide)
   have f4:S 11 = .pointer (some ⟨b5.heap.size,12,none⟩):=hF 11 (by decide)
   have l6:S 12 = .slice r1 r3 r2:=hF 12 (by decide)
   have x9:S 13 = .string ⟨c6.toArray⟩:=hF 13 (by decide)
   have K9:Strs x (S 14) 5 (fun i=>[(par (fun i=>[a8,a9,b0,b2].getD i []) 4),c3,c4,c5,c6].getD i []):=hF 14 (by decide)
   have D2:S 15 = .string ⟨(par (fun i=>[(par (fun i=>[a8,a9,b0,b2].getD i []) 4),c3,c4,c5,c6].getD i []) 5).toArray⟩:=hF 15 (by decide)
   have D3:Strs x (S 16) 1 (fun _=>(par (fun i=>[(par (fun i=>[a8,a9,b0,b2].getD i []) 4),c3,c4,c5,c6].getD i []) 5)):=hF 16 (by decide)
   clear hF;simp only[nm,Nat.reduceAdd,List.length_cons,List.length_nil,List.drop_succ_cons,List.drop_zero];generalize S 0=t0 at *;subst g0;generalize S 1=t1 at *;subst g1;generalize S 2=t2 at *;subst g2;generalize S 3=t3 at *;subst g3;generalize S 4=t4 at *;subst g4;generalize S 5=t5 at *;subst g5;generalize S 6=t6 at *;subst g6;generalize S 7=t7 at *;subst g7;generalize S 8=t8 at *;subst g8;generalize S 9=t9 at *;subst g9;generalize S 10=b3 at *;subst k4;generalize S 11=t11 at *;subst f4;generalize S 12=t12 at *;subst l6;generalize S 13=t13 at *;subst x9;generalize S 14=t14 at *;generalize S 15=t15 at *;subst D2;generalize S 16=t16 at *;obtain⟨ac8,f6⟩:∃y:World,y=x:=⟨_,rfl⟩;subst f6;have ad2:=hid (f9.out.trans (a2.mono f9.out.size));have ae1:=hid (J2.out.below a2 J2.out.lt);have ae2:=hid (j1.out.below a2 j1.out.lt);have ae3:=hid (J3.out.below a2 J3.out.lt);have ae9:=hid (S9.out.below a2);have af0:=hid (T0.out.below a2);have af1:=hid (T1.out.below a2);have T3:=hid (T2.out.below a2);obtain⟨b1,o1,c1,rfl,s0⟩:=Strs.one D3;go_wp2_with (at_builtin;refine uI ac8 rfl _ _ rfl z8 f3 a4 _ rfl T3.out b1 o1 c1 rfl (par (fun i=>[(par (fun i=>[a8,a9,b0,b2].getD i []) 4),c3,c4,c5,c6].getD i []) 5) s0 (r5.out.symm) (by omega) ?_)
   intro g2 A1 w4 e5;have k3:=hid e5;clear e5;go_wp2;go_roundw
   case rel=>exact⟨a4+1,by omega,by go_num,k3⟩
   case measure=>simp[intOf];omega
  obtain rfl:a4=p4:=by omega
  go_wp2_with fail
  refine(ux _ _ a4 f3 (y3.out.strs) B6.out).mono ?_;rintro e x3⟨rfl,L0⟩;have r7:=L0;have ad3:=hid (d8.out.trans (r7.mono d8.out.size));have ae4:=hid (A0.out.below r7 A0.out.lt);have af2:=hid (K2.out.below r7);have af3:=hid (K3.out.below r7);have T4:=hid (K4.out.below r7);have af4:=hid (y3.out.below r7);clear r7 L0;have Y3:(x3.alloc (.cells #[.string ⟨(par f3 a4).toArray⟩] 9)).cell? ⟨x3.heap.size,0,none⟩=some (.string ⟨(par f3 a4).toArray⟩):=by rw[World.cell?_alloc_at _ _ _ _ rfl];rfl
  have T5:=hid (T4.out.below ((Below.refl x3.heap.size x3).alloc (Nat.le_refl _) (.cells #[.string ⟨(par f3 a4).toArray⟩] 9)));go_wp2_with (at_builtin;refine uI (x3.alloc (.cells #[.string ⟨(par f3 a4).toArray⟩] 9)) rfl _ _ rfl b9 d9 b8 _ rfl T5.out x3.heap.size 0 1 rfl (par f3 a4) Y3 (N9.out.symm) (by omega) ?_)
  intro g2 A1 w4 e5;have k3:=hid e5;clear e5;go_wp2;go_roundw
  case rel=>exact⟨b8+1,by omega,by go_num,k3⟩
  case measure=>simp[intOf];omega
 obtain rfl:b8=l0:=by omega
 go_upto_region 31 with(fail)
 refine uv (by kernel_rfl) (by kernel_rfl) [139,140,141,142,143,144,145,146,147,148,149,150,151,152,153,154,155,156,157,158,159,160,161,162,163,164,165,166,167,168,169,170] 40 (by kernel_rfl) (fun io v x=>match io with
  | 0=>v = .pointer (some ⟨w.heap.size,0,none⟩)
  | 1=>v = .int .i64 s5
  | 2=>v = .string ⟨t1.toArray⟩
  | 3=>v = .pointer (some ⟨w.heap.size,1,none⟩)
  | 4=>v = .int .i64 s6
  | 5=>v = .string ⟨t2.toArray⟩
  | 6=>v = .pointer (some ⟨w.heap.size,2,none⟩)
  | 7=>v = .bool s7
  | 8=>v = .string ⟨t3.toArray⟩
  | 9=>v = .pointer (some ⟨w.heap.size,3,none⟩)
  | 10=>v = .slice s8 v0 s9
  | 11=>v = .string ⟨t4.toArray⟩
  | 12=>v = .pointer (some ⟨w.heap.size,4,none⟩)
  | 13=>v = .slice v1 v3 v2
  | 14=>v = .string ⟨t5.toArray⟩
  | 15=>v = .slice z4 b4 z7
  | 16=>v = .string ⟨(par e2 b4).toArray⟩
  | 17=>v = .slice z3 a7 z6
  | 18=>v = .string ⟨(par e1 a7).toArray⟩
  | 19=>v = .pointer (some ⟨w.heap.size,7,none⟩)
  | 20=>v = .slice v4 v6 v5
  | 21=>v = .string ⟨t8.toArray⟩
  | 22=>v = .pointer (some ⟨w.heap.size,8,none⟩)
  | 23=>v = .slice v7 v9 v8
  | 24=>v = .string ⟨t9.toArray⟩
  | 25=>v = .pointer (some ⟨w.heap.size,9,none⟩)
  | 26=>v = .slice w0 w2 w1
  | 27=>v = .string ⟨b3.toArray⟩
  | 28=>v = .slice E6 b8 E7
  | 29=>v = .string ⟨(par d9 b8).toArray⟩
  | 30=>Strs x v 11 (fun i=>[t1,t2,t3,t4,t5,(par e2 b4),(par e1 a7),t8,t9,b3,(par d9 b8)].getD i [])
  | _=>v = .string ⟨(par (fun i=>[t1,t2,t3,t4,t5,(par e2 b4),(par e1 a7),t8,t9,b3,(par d9 b8)].getD i []) 11).toArray⟩) ?_ ?_ ?_
 ·intro io v x x' a1 h hb
  rcases io with _|_|_|_|_|_|_|_|_|_|_|_|_|_|_|_|_|_|_|_|_|_|_|_|_|_|_|_|_|_|_|io
  ·exact h
  ·exact h
  ·exact h
  ·exact h
  ·exact h
  ·exact h
  ·exact h
  ·exact h
  ·exact h
  ·exact h
  ·exact h
  ·exact h
  ·exact h
  ·exact h
  ·exact h
  ·exact h
  ·exact h
  ·exact h
  ·exact h
  ·exact h
  ·exact h
  ·exact h
  ·exact h
  ·exact h
  ·exact h
  ·exact h
  ·exact h
  ·exact h
  ·exact h
  ·exact h
  ·exact Strs.below h hb
  ·exact h
 ·intro io oo S x ho a1 a2 a0
  rcases io with _|_|_|_|_|_|_|_|_|_|_|_|_|_|_|_|_|_|_|_|_|_|_|_|_|_|_|_|_|_|_|_|io
  ·cases ho
   refine ub rfl rfl fun KK HK=>?_
   clear a0 a1;simp only[nq1,nq2,nq3,nq4,nq5,nq6,nq7,Nat.zero_add,Nat.reduceAdd]at HK ⊢;go_wp2;exact HK.out _ _ ⟨_,rfl,rfl,Below.refl _ _⟩
  ·cases ho
   have h0:S 0 = .pointer (some ⟨w.heap.size,0,none⟩):=a0 0 (by kernel_rfl) (by decide)
   obtain⟨ah9,_,_⟩:=(c2.out.below a2 c2.out.lt).facts;refine ub rfl rfl fun KK HK=>?_
   clear a0 a1;simp only[nq1,nq2,nq3,nq4,nq5,nq6,nq7,Nat.zero_add,Nat.reduceAdd]at HK ⊢;generalize S 0=t0 at *;subst h0;go_wp2;exact HK.out _ _ ⟨_,rfl,rfl,Below.refl _ _⟩
  ·cases ho
   have h1:S 1 = .int .i64 s5:=a0 1 (by kernel_rfl) (by decide)
   refine ub rfl rfl fun KK HK=>?_
   clear a0 a1;simp only[nq1,nq2,nq3,nq4,nq5,nq6,nq7,Nat.zero_add,Nat.reduceAdd]at HK ⊢;generalize S 1=t1 at *;subst h1;go_wp2_with fail
   have key:=udo x D [.int .i64 s5] t1 (P7.out.below (c0.out.trans (a2.mono c0.out.size))) aa5.out;rw[uo]at key;refine(key).mono ?_;rintro e xN⟨rfl,a3⟩;exact HK.out _ _ ⟨_,rfl,rfl,a3⟩
  ·cases ho
   refine ub rfl rfl fun KK HK=>?_
   clear a0 a1;simp only[nq1,nq2,nq3,nq4,nq5,nq6,nq7,Nat.zero_add,Nat.reduceAdd]at HK ⊢;go_wp2;exact HK.out _ _ ⟨_,rfl,rfl,Below.refl _ _⟩
  ·cases ho
   have h3:S 3 = .pointer (some ⟨w.heap.size,1,none⟩):=a0 3 (by kernel_rfl) (by decide)
   obtain⟨ai0,_,_⟩:=(c2.out.below a2 c2.out.lt).facts;refine ub rfl rfl fun KK HK=>?_
   clear a0 a1;simp only[nq1,nq2,nq3,nq4,nq5,nq6,nq7,Nat.zero_add,Nat.reduceAdd]at HK ⊢;generalize S 3=t3 at *;subst h3;go_wp2;exact HK.out _ _ ⟨_,rfl,rfl,Below.refl _ _⟩
  ·cases ho
   have h4:S 4 = .int .i64 s6:=a0 4 (by kernel_rfl) (by decide)
   refine ub rfl rfl fun KK HK=>?_
   clear a0 a1;simp only[nq1,nq2,nq3,nq4,nq5,nq6,nq7,Nat.zero_add,Nat.reduceAdd]at HK ⊢;generalize S 4=t4 at *;subst h4;go_wp2_with fail
   have key:=udo x D [.int .i64 s6] t2 (P8.out.below (c0.out.trans (a2.mono c0.out.size))) aa6.out;rw[uo]at key;refine(key).mono ?_;rintro e xN⟨rfl,a3⟩;exact HK.out _ _ ⟨_,rfl,rfl,a3⟩
  ·cases ho
   refine ub rfl rfl fun KK HK=>?_
   clear a0 a1;simp only[nq1,nq2,nq3,nq4,nq5,nq6,nq7,Nat.zero_add,Nat.reduceAdd]at HK ⊢;go_wp2;exact HK.out _ _ ⟨_,rfl,rfl,Below.refl _ _⟩
  ·cases ho
   have h6:S 6 = .pointer (some ⟨w.heap.size,2,none⟩):=a0 6 (by kernel_rfl) (by decide)
   obtain⟨ai1,_,_⟩:=(c2.out.below a2 c2.out.lt).facts;refine ub rfl rfl fun KK HK=>?_
   clear a0 a1;simp only[nq1,nq2,nq3,nq4,nq5,nq6,nq7,Nat.zero_add,Nat.reduceAdd]at HK ⊢;generalize S 6=t6 at *;subst h6;go_wp2;exact HK.out _ _ ⟨_,rfl,rfl,Below.refl _ _⟩
  ·cases ho
   have h7:S 7 = .bool s7:=a0 7 (by kernel_rfl) (by decide)
   refine ub rfl rfl fun KK HK=>?_
   clear a0 a1;simp only[nq1,nq2,nq3,nq4,nq5,nq6,nq7,Nat.zero_add,Nat.reduceAdd]at HK ⊢;generalize S 7=t7 at *;subst h7;go_wp2_with fail
   have key:=uxg x D [.bool s7] t3 (P9.out.below (c0.out.trans (a2.mono c0.out.size))) aa7.out;rw[ub9]at key;refine(key).mono ?_;rintro e xN⟨rfl,a3⟩;exact HK.out _ _ ⟨_,rfl,rfl,a3⟩
  ·cases ho
   refine ub rfl rfl fun KK HK=>?_
   clear a0 a1;simp only[nq1,nq2,nq3,nq4,nq5,nq6,nq7,Nat.zero_add,Nat.reduceAdd]at HK ⊢;go_wp2;exact HK.out _ _ ⟨_,rfl,rfl,Below.refl _ _⟩
  ·cases ho
   have h9:S 9 = .pointer (some ⟨w.heap.size,3,none⟩):=a0 9 (by kernel_rfl) (by decide)
   obtain⟨ai2,_,_⟩:=(c2.out.below a2 c2.out.lt).facts;refine ub rfl rfl fun KK HK=>?_
   clear a0 a1;simp only[nq1,nq2,nq3,nq4,nq5,nq6,nq7,Nat.zero_add,Nat.reduceAdd]at HK ⊢;generalize S 9=t9 at *;subst h9;go_wp2;exact HK.out _ _ ⟨_,rfl,rfl,Below.refl _ _⟩
  ·cases ho
   have f5:S 10 = .slice s8 v0 s9:=a0 10 (by kernel_rfl) (by decide)
   refine ub rfl rfl fun KK HK=>?_
   clear a0 a1;simp only[nq1,nq2,nq3,nq4,nq5,nq6,nq7,Nat.zero_add,Nat.reduceAdd]at HK ⊢;generalize S 10=b3 at *;subst f5;go_wp2_with fail
   have key:=(uo6 n) x D [.slice s8 v0 s9] t4 (Q0.out.below (c0.out.trans (a2.mono c0.out.size))) aa8.out;rw[ue]at key;refine(key).mono ?_;rintro e xN⟨rfl,a3⟩;exact HK.out _ _ ⟨_,rfl,rfl,a3⟩
  ·cases ho
   refine ub rfl rfl fun KK HK=>?_
   clear a0 a1;simp only[nq1,nq2,nq3,nq4,nq5,nq6,nq7,Nat.zero_add,Nat.reduceAdd]at HK ⊢;go_wp2;exact HK.out _ _ ⟨_,rfl,rfl,Below.refl _ _⟩
  ·cases ho
   have y0:S 12 = .pointer (some ⟨w.heap.size,4,none⟩):=a0 12 (by kernel_rfl) (by decide)
   obtain⟨ai3,_,_⟩:=(c2.out.below a2 c2.out.lt).facts;refine ub rfl rfl fun KK HK=>?_
   clear a0 a1;simp only[nq1,nq2,nq3,nq4,nq5,nq6,nq7,Nat.zero_add,Nat.reduceAdd]at HK ⊢;generalize S 12=t12 at *;subst y0;go_wp2;exact HK.out _ _ ⟨_,rfl,rfl,Below.refl _ _⟩
  ·cases ho
   have D4:S 13 = .slice v1 v3 v2:=a0 13 (by kernel_rfl) (by decide)
   refine ub rfl rfl fun KK HK=>?_
   clear a0 a1;simp only[nq1,nq2,nq3,nq4,nq5,nq6,nq7,Nat.zero_add,Nat.reduceAdd]at HK ⊢;generalize S 13=t13 at *;subst D4;go_wp2_with fail
   have key:=(uo6 n) x D [.slice v1 v3 v2] t5 (Q1.out.below (c0.out.trans (a2.mono c0.out.size))) aa9.out;rw[ue]at key;refine(key).mono ?_;rintro e xN⟨rfl,a3⟩;exact HK.out _ _ ⟨_,rfl,rfl,a3⟩
  ·cases ho
   refine ub rfl rfl fun KK HK=>?_
   clear a0 a1;simp only[nq1,nq2,nq3,nq4,nq5,nq6,nq7,Nat.zero_add,Nat.reduceAdd]at HK ⊢;go_wp2;exact HK.out _ _ ⟨_,rfl,rfl,Below.refl _ _⟩
  ·cases ho
   have D6:S 15 = .slice z4 b4 z7:=a0 15 (by kernel_rfl) (by decide)
   refine ub rfl rfl fun KK HK=>?_
   clear a0 a1;simp only[nq1,nq2,nq3,nq4,nq5,nq6,nq7,Nat.zero_add,Nat.reduceAdd]at HK ⊢;generalize S 15=t15 at *;subst D6;go_wp2_with fail
   refine(ux _ _ b4 e2 ((D0.out.strs).below a2) E0.out).mono ?_;rintro e xN⟨rfl,a3⟩;exact HK.out _ _ ⟨_,rfl,rfl,a3⟩
  ·cases ho
   refine ub rfl rfl fun KK HK=>?_
   clear a0 a1;simp only[nq1,nq2,nq3,nq4,nq5,nq6,nq7,Nat.zero_add,Nat.reduceAdd]at HK ⊢;go_wp2;exact HK.out _ _ ⟨_,rfl,rfl,Below.refl _ _⟩
  ·cases ho
   have W1:S 17 = .slice z3 a7 z6:=a0 17 (by kernel_rfl) (by decide)
   refine ub rfl rfl fun KK HK=>?_
   clear a0 a1;simp only[nq1,nq2,nq3,nq4,nq5,nq6,nq7,Nat.zero_add,Nat.reduceAdd]at HK ⊢;generalize S 17=t17 at *;subst W1;go_wp2_with fail
   refine(ux _ _ a7 e1 ((D1.out.strs).below a2) E1.out).mono ?_;rintro e xN⟨rfl,a3⟩;exact HK.out _ _ ⟨_,rfl,rfl,a3⟩
  ·cases ho
   refine ub rfl rfl fun KK HK=>?_
   clear a0 a1;simp only[nq1,nq2,nq3,nq4,nq5,nq6,nq7,Nat.zero_add,Nat.reduceAdd]at HK ⊢;go_wp2;exact HK.out _ _ ⟨_,rfl,rfl,Below.refl _ _⟩
  ·cases ho
   have W3:S 19 = .pointer (some ⟨w.heap.size,7,none⟩):=a0 19 (by kernel_rfl) (by decide)
   obtain⟨ai4,_,_⟩:=(c2.out.below a2 c2.out.lt).facts;refine ub rfl rfl fun KK HK=>?_
   clear a0 a1;simp only[nq1,nq2,nq3,nq4,nq5,nq6,nq7,Nat.zero_add,Nat.reduceAdd]at HK ⊢;generalize S 19=t19 at *;subst W3;go_wp2;exact HK.out _ _ ⟨_,rfl,rfl,Below.refl _ _⟩
  ·cases ho
   have W4:S 20 = .slice v4 v6 v5:=a0 20 (by kernel_rfl) (by decide)
   refine ub rfl rfl fun KK HK=>?_
   clear a0 a1;simp only[nq1,nq2,nq3,nq4,nq5,nq6,nq7,Nat.zero_add,Nat.reduceAdd]at HK ⊢;generalize S 20=t20 at *;subst W4;go_wp2_with fail
   have key:=(uo6 n) x D [.slice v4 v6 v5] t8 (Q4.out.below (c0.out.trans (a2.mono c0.out.size))) ab0.out;rw[ue]at key;refine(key).mono ?_;rintro e xN⟨rfl,a3⟩;exact HK.out _ _ ⟨_,rfl,rfl,a3⟩
  ·cases ho
   refine ub rfl rfl fun KK HK=>?_
   clear a0 a1;simp only[nq1,nq2,nq3,nq4,nq5,nq6,nq7,Nat.zero_add,Nat.reduceAdd]at HK ⊢;go_wp2;exact HK.out _ _ ⟨_,rfl,rfl,Below.refl _ _⟩
  ·cases ho
   have W6:S 22 = .pointer (some ⟨w.heap.size,8,none⟩):=a0 22 (by kernel_rfl) (by decide)
   obtain⟨ai5,_,_⟩:=(c2.out.below a2 c2.out.lt).facts;refine ub rfl rfl fun KK HK=>?_
   clear a0 a1;simp only[nq1,nq2,nq3,nq4,nq5,nq6,nq7,Nat.zero_add,Nat.reduceAdd]at HK ⊢;generalize S 22=t22 at *;subst W6;go_wp2;exact HK.out _ _ ⟨_,rfl,rfl,Below.refl _ _⟩
  ·cases ho
   have W7:S 23 = .slice v7 v9 v8:=a0 23 (by kernel_rfl) (by decide)
   refine ub rfl rfl fun KK HK=>?_
   clear a0 a1;simp only[nq1,nq2,nq3,nq4,nq5,nq6,nq7,Nat.zero_add,Nat.reduceAdd]at HK ⊢;generalize S 23=t23 at *;subst W7;go_wp2_with fail
   have key:=uuj x D [.slice v7 v9 v8] t9 (Q5.out.below (c0.out.trans (a2.mono c0.out.size))) ab1.out;rw[ue]at key;refine(key).mono ?_;rintro e xN⟨rfl,a3⟩;exact HK.out _ _ ⟨_,rfl,rfl,a3⟩
  ·cases ho
   refine ub rfl rfl fun KK HK=>?_
   clear a0 a1;simp only[nq1,nq2,nq3,nq4,nq5,nq6,nq7,Nat.zero_add,Nat.reduceAdd]at HK ⊢;go_wp2;exact HK.out _ _ ⟨_,rfl,rfl,Below.refl _ _⟩
  ·cases ho
   have W9:S 25 = .pointer (some ⟨w.heap.size,9,none⟩):=a0 25 (by kernel_rfl) (by decide)
   obtain⟨ai6,_,_⟩:=(c2.out.below a2 c2.out.lt).facts;refine ub rfl rfl fun KK HK=>?_
   clear a0 a1;simp only[nq1,nq2,nq3,nq4,nq5,nq6,nq7,Nat.zero_add,Nat.reduceAdd]at HK ⊢;generalize S 25=t25 at *;subst W9;go_wp2;exact HK.out _ _ ⟨_,rfl,rfl,Below.refl _ _⟩
  ·cases ho
   have X0:S 26 = .slice w0 w2 w1:=a0 26 (by kernel_rfl) (by decide)
   refine ub rfl rfl fun KK HK=>?_
   clear a0 a1;simp only[nq1,nq2,nq3,nq4,nq5,nq6,nq7,Nat.zero_add,Nat.reduceAdd]at HK ⊢;generalize S 26=t26 at *;subst X0;go_wp2_with fail
   have key:=uul x D [.slice w0 w2 w1] b3 (Q6.out.below (c0.out.trans (a2.mono c0.out.size))) ab2.out;rw[ue]at key;refine(key).mono ?_;rintro e xN⟨rfl,a3⟩;exact HK.out _ _ ⟨_,rfl,rfl,a3⟩
  ·cases ho
   refine ub rfl rfl fun KK HK=>?_
   clear a0 a1;simp only[nq1,nq2,nq3,nq4,nq5,nq6,nq7,Nat.zero_add,Nat.reduceAdd]at HK ⊢;go_wp2;exact HK.out _ _ ⟨_,rfl,rfl,Below.refl _ _⟩
  ·cases ho
   have X2:S 28 = .slice E6 b8 E7:=a0 28 (by kernel_rfl) (by decide)
   refine ub rfl rfl fun KK HK=>?_
   clear a0 a1;simp only[nq1,nq2,nq3,nq4,nq5,nq6,nq7,Nat.zero_add,Nat.reduceAdd]at HK ⊢;generalize S 28=t28 at *;subst X2;go_wp2_with fail
   refine(ux _ _ b8 d9 ((y2.out.strs).below a2) E2.out).mono ?_;rintro e xN⟨rfl,a3⟩;exact HK.out _ _ ⟨_,rfl,rfl,a3⟩
  ·cases ho
   have h2:S 2 = .string ⟨t1.toArray⟩:=a0 2 (by kernel_rfl) (by decide)
   have h5:S 5 = .string ⟨t2.toArray⟩:=a0 5 (by kernel_rfl) (by decide)
   have h8:S 8 = .string ⟨t3.toArray⟩:=a0 8 (by kernel_rfl) (by decide)
   have k5:S 11 = .string ⟨t4.toArray⟩:=a0 11 (by kernel_rfl) (by decide)
   have D5:S 14 = .string ⟨t5.toArray⟩:=a0 14 (by kernel_rfl) (by decide)
   have W0:S 16 = .string ⟨(par e2 b4).toArray⟩:=a0 16 (by kernel_rfl) (by decide)
   have W2:S 18 = .string ⟨(par e1 a7).toArray⟩:=a0 18 (by kernel_rfl) (by decide)
   have W5:S 21 = .string ⟨t8.toArray⟩:=a0 21 (by kernel_rfl) (by decide)
   have W8:S 24 = .string ⟨t9.toArray⟩:=a0 24 (by kernel_rfl) (by decide)
   have X1:S 27 = .string ⟨b3.toArray⟩:=a0 27 (by kernel_rfl) (by decide)
   have X3:S 29 = .string ⟨(par d9 b8).toArray⟩:=a0 29 (by kernel_rfl) (by decide)
   refine ub rfl rfl fun KK HK=>?_
   clear a0 a1;simp only[nq1,nq2,nq3,nq4,nq5,nq6,nq7,Nat.zero_add,Nat.reduceAdd]at HK ⊢;generalize S 2=t2 at *;subst h2;generalize S 5=t5 at *;subst h5;generalize S 8=t8 at *;subst h8;generalize S 11=t11 at *;subst k5;generalize S 14=t14 at *;subst D5;generalize S 16=t16 at *;subst W0;generalize S 18=t18 at *;subst W2;generalize S 21=t21 at *;subst W5;generalize S 24=t24 at *;subst W8;generalize S 27=t27 at *;subst X1;generalize S 29=t29 at *;subst X3;go_wp2;exact HK.out _ _ ⟨_,rfl,Strs.new x _ [t1,t2,t3,t4,t5,(par e2 b4),(par e1 a7),t8,t9,b3,(par d9 b8)] _ rfl _ rfl (by decide),(Below.refl _ _).alloc (Nat.le_refl _) _⟩
  ·cases ho
   have X4:Strs x (S 30) 11 (fun i=>[t1,t2,t3,t4,t5,(par e2 b4),(par e1 a7),t8,t9,b3,(par d9 b8)].getD i []):=a0 30 (by kernel_rfl) (by decide)
   refine ub rfl rfl fun KK HK=>?_
   clear a0 a1;simp only[nq1,nq2,nq3,nq4,nq5,nq6,nq7,Nat.zero_add,Nat.reduceAdd]at HK ⊢;go_wp2_with fail
   refine(ux _ _ 11 _ X4 (HL.out)).mono ?_;rintro e xN⟨rfl,a3⟩;exact HK.out _ _ ⟨_,rfl,rfl,a3⟩
  ·exact absurd a1 (by simp)
 intro S x a2 hF;have g0:S 0 = .pointer (some ⟨w.heap.size,0,none⟩):=hF 0 (by decide)
 have g1:S 1 = .int .i64 s5:=hF 1 (by decide)
 have g2:S 2 = .string ⟨t1.toArray⟩:=hF 2 (by decide)
 have g3:S 3 = .pointer (some ⟨w.heap.size,1,none⟩):=hF 3 (by decide)
 have g4:S 4 = .int .i64 s6:=hF 4 (by decide)
 have g5:S 5 = .string ⟨t2.toArray⟩:=hF 5 (by decide)
 have g6:S 6 = .pointer (some ⟨w.heap.size,2,none⟩):=hF 6 (by decide)
 have g7:S 7 = .bool s7:=hF 7 (by decide)
 have g8:S 8 = .string ⟨t3.toArray⟩:=hF 8 (by decide)
 have g9:S 9 = .pointer (some ⟨w.heap.size,3,none⟩):=hF 9 (by decide)
 have k4:S 10 = .slice s8 v0 s9:=hF 10 (by decide)
 have f4:S 11 = .string ⟨t4.toArray⟩:=hF 11 (by decide)
 have l6:S 12 = .pointer (some ⟨w.heap.size,4,none⟩):=hF 12 (by decide)
 have x9:S 13 = .slice v1 v3 v2:=hF 13 (by decide)
 have K9:S 14 = .string ⟨t5.toArray⟩:=hF 14 (by decide)
 have D2:S 15 = .slice z4 b4 z7:=hF 15 (by decide)
 have D3:S 16 = .string ⟨(par e2 b4).toArray⟩:=hF 16 (by decide)
 have T6:S 17 = .slice z3 a7 z6:=hF 17 (by decide)
 have T7:S 18 = .string ⟨(par e1 a7).toArray⟩:=hF 18 (by decide)
 have T8:S 19 = .pointer (some ⟨w.heap.size,7,none⟩):=hF 19 (by decide)
 have T9:S 20 = .slice v4 v6 v5:=hF 20 (by decide)
 have V0:S 21 = .string ⟨t8.toArray⟩:=hF 21 (by decide)
 have V1:S 22 = .pointer (some ⟨w.heap.size,8,none⟩):=hF 22 (by decide)
 have V2:S 23 = .slice v7 v9 v8:=hF 23 (by decide)
 have V3:S 24 = .string ⟨t9.toArray⟩:=hF 24 (by decide)
 have V4:S 25 = .pointer (some ⟨w.heap.size,9,none⟩):=hF 25 (by decide)
 have V5:S 26 = .slice w0 w2 w1:=hF 26 (by decide)
 have V6:S 27 = .string ⟨b3.toArray⟩:=hF 27 (by decide)
 have V7:S 28 = .slice E6 b8 E7:=hF 28 (by decide)
 have V8:S 29 = .string ⟨(par d9 b8).toArray⟩:=hF 29 (by decide)
 have g30:Strs x (S 30) 11 (fun i=>[t1,t2,t3,t4,t5,(par e2 b4),(par e1 a7),t8,t9,b3,(par d9 b8)].getD i []):=hF 30 (by decide)
 have V9:S 31 = .string ⟨(par (fun i=>[t1,t2,t3,t4,t5,(par e2 b4),(par e1 a7),t8,t9,b3,(par d9 b8)].getD i []) 11).toArray⟩:=hF 31 (by decide)
 clear hF;simp only[nm,Nat.reduceAdd,List.length_cons,List.length_nil,List.drop_succ_cons,List.drop_zero];generalize S 0=t0 at *;subst g0;generalize S 1=t1 at *;subst g1;generalize S 2=t2 at *;subst g2;generalize S 3=t3 at *;subst g3;generalize S 4=t4 at *;subst g4;generalize S 5=t5 at *;subst g5;generalize S 6=t6 at *;subst g6;generalize S 7=t7 at *;subst g7;generalize S 8=t8 at *;subst g8;generalize S 9=t9 at *;subst g9;generalize S 10=b3 at *;subst k4;generalize S 11=t11 at *;subst f4;generalize S 12=t12 at *;subst l6;generalize S 13=t13 at *;subst x9;generalize S 14=t14 at *;subst K9;generalize S 15=t15 at *;subst D2;generalize S 16=t16 at *;subst D3;generalize S 17=t17 at *;subst T6;generalize S 18=t18 at *;subst T7;generalize S 19=t19 at *;subst T8;generalize S 20=t20 at *;subst T9;generalize S 21=t21 at *;subst V0;generalize S 22=t22 at *;subst V1;generalize S 23=t23 at *;subst V2;generalize S 24=t24 at *;subst V3;generalize S 25=t25 at *;subst V4;generalize S 26=t26 at *;subst V5;generalize S 27=t27 at *;subst V6;generalize S 28=t28 at *;subst V7;generalize S 29=t29 at *;subst V8;generalize S 30=t30 at *;generalize S 31=t31 at *;subst V9;obtain⟨ao0,f6⟩:∃y:World,y=x:=⟨_,rfl⟩;subst f6;have N3:=hid (c0.out.trans (a2.mono c0.out.size));have ae5:=hid (c2.out.below a2 c2.out.lt);have af5:=hid (D0.out.below a2);have af6:=hid (D1.out.below a2);have af7:=hid (y2.out.below a2);go_wp2;go_ret
 exact⟨rfl,N3.out⟩
end Go.Proofs.YtellcholbkoakaaGreatDoor
