/-
 The reference's writer: Format (printed by tgen.py).
-/
import Derived.Test.YtellcholbkoakaaGreatDoorHTf
import Derived.Test.YtellcholbkoakaaGreatDoorHCAs
namespace Go.Proofs.YtellcholbkoakaaGreatDoor
open Go.Lib (hid)
open Go.RowKit AC
set_option linter.unusedVariables false
set_option linter.unusedSimpArgs false
theorem CFPost.yes{t T:List UInt8}{w w':World}(h:t=T)(hl:T.length≤262144)(hb:Below w.heap.size w w'):CFPost t w (.returned (.tuple #[.string ⟨T.toArray⟩,.int .i64 0])) w':=by
 subst h;exact⟨by rw[if_pos hl,if_pos hl],hb⟩
theorem CFPost.no{t T:List UInt8}{w w':World}(h:t=T)(hl:¬T.length≤262144)(hb:Below w.heap.size w w'):CFPost t w (.returned (.tuple #[.string ⟨#[]⟩,.int .i64 9])) w':=by
 subst h;exact⟨by rw[if_neg hl,if_neg hl],hb⟩
set_option maxHeartbeats 16000000 in
set_option maxRecDepth 100000 in
theorem uuo(n:Nat)(E1:ud8 63 (uac n))(w:World)(D:Nat→Prop)(v:List Value)(t:List UInt8)(N5:Rep w D (ubb n) v [t])(hl:t.length≤MX):Calls Tryz.prog 21 #[.agg v.toArray] w (CFPost t w):=by
 have F3:=hid E1;clear E1;obtain⟨_,y1,V2,_,t1,_,rfl,rfl,r7,V3,_,t2,_,rfl,rfl,r8,V4,_,t3,_,rfl,rfl,r9,V5,_,t4,_,rfl,rfl,O0,V8,_,t5,_,rfl,rfl,y8,V9,_,t6,_,rfl,rfl,y9,rfl,rfl⟩:=N5;injection y1 with y1 _;obtain⟨k3,rfl⟩:=ua8 r7.ty;obtain⟨_,y2,W0,_,b2,_,rfl,rfl,z2,W1,_,b3,_,rfl,rfl,z3,rfl,rfl⟩:=r8;injection y2 with y2 _;obtain⟨k4,k6,k5,rfl⟩:=ua z2.ty;obtain⟨k7,k9,k8,rfl⟩:=ua z3.ty;subst y2;obtain⟨z9,e0,A0,rfl⟩:=ua r9.ty;obtain⟨_,y3,W4,_,a6,_,rfl,rfl,z6,W5,_,a7,_,rfl,rfl,z7,W6,_,d7,_,rfl,rfl,z8,rfl,rfl⟩:=O0;injection y3 with y3 _;obtain⟨l0,l2,l1,rfl⟩:=ua z6.ty;obtain⟨l3,l5,l4,rfl⟩:=ua z7.ty;obtain⟨A1,e1,A2,rfl⟩:=ua z8.ty;subst y3;obtain⟨A3,e2,A4,rfl⟩:=ua y8.ty;obtain⟨A5,e3,A6,rfl⟩:=ua y9.ty;subst y1;have HL:=hid hl;clear hl;have M9:Hid (t1.length≤MX):=Nat.le_trans (uc (fun i=>[t1,(par (fun i=>[b2,b3].getD i []) 2),t3,(par (fun i=>[a6,a7,d7].getD i []) 3),t5,t6].getD i []) (i:=0) (k:=6) (by decide)) (HL.out)
 have G1:=hid r7;clear r7;have x1:Hid ((par (fun i=>[b2,b3].getD i []) 2).length≤MX):=Nat.le_trans (uc (fun i=>[t1,(par (fun i=>[b2,b3].getD i []) 2),t3,(par (fun i=>[a6,a7,d7].getD i []) 3),t5,t6].getD i []) (i:=1) (k:=6) (by decide)) (HL.out)
 have N0:Hid (b2.length≤MX):=Nat.le_trans (uc (fun i=>[b2,b3].getD i []) (i:=0) (k:=2) (by decide)) (x1.out)
 have G2:=hid z2;clear z2;have N1:Hid (b3.length≤MX):=Nat.le_trans (uc (fun i=>[b2,b3].getD i []) (i:=1) (k:=2) (by decide)) (x1.out)
 have G3:=hid z3;clear z3;have x2:Hid (t3.length≤MX):=Nat.le_trans (uc (fun i=>[t1,(par (fun i=>[b2,b3].getD i []) 2),t3,(par (fun i=>[a6,a7,d7].getD i []) 3),t5,t6].getD i []) (i:=2) (k:=6) (by decide)) (HL.out)
 have G4:=hid r9;clear r9;have v0:Hid ((par (fun i=>[a6,a7,d7].getD i []) 3).length≤MX):=Nat.le_trans (uc (fun i=>[t1,(par (fun i=>[b2,b3].getD i []) 2),t3,(par (fun i=>[a6,a7,d7].getD i []) 3),t5,t6].getD i []) (i:=3) (k:=6) (by decide)) (HL.out)
 have N2:Hid (a6.length≤MX):=Nat.le_trans (uc (fun i=>[a6,a7,d7].getD i []) (i:=0) (k:=3) (by decide)) (v0.out)
 have G5:=hid z6;clear z6;have N3:Hid (a7.length≤MX):=Nat.le_trans (uc (fun i=>[a6,a7,d7].getD i []) (i:=1) (k:=3) (by decide)) (v0.out)
 have G6:=hid z7;clear z7;have x3:Hid (d7.length≤MX):=Nat.le_trans (uc (fun i=>[a6,a7,d7].getD i []) (i:=2) (k:=3) (by decide)) (v0.out)
 have G7:=hid z8;clear z8;have x4:Hid (t5.length≤MX):=Nat.le_trans (uc (fun i=>[t1,(par (fun i=>[b2,b3].getD i []) 2),t3,(par (fun i=>[a6,a7,d7].getD i []) 3),t5,t6].getD i []) (i:=4) (k:=6) (by decide)) (HL.out)
 have G8:=hid y8;clear y8;have x5:Hid (t6.length≤MX):=Nat.le_trans (uc (fun i=>[t1,(par (fun i=>[b2,b3].getD i []) 2),t3,(par (fun i=>[a6,a7,d7].getD i []) 3),t5,t6].getD i []) (i:=5) (k:=6) (by decide)) (HL.out)
 have G9:=hid y9;clear y9;show Calls Tryz.prog 21 #[.agg #[.bool k3,.slice k4 k6 k5,.slice k7 k9 k8,.slice z9 e0 A0,.slice l0 l2 l1,.slice l3 l5 l4,.slice A1 e1 A2,.slice A3 e2 A4,.slice A5 e3 A6]] w _
 go_enter Tryz.func21,Tryz.ntmps21
 have A7:=hid (Below.refl w.heap.size w);go_upto_region 1 with(fail)
 obtain⟨m3,s6⟩:∃W,W=w.alloc (.cells #[.bool k3,.slice k4 k6 k5,.slice k7 k9 k8,.slice z9 e0 A0,.slice l0 l2 l1,.slice l3 l5 l4,.slice A1 e1 A2,.slice A3 e2 A4,.slice A5 e3 A6] 34):=⟨_,rfl⟩;have D3:Below w.heap.size w m3:=by rw[s6];exact(Below.refl _ _).alloc (Nat.le_refl _) _
 have A9:=hid (A7.out.trans (D3.mono A7.out.size));have w1:Hid (Bk m3 w.heap.size 34 #[.bool k3,.slice k4 k6 k5,.slice k7 k9 k8,.slice z9 e0 A0,.slice l0 l2 l1,.slice l3 l5 l4,.slice A1 e1 A2,.slice A3 e2 A4,.slice A5 e3 A6]):=by rw[s6];exact Bk.new _ _ _
 rw[←s6];clear s6 D3;obtain⟨S7,_,_⟩:=w1.out.facts;obtain⟨O4,c8,N9,T9,M0,D9,E8⟩:=G4.out.unlist;subst N9;have F2:=hid D9;have H3:=hid E8;have T5:e0≤100000000:=Nat.le_trans (uN c8 e0) x2.out;unfold maxLen at M0;clear D9 E8;go_wp2;have B7:=hid (TI.start c8 (Below.refl m3.heap.size m3));go_loopw [4,21] (fun ov iv wr=>∃(k:Nat),k≤e0∧iv = .int .i64 k∧Hid (TI c8 m3 ov k wr)) (fun _ iv _=>e0-(intOf iv).toNat)
 case atStart=>exact⟨0,by omega,rfl,B7⟩
 obtain⟨b0,T1,rfl,s1⟩:=hrel;clear B7;obtain⟨c9,k2⟩:∃w:World,w=wr:=⟨_,rfl⟩;subst k2;obtain⟨n8,o2,rfl,_,_⟩:=s1.out.form;have w6:=s1.out.2;have l9:=hid (A9.out.trans (w6.mono A9.out.size));have n0:=hid (w1.out.below w6 w1.out.lt);clear w6;by_cases a8:b0<e0
 ·obtain⟨r4,v8,j7,_,D5,x0⟩:=F2.out (by omega)
  subst j7;have E4:=H3.out b0 a8;obtain⟨X0,v6⟩:∃u,O4 b0=u:=⟨_,rfl⟩;rw[v6]at E4;have x6:Hid ((c8 b0).length≤MX):=Nat.le_trans (uc c8 a8) x2.out;have x9:Shape.sz ut=2:=ua9;obtain⟨_,v2,V0,_,c0,_,rfl,rfl,y6,V1,_,c2,_,rfl,rfl,y7,rfl,rfl⟩:=E4;injection v2 with v2 _;obtain⟨f0,f2,f1,rfl⟩:=ua y6.ty;obtain⟨f3,f5,f4,rfl⟩:=ua y7.ty;have r0:=hid v2;have M3:Hid (c0.length≤MX):=Nat.le_trans (uc (fun i=>[c0,c2].getD i []) (i:=0) (k:=2) (by decide)) (uag r0.out x6.out)
  have F4:=hid y6;clear y6;have M4:Hid (c2.length≤MX):=Nat.le_trans (uc (fun i=>[c0,c2].getD i []) (i:=1) (k:=2) (by decide)) (uag r0.out x6.out)
  have F5:=hid y7;clear y7;clear v2;have k0:c9.cell? ⟨r4,v8+b0*2,none⟩=some (.slice f0 f2 f1):=by
   have h9:=(l9.out.cell (p:=⟨r4,v8+b0*Shape.sz ut+0,none⟩) D5).trans (x0 b0 a8 0 (.slice f0 f2 f1) (by rw[v6];rfl))
   rw[x9]at h9;simpa using h9
  have k1:c9.cell? ⟨r4,v8+b0*2+1,none⟩=some (.slice f3 f5 f4):=by
   have h9:=(l9.out.cell (p:=⟨r4,v8+b0*Shape.sz ut+1,none⟩) D5).trans (x0 b0 a8 1 (.slice f3 f5 f4) (by rw[v6];rfl))
   rw[x9]at h9;simpa using h9
  clear x0 v6 x9;go_upto_region 5 with(fail)
  obtain⟨C6,s2⟩:∃W,W=c9.alloc (.cells #[.slice f0 f2 f1,.slice f3 f5 f4] 105):=⟨_,rfl⟩;have s7:Below c9.heap.size c9 C6:=by rw[s2];exact(Below.refl _ _).alloc (Nat.le_refl _) _
  have l6:=hid (l9.out.trans (s7.mono l9.out.size));have B0:=hid (n0.out.below s7 n0.out.lt);have H4:=hid (s1.out.below s7);have m0:Hid (Bk C6 c9.heap.size 105 #[.slice f0 f2 f1,.slice f3 f5 f4]):=by rw[s2];exact Bk.new _ _ _
  rw[←s2];clear s2 s7;clear k0 k1;go_upto_region 5 with(fail)
  refine uv (by kernel_rfl) (by kernel_rfl) [25,26,27,28,29,30,31,32,33,34] 40 (by kernel_rfl) (fun io v x=>match io with
   | 0=>v = .slice n8 b0 o2
   | 1=>v = .pointer (some ⟨c9.heap.size,0,none⟩)
   | 2=>v = .slice f0 f2 f1
   | 3=>v = .string ⟨c0.toArray⟩
   | 4=>v = .pointer (some ⟨c9.heap.size,1,none⟩)
   | 5=>v = .slice f3 f5 f4
   | 6=>v = .string ⟨c2.toArray⟩
   | 7=>Strs x v 2 (fun i=>[c0,c2].getD i [])
   | 8=>v = .string ⟨(par (fun i=>[c0,c2].getD i []) 2).toArray⟩
   | _=>Strs x v 1 (fun _=>(par (fun i=>[c0,c2].getD i []) 2))) ?_ ?_ ?_
  ·intro io v x x' a1 h hb
   rcases io with _|_|_|_|_|_|_|_|_|io
   ·exact h
   ·exact h
   ·exact h
   ·exact h
   ·exact h
   ·exact h
   ·exact h
   ·exact Strs.below h hb
   ·exact h
   ·exact Strs.below h hb
  ·intro io oo S x ho a1 a2 a0
   rcases io with _|_|_|_|_|_|_|_|_|_|io
   ·cases ho
    refine ub rfl rfl fun KK HK=>?_
    clear a0 a1;simp only[nm,Nat.reduceAdd]at HK ⊢;go_wp2;exact HK.out _ _ ⟨_,rfl,rfl,Below.refl _ _⟩
   ·cases ho
    refine ub rfl rfl fun KK HK=>?_
    clear a0 a1;simp only[nm,Nat.reduceAdd]at HK ⊢;go_wp2;exact HK.out _ _ ⟨_,rfl,rfl,Below.refl _ _⟩
   ·cases ho
    have h1:S 1 = .pointer (some ⟨c9.heap.size,0,none⟩):=a0 1 (by kernel_rfl) (by decide)
    obtain⟨R2,_,_⟩:=(m0.out.below a2 m0.out.lt).facts;refine ub rfl rfl fun KK HK=>?_
    clear a0 a1;simp only[nm,Nat.reduceAdd]at HK ⊢;generalize S 1=t1 at *;subst h1;go_wp2;exact HK.out _ _ ⟨_,rfl,rfl,Below.refl _ _⟩
   ·cases ho
    have h2:S 2 = .slice f0 f2 f1:=a0 2 (by kernel_rfl) (by decide)
    refine ub rfl rfl fun KK HK=>?_
    clear a0 a1;simp only[nm,Nat.reduceAdd]at HK ⊢;generalize S 2=t2 at *;subst h2;go_wp2_with fail
    have key:=uxh x D [.slice f0 f2 f1] c0 (F4.out.below (l6.out.trans (a2.mono l6.out.size))) M3.out;rw[ue]at key;refine(key).mono ?_;rintro e xN⟨rfl,a5⟩;exact HK.out _ _ ⟨_,rfl,rfl,a5⟩
   ·cases ho
    refine ub rfl rfl fun KK HK=>?_
    clear a0 a1;simp only[nm,Nat.reduceAdd]at HK ⊢;go_wp2;exact HK.out _ _ ⟨_,rfl,rfl,Below.refl _ _⟩
   ·cases ho
    have h4:S 4 = .pointer (some ⟨c9.heap.size,1,none⟩):=a0 4 (by kernel_rfl) (by decide)
    obtain⟨R3,_,_⟩:=(m0.out.below a2 m0.out.lt).facts;refine ub rfl rfl fun KK HK=>?_
    clear a0 a1;simp only[nm,Nat.reduceAdd]at HK ⊢;generalize S 4=t4 at *;subst h4;go_wp2;exact HK.out _ _ ⟨_,rfl,rfl,Below.refl _ _⟩
   ·cases ho
    have h5:S 5 = .slice f3 f5 f4:=a0 5 (by kernel_rfl) (by decide)
    refine ub rfl rfl fun KK HK=>?_
    clear a0 a1;simp only[nm,Nat.reduceAdd]at HK ⊢;generalize S 5=t5 at *;subst h5;go_wp2_with fail
    have key:=uxh x D [.slice f3 f5 f4] c2 (F5.out.below (l6.out.trans (a2.mono l6.out.size))) M4.out;rw[ue]at key;refine(key).mono ?_;rintro e xN⟨rfl,a5⟩;exact HK.out _ _ ⟨_,rfl,rfl,a5⟩
   ·cases ho
    have h3:S 3 = .string ⟨c0.toArray⟩:=a0 3 (by kernel_rfl) (by decide)
    have h6:S 6 = .string ⟨c2.toArray⟩:=a0 6 (by kernel_rfl) (by decide)
    refine ub rfl rfl fun KK HK=>?_
    clear a0 a1;simp only[nm,Nat.reduceAdd]at HK ⊢;generalize S 3=t3 at *;subst h3;generalize S 6=t6 at *;subst h6;go_wp2;exact HK.out _ _ ⟨_,rfl,Strs.new x _ [c0,c2] _ rfl _ rfl (by decide),(Below.refl _ _).alloc (Nat.le_refl _) _⟩
   ·cases ho
    have h7:Strs x (S 7) 2 (fun i=>[c0,c2].getD i []):=a0 7 (by kernel_rfl) (by decide)
    refine ub rfl rfl fun KK HK=>?_
    clear a0 a1;simp only[nm,Nat.reduceAdd]at HK ⊢;go_wp2_with fail
    refine(ux _ _ 2 _ h7 (uag r0.out x6.out)).mono ?_;rintro e xN⟨rfl,a5⟩;exact HK.out _ _ ⟨_,rfl,rfl,a5⟩
   ·cases ho
    have h8:S 8 = .string ⟨(par (fun i=>[c0,c2].getD i []) 2).toArray⟩:=a0 8 (by kernel_rfl) (by decide)
    refine ub rfl rfl fun KK HK=>?_
    clear a0 a1;simp only[nm,Nat.reduceAdd]at HK ⊢;generalize S 8=t8 at *;subst h8;go_wp2;exact HK.out _ _ ⟨_,rfl,Strs.new1 x _ _,(Below.refl _ _).alloc (Nat.le_refl _) _⟩
   ·exact absurd a1 (by simp)
  intro S x a2 hF;have g0:S 0 = .slice n8 b0 o2:=hF 0 (by decide)
  have g1:S 1 = .pointer (some ⟨c9.heap.size,0,none⟩):=hF 1 (by decide)
  have g2:S 2 = .slice f0 f2 f1:=hF 2 (by decide)
  have g3:S 3 = .string ⟨c0.toArray⟩:=hF 3 (by decide)
  have g4:S 4 = .pointer (some ⟨c9.heap.size,1,none⟩):=hF 4 (by decide)
  have g5:S 5 = .slice f3 f5 f4:=hF 5 (by decide)
  have g6:S 6 = .string ⟨c2.toArray⟩:=hF 6 (by decide)
  have g7:Strs x (S 7) 2 (fun i=>[c0,c2].getD i []):=hF 7 (by decide)
  have g8:S 8 = .string ⟨(par (fun i=>[c0,c2].getD i []) 2).toArray⟩:=hF 8 (by decide)
  have g9:Strs x (S 9) 1 (fun _=>(par (fun i=>[c0,c2].getD i []) 2)):=hF 9 (by decide)
  clear hF;simp only[nm,Nat.reduceAdd,List.length_cons,List.length_nil,List.drop_succ_cons,List.drop_zero];generalize S 0=t0 at *;subst g0;generalize S 1=t1 at *;subst g1;generalize S 2=t2 at *;subst g2;generalize S 3=t3 at *;subst g3;generalize S 4=t4 at *;subst g4;generalize S 5=t5 at *;subst g5;generalize S 6=t6 at *;subst g6;generalize S 7=t7 at *;generalize S 8=t8 at *;subst g8;generalize S 9=t9 at *;obtain⟨O5,d9⟩:∃y:World,y=x:=⟨_,rfl⟩;subst d9;have O8:=hid (l6.out.trans (a2.mono l6.out.size));have P2:=hid (B0.out.below a2 B0.out.lt);have P3:=hid (m0.out.below a2 m0.out.lt);have H5:=hid (H4.out.below a2);obtain⟨b1,o1,c1,rfl,n3⟩:=Strs.one g9;go_wp2_with (at_builtin;refine uI O5 rfl _ _ rfl m3 c8 b0 _ rfl H5.out b1 o1 c1 rfl (par (fun i=>[c0,c2].getD i []) 2) n3 (r0.out.symm) (by omega) ?_)
  intro g2 w3 w4 d5;have j6:=hid d5;clear d5;go_wp2;go_roundw
  case rel=>exact⟨b0+1,by omega,by go_num,j6⟩
  case measure=>simp[intOf];omega
 obtain rfl:b0=e0:=by omega
 obtain⟨R4,_,_⟩:=n0.out.facts;obtain⟨O1,b4,N6,T6,L7,D6,E5⟩:=G7.out.unlist;subst N6;have E9:=hid D6;have H0:=hid E5;have T2:e1≤100000000:=Nat.le_trans (uN b4 e1) x3.out;unfold maxLen at L7;clear D6 E5;go_wp2;have B4:=hid (TI.start b4 (Below.refl c9.heap.size c9));go_loopw [5,41] (fun ov iv wr=>∃(k:Nat),k≤e1∧iv = .int .i64 k∧Hid (TI b4 c9 ov k wr)) (fun _ iv _=>e1-(intOf iv).toNat)
 case atStart=>exact⟨0,by omega,rfl,B4⟩
 obtain⟨a4,S8,rfl,r5⟩:=hrel;clear B4;obtain⟨b9,k2⟩:∃w:World,w=wr:=⟨_,rfl⟩;subst k2;obtain⟨n6,n9,rfl,_,_⟩:=r5.out.form;have s8:=r5.out.2;have e4:=hid (l9.out.trans (s8.mono l9.out.size));have m8:=hid (n0.out.below s8 n0.out.lt);have B8:=hid (s1.out.below s8);clear s8;by_cases a8:a4<e1
 ·obtain⟨e8,e9,j7,_,s9,n4⟩:=E9.out (by omega)
  subst j7;have E2:=H0.out a4 a8;obtain⟨W7,m6⟩:∃u,O1 a4=u:=⟨_,rfl⟩;rw[m6]at E2;have x7:Hid ((b4 a4).length≤MX):=Nat.le_trans (uc b4 a8) x3.out;have n5:Shape.sz (uae n)=4:=ucr;obtain⟨_,v3,V6,_,c3,_,rfl,rfl,z0,V7,_,c4,_,rfl,rfl,z1,rfl,rfl⟩:=E2;injection v3 with v3 _;obtain⟨f6,f7,f8,j0,f9,rfl⟩:=uek z0.ty;obtain⟨j1,j3,j2,rfl⟩:=ua z1.ty;have r1:=hid v3;have M5:Hid (c3.length≤MX):=Nat.le_trans (uc (fun i=>[c3,c4].getD i []) (i:=0) (k:=2) (by decide)) (uag r1.out x7.out)
  have F6:=hid z0;clear z0;have M6:Hid (c4.length≤MX):=Nat.le_trans (uc (fun i=>[c3,c4].getD i []) (i:=1) (k:=2) (by decide)) (uag r1.out x7.out)
  have F7:=hid z1;clear z1;clear v3;have k0:b9.cell? ⟨e8,e9+a4*4,none⟩=some (.int .i64 f6):=by
   have h9:=(e4.out.cell (p:=⟨e8,e9+a4*Shape.sz (uae n)+0,none⟩) s9).trans (n4 a4 a8 0 (.int .i64 f6) (by rw[m6];rfl))
   rw[n5]at h9;simpa using h9
  have k1:b9.cell? ⟨e8,e9+a4*4+1,none⟩=some (.int .i64 f7):=by
   have h9:=(e4.out.cell (p:=⟨e8,e9+a4*Shape.sz (uae n)+1,none⟩) s9).trans (n4 a4 a8 1 (.int .i64 f7) (by rw[m6];rfl))
   rw[n5]at h9;simpa using h9
  have w7:b9.cell? ⟨e8,e9+a4*4+2,none⟩=some (.slice f8 j0 f9):=by
   have h9:=(e4.out.cell (p:=⟨e8,e9+a4*Shape.sz (uae n)+2,none⟩) s9).trans (n4 a4 a8 2 (.slice f8 j0 f9) (by rw[m6];rfl))
   rw[n5]at h9;simpa using h9
  have w8:b9.cell? ⟨e8,e9+a4*4+3,none⟩=some (.slice j1 j3 j2):=by
   have h9:=(e4.out.cell (p:=⟨e8,e9+a4*Shape.sz (uae n)+3,none⟩) s9).trans (n4 a4 a8 3 (.slice j1 j3 j2) (by rw[m6];rfl))
   rw[n5]at h9;simpa using h9
  clear n4 m6 n5;go_upto_region 10 with(fail)
  obtain⟨C7,s3⟩:∃W,W=b9.alloc (.cells #[.int .i64 f6,.int .i64 f7,.slice f8 j0 f9,.slice j1 j3 j2] 118):=⟨_,rfl⟩;have n1:Below b9.heap.size b9 C7:=by rw[s3];exact(Below.refl _ _).alloc (Nat.le_refl _) _
  have l7:=hid (e4.out.trans (n1.mono e4.out.size));have B1:=hid (m8.out.below n1 m8.out.lt);have H6:=hid (B8.out.below n1);have H7:=hid (r5.out.below n1);have m1:Hid (Bk C7 b9.heap.size 118 #[.int .i64 f6,.int .i64 f7,.slice f8 j0 f9,.slice j1 j3 j2]):=by rw[s3];exact Bk.new _ _ _
  rw[←s3];clear s3 n1;clear k0 k1 w7 w8;go_upto_region 10 with(fail)
  refine uv (by kernel_rfl) (by kernel_rfl) [45,46,47,48,49,50,51,52,53,54] 40 (by kernel_rfl) (fun io v x=>match io with
   | 0=>v = .slice n6 a4 n9
   | 1=>v = .pointer (some ⟨b9.heap.size,0,none⟩)
   | 2=>v = .agg #[.int .i64 f6,.int .i64 f7,.slice f8 j0 f9]
   | 3=>v = .string ⟨c3.toArray⟩
   | 4=>v = .pointer (some ⟨b9.heap.size,3,none⟩)
   | 5=>v = .slice j1 j3 j2
   | 6=>v = .string ⟨c4.toArray⟩
   | 7=>Strs x v 2 (fun i=>[c3,c4].getD i [])
   | 8=>v = .string ⟨(par (fun i=>[c3,c4].getD i []) 2).toArray⟩
   | _=>Strs x v 1 (fun _=>(par (fun i=>[c3,c4].getD i []) 2))) ?_ ?_ ?_
  ·intro io v x x' a1 h hb
   rcases io with _|_|_|_|_|_|_|_|_|io
   ·exact h
   ·exact h
   ·exact h
   ·exact h
   ·exact h
   ·exact h
   ·exact h
   ·exact Strs.below h hb
   ·exact h
   ·exact Strs.below h hb
  ·intro io oo S x ho a1 a2 a0
   rcases io with _|_|_|_|_|_|_|_|_|_|io
   ·cases ho
    refine ub rfl rfl fun KK HK=>?_
    clear a0 a1;simp only[nm,Nat.reduceAdd]at HK ⊢;go_wp2;exact HK.out _ _ ⟨_,rfl,rfl,Below.refl _ _⟩
   ·cases ho
    refine ub rfl rfl fun KK HK=>?_
    clear a0 a1;simp only[nm,Nat.reduceAdd]at HK ⊢;go_wp2;exact HK.out _ _ ⟨_,rfl,rfl,Below.refl _ _⟩
   ·cases ho
    have h1:S 1 = .pointer (some ⟨b9.heap.size,0,none⟩):=a0 1 (by kernel_rfl) (by decide)
    obtain⟨R5,_,_⟩:=(m1.out.below a2 m1.out.lt).facts;refine ub rfl rfl fun KK HK=>?_
    clear a0 a1;simp only[nm,Nat.reduceAdd]at HK ⊢;generalize S 1=t1 at *;subst h1;go_wp2;exact HK.out _ _ ⟨_,rfl,rfl,Below.refl _ _⟩
   ·cases ho
    have h2:S 2 = .agg #[.int .i64 f6,.int .i64 f7,.slice f8 j0 f9]:=a0 2 (by kernel_rfl) (by decide)
    refine ub rfl rfl fun KK HK=>?_
    clear a0 a1;simp only[nm,Nat.reduceAdd]at HK ⊢;generalize S 2=t2 at *;subst h2;go_wp2_with fail
    have key:=(uzu n) x D [.int .i64 f6,.int .i64 f7,.slice f8 j0 f9] c3 (F6.out.below (l7.out.trans (a2.mono l7.out.size))) M5.out;rw[udg]at key;refine(key).mono ?_;rintro e xN⟨rfl,a5⟩;exact HK.out _ _ ⟨_,rfl,rfl,a5⟩
   ·cases ho
    refine ub rfl rfl fun KK HK=>?_
    clear a0 a1;simp only[nm,Nat.reduceAdd]at HK ⊢;go_wp2;exact HK.out _ _ ⟨_,rfl,rfl,Below.refl _ _⟩
   ·cases ho
    have h4:S 4 = .pointer (some ⟨b9.heap.size,3,none⟩):=a0 4 (by kernel_rfl) (by decide)
    obtain⟨R6,_,_⟩:=(m1.out.below a2 m1.out.lt).facts;refine ub rfl rfl fun KK HK=>?_
    clear a0 a1;simp only[nm,Nat.reduceAdd]at HK ⊢;generalize S 4=t4 at *;subst h4;go_wp2;exact HK.out _ _ ⟨_,rfl,rfl,Below.refl _ _⟩
   ·cases ho
    have h5:S 5 = .slice j1 j3 j2:=a0 5 (by kernel_rfl) (by decide)
    refine ub rfl rfl fun KK HK=>?_
    clear a0 a1;simp only[nm,Nat.reduceAdd]at HK ⊢;generalize S 5=t5 at *;subst h5;go_wp2_with fail
    have key:=uuj x D [.slice j1 j3 j2] c4 (F7.out.below (l7.out.trans (a2.mono l7.out.size))) M6.out;rw[ue]at key;refine(key).mono ?_;rintro e xN⟨rfl,a5⟩;exact HK.out _ _ ⟨_,rfl,rfl,a5⟩
   ·cases ho
    have h3:S 3 = .string ⟨c3.toArray⟩:=a0 3 (by kernel_rfl) (by decide)
    have h6:S 6 = .string ⟨c4.toArray⟩:=a0 6 (by kernel_rfl) (by decide)
    refine ub rfl rfl fun KK HK=>?_
    clear a0 a1;simp only[nm,Nat.reduceAdd]at HK ⊢;generalize S 3=t3 at *;subst h3;generalize S 6=t6 at *;subst h6;go_wp2;exact HK.out _ _ ⟨_,rfl,Strs.new x _ [c3,c4] _ rfl _ rfl (by decide),(Below.refl _ _).alloc (Nat.le_refl _) _⟩
   ·cases ho
    have h7:Strs x (S 7) 2 (fun i=>[c3,c4].getD i []):=a0 7 (by kernel_rfl) (by decide)
    refine ub rfl rfl fun KK HK=>?_
    clear a0 a1;simp only[nm,Nat.reduceAdd]at HK ⊢;go_wp2_with fail
    refine(ux _ _ 2 _ h7 (uag r1.out x7.out)).mono ?_;rintro e xN⟨rfl,a5⟩;exact HK.out _ _ ⟨_,rfl,rfl,a5⟩
   ·cases ho
    have h8:S 8 = .string ⟨(par (fun i=>[c3,c4].getD i []) 2).toArray⟩:=a0 8 (by kernel_rfl) (by decide)
    refine ub rfl rfl fun KK HK=>?_
    clear a0 a1;simp only[nm,Nat.reduceAdd]at HK ⊢;generalize S 8=t8 at *;subst h8;go_wp2;exact HK.out _ _ ⟨_,rfl,Strs.new1 x _ _,(Below.refl _ _).alloc (Nat.le_refl _) _⟩
   ·exact absurd a1 (by simp)
  intro S x a2 hF;have g0:S 0 = .slice n6 a4 n9:=hF 0 (by decide)
  have g1:S 1 = .pointer (some ⟨b9.heap.size,0,none⟩):=hF 1 (by decide)
  have g2:S 2 = .agg #[.int .i64 f6,.int .i64 f7,.slice f8 j0 f9]:=hF 2 (by decide)
  have g3:S 3 = .string ⟨c3.toArray⟩:=hF 3 (by decide)
  have g4:S 4 = .pointer (some ⟨b9.heap.size,3,none⟩):=hF 4 (by decide)
  have g5:S 5 = .slice j1 j3 j2:=hF 5 (by decide)
  have g6:S 6 = .string ⟨c4.toArray⟩:=hF 6 (by decide)
  have g7:Strs x (S 7) 2 (fun i=>[c3,c4].getD i []):=hF 7 (by decide)
  have g8:S 8 = .string ⟨(par (fun i=>[c3,c4].getD i []) 2).toArray⟩:=hF 8 (by decide)
  have g9:Strs x (S 9) 1 (fun _=>(par (fun i=>[c3,c4].getD i []) 2)):=hF 9 (by decide)
  clear hF;simp only[nm,Nat.reduceAdd,List.length_cons,List.length_nil,List.drop_succ_cons,List.drop_zero];generalize S 0=t0 at *;subst g0;generalize S 1=t1 at *;subst g1;generalize S 2=t2 at *;subst g2;generalize S 3=t3 at *;subst g3;generalize S 4=t4 at *;subst g4;generalize S 5=t5 at *;subst g5;generalize S 6=t6 at *;subst g6;generalize S 7=t7 at *;generalize S 8=t8 at *;subst g8;generalize S 9=t9 at *;obtain⟨O6,d9⟩:∃y:World,y=x:=⟨_,rfl⟩;subst d9;have O9:=hid (l7.out.trans (a2.mono l7.out.size));have P4:=hid (B1.out.below a2 B1.out.lt);have P5:=hid (m1.out.below a2 m1.out.lt);have Q1:=hid (H6.out.below a2);have H8:=hid (H7.out.below a2);obtain⟨b1,o1,c1,rfl,n3⟩:=Strs.one g9;go_wp2_with (at_builtin;refine uI O6 rfl _ _ rfl c9 b4 a4 _ rfl H8.out b1 o1 c1 rfl (par (fun i=>[c3,c4].getD i []) 2) n3 (r1.out.symm) (by omega) ?_)
  intro g2 w3 w4 d5;have j6:=hid d5;clear d5;go_wp2;go_roundw
  case rel=>exact⟨a4+1,by omega,by go_num,j6⟩
  case measure=>simp[intOf];omega
 obtain rfl:a4=e1:=by omega
 obtain⟨R7,_,_⟩:=m8.out.facts;obtain⟨O2,b5,N7,T7,L8,D7,E6⟩:=G8.out.unlist;subst N7;have F0:=hid D7;have H1:=hid E6;have T3:e2≤100000000:=Nat.le_trans (uN b5 e2) x4.out;unfold maxLen at L8;clear D7 E6;go_wp2;have B5:=hid (TI.start b5 (Below.refl b9.heap.size b9));go_loopw [6,60] (fun ov iv wr=>∃(k:Nat),k≤e2∧iv = .int .i64 k∧Hid (TI b5 b9 ov k wr)) (fun _ iv _=>e2-(intOf iv).toNat)
 case atStart=>exact⟨0,by omega,rfl,B5⟩
 obtain⟨a3,S9,rfl,r6⟩:=hrel;clear B5;obtain⟨b8,k2⟩:∃w:World,w=wr:=⟨_,rfl⟩;subst k2;obtain⟨y4,y5,rfl,_,_⟩:=r6.out.form;have n2:=r6.out.2;have d0:=hid (e4.out.trans (n2.mono e4.out.size));have m9:=hid (m8.out.below n2 m8.out.lt);have B9:=hid (B8.out.below n2);have C0:=hid (r5.out.below n2);clear n2;by_cases a8:a3<e2
 ·obtain⟨b6,b7,j7,_,d6,d2⟩:=F0.out (by omega)
  subst j7;have v1:=H1.out a3 a8;obtain⟨W8,d1⟩:∃u,O2 a3=u:=⟨_,rfl⟩;rw[d1]at v1;have N4:Hid ((b5 a3).length≤MX):=Nat.le_trans (uc b5 a8) x4.out;have d3:Shape.sz (uac n)=11:=ugs;obtain⟨o3,o7,o8,o9,p1,p0,p2,p4,p3,p5,p7,p6,p8,q0,p9,q1,q3,q2,q4,q6,q5,q7,q9,q8,o4,o6,o5,rfl⟩:=ur9 v1.ty;have F8:=hid v1;clear v1;have k0:b8.cell? ⟨b6,b7+a3*11,none⟩=some (.int .i64 o3):=by
   have h9:=(d0.out.cell (p:=⟨b6,b7+a3*Shape.sz (uac n)+0,none⟩) d6).trans (d2 a3 a8 0 (.int .i64 o3) (by rw[d1];rfl))
   rw[d3]at h9;simpa using h9
  have k1:b8.cell? ⟨b6,b7+a3*11+1,none⟩=some (.int .i64 o7):=by
   have h9:=(d0.out.cell (p:=⟨b6,b7+a3*Shape.sz (uac n)+1,none⟩) d6).trans (d2 a3 a8 1 (.int .i64 o7) (by rw[d1];rfl))
   rw[d3]at h9;simpa using h9
  have w7:b8.cell? ⟨b6,b7+a3*11+2,none⟩=some (.bool o8):=by
   have h9:=(d0.out.cell (p:=⟨b6,b7+a3*Shape.sz (uac n)+2,none⟩) d6).trans (d2 a3 a8 2 (.bool o8) (by rw[d1];rfl))
   rw[d3]at h9;simpa using h9
  have w8:b8.cell? ⟨b6,b7+a3*11+3,none⟩=some (.slice o9 p1 p0):=by
   have h9:=(d0.out.cell (p:=⟨b6,b7+a3*Shape.sz (uac n)+3,none⟩) d6).trans (d2 a3 a8 3 (.slice o9 p1 p0) (by rw[d1];rfl))
   rw[d3]at h9;simpa using h9
  have L0:b8.cell? ⟨b6,b7+a3*11+4,none⟩=some (.slice p2 p4 p3):=by
   have h9:=(d0.out.cell (p:=⟨b6,b7+a3*Shape.sz (uac n)+4,none⟩) d6).trans (d2 a3 a8 4 (.slice p2 p4 p3) (by rw[d1];rfl))
   rw[d3]at h9;simpa using h9
  have L1:b8.cell? ⟨b6,b7+a3*11+5,none⟩=some (.slice p5 p7 p6):=by
   have h9:=(d0.out.cell (p:=⟨b6,b7+a3*Shape.sz (uac n)+5,none⟩) d6).trans (d2 a3 a8 5 (.slice p5 p7 p6) (by rw[d1];rfl))
   rw[d3]at h9;simpa using h9
  have L2:b8.cell? ⟨b6,b7+a3*11+6,none⟩=some (.slice p8 q0 p9):=by
   have h9:=(d0.out.cell (p:=⟨b6,b7+a3*Shape.sz (uac n)+6,none⟩) d6).trans (d2 a3 a8 6 (.slice p8 q0 p9) (by rw[d1];rfl))
   rw[d3]at h9;simpa using h9
  have L3:b8.cell? ⟨b6,b7+a3*11+7,none⟩=some (.slice q1 q3 q2):=by
   have h9:=(d0.out.cell (p:=⟨b6,b7+a3*Shape.sz (uac n)+7,none⟩) d6).trans (d2 a3 a8 7 (.slice q1 q3 q2) (by rw[d1];rfl))
   rw[d3]at h9;simpa using h9
  have L4:b8.cell? ⟨b6,b7+a3*11+8,none⟩=some (.slice q4 q6 q5):=by
   have h9:=(d0.out.cell (p:=⟨b6,b7+a3*Shape.sz (uac n)+8,none⟩) d6).trans (d2 a3 a8 8 (.slice q4 q6 q5) (by rw[d1];rfl))
   rw[d3]at h9;simpa using h9
  have L5:b8.cell? ⟨b6,b7+a3*11+9,none⟩=some (.slice q7 q9 q8):=by
   have h9:=(d0.out.cell (p:=⟨b6,b7+a3*Shape.sz (uac n)+9,none⟩) d6).trans (d2 a3 a8 9 (.slice q7 q9 q8) (by rw[d1];rfl))
   rw[d3]at h9;simpa using h9
  have K9:b8.cell? ⟨b6,b7+a3*11+10,none⟩=some (.slice o4 o6 o5):=by
   have h9:=(d0.out.cell (p:=⟨b6,b7+a3*Shape.sz (uac n)+10,none⟩) d6).trans (d2 a3 a8 10 (.slice o4 o6 o5) (by rw[d1];rfl))
   rw[d3]at h9;simpa using h9
  clear d2 d1 d3;go_upto_region 15 with(fail)
  obtain⟨C8,s4⟩:∃W,W=b8.alloc (.cells #[.int .i64 o3,.int .i64 o7,.bool o8,.slice o9 p1 p0,.slice p2 p4 p3,.slice p5 p7 p6,.slice p8 q0 p9,.slice q1 q3 q2,.slice q4 q6 q5,.slice q7 q9 q8,.slice o4 o6 o5] 65):=⟨_,rfl⟩;have m4:Below b8.heap.size b8 C8:=by rw[s4];exact(Below.refl _ _).alloc (Nat.le_refl _) _
  have v9:=hid (d0.out.trans (m4.mono d0.out.size));have B2:=hid (m9.out.below m4 m9.out.lt);have H9:=hid (B9.out.below m4);have I0:=hid (C0.out.below m4);have I1:=hid (r6.out.below m4);have w0:Hid (Bk C8 b8.heap.size 65 #[.int .i64 o3,.int .i64 o7,.bool o8,.slice o9 p1 p0,.slice p2 p4 p3,.slice p5 p7 p6,.slice p8 q0 p9,.slice q1 q3 q2,.slice q4 q6 q5,.slice q7 q9 q8,.slice o4 o6 o5]):=by rw[s4];exact Bk.new _ _ _
  rw[←s4];clear s4 m4;clear k0 k1 w7 w8 L0 L1 L2 L3 L4 L5 K9;obtain⟨R8,_,_⟩:=w0.out.facts;go_wp2_with fail
  have key:=F3.out _ D [.int .i64 o3,.int .i64 o7,.bool o8,.slice o9 p1 p0,.slice p2 p4 p3,.slice p5 p7 p6,.slice p8 q0 p9,.slice q1 q3 q2,.slice q4 q6 q5,.slice q7 q9 q8,.slice o4 o6 o5] (b5 a3) (F8.out.below v9.out) N4.out;rw[ui2]at key;refine key.mono ?_;rintro e m7⟨rfl,D2⟩;have j8:=D2;have P0:=hid (v9.out.trans (j8.mono v9.out.size));have P6:=hid (B2.out.below j8 B2.out.lt);have P7:=hid (w0.out.below j8 w0.out.lt);have Q2:=hid (H9.out.below j8);have Q3:=hid (I0.out.below j8);have I2:=hid (I1.out.below j8);clear j8 D2;have L6:(m7.alloc (.cells #[.string ⟨(b5 a3).toArray⟩] 9)).cell? ⟨m7.heap.size,0,none⟩=some (.string ⟨(b5 a3).toArray⟩):=by rw[World.cell?_alloc_at _ _ _ _ rfl];rfl
  have I3:=hid (I2.out.below ((Below.refl m7.heap.size m7).alloc (Nat.le_refl _) (.cells #[.string ⟨(b5 a3).toArray⟩] 9)));go_wp2_with (at_builtin;refine uI (m7.alloc (.cells #[.string ⟨(b5 a3).toArray⟩] 9)) rfl _ _ rfl b9 b5 a3 _ rfl I3.out m7.heap.size 0 1 rfl (b5 a3) L6 (rfl) (by omega) ?_)
  intro g2 w3 w4 d5;have j6:=hid d5;clear d5;go_wp2;go_roundw
  case rel=>exact⟨a3+1,by omega,by go_num,j6⟩
  case measure=>simp[intOf];omega
 obtain rfl:a3=e2:=by omega
 obtain⟨R9,_,_⟩:=m9.out.facts;obtain⟨O3,c7,N8,T8,L9,D8,E7⟩:=G9.out.unlist;subst N8;have F1:=hid D8;have H2:=hid E7;have T4:e3≤100000000:=Nat.le_trans (uN c7 e3) x5.out;unfold maxLen at L9;clear D8 E7;go_wp2;have B6:=hid (TI.start c7 (Below.refl b8.heap.size b8));go_loopw [7,73] (fun ov iv wr=>∃(k:Nat),k≤e3∧iv = .int .i64 k∧Hid (TI c7 b8 ov k wr)) (fun _ iv _=>e3-(intOf iv).toNat)
 case atStart=>exact⟨0,by omega,rfl,B6⟩
 obtain⟨a9,T0,rfl,s0⟩:=hrel;clear B6;obtain⟨d4,k2⟩:∃w:World,w=wr:=⟨_,rfl⟩;subst k2;obtain⟨n7,o0,rfl,_,_⟩:=s0.out.form;have m5:=s0.out.2;have d8:=hid (d0.out.trans (m5.mono d0.out.size));have e6:=hid (m9.out.below m5 m9.out.lt);have C1:=hid (B9.out.below m5);have w2:=hid (C0.out.below m5);have C2:=hid (r6.out.below m5);clear m5;by_cases a8:a9<e3
 ·obtain⟨r3,v7,j7,_,D4,w9⟩:=F1.out (by omega)
  subst j7;have E3:=H2.out a9 a8;obtain⟨W9,v5⟩:∃u,O3 a9=u:=⟨_,rfl⟩;rw[v5]at E3;have x8:Hid ((c7 a9).length≤MX):=Nat.le_trans (uc c7 a8) x5.out;have y0:Shape.sz uW=2:=udh;obtain⟨_,v4,W2,_,c5,_,rfl,rfl,z4,W3,_,c6,_,rfl,rfl,z5,rfl,rfl⟩:=E3;injection v4 with v4 _;obtain⟨j4,rfl⟩:=ug z4.ty;obtain⟨j5,rfl⟩:=ug z5.ty;have r2:=hid v4;have M7:Hid (c5.length≤MX):=Nat.le_trans (uc (fun i=>[c5,c6].getD i []) (i:=0) (k:=2) (by decide)) (uag r2.out x8.out)
  have F9:=hid z4;clear z4;have M8:Hid (c6.length≤MX):=Nat.le_trans (uc (fun i=>[c5,c6].getD i []) (i:=1) (k:=2) (by decide)) (uag r2.out x8.out)
  have G0:=hid z5;clear z5;clear v4;have k0:d4.cell? ⟨r3,v7+a9*2,none⟩=some (.int .i64 j4):=by
   have h9:=(d8.out.cell (p:=⟨r3,v7+a9*Shape.sz uW+0,none⟩) D4).trans (w9 a9 a8 0 (.int .i64 j4) (by rw[v5];rfl))
   rw[y0]at h9;simpa using h9
  have k1:d4.cell? ⟨r3,v7+a9*2+1,none⟩=some (.int .i64 j5):=by
   have h9:=(d8.out.cell (p:=⟨r3,v7+a9*Shape.sz uW+1,none⟩) D4).trans (w9 a9 a8 1 (.int .i64 j5) (by rw[v5];rfl))
   rw[y0]at h9;simpa using h9
  clear w9 v5 y0;go_upto_region 20 with(fail)
  obtain⟨C9,s5⟩:∃W,W=d4.alloc (.cells #[.int .i64 j4,.int .i64 j5] 68):=⟨_,rfl⟩;have j9:Below d4.heap.size d4 C9:=by rw[s5];exact(Below.refl _ _).alloc (Nat.le_refl _) _
  have l8:=hid (d8.out.trans (j9.mono d8.out.size));have B3:=hid (e6.out.below j9 e6.out.lt);have I4:=hid (C1.out.below j9);have I5:=hid (w2.out.below j9);have I6:=hid (C2.out.below j9);have I7:=hid (s0.out.below j9);have m2:Hid (Bk C9 d4.heap.size 68 #[.int .i64 j4,.int .i64 j5]):=by rw[s5];exact Bk.new _ _ _
  rw[←s5];clear s5 j9;clear k0 k1;go_upto_region 20 with(fail)
  refine uv (by kernel_rfl) (by kernel_rfl) [77,78,79,80,81,82,83,84,85,86] 40 (by kernel_rfl) (fun io v x=>match io with
   | 0=>v = .slice n7 a9 o0
   | 1=>v = .pointer (some ⟨d4.heap.size,0,none⟩)
   | 2=>v = .int .i64 j4
   | 3=>v = .string ⟨c5.toArray⟩
   | 4=>v = .pointer (some ⟨d4.heap.size,1,none⟩)
   | 5=>v = .int .i64 j5
   | 6=>v = .string ⟨c6.toArray⟩
   | 7=>Strs x v 2 (fun i=>[c5,c6].getD i [])
   | 8=>v = .string ⟨(par (fun i=>[c5,c6].getD i []) 2).toArray⟩
   | _=>Strs x v 1 (fun _=>(par (fun i=>[c5,c6].getD i []) 2))) ?_ ?_ ?_
  ·intro io v x x' a1 h hb
   rcases io with _|_|_|_|_|_|_|_|_|io
   ·exact h
   ·exact h
   ·exact h
   ·exact h
   ·exact h
   ·exact h
   ·exact h
   ·exact Strs.below h hb
   ·exact h
   ·exact Strs.below h hb
  ·intro io oo S x ho a1 a2 a0
   rcases io with _|_|_|_|_|_|_|_|_|_|io
   ·cases ho
    refine ub rfl rfl fun KK HK=>?_
    clear a0 a1;simp only[nm,Nat.reduceAdd]at HK ⊢;go_wp2;exact HK.out _ _ ⟨_,rfl,rfl,Below.refl _ _⟩
   ·cases ho
    refine ub rfl rfl fun KK HK=>?_
    clear a0 a1;simp only[nm,Nat.reduceAdd]at HK ⊢;go_wp2;exact HK.out _ _ ⟨_,rfl,rfl,Below.refl _ _⟩
   ·cases ho
    have h1:S 1 = .pointer (some ⟨d4.heap.size,0,none⟩):=a0 1 (by kernel_rfl) (by decide)
    obtain⟨S0,_,_⟩:=(m2.out.below a2 m2.out.lt).facts;refine ub rfl rfl fun KK HK=>?_
    clear a0 a1;simp only[nm,Nat.reduceAdd]at HK ⊢;generalize S 1=t1 at *;subst h1;go_wp2;exact HK.out _ _ ⟨_,rfl,rfl,Below.refl _ _⟩
   ·cases ho
    have h2:S 2 = .int .i64 j4:=a0 2 (by kernel_rfl) (by decide)
    refine ub rfl rfl fun KK HK=>?_
    clear a0 a1;simp only[nm,Nat.reduceAdd]at HK ⊢;generalize S 2=t2 at *;subst h2;go_wp2_with fail
    have key:=udo x D [.int .i64 j4] c5 (F9.out.below (l8.out.trans (a2.mono l8.out.size))) M7.out;rw[uo]at key;refine(key).mono ?_;rintro e xN⟨rfl,a5⟩;exact HK.out _ _ ⟨_,rfl,rfl,a5⟩
   ·cases ho
    refine ub rfl rfl fun KK HK=>?_
    clear a0 a1;simp only[nm,Nat.reduceAdd]at HK ⊢;go_wp2;exact HK.out _ _ ⟨_,rfl,rfl,Below.refl _ _⟩
   ·cases ho
    have h4:S 4 = .pointer (some ⟨d4.heap.size,1,none⟩):=a0 4 (by kernel_rfl) (by decide)
    obtain⟨S1,_,_⟩:=(m2.out.below a2 m2.out.lt).facts;refine ub rfl rfl fun KK HK=>?_
    clear a0 a1;simp only[nm,Nat.reduceAdd]at HK ⊢;generalize S 4=t4 at *;subst h4;go_wp2;exact HK.out _ _ ⟨_,rfl,rfl,Below.refl _ _⟩
   ·cases ho
    have h5:S 5 = .int .i64 j5:=a0 5 (by kernel_rfl) (by decide)
    refine ub rfl rfl fun KK HK=>?_
    clear a0 a1;simp only[nm,Nat.reduceAdd]at HK ⊢;generalize S 5=t5 at *;subst h5;go_wp2_with fail
    have key:=udo x D [.int .i64 j5] c6 (G0.out.below (l8.out.trans (a2.mono l8.out.size))) M8.out;rw[uo]at key;refine(key).mono ?_;rintro e xN⟨rfl,a5⟩;exact HK.out _ _ ⟨_,rfl,rfl,a5⟩
   ·cases ho
    have h3:S 3 = .string ⟨c5.toArray⟩:=a0 3 (by kernel_rfl) (by decide)
    have h6:S 6 = .string ⟨c6.toArray⟩:=a0 6 (by kernel_rfl) (by decide)
    refine ub rfl rfl fun KK HK=>?_
    clear a0 a1;simp only[nm,Nat.reduceAdd]at HK ⊢;generalize S 3=t3 at *;subst h3;generalize S 6=t6 at *;subst h6;go_wp2;exact HK.out _ _ ⟨_,rfl,Strs.new x _ [c5,c6] _ rfl _ rfl (by decide),(Below.refl _ _).alloc (Nat.le_refl _) _⟩
   ·cases ho
    have h7:Strs x (S 7) 2 (fun i=>[c5,c6].getD i []):=a0 7 (by kernel_rfl) (by decide)
    refine ub rfl rfl fun KK HK=>?_
    clear a0 a1;simp only[nm,Nat.reduceAdd]at HK ⊢;go_wp2_with fail
    refine(ux _ _ 2 _ h7 (uag r2.out x8.out)).mono ?_;rintro e xN⟨rfl,a5⟩;exact HK.out _ _ ⟨_,rfl,rfl,a5⟩
   ·cases ho
    have h8:S 8 = .string ⟨(par (fun i=>[c5,c6].getD i []) 2).toArray⟩:=a0 8 (by kernel_rfl) (by decide)
    refine ub rfl rfl fun KK HK=>?_
    clear a0 a1;simp only[nm,Nat.reduceAdd]at HK ⊢;generalize S 8=t8 at *;subst h8;go_wp2;exact HK.out _ _ ⟨_,rfl,Strs.new1 x _ _,(Below.refl _ _).alloc (Nat.le_refl _) _⟩
   ·exact absurd a1 (by simp)
  intro S x a2 hF;have g0:S 0 = .slice n7 a9 o0:=hF 0 (by decide)
  have g1:S 1 = .pointer (some ⟨d4.heap.size,0,none⟩):=hF 1 (by decide)
  have g2:S 2 = .int .i64 j4:=hF 2 (by decide)
  have g3:S 3 = .string ⟨c5.toArray⟩:=hF 3 (by decide)
  have g4:S 4 = .pointer (some ⟨d4.heap.size,1,none⟩):=hF 4 (by decide)
  have g5:S 5 = .int .i64 j5:=hF 5 (by decide)
  have g6:S 6 = .string ⟨c6.toArray⟩:=hF 6 (by decide)
  have g7:Strs x (S 7) 2 (fun i=>[c5,c6].getD i []):=hF 7 (by decide)
  have g8:S 8 = .string ⟨(par (fun i=>[c5,c6].getD i []) 2).toArray⟩:=hF 8 (by decide)
  have g9:Strs x (S 9) 1 (fun _=>(par (fun i=>[c5,c6].getD i []) 2)):=hF 9 (by decide)
  clear hF;simp only[nm,Nat.reduceAdd,List.length_cons,List.length_nil,List.drop_succ_cons,List.drop_zero];generalize S 0=t0 at *;subst g0;generalize S 1=t1 at *;subst g1;generalize S 2=t2 at *;subst g2;generalize S 3=t3 at *;subst g3;generalize S 4=t4 at *;subst g4;generalize S 5=t5 at *;subst g5;generalize S 6=t6 at *;subst g6;generalize S 7=t7 at *;generalize S 8=t8 at *;subst g8;generalize S 9=t9 at *;obtain⟨O7,d9⟩:∃y:World,y=x:=⟨_,rfl⟩;subst d9;have P1:=hid (l8.out.trans (a2.mono l8.out.size));have P8:=hid (B3.out.below a2 B3.out.lt);have P9:=hid (m2.out.below a2 m2.out.lt);have Q4:=hid (I4.out.below a2);have Q5:=hid (I5.out.below a2);have Q6:=hid (I6.out.below a2);have I8:=hid (I7.out.below a2);obtain⟨b1,o1,c1,rfl,n3⟩:=Strs.one g9;go_wp2_with (at_builtin;refine uI O7 rfl _ _ rfl b8 c7 a9 _ rfl I8.out b1 o1 c1 rfl (par (fun i=>[c5,c6].getD i []) 2) n3 (r2.out.symm) (by omega) ?_)
  intro g2 w3 w4 d5;have j6:=hid d5;clear d5;go_wp2;go_roundw
  case rel=>exact⟨a9+1,by omega,by go_num,j6⟩
  case measure=>simp[intOf];omega
 obtain rfl:a9=e3:=by omega
 go_upto_region 22 with(fail)
 refine uv (by kernel_rfl) (by kernel_rfl) [89,90,91,92,93,94,95,96,97,98,99,100] 40 (by kernel_rfl) (fun io v x=>match io with
  | 0=>v = .pointer (some ⟨w.heap.size,4,none⟩)
  | 1=>v = .pointer (some ⟨w.heap.size,4,none⟩)
  | 2=>v = .slice l0 l2 l1
  | 3=>v = .string ⟨a6.toArray⟩
  | 4=>v = .pointer (some ⟨w.heap.size,4,none⟩)
  | 5=>v = .pointer (some ⟨w.heap.size,5,none⟩)
  | 6=>v = .slice l3 l5 l4
  | 7=>v = .string ⟨a7.toArray⟩
  | 8=>v = .slice n6 a4 n9
  | 9=>v = .string ⟨(par b4 a4).toArray⟩
  | 10=>Strs x v 3 (fun i=>[a6,a7,(par b4 a4)].getD i [])
  | _=>v = .string ⟨(par (fun i=>[a6,a7,(par b4 a4)].getD i []) 3).toArray⟩) ?_ ?_ ?_
 ·intro io v x x' a1 h hb
  rcases io with _|_|_|_|_|_|_|_|_|_|_|io
  ·exact h
  ·exact h
  ·exact h
  ·exact h
  ·exact h
  ·exact h
  ·exact h
  ·exact h
  ·exact h
  ·exact h
  ·exact Strs.below h hb
  ·exact h
 ·intro io oo S x ho a1 a2 a0
  rcases io with _|_|_|_|_|_|_|_|_|_|_|_|io
  ·cases ho
   refine ub rfl rfl fun KK HK=>?_
   clear a0 a1;simp only[nm,Nat.reduceAdd]at HK ⊢;go_wp2;exact HK.out _ _ ⟨_,rfl,rfl,Below.refl _ _⟩
  ·cases ho
   have h0:S 0 = .pointer (some ⟨w.heap.size,4,none⟩):=a0 0 (by kernel_rfl) (by decide)
   refine ub rfl rfl fun KK HK=>?_
   clear a0 a1;simp only[nm,Nat.reduceAdd]at HK ⊢;generalize S 0=t0 at *;subst h0;go_wp2;exact HK.out _ _ ⟨_,rfl,rfl,Below.refl _ _⟩
  ·cases ho
   have h1:S 1 = .pointer (some ⟨w.heap.size,4,none⟩):=a0 1 (by kernel_rfl) (by decide)
   obtain⟨S2,_,_⟩:=(e6.out.below a2 e6.out.lt).facts;refine ub rfl rfl fun KK HK=>?_
   clear a0 a1;simp only[nm,Nat.reduceAdd]at HK ⊢;generalize S 1=t1 at *;subst h1;go_wp2;exact HK.out _ _ ⟨_,rfl,rfl,Below.refl _ _⟩
  ·cases ho
   have h2:S 2 = .slice l0 l2 l1:=a0 2 (by kernel_rfl) (by decide)
   refine ub rfl rfl fun KK HK=>?_
   clear a0 a1;simp only[nm,Nat.reduceAdd]at HK ⊢;generalize S 2=t2 at *;subst h2;go_wp2_with fail
   have key:=uum x D [.slice l0 l2 l1] a6 (G5.out.below (d8.out.trans (a2.mono d8.out.size))) N2.out;rw[ue]at key;refine(key).mono ?_;rintro e xN⟨rfl,a5⟩;exact HK.out _ _ ⟨_,rfl,rfl,a5⟩
  ·cases ho
   refine ub rfl rfl fun KK HK=>?_
   clear a0 a1;simp only[nm,Nat.reduceAdd]at HK ⊢;go_wp2;exact HK.out _ _ ⟨_,rfl,rfl,Below.refl _ _⟩
  ·cases ho
   have h4:S 4 = .pointer (some ⟨w.heap.size,4,none⟩):=a0 4 (by kernel_rfl) (by decide)
   refine ub rfl rfl fun KK HK=>?_
   clear a0 a1;simp only[nm,Nat.reduceAdd]at HK ⊢;generalize S 4=t4 at *;subst h4;go_wp2;exact HK.out _ _ ⟨_,rfl,rfl,Below.refl _ _⟩
  ·cases ho
   have h5:S 5 = .pointer (some ⟨w.heap.size,5,none⟩):=a0 5 (by kernel_rfl) (by decide)
   obtain⟨S3,_,_⟩:=(e6.out.below a2 e6.out.lt).facts;refine ub rfl rfl fun KK HK=>?_
   clear a0 a1;simp only[nm,Nat.reduceAdd]at HK ⊢;generalize S 5=t5 at *;subst h5;go_wp2;exact HK.out _ _ ⟨_,rfl,rfl,Below.refl _ _⟩
  ·cases ho
   have h6:S 6 = .slice l3 l5 l4:=a0 6 (by kernel_rfl) (by decide)
   refine ub rfl rfl fun KK HK=>?_
   clear a0 a1;simp only[nm,Nat.reduceAdd]at HK ⊢;generalize S 6=t6 at *;subst h6;go_wp2_with fail
   have key:=uum x D [.slice l3 l5 l4] a7 (G6.out.below (d8.out.trans (a2.mono d8.out.size))) N3.out;rw[ue]at key;refine(key).mono ?_;rintro e xN⟨rfl,a5⟩;exact HK.out _ _ ⟨_,rfl,rfl,a5⟩
  ·cases ho
   refine ub rfl rfl fun KK HK=>?_
   clear a0 a1;simp only[nm,Nat.reduceAdd]at HK ⊢;go_wp2;exact HK.out _ _ ⟨_,rfl,rfl,Below.refl _ _⟩
  ·cases ho
   have h8:S 8 = .slice n6 a4 n9:=a0 8 (by kernel_rfl) (by decide)
   refine ub rfl rfl fun KK HK=>?_
   clear a0 a1;simp only[nm,Nat.reduceAdd]at HK ⊢;generalize S 8=t8 at *;subst h8;go_wp2_with fail
   refine(ux _ _ a4 b4 ((w2.out.strs).below a2) x3.out).mono ?_;rintro e xN⟨rfl,a5⟩;exact HK.out _ _ ⟨_,rfl,rfl,a5⟩
  ·cases ho
   have h3:S 3 = .string ⟨a6.toArray⟩:=a0 3 (by kernel_rfl) (by decide)
   have h7:S 7 = .string ⟨a7.toArray⟩:=a0 7 (by kernel_rfl) (by decide)
   have h9:S 9 = .string ⟨(par b4 a4).toArray⟩:=a0 9 (by kernel_rfl) (by decide)
   refine ub rfl rfl fun KK HK=>?_
   clear a0 a1;simp only[nm,Nat.reduceAdd]at HK ⊢;generalize S 3=t3 at *;subst h3;generalize S 7=t7 at *;subst h7;generalize S 9=t9 at *;subst h9;go_wp2;exact HK.out _ _ ⟨_,rfl,Strs.new x _ [a6,a7,(par b4 a4)] _ rfl _ rfl (by decide),(Below.refl _ _).alloc (Nat.le_refl _) _⟩
  ·cases ho
   have w5:Strs x (S 10) 3 (fun i=>[a6,a7,(par b4 a4)].getD i []):=a0 10 (by kernel_rfl) (by decide)
   refine ub rfl rfl fun KK HK=>?_
   clear a0 a1;simp only[nm,Nat.reduceAdd]at HK ⊢;go_wp2_with fail
   refine(ux _ _ 3 _ w5 (v0.out)).mono ?_;rintro e xN⟨rfl,a5⟩;exact HK.out _ _ ⟨_,rfl,rfl,a5⟩
  ·exact absurd a1 (by simp)
 intro S x a2 hF;have g0:S 0 = .pointer (some ⟨w.heap.size,4,none⟩):=hF 0 (by decide)
 have g1:S 1 = .pointer (some ⟨w.heap.size,4,none⟩):=hF 1 (by decide)
 have g2:S 2 = .slice l0 l2 l1:=hF 2 (by decide)
 have g3:S 3 = .string ⟨a6.toArray⟩:=hF 3 (by decide)
 have g4:S 4 = .pointer (some ⟨w.heap.size,4,none⟩):=hF 4 (by decide)
 have g5:S 5 = .pointer (some ⟨w.heap.size,5,none⟩):=hF 5 (by decide)
 have g6:S 6 = .slice l3 l5 l4:=hF 6 (by decide)
 have g7:S 7 = .string ⟨a7.toArray⟩:=hF 7 (by decide)
 have g8:S 8 = .slice n6 a4 n9:=hF 8 (by decide)
 have g9:S 9 = .string ⟨(par b4 a4).toArray⟩:=hF 9 (by decide)
 have D0:Strs x (S 10) 3 (fun i=>[a6,a7,(par b4 a4)].getD i []):=hF 10 (by decide)
 have D1:S 11 = .string ⟨(par (fun i=>[a6,a7,(par b4 a4)].getD i []) 3).toArray⟩:=hF 11 (by decide)
 clear hF;simp only[nm,Nat.reduceAdd,List.length_cons,List.length_nil,List.drop_succ_cons,List.drop_zero];generalize S 0=t0 at *;subst g0;generalize S 1=t1 at *;subst g1;generalize S 2=t2 at *;subst g2;generalize S 3=t3 at *;subst g3;generalize S 4=t4 at *;subst g4;generalize S 5=t5 at *;subst g5;generalize S 6=t6 at *;subst g6;generalize S 7=t7 at *;subst g7;generalize S 8=t8 at *;subst g8;generalize S 9=t9 at *;subst g9;generalize S 10=t10 at *;generalize S 11=t11 at *;subst D1;obtain⟨X1,d9⟩:∃y:World,y=x:=⟨_,rfl⟩;subst d9;have e5:=hid (d8.out.trans (a2.mono d8.out.size));have e7:=hid (e6.out.below a2 e6.out.lt);have C3:=hid (C1.out.below a2);have I9:=hid (w2.out.below a2);have C4:=hid (C2.out.below a2);have C5:=hid (s0.out.below a2);go_upto_region 23 with(fail)
 refine uv (by kernel_rfl) (by kernel_rfl) [101,102,103,104,105,106,107,108,109,110,111,112,113,114,115,116,117,118,119,120,121,122] 40 (by kernel_rfl) (fun io v x=>match io with
  | 0=>v = .pointer (some ⟨w.heap.size,0,none⟩)
  | 1=>v = .bool k3
  | 2=>v = .string ⟨t1.toArray⟩
  | 3=>v = .pointer (some ⟨w.heap.size,1,none⟩)
  | 4=>v = .pointer (some ⟨w.heap.size,1,none⟩)
  | 5=>v = .slice k4 k6 k5
  | 6=>v = .string ⟨b2.toArray⟩
  | 7=>v = .pointer (some ⟨w.heap.size,1,none⟩)
  | 8=>v = .pointer (some ⟨w.heap.size,2,none⟩)
  | 9=>v = .slice k7 k9 k8
  | 10=>v = .string ⟨b3.toArray⟩
  | 11=>Strs x v 2 (fun i=>[b2,b3].getD i [])
  | 12=>v = .string ⟨(par (fun i=>[b2,b3].getD i []) 2).toArray⟩
  | 13=>v = .slice n8 b0 o2
  | 14=>v = .string ⟨(par c8 b0).toArray⟩
  | 15=>v = .string ⟨(par (fun i=>[a6,a7,(par b4 a4)].getD i []) 3).toArray⟩
  | 16=>v = .slice y4 a3 y5
  | 17=>v = .string ⟨(par b5 a3).toArray⟩
  | 18=>v = .slice n7 a9 o0
  | 19=>v = .string ⟨(par c7 a9).toArray⟩
  | 20=>Strs x v 6 (fun i=>[t1,(par (fun i=>[b2,b3].getD i []) 2),(par c8 b0),(par (fun i=>[a6,a7,(par b4 a4)].getD i []) 3),(par b5 a3),(par c7 a9)].getD i [])
  | _=>v = .string ⟨(par (fun i=>[t1,(par (fun i=>[b2,b3].getD i []) 2),(par c8 b0),(par (fun i=>[a6,a7,(par b4 a4)].getD i []) 3),(par b5 a3),(par c7 a9)].getD i []) 6).toArray⟩) ?_ ?_ ?_
 ·intro io v x x' a1 h hb
  rcases io with _|_|_|_|_|_|_|_|_|_|_|_|_|_|_|_|_|_|_|_|_|io
  ·exact h
  ·exact h
  ·exact h
  ·exact h
  ·exact h
  ·exact h
  ·exact h
  ·exact h
  ·exact h
  ·exact h
  ·exact h
  ·exact Strs.below h hb
  ·exact h
  ·exact h
  ·exact h
  ·exact h
  ·exact h
  ·exact h
  ·exact h
  ·exact h
  ·exact Strs.below h hb
  ·exact h
 ·intro io oo S x ho a1 a2 a0
  rcases io with _|_|_|_|_|_|_|_|_|_|_|_|_|_|_|_|_|_|_|_|_|_|io
  ·cases ho
   refine ub rfl rfl fun KK HK=>?_
   clear a0 a1;simp only[nm,Nat.reduceAdd]at HK ⊢;go_wp2;exact HK.out _ _ ⟨_,rfl,rfl,Below.refl _ _⟩
  ·cases ho
   have h0:S 0 = .pointer (some ⟨w.heap.size,0,none⟩):=a0 0 (by kernel_rfl) (by decide)
   obtain⟨S4,_,_⟩:=(e7.out.below a2 e7.out.lt).facts;refine ub rfl rfl fun KK HK=>?_
   clear a0 a1;simp only[nm,Nat.reduceAdd]at HK ⊢;generalize S 0=t0 at *;subst h0;go_wp2;exact HK.out _ _ ⟨_,rfl,rfl,Below.refl _ _⟩
  ·cases ho
   have h1:S 1 = .bool k3:=a0 1 (by kernel_rfl) (by decide)
   refine ub rfl rfl fun KK HK=>?_
   clear a0 a1;simp only[nm,Nat.reduceAdd]at HK ⊢;generalize S 1=t1 at *;subst h1;go_wp2_with fail
   have key:=uxg x D [.bool k3] t1 (G1.out.below (e5.out.trans (a2.mono e5.out.size))) M9.out;rw[ub9]at key;refine(key).mono ?_;rintro e xN⟨rfl,a5⟩;exact HK.out _ _ ⟨_,rfl,rfl,a5⟩
  ·cases ho
   refine ub rfl rfl fun KK HK=>?_
   clear a0 a1;simp only[nm,Nat.reduceAdd]at HK ⊢;go_wp2;exact HK.out _ _ ⟨_,rfl,rfl,Below.refl _ _⟩
  ·cases ho
   have h3:S 3 = .pointer (some ⟨w.heap.size,1,none⟩):=a0 3 (by kernel_rfl) (by decide)
   refine ub rfl rfl fun KK HK=>?_
   clear a0 a1;simp only[nm,Nat.reduceAdd]at HK ⊢;generalize S 3=t3 at *;subst h3;go_wp2;exact HK.out _ _ ⟨_,rfl,rfl,Below.refl _ _⟩
  ·cases ho
   have h4:S 4 = .pointer (some ⟨w.heap.size,1,none⟩):=a0 4 (by kernel_rfl) (by decide)
   obtain⟨S5,_,_⟩:=(e7.out.below a2 e7.out.lt).facts;refine ub rfl rfl fun KK HK=>?_
   clear a0 a1;simp only[nm,Nat.reduceAdd]at HK ⊢;generalize S 4=t4 at *;subst h4;go_wp2;exact HK.out _ _ ⟨_,rfl,rfl,Below.refl _ _⟩
  ·cases ho
   have h5:S 5 = .slice k4 k6 k5:=a0 5 (by kernel_rfl) (by decide)
   refine ub rfl rfl fun KK HK=>?_
   clear a0 a1;simp only[nm,Nat.reduceAdd]at HK ⊢;generalize S 5=t5 at *;subst h5;go_wp2_with fail
   have key:=uuk x D [.slice k4 k6 k5] b2 (G2.out.below (e5.out.trans (a2.mono e5.out.size))) N0.out;rw[ue]at key;refine(key).mono ?_;rintro e xN⟨rfl,a5⟩;exact HK.out _ _ ⟨_,rfl,rfl,a5⟩
  ·cases ho
   refine ub rfl rfl fun KK HK=>?_
   clear a0 a1;simp only[nm,Nat.reduceAdd]at HK ⊢;go_wp2;exact HK.out _ _ ⟨_,rfl,rfl,Below.refl _ _⟩
  ·cases ho
   have h7:S 7 = .pointer (some ⟨w.heap.size,1,none⟩):=a0 7 (by kernel_rfl) (by decide)
   refine ub rfl rfl fun KK HK=>?_
   clear a0 a1;simp only[nm,Nat.reduceAdd]at HK ⊢;generalize S 7=t7 at *;subst h7;go_wp2;exact HK.out _ _ ⟨_,rfl,rfl,Below.refl _ _⟩
  ·cases ho
   have h8:S 8 = .pointer (some ⟨w.heap.size,2,none⟩):=a0 8 (by kernel_rfl) (by decide)
   obtain⟨S6,_,_⟩:=(e7.out.below a2 e7.out.lt).facts;refine ub rfl rfl fun KK HK=>?_
   clear a0 a1;simp only[nm,Nat.reduceAdd]at HK ⊢;generalize S 8=t8 at *;subst h8;go_wp2;exact HK.out _ _ ⟨_,rfl,rfl,Below.refl _ _⟩
  ·cases ho
   have h9:S 9 = .slice k7 k9 k8:=a0 9 (by kernel_rfl) (by decide)
   refine ub rfl rfl fun KK HK=>?_
   clear a0 a1;simp only[nm,Nat.reduceAdd]at HK ⊢;generalize S 9=t9 at *;subst h9;go_wp2_with fail
   have key:=uuk x D [.slice k7 k9 k8] b3 (G3.out.below (e5.out.trans (a2.mono e5.out.size))) N1.out;rw[ue]at key;refine(key).mono ?_;rintro e xN⟨rfl,a5⟩;exact HK.out _ _ ⟨_,rfl,rfl,a5⟩
  ·cases ho
   have h6:S 6 = .string ⟨b2.toArray⟩:=a0 6 (by kernel_rfl) (by decide)
   have w5:S 10 = .string ⟨b3.toArray⟩:=a0 10 (by kernel_rfl) (by decide)
   refine ub rfl rfl fun KK HK=>?_
   clear a0 a1;simp only[nm,Nat.reduceAdd]at HK ⊢;generalize S 6=t6 at *;subst h6;generalize S 10=t10 at *;subst w5;go_wp2;exact HK.out _ _ ⟨_,rfl,Strs.new x _ [b2,b3] _ rfl _ rfl (by decide),(Below.refl _ _).alloc (Nat.le_refl _) _⟩
  ·cases ho
   have J9:Strs x (S 11) 2 (fun i=>[b2,b3].getD i []):=a0 11 (by kernel_rfl) (by decide)
   refine ub rfl rfl fun KK HK=>?_
   clear a0 a1;simp only[nm,Nat.reduceAdd]at HK ⊢;go_wp2_with fail
   refine(ux _ _ 2 _ J9 (x1.out)).mono ?_;rintro e xN⟨rfl,a5⟩;exact HK.out _ _ ⟨_,rfl,rfl,a5⟩
  ·cases ho
   refine ub rfl rfl fun KK HK=>?_
   clear a0 a1;simp only[nm,Nat.reduceAdd]at HK ⊢;go_wp2;exact HK.out _ _ ⟨_,rfl,rfl,Below.refl _ _⟩
  ·cases ho
   have K1:S 13 = .slice n8 b0 o2:=a0 13 (by kernel_rfl) (by decide)
   refine ub rfl rfl fun KK HK=>?_
   clear a0 a1;simp only[nm,Nat.reduceAdd]at HK ⊢;generalize S 13=t13 at *;subst K1;go_wp2_with fail
   refine(ux _ _ b0 c8 ((C3.out.strs).below a2) x2.out).mono ?_;rintro e xN⟨rfl,a5⟩;exact HK.out _ _ ⟨_,rfl,rfl,a5⟩
  ·cases ho
   refine ub rfl rfl fun KK HK=>?_
   clear a0 a1;simp only[nm,Nat.reduceAdd]at HK ⊢;go_wp2;exact HK.out _ _ ⟨_,rfl,rfl,Below.refl _ _⟩
  ·cases ho
   refine ub rfl rfl fun KK HK=>?_
   clear a0 a1;simp only[nm,Nat.reduceAdd]at HK ⊢;go_wp2;exact HK.out _ _ ⟨_,rfl,rfl,Below.refl _ _⟩
  ·cases ho
   have K4:S 16 = .slice y4 a3 y5:=a0 16 (by kernel_rfl) (by decide)
   refine ub rfl rfl fun KK HK=>?_
   clear a0 a1;simp only[nm,Nat.reduceAdd]at HK ⊢;generalize S 16=t16 at *;subst K4;go_wp2_with fail
   refine(ux _ _ a3 b5 ((C4.out.strs).below a2) x4.out).mono ?_;rintro e xN⟨rfl,a5⟩;exact HK.out _ _ ⟨_,rfl,rfl,a5⟩
  ·cases ho
   refine ub rfl rfl fun KK HK=>?_
   clear a0 a1;simp only[nm,Nat.reduceAdd]at HK ⊢;go_wp2;exact HK.out _ _ ⟨_,rfl,rfl,Below.refl _ _⟩
  ·cases ho
   have K6:S 18 = .slice n7 a9 o0:=a0 18 (by kernel_rfl) (by decide)
   refine ub rfl rfl fun KK HK=>?_
   clear a0 a1;simp only[nm,Nat.reduceAdd]at HK ⊢;generalize S 18=t18 at *;subst K6;go_wp2_with fail
   refine(ux _ _ a9 c7 ((C5.out.strs).below a2) x5.out).mono ?_;rintro e xN⟨rfl,a5⟩;exact HK.out _ _ ⟨_,rfl,rfl,a5⟩
  ·cases ho
   have h2:S 2 = .string ⟨t1.toArray⟩:=a0 2 (by kernel_rfl) (by decide)
   have K0:S 12 = .string ⟨(par (fun i=>[b2,b3].getD i []) 2).toArray⟩:=a0 12 (by kernel_rfl) (by decide)
   have K2:S 14 = .string ⟨(par c8 b0).toArray⟩:=a0 14 (by kernel_rfl) (by decide)
   have K3:S 15 = .string ⟨(par (fun i=>[a6,a7,(par b4 a4)].getD i []) 3).toArray⟩:=a0 15 (by kernel_rfl) (by decide)
   have K5:S 17 = .string ⟨(par b5 a3).toArray⟩:=a0 17 (by kernel_rfl) (by decide)
   have K7:S 19 = .string ⟨(par c7 a9).toArray⟩:=a0 19 (by kernel_rfl) (by decide)
   refine ub rfl rfl fun KK HK=>?_
   clear a0 a1;simp only[nm,Nat.reduceAdd]at HK ⊢;generalize S 2=t2 at *;subst h2;generalize S 12=t12 at *;subst K0;generalize S 14=t14 at *;subst K2;generalize S 15=t15 at *;subst K3;generalize S 17=t17 at *;subst K5;generalize S 19=t19 at *;subst K7;go_wp2;exact HK.out _ _ ⟨_,rfl,Strs.new x _ [t1,(par (fun i=>[b2,b3].getD i []) 2),(par c8 b0),(par (fun i=>[a6,a7,(par b4 a4)].getD i []) 3),(par b5 a3),(par c7 a9)] _ rfl _ rfl (by decide),(Below.refl _ _).alloc (Nat.le_refl _) _⟩
  ·cases ho
   have K8:Strs x (S 20) 6 (fun i=>[t1,(par (fun i=>[b2,b3].getD i []) 2),(par c8 b0),(par (fun i=>[a6,a7,(par b4 a4)].getD i []) 3),(par b5 a3),(par c7 a9)].getD i []):=a0 20 (by kernel_rfl) (by decide)
   refine ub rfl rfl fun KK HK=>?_
   clear a0 a1;simp only[nm,Nat.reduceAdd]at HK ⊢;go_wp2_with fail
   refine(ux _ _ 6 _ K8 (HL.out)).mono ?_;rintro e xN⟨rfl,a5⟩;exact HK.out _ _ ⟨_,rfl,rfl,a5⟩
  ·exact absurd a1 (by simp)
 intro S x a2 hF;have g0:S 0 = .pointer (some ⟨w.heap.size,0,none⟩):=hF 0 (by decide)
 have g1:S 1 = .bool k3:=hF 1 (by decide)
 have g2:S 2 = .string ⟨t1.toArray⟩:=hF 2 (by decide)
 have g3:S 3 = .pointer (some ⟨w.heap.size,1,none⟩):=hF 3 (by decide)
 have g4:S 4 = .pointer (some ⟨w.heap.size,1,none⟩):=hF 4 (by decide)
 have g5:S 5 = .slice k4 k6 k5:=hF 5 (by decide)
 have g6:S 6 = .string ⟨b2.toArray⟩:=hF 6 (by decide)
 have g7:S 7 = .pointer (some ⟨w.heap.size,1,none⟩):=hF 7 (by decide)
 have g8:S 8 = .pointer (some ⟨w.heap.size,2,none⟩):=hF 8 (by decide)
 have g9:S 9 = .slice k7 k9 k8:=hF 9 (by decide)
 have D0:S 10 = .string ⟨b3.toArray⟩:=hF 10 (by decide)
 have D1:Strs x (S 11) 2 (fun i=>[b2,b3].getD i []):=hF 11 (by decide)
 have J0:S 12 = .string ⟨(par (fun i=>[b2,b3].getD i []) 2).toArray⟩:=hF 12 (by decide)
 have J1:S 13 = .slice n8 b0 o2:=hF 13 (by decide)
 have J2:S 14 = .string ⟨(par c8 b0).toArray⟩:=hF 14 (by decide)
 have J3:S 15 = .string ⟨(par (fun i=>[a6,a7,(par b4 a4)].getD i []) 3).toArray⟩:=hF 15 (by decide)
 have J4:S 16 = .slice y4 a3 y5:=hF 16 (by decide)
 have J5:S 17 = .string ⟨(par b5 a3).toArray⟩:=hF 17 (by decide)
 have J6:S 18 = .slice n7 a9 o0:=hF 18 (by decide)
 have J7:S 19 = .string ⟨(par c7 a9).toArray⟩:=hF 19 (by decide)
 have R1:Strs x (S 20) 6 (fun i=>[t1,(par (fun i=>[b2,b3].getD i []) 2),(par c8 b0),(par (fun i=>[a6,a7,(par b4 a4)].getD i []) 3),(par b5 a3),(par c7 a9)].getD i []):=hF 20 (by decide)
 have J8:S 21 = .string ⟨(par (fun i=>[t1,(par (fun i=>[b2,b3].getD i []) 2),(par c8 b0),(par (fun i=>[a6,a7,(par b4 a4)].getD i []) 3),(par b5 a3),(par c7 a9)].getD i []) 6).toArray⟩:=hF 21 (by decide)
 clear hF;simp only[nm,Nat.reduceAdd,List.length_cons,List.length_nil,List.drop_succ_cons,List.drop_zero];generalize S 0=t0 at *;subst g0;generalize S 1=t1 at *;subst g1;generalize S 2=t2 at *;subst g2;generalize S 3=t3 at *;subst g3;generalize S 4=t4 at *;subst g4;generalize S 5=t5 at *;subst g5;generalize S 6=t6 at *;subst g6;generalize S 7=t7 at *;subst g7;generalize S 8=t8 at *;subst g8;generalize S 9=t9 at *;subst g9;generalize S 10=t10 at *;subst D0;generalize S 11=t11 at *;generalize S 12=t12 at *;subst J0;generalize S 13=t13 at *;subst J1;generalize S 14=t14 at *;subst J2;generalize S 15=t15 at *;subst J3;generalize S 16=t16 at *;subst J4;generalize S 17=t17 at *;subst J5;generalize S 18=t18 at *;subst J6;generalize S 19=t19 at *;subst J7;generalize S 20=t20 at *;generalize S 21=b2 at *;subst J8;obtain⟨X2,d9⟩:∃y:World,y=x:=⟨_,rfl⟩;subst d9;have A8:=hid (e5.out.trans (a2.mono e5.out.size));have Q0:=hid (e7.out.below a2 e7.out.lt);have Q7:=hid (C3.out.below a2);have Q8:=hid (I9.out.below a2);have Q9:=hid (C4.out.below a2);have R0:=hid (C5.out.below a2);obtain⟨T,hT⟩:∃T,(par (fun i=>[t1,(par (fun i=>[b2,b3].getD i []) 2),(par c8 b0),(par (fun i=>[a6,a7,(par b4 a4)].getD i []) 3),(par b5 a3),(par c7 a9)].getD i []) 6)=T:=⟨_,rfl⟩
 rw[hT];have HT:=hid hT;clear hT;by_cases E0:T.length≤262144
 ·have M1:decide ((262144:Int)<(T.length:Int))=false:=decide_eq_false (by omega)
  have M2:decide (262144<T.length)=false:=decide_eq_false (by omega)
  go_wp2;go_ret2
  exact CFPost.yes HT.out E0 A8.out
 ·have M1:decide ((262144:Int)<(T.length:Int))=true:=decide_eq_true (by omega)
  have M2:decide (262144<T.length)=true:=decide_eq_true (by omega)
  go_wp2;go_ret2
  exact CFPost.no HT.out E0 A8.out
end Go.Proofs.YtellcholbkoakaaGreatDoor
