/-
 The reference's writer: typ,index,mono,poly (printed by tgen.py).
-/
import Derived.Test.YtellcholbkoakaaGreatDoorHTe
namespace Go.Proofs.YtellcholbkoakaaGreatDoor
open Go.Lib (hid)
open Go.RowKit AC
set_option linter.unusedVariables false
set_option linter.unusedSimpArgs false
set_option maxHeartbeats 16000000 in
set_option maxRecDepth 100000 in
theorem uzu:∀n:Nat,ud8 61 (ua1 n)
 | 0=>fun w D v t h _=>False.elim h
 | n+1=>by
  have ih:=uzu n;have f4:=hid ih;clear ih;intro w D v t k3 hl;obtain⟨_,d7,l7,_,t1,_,rfl,rfl,r4,l8,_,t2,_,rfl,rfl,r5,l9,_,t3,_,rfl,rfl,r6,rfl,rfl⟩:=k3;injection d7 with d7 _;obtain⟨b0,rfl⟩:=ug r4.ty;obtain⟨b1,rfl⟩:=ug r5.ty;obtain⟨e0,a6,e1,rfl⟩:=ua r6.ty;subst d7;have HL:=hid hl;clear hl;have k0:Hid (t1.length≤MX):=Nat.le_trans (uc (fun i=>[t1,t2,t3].getD i []) (i:=0) (k:=3) (by decide)) (HL.out)
  have f5:=hid r4;clear r4;have k1:Hid (t2.length≤MX):=Nat.le_trans (uc (fun i=>[t1,t2,t3].getD i []) (i:=1) (k:=3) (by decide)) (HL.out)
  have f6:=hid r5;clear r5;have d6:Hid (t3.length≤MX):=Nat.le_trans (uc (fun i=>[t1,t2,t3].getD i []) (i:=2) (k:=3) (by decide)) (HL.out)
  have f7:=hid r6;clear r6;show Calls Tryz.prog 61 #[.agg #[.int .i64 b0,.int .i64 b1,.slice e0 a6 e1]] w _
  go_enter Tryz.func61,Tryz.ntmps61
  have e2:=hid (Below.refl w.heap.size w);go_upto_region 1 with(fail)
  obtain⟨b2,c5⟩:∃W,W=w.alloc (.cells #[.int .i64 b0,.int .i64 b1,.slice e0 a6 e1] 116):=⟨_,rfl⟩;have e8:Below w.heap.size w b2:=by rw[c5];exact(Below.refl _ _).alloc (Nat.le_refl _) _
  have e3:=hid (e2.out.trans (e8.mono e2.out.size));have d2:Hid (Bk b2 w.heap.size 116 #[.int .i64 b0,.int .i64 b1,.slice e0 a6 e1]):=by rw[c5];exact Bk.new _ _ _
  rw[←c5];clear c5 e8;obtain⟨l4,_,_⟩:=d2.out.facts;obtain⟨k7,a1,k4,m3,j9,f0,f1⟩:=f7.out.unlist;subst k4;have f3:=hid f0;have f9:=hid f1;have m2:a6≤100000000:=Nat.le_trans (uN a1 a6) d6.out;unfold maxLen at j9;clear f0 f1;go_wp2;have e5:=hid (TI.start a1 (Below.refl b2.heap.size b2));go_loopw [3,9] (fun ov iv wr=>∃(k:Nat),k≤a6∧iv = .int .i64 k∧Hid (TI a1 b2 ov k wr)) (fun _ iv _=>a6-(intOf iv).toNat)
  case atStart=>exact⟨0,by omega,rfl,e5⟩
  obtain⟨a0,m1,rfl,b6⟩:=hrel;clear e5;obtain⟨a9,k5⟩:∃w:World,w=wr:=⟨_,rfl⟩;subst k5;obtain⟨d8,d9,rfl,_,_⟩:=b6.out.form;have d4:=b6.out.2;have a4:=hid (e3.out.trans (d4.mono e3.out.size));have a7:=hid (d2.out.below d4 d2.out.lt);clear d4;by_cases b8:a0<a6
  ·obtain⟨b3,b4,j4,_,d5,c8⟩:=f3.out (by omega)
   subst j4;have c9:=f9.out a0 b8;obtain⟨m4,b9⟩:∃u,k7 a0=u:=⟨_,rfl⟩;rw[b9]at c9;have k2:Hid ((a1 a0).length≤MX):=Nat.le_trans (uc a1 b8) d6.out;have d0:Shape.sz (ua1 n)=3:=uA;obtain⟨c0,c1,c2,c4,c3,rfl⟩:=uek c9.ty;have f8:=hid c9;clear c9;have j5:a9.cell? ⟨b3,b4+a0*3,none⟩=some (.int .i64 c0):=by
    have h9:=(a4.out.cell (p:=⟨b3,b4+a0*Shape.sz (ua1 n)+0,none⟩) d5).trans (c8 a0 b8 0 (.int .i64 c0) (by rw[b9];rfl))
    rw[d0]at h9;simpa using h9
   have j6:a9.cell? ⟨b3,b4+a0*3+1,none⟩=some (.int .i64 c1):=by
    have h9:=(a4.out.cell (p:=⟨b3,b4+a0*Shape.sz (ua1 n)+1,none⟩) d5).trans (c8 a0 b8 1 (.int .i64 c1) (by rw[b9];rfl))
    rw[d0]at h9;simpa using h9
   have j7:a9.cell? ⟨b3,b4+a0*3+2,none⟩=some (.slice c2 c4 c3):=by
    have h9:=(a4.out.cell (p:=⟨b3,b4+a0*Shape.sz (ua1 n)+2,none⟩) d5).trans (c8 a0 b8 2 (.slice c2 c4 c3) (by rw[b9];rfl))
    rw[d0]at h9;simpa using h9
   clear c8 b9 d0;go_upto_region 5 with(fail)
   obtain⟨e6,c6⟩:∃W,W=a9.alloc (.cells #[.int .i64 c0,.int .i64 c1,.slice c2 c4 c3] 116):=⟨_,rfl⟩;have c7:Below a9.heap.size a9 e6:=by rw[c6];exact(Below.refl _ _).alloc (Nat.le_refl _) _
   have d1:=hid (a4.out.trans (c7.mono a4.out.size));have e4:=hid (a7.out.below c7 a7.out.lt);have j1:=hid (b6.out.below c7);have d3:Hid (Bk e6 a9.heap.size 116 #[.int .i64 c0,.int .i64 c1,.slice c2 c4 c3]):=by rw[c6];exact Bk.new _ _ _
   rw[←c6];clear c6 c7;clear j5 j6 j7;obtain⟨l5,_,_⟩:=d3.out.facts;go_wp2_with fail
   have key:=f4.out _ D [.int .i64 c0,.int .i64 c1,.slice c2 c4 c3] (a1 a0) (f8.out.below d1.out) k2.out;rw[udg]at key;refine key.mono ?_;rintro e b5⟨rfl,e9⟩;have b7:=e9;have k8:=hid (d1.out.trans (b7.mono d1.out.size));have k9:=hid (e4.out.below b7 e4.out.lt);have l0:=hid (d3.out.below b7 d3.out.lt);have j2:=hid (j1.out.below b7);clear b7 e9;have j8:(b5.alloc (.cells #[.string ⟨(a1 a0).toArray⟩] 9)).cell? ⟨b5.heap.size,0,none⟩=some (.string ⟨(a1 a0).toArray⟩):=by rw[World.cell?_alloc_at _ _ _ _ rfl];rfl
   have j3:=hid (j2.out.below ((Below.refl b5.heap.size b5).alloc (Nat.le_refl _) (.cells #[.string ⟨(a1 a0).toArray⟩] 9)));go_wp2_with (at_builtin;refine uI (b5.alloc (.cells #[.string ⟨(a1 a0).toArray⟩] 9)) rfl _ _ rfl b2 a1 a0 _ rfl j3.out b5.heap.size 0 1 rfl (a1 a0) j8 (rfl) (by omega) ?_)
   intro g2 l3 w4 e7;have j0:=hid e7;clear e7;go_wp2;go_roundw
   case rel=>exact⟨a0+1,by omega,by go_num,j0⟩
   case measure=>simp[intOf];omega
  obtain rfl:a0=a6:=by omega
  go_upto_region 7 with(fail)
  refine uv (by kernel_rfl) (by kernel_rfl) [19,20,21,22,23,24,25,26,27,28] 40 (by kernel_rfl) (fun io v x=>match io with
   | 0=>v = .pointer (some ⟨w.heap.size,0,none⟩)
   | 1=>v = .int .i64 b0
   | 2=>v = .string ⟨t1.toArray⟩
   | 3=>v = .pointer (some ⟨w.heap.size,1,none⟩)
   | 4=>v = .int .i64 b1
   | 5=>v = .string ⟨t2.toArray⟩
   | 6=>v = .slice d8 a0 d9
   | 7=>v = .string ⟨(par a1 a0).toArray⟩
   | 8=>Strs x v 3 (fun i=>[t1,t2,(par a1 a0)].getD i [])
   | _=>v = .string ⟨(par (fun i=>[t1,t2,(par a1 a0)].getD i []) 3).toArray⟩) ?_ ?_ ?_
  ·intro io v x x' a3 h hb
   rcases io with _|_|_|_|_|_|_|_|_|io
   ·exact h
   ·exact h
   ·exact h
   ·exact h
   ·exact h
   ·exact h
   ·exact h
   ·exact h
   ·exact Strs.below h hb
   ·exact h
  ·intro io oo S x ho a3 a5 a2
   rcases io with _|_|_|_|_|_|_|_|_|_|io
   ·cases ho
    refine ub rfl rfl fun KK HK=>?_
    clear a2 a3;simp only[nm,Nat.reduceAdd]at HK ⊢;go_wp2;exact HK.out _ _ ⟨_,rfl,rfl,Below.refl _ _⟩
   ·cases ho
    have h0:S 0 = .pointer (some ⟨w.heap.size,0,none⟩):=a2 0 (by kernel_rfl) (by decide)
    obtain⟨l6,_,_⟩:=(a7.out.below a5 a7.out.lt).facts;refine ub rfl rfl fun KK HK=>?_
    clear a2 a3;simp only[nm,Nat.reduceAdd]at HK ⊢;generalize S 0=t0 at *;subst h0;go_wp2;exact HK.out _ _ ⟨_,rfl,rfl,Below.refl _ _⟩
   ·cases ho
    have h1:S 1 = .int .i64 b0:=a2 1 (by kernel_rfl) (by decide)
    refine ub rfl rfl fun KK HK=>?_
    clear a2 a3;simp only[nm,Nat.reduceAdd]at HK ⊢;generalize S 1=t1 at *;subst h1;go_wp2_with fail
    have key:=udo x D [.int .i64 b0] t1 (f5.out.below (a4.out.trans (a5.mono a4.out.size))) k0.out;rw[uo]at key;refine(key).mono ?_;rintro e xN⟨rfl,a8⟩;exact HK.out _ _ ⟨_,rfl,rfl,a8⟩
   ·cases ho
    refine ub rfl rfl fun KK HK=>?_
    clear a2 a3;simp only[nm,Nat.reduceAdd]at HK ⊢;go_wp2;exact HK.out _ _ ⟨_,rfl,rfl,Below.refl _ _⟩
   ·cases ho
    have h3:S 3 = .pointer (some ⟨w.heap.size,1,none⟩):=a2 3 (by kernel_rfl) (by decide)
    obtain⟨m0,_,_⟩:=(a7.out.below a5 a7.out.lt).facts;refine ub rfl rfl fun KK HK=>?_
    clear a2 a3;simp only[nm,Nat.reduceAdd]at HK ⊢;generalize S 3=t3 at *;subst h3;go_wp2;exact HK.out _ _ ⟨_,rfl,rfl,Below.refl _ _⟩
   ·cases ho
    have h4:S 4 = .int .i64 b1:=a2 4 (by kernel_rfl) (by decide)
    refine ub rfl rfl fun KK HK=>?_
    clear a2 a3;simp only[nm,Nat.reduceAdd]at HK ⊢;generalize S 4=t4 at *;subst h4;go_wp2_with fail
    have key:=udo x D [.int .i64 b1] t2 (f6.out.below (a4.out.trans (a5.mono a4.out.size))) k1.out;rw[uo]at key;refine(key).mono ?_;rintro e xN⟨rfl,a8⟩;exact HK.out _ _ ⟨_,rfl,rfl,a8⟩
   ·cases ho
    refine ub rfl rfl fun KK HK=>?_
    clear a2 a3;simp only[nm,Nat.reduceAdd]at HK ⊢;go_wp2;exact HK.out _ _ ⟨_,rfl,rfl,Below.refl _ _⟩
   ·cases ho
    have h6:S 6 = .slice d8 a0 d9:=a2 6 (by kernel_rfl) (by decide)
    refine ub rfl rfl fun KK HK=>?_
    clear a2 a3;simp only[nm,Nat.reduceAdd]at HK ⊢;generalize S 6=t6 at *;subst h6;go_wp2_with fail
    refine(ux _ _ a0 a1 ((b6.out.strs).below a5) d6.out).mono ?_;rintro e xN⟨rfl,a8⟩;exact HK.out _ _ ⟨_,rfl,rfl,a8⟩
   ·cases ho
    have h2:S 2 = .string ⟨t1.toArray⟩:=a2 2 (by kernel_rfl) (by decide)
    have h5:S 5 = .string ⟨t2.toArray⟩:=a2 5 (by kernel_rfl) (by decide)
    have h7:S 7 = .string ⟨(par a1 a0).toArray⟩:=a2 7 (by kernel_rfl) (by decide)
    refine ub rfl rfl fun KK HK=>?_
    clear a2 a3;simp only[nm,Nat.reduceAdd]at HK ⊢;generalize S 2=t2 at *;subst h2;generalize S 5=t5 at *;subst h5;generalize S 7=t7 at *;subst h7;go_wp2;exact HK.out _ _ ⟨_,rfl,Strs.new x _ [t1,t2,(par a1 a0)] _ rfl _ rfl (by decide),(Below.refl _ _).alloc (Nat.le_refl _) _⟩
   ·cases ho
    have h8:Strs x (S 8) 3 (fun i=>[t1,t2,(par a1 a0)].getD i []):=a2 8 (by kernel_rfl) (by decide)
    refine ub rfl rfl fun KK HK=>?_
    clear a2 a3;simp only[nm,Nat.reduceAdd]at HK ⊢;go_wp2_with fail
    refine(ux _ _ 3 _ h8 (HL.out)).mono ?_;rintro e xN⟨rfl,a8⟩;exact HK.out _ _ ⟨_,rfl,rfl,a8⟩
   ·exact absurd a3 (by simp)
  intro S x a5 hF;have g0:S 0 = .pointer (some ⟨w.heap.size,0,none⟩):=hF 0 (by decide)
  have g1:S 1 = .int .i64 b0:=hF 1 (by decide)
  have g2:S 2 = .string ⟨t1.toArray⟩:=hF 2 (by decide)
  have g3:S 3 = .pointer (some ⟨w.heap.size,1,none⟩):=hF 3 (by decide)
  have g4:S 4 = .int .i64 b1:=hF 4 (by decide)
  have g5:S 5 = .string ⟨t2.toArray⟩:=hF 5 (by decide)
  have g6:S 6 = .slice d8 a0 d9:=hF 6 (by decide)
  have g7:S 7 = .string ⟨(par a1 a0).toArray⟩:=hF 7 (by decide)
  have g8:Strs x (S 8) 3 (fun i=>[t1,t2,(par a1 a0)].getD i []):=hF 8 (by decide)
  have g9:S 9 = .string ⟨(par (fun i=>[t1,t2,(par a1 a0)].getD i []) 3).toArray⟩:=hF 9 (by decide)
  clear hF;simp only[nm,Nat.reduceAdd,List.length_cons,List.length_nil,List.drop_succ_cons,List.drop_zero];generalize S 0=t0 at *;subst g0;generalize S 1=t1 at *;subst g1;generalize S 2=t2 at *;subst g2;generalize S 3=t3 at *;subst g3;generalize S 4=t4 at *;subst g4;generalize S 5=t5 at *;subst g5;generalize S 6=t6 at *;subst g6;generalize S 7=t7 at *;subst g7;generalize S 8=t8 at *;generalize S 9=t9 at *;subst g9;obtain⟨m5,k6⟩:∃y:World,y=x:=⟨_,rfl⟩;subst k6;have f2:=hid (a4.out.trans (a5.mono a4.out.size));have l1:=hid (a7.out.below a5 a7.out.lt);have l2:=hid (b6.out.below a5);go_wp2;go_ret
  exact⟨rfl,f2.out⟩
set_option maxHeartbeats 16000000 in
set_option maxRecDepth 100000 in
theorem uun:∀n:Nat,ud8 220 (uy n)
 | 0=>fun w D v t h _=>False.elim h
 | n+1=>by
  have ih:=uun n;have g3:=hid ih;clear ih;intro w D v t j1 hl;obtain⟨_,d4,k7,_,a5,_,rfl,rfl,d5,k8,_,d7,_,rfl,rfl,d6,rfl,rfl⟩:=j1;injection d4 with d4 _;obtain⟨c6,rfl⟩:=ug d5.ty;obtain⟨d9,a2,e0,rfl⟩:=ua d6.ty;subst d4;have HL:=hid hl;clear hl;have h8:Hid (a5.length≤MX):=Nat.le_trans (uc (fun i=>[a5,d7].getD i []) (i:=0) (k:=2) (by decide)) (HL.out)
  have g5:=hid d5;clear d5;have d2:Hid (d7.length≤MX):=Nat.le_trans (uc (fun i=>[a5,d7].getD i []) (i:=1) (k:=2) (by decide)) (HL.out)
  have g6:=hid d6;clear d6;show Calls Tryz.prog 220 #[.agg #[.int .i64 c6,.slice d9 a2 e0]] w _
  go_enter Tryz.func220,Tryz.ntmps220
  have e1:=hid (Below.refl w.heap.size w);go_upto_region 1 with(fail)
  obtain⟨a4,b7⟩:∃W,W=w.alloc (.cells #[.int .i64 c6,.slice d9 a2 e0] 143):=⟨_,rfl⟩;have f6:Below w.heap.size w a4:=by rw[b7];exact(Below.refl _ _).alloc (Nat.le_refl _) _
  have e4:=hid (e1.out.trans (f6.mono e1.out.size));have c9:Hid (Bk a4 w.heap.size 143 #[.int .i64 c6,.slice d9 a2 e0]):=by rw[b7];exact Bk.new _ _ _
  rw[←b7];clear b7 f6;obtain⟨k1,_,_⟩:=c9.out.facts;obtain⟨j4,a1,j2,k6,h7,f8,f9⟩:=g6.out.unlist;subst j2;have g1:=hid f8;have g7:=hid f9;have k5:a2≤100000000:=Nat.le_trans (uN a1 a2) d2.out;unfold maxLen at h7;clear f8 f9;go_wp2;have e8:=hid (TI.start a1 (Below.refl a4.heap.size a4));go_loopw [3,9] (fun ov iv wr=>∃(k:Nat),k≤a2∧iv = .int .i64 k∧Hid (TI a1 a4 ov k wr)) (fun _ iv _=>a2-(intOf iv).toNat)
  case atStart=>exact⟨0,by omega,rfl,e8⟩
  obtain⟨a0,k4,rfl,b5⟩:=hrel;clear e8;obtain⟨a7,j3⟩:∃w:World,w=wr:=⟨_,rfl⟩;subst j3;obtain⟨k9,l0,rfl,_,_⟩:=b5.out.form;have d0:=b5.out.2;have a3:=hid (e4.out.trans (d0.mono e4.out.size));have a8:=hid (c9.out.below d0 c9.out.lt);clear d0;by_cases c2:a0<a2
  ·obtain⟨b4,c5,h3,_,f7,d1⟩:=g1.out (by omega)
   subst h3;have c3:=g7.out a0 c2;obtain⟨l1,c4⟩:∃u,j4 a0=u:=⟨_,rfl⟩;rw[c4]at c3;have j0:Hid ((a1 a0).length≤MX):=Nat.le_trans (uc a1 c2) d2.out;have d3:Shape.sz (uy n)=2:=uj;obtain⟨b0,b1,b3,b2,rfl⟩:=ubz c3.ty;have g4:=hid c3;clear c3;have h4:a7.cell? ⟨b4,c5+a0*2,none⟩=some (.int .i64 b0):=by
    have h9:=(a3.out.cell (p:=⟨b4,c5+a0*Shape.sz (uy n)+0,none⟩) f7).trans (d1 a0 c2 0 (.int .i64 b0) (by rw[c4];rfl))
    rw[d3]at h9;simpa using h9
   have h5:a7.cell? ⟨b4,c5+a0*2+1,none⟩=some (.slice b1 b3 b2):=by
    have h9:=(a3.out.cell (p:=⟨b4,c5+a0*Shape.sz (uy n)+1,none⟩) f7).trans (d1 a0 c2 1 (.slice b1 b3 b2) (by rw[c4];rfl))
    rw[d3]at h9;simpa using h9
   clear d1 c4 d3;go_upto_region 5 with(fail)
   obtain⟨f0,b6⟩:∃W,W=a7.alloc (.cells #[.int .i64 b0,.slice b1 b3 b2] 143):=⟨_,rfl⟩;have b8:Below a7.heap.size a7 f0:=by rw[b6];exact(Below.refl _ _).alloc (Nat.le_refl _) _
   have c7:=hid (a3.out.trans (b8.mono a3.out.size));have e5:=hid (a8.out.below b8 a8.out.lt);have g8:=hid (b5.out.below b8);have c8:Hid (Bk f0 a7.heap.size 143 #[.int .i64 b0,.slice b1 b3 b2]):=by rw[b6];exact Bk.new _ _ _
   rw[←b6];clear b6 b8;clear h4 h5;obtain⟨k2,_,_⟩:=c8.out.facts;go_wp2_with fail
   have key:=g3.out _ D [.int .i64 b0,.slice b1 b3 b2] (a1 a0) (g4.out.below c7.out) j0.out;rw[ubp]at key;refine key.mono ?_;rintro e a6⟨rfl,f2⟩;have a9:=f2;have j5:=hid (c7.out.trans (a9.mono c7.out.size));have j6:=hid (e5.out.below a9 e5.out.lt);have j7:=hid (c8.out.below a9 c8.out.lt);have g9:=hid (g8.out.below a9);clear a9 f2;have h6:(a6.alloc (.cells #[.string ⟨(a1 a0).toArray⟩] 9)).cell? ⟨a6.heap.size,0,none⟩=some (.string ⟨(a1 a0).toArray⟩):=by rw[World.cell?_alloc_at _ _ _ _ rfl];rfl
   have h0:=hid (g9.out.below ((Below.refl a6.heap.size a6).alloc (Nat.le_refl _) (.cells #[.string ⟨(a1 a0).toArray⟩] 9)));go_wp2_with (at_builtin;refine uI (a6.alloc (.cells #[.string ⟨(a1 a0).toArray⟩] 9)) rfl _ _ rfl a4 a1 a0 _ rfl h0.out a6.heap.size 0 1 rfl (a1 a0) h6 (rfl) (by omega) ?_)
   intro g2 k0 w4 f1;have h2:=hid f1;clear f1;go_wp2;go_roundw
   case rel=>exact⟨a0+1,by omega,by go_num,h2⟩
   case measure=>simp[intOf];omega
  obtain rfl:a0=a2:=by omega
  obtain⟨k3,_,_⟩:=a8.out.facts;go_wp2_with fail
  have key:=udo _ D [.int .i64 c6] a5 (g5.out.below a3.out) h8.out;rw[uo]at key;refine key.mono ?_;rintro e l2⟨rfl,f3⟩;have b9:=f3;have e2:=hid (a3.out.trans (b9.mono a3.out.size));have e6:=hid (a8.out.below b9 a8.out.lt);have e9:=hid (b5.out.below b9);clear b9 f3;go_wp2_with fail
  refine(ux _ _ a0 a1 (e9.out.strs) d2.out).mono ?_;rintro e d8⟨rfl,f4⟩;have c0:=f4;have e3:=hid (e2.out.trans (c0.mono e2.out.size));have e7:=hid (e6.out.below c0 e6.out.lt);have h1:=hid (e9.out.below c0);clear c0 f4;go_wp2_with fail
  refine(ux _ _ 2 _ (Strs.new d8 _ [a5,(par a1 a0)] _ rfl _ rfl (by decide)) (HL.out)).mono ?_
  rintro e l3⟨rfl,f5⟩;have c1:=((Below.refl d8.heap.size d8).alloc (Nat.le_refl _) (.cells #[.string ⟨a5.toArray⟩,.string ⟨(par a1 a0).toArray⟩] 9)).trans (f5.mono (by simp;try omega))
  have g0:=hid (e3.out.trans (c1.mono e3.out.size));have j8:=hid (e7.out.below c1 e7.out.lt);have j9:=hid (h1.out.below c1);clear c1 f5;go_wp2;go_ret
  exact⟨rfl,g0.out⟩
set_option maxHeartbeats 16000000 in
set_option maxRecDepth 100000 in
theorem uo5(n:Nat):ud8 136 (uC n):=by
 intro w D v t r8 hl;obtain⟨_,k8,w8,_,l7,_,rfl,rfl,l1,w9,_,l8,_,rfl,rfl,l2,rfl,rfl⟩:=r8;injection k8 with k8 _;obtain⟨m0,b6,m1,rfl⟩:=ua l1.ty;obtain⟨m2,b7,m3,rfl⟩:=ua l2.ty;subst k8;have HL:=hid hl;clear hl;have k4:Hid (l7.length≤MX):=Nat.le_trans (uc (fun i=>[l7,l8].getD i []) (i:=0) (k:=2) (by decide)) (HL.out)
 have p5:=hid l1;clear l1;have k5:Hid (l8.length≤MX):=Nat.le_trans (uc (fun i=>[l7,l8].getD i []) (i:=1) (k:=2) (by decide)) (HL.out)
 have p6:=hid l2;clear l2;show Calls Tryz.prog 136 #[.agg #[.slice m0 b6 m1,.slice m2 b7 m3]] w _
 go_enter Tryz.func136,Tryz.ntmps136
 have m4:=hid (Below.refl w.heap.size w);go_upto_region 1 with(fail)
 obtain⟨d5,f3⟩:∃W,W=w.alloc (.cells #[.slice m0 b6 m1,.slice m2 b7 m3] 80):=⟨_,rfl⟩;have n7:Below w.heap.size w d5:=by rw[f3];exact(Below.refl _ _).alloc (Nat.le_refl _) _
 have m5:=hid (m4.out.trans (n7.mono m4.out.size));have j3:Hid (Bk d5 w.heap.size 80 #[.slice m0 b6 m1,.slice m2 b7 m3]):=by rw[f3];exact Bk.new _ _ _
 rw[←f3];clear f3 n7;obtain⟨v5,_,_⟩:=j3.out.facts;obtain⟨s1,b4,r9,w6,r2,o2,o6⟩:=p5.out.unlist;subst r9;have p3:=hid o2;have q1:=hid o6;have w3:b6≤100000000:=Nat.le_trans (uN b4 b6) k4.out;unfold maxLen at r2;clear o2 o6;go_wp2;have n2:=hid (TI.start b4 (Below.refl d5.heap.size d5));go_loopw [3,12] (fun ov iv wr=>∃(k:Nat),k≤b6∧iv = .int .i64 k∧Hid (TI b4 d5 ov k wr)) (fun _ iv _=>b6-(intOf iv).toNat)
 case atStart=>exact⟨0,by omega,rfl,n2⟩
 obtain⟨a2,w1,rfl,f1⟩:=hrel;clear n2;obtain⟨a9,k9⟩:∃w:World,w=wr:=⟨_,rfl⟩;subst k9;obtain⟨o8,p0,rfl,_,_⟩:=f1.out.form;have j7:=f1.out.2;have c9:=hid (m5.out.trans (j7.mono m5.out.size));have e0:=hid (j3.out.below j7 j3.out.lt);clear j7;by_cases b3:a2<b6
 ·obtain⟨d6,d8,j6,_,j8,f8⟩:=p3.out (by omega)
  subst j6;have o4:=q1.out a2 b3;obtain⟨x4,e6⟩:∃u,s1 a2=u:=⟨_,rfl⟩;rw[e6]at o4;have k6:Hid ((b4 a2).length≤MX):=Nat.le_trans (uc b4 b3) k4.out;have h0:Shape.sz (uO n)=3:=ub2;obtain⟨_,j1,x0,_,a5,_,rfl,rfl,l3,x1,_,a6,_,rfl,rfl,l4,rfl,rfl⟩:=o4;injection j1 with j1 _;obtain⟨b8,rfl⟩:=ug l3.ty;obtain⟨b9,c0,c3,c2,rfl⟩:=ubz l4.ty;have e9:=hid j1;have r4:Hid (a5.length≤MX):=Nat.le_trans (uc (fun i=>[a5,a6].getD i []) (i:=0) (k:=2) (by decide)) (uag e9.out k6.out)
  have p7:=hid l3;clear l3;have r5:Hid (a6.length≤MX):=Nat.le_trans (uc (fun i=>[a5,a6].getD i []) (i:=1) (k:=2) (by decide)) (uag e9.out k6.out)
  have p8:=hid l4;clear l4;clear j1;have k0:a9.cell? ⟨d6,d8+a2*3,none⟩=some (.int .i64 b8):=by
   have h9:=(c9.out.cell (p:=⟨d6,d8+a2*Shape.sz (uO n)+0,none⟩) j8).trans (f8 a2 b3 0 (.int .i64 b8) (by rw[e6];rfl))
   rw[h0]at h9;simpa using h9
  have k1:a9.cell? ⟨d6,d8+a2*3+1,none⟩=some (.int .i64 b9):=by
   have h9:=(c9.out.cell (p:=⟨d6,d8+a2*Shape.sz (uO n)+1,none⟩) j8).trans (f8 a2 b3 1 (.int .i64 b9) (by rw[e6];rfl))
   rw[h0]at h9;simpa using h9
  have k2:a9.cell? ⟨d6,d8+a2*3+2,none⟩=some (.slice c0 c3 c2):=by
   have h9:=(c9.out.cell (p:=⟨d6,d8+a2*Shape.sz (uO n)+2,none⟩) j8).trans (f8 a2 b3 2 (.slice c0 c3 c2) (by rw[e6];rfl))
   rw[h0]at h9;simpa using h9
  clear f8 e6 h0;go_upto_region 5 with(fail)
  obtain⟨n5,f4⟩:∃W,W=a9.alloc (.cells #[.int .i64 b8,.int .i64 b9,.slice c0 c3 c2] 145):=⟨_,rfl⟩;have f6:Below a9.heap.size a9 n5:=by rw[f4];exact(Below.refl _ _).alloc (Nat.le_refl _) _
  have d1:=hid (c9.out.trans (f6.mono c9.out.size));have m8:=hid (e0.out.below f6 e0.out.lt);have q3:=hid (f1.out.below f6);have d3:Hid (Bk n5 a9.heap.size 145 #[.int .i64 b8,.int .i64 b9,.slice c0 c3 c2]):=by rw[f4];exact Bk.new _ _ _
  rw[←f4];clear f4 f6;clear k0 k1 k2;go_upto_region 5 with(fail)
  refine uv (by kernel_rfl) (by kernel_rfl) [16,17,18,19,20,21,22,23,24,25] 40 (by kernel_rfl) (fun io v x=>match io with
   | 0=>v = .slice o8 a2 p0
   | 1=>v = .pointer (some ⟨a9.heap.size,0,none⟩)
   | 2=>v = .int .i64 b8
   | 3=>v = .string ⟨a5.toArray⟩
   | 4=>v = .pointer (some ⟨a9.heap.size,1,none⟩)
   | 5=>v = .agg #[.int .i64 b9,.slice c0 c3 c2]
   | 6=>v = .string ⟨a6.toArray⟩
   | 7=>Strs x v 2 (fun i=>[a5,a6].getD i [])
   | 8=>v = .string ⟨(par (fun i=>[a5,a6].getD i []) 2).toArray⟩
   | _=>Strs x v 1 (fun _=>(par (fun i=>[a5,a6].getD i []) 2))) ?_ ?_ ?_
  ·intro io v x x' a1 h hb
   rcases io with _|_|_|_|_|_|_|_|_|io
   ·exact h
   ·exact h
   ·exact h
   ·exact h
   ·exact h
   ·exact h
   ·exact h
   ·exact Strs.below h hb
   ·exact h
   ·exact Strs.below h hb
  ·intro io oo S x ho a1 a4 a0
   rcases io with _|_|_|_|_|_|_|_|_|_|io
   ·cases ho
    refine ub rfl rfl fun KK HK=>?_
    clear a0 a1;simp only[nm,Nat.reduceAdd]at HK ⊢;go_wp2;exact HK.out _ _ ⟨_,rfl,rfl,Below.refl _ _⟩
   ·cases ho
    refine ub rfl rfl fun KK HK=>?_
    clear a0 a1;simp only[nm,Nat.reduceAdd]at HK ⊢;go_wp2;exact HK.out _ _ ⟨_,rfl,rfl,Below.refl _ _⟩
   ·cases ho
    have h1:S 1 = .pointer (some ⟨a9.heap.size,0,none⟩):=a0 1 (by kernel_rfl) (by decide)
    obtain⟨v6,_,_⟩:=(d3.out.below a4 d3.out.lt).facts;refine ub rfl rfl fun KK HK=>?_
    clear a0 a1;simp only[nm,Nat.reduceAdd]at HK ⊢;generalize S 1=t1 at *;subst h1;go_wp2;exact HK.out _ _ ⟨_,rfl,rfl,Below.refl _ _⟩
   ·cases ho
    have h2:S 2 = .int .i64 b8:=a0 2 (by kernel_rfl) (by decide)
    refine ub rfl rfl fun KK HK=>?_
    clear a0 a1;simp only[nm,Nat.reduceAdd]at HK ⊢;generalize S 2=t2 at *;subst h2;go_wp2_with fail
    have key:=udo x D [.int .i64 b8] a5 (p7.out.below (d1.out.trans (a4.mono d1.out.size))) r4.out;rw[uo]at key;refine(key).mono ?_;rintro e xN⟨rfl,b2⟩;exact HK.out _ _ ⟨_,rfl,rfl,b2⟩
   ·cases ho
    refine ub rfl rfl fun KK HK=>?_
    clear a0 a1;simp only[nm,Nat.reduceAdd]at HK ⊢;go_wp2;exact HK.out _ _ ⟨_,rfl,rfl,Below.refl _ _⟩
   ·cases ho
    have h4:S 4 = .pointer (some ⟨a9.heap.size,1,none⟩):=a0 4 (by kernel_rfl) (by decide)
    obtain⟨v7,_,_⟩:=(d3.out.below a4 d3.out.lt).facts;refine ub rfl rfl fun KK HK=>?_
    clear a0 a1;simp only[nm,Nat.reduceAdd]at HK ⊢;generalize S 4=t4 at *;subst h4;go_wp2;exact HK.out _ _ ⟨_,rfl,rfl,Below.refl _ _⟩
   ·cases ho
    have h5:S 5 = .agg #[.int .i64 b9,.slice c0 c3 c2]:=a0 5 (by kernel_rfl) (by decide)
    refine ub rfl rfl fun KK HK=>?_
    clear a0 a1;simp only[nm,Nat.reduceAdd]at HK ⊢;generalize S 5=t5 at *;subst h5;go_wp2_with fail
    have key:=(uun n) x D [.int .i64 b9,.slice c0 c3 c2] a6 (p8.out.below (d1.out.trans (a4.mono d1.out.size))) r5.out;rw[ubp]at key;refine(key).mono ?_;rintro e xN⟨rfl,b2⟩;exact HK.out _ _ ⟨_,rfl,rfl,b2⟩
   ·cases ho
    have h3:S 3 = .string ⟨a5.toArray⟩:=a0 3 (by kernel_rfl) (by decide)
    have h6:S 6 = .string ⟨a6.toArray⟩:=a0 6 (by kernel_rfl) (by decide)
    refine ub rfl rfl fun KK HK=>?_
    clear a0 a1;simp only[nm,Nat.reduceAdd]at HK ⊢;generalize S 3=t3 at *;subst h3;generalize S 6=t6 at *;subst h6;go_wp2;exact HK.out _ _ ⟨_,rfl,Strs.new x _ [a5,a6] _ rfl _ rfl (by decide),(Below.refl _ _).alloc (Nat.le_refl _) _⟩
   ·cases ho
    have h7:Strs x (S 7) 2 (fun i=>[a5,a6].getD i []):=a0 7 (by kernel_rfl) (by decide)
    refine ub rfl rfl fun KK HK=>?_
    clear a0 a1;simp only[nm,Nat.reduceAdd]at HK ⊢;go_wp2_with fail
    refine(ux _ _ 2 _ h7 (uag e9.out k6.out)).mono ?_;rintro e xN⟨rfl,b2⟩;exact HK.out _ _ ⟨_,rfl,rfl,b2⟩
   ·cases ho
    have h8:S 8 = .string ⟨(par (fun i=>[a5,a6].getD i []) 2).toArray⟩:=a0 8 (by kernel_rfl) (by decide)
    refine ub rfl rfl fun KK HK=>?_
    clear a0 a1;simp only[nm,Nat.reduceAdd]at HK ⊢;generalize S 8=t8 at *;subst h8;go_wp2;exact HK.out _ _ ⟨_,rfl,Strs.new1 x _ _,(Below.refl _ _).alloc (Nat.le_refl _) _⟩
   ·exact absurd a1 (by simp)
  intro S x a4 hF;have g0:S 0 = .slice o8 a2 p0:=hF 0 (by decide)
  have g1:S 1 = .pointer (some ⟨a9.heap.size,0,none⟩):=hF 1 (by decide)
  have g2:S 2 = .int .i64 b8:=hF 2 (by decide)
  have g3:S 3 = .string ⟨a5.toArray⟩:=hF 3 (by decide)
  have g4:S 4 = .pointer (some ⟨a9.heap.size,1,none⟩):=hF 4 (by decide)
  have g5:S 5 = .agg #[.int .i64 b9,.slice c0 c3 c2]:=hF 5 (by decide)
  have g6:S 6 = .string ⟨a6.toArray⟩:=hF 6 (by decide)
  have g7:Strs x (S 7) 2 (fun i=>[a5,a6].getD i []):=hF 7 (by decide)
  have g8:S 8 = .string ⟨(par (fun i=>[a5,a6].getD i []) 2).toArray⟩:=hF 8 (by decide)
  have g9:Strs x (S 9) 1 (fun _=>(par (fun i=>[a5,a6].getD i []) 2)):=hF 9 (by decide)
  clear hF;simp only[nm,Nat.reduceAdd,List.length_cons,List.length_nil,List.drop_succ_cons,List.drop_zero];generalize S 0=t0 at *;subst g0;generalize S 1=t1 at *;subst g1;generalize S 2=t2 at *;subst g2;generalize S 3=t3 at *;subst g3;generalize S 4=t4 at *;subst g4;generalize S 5=t5 at *;subst g5;generalize S 6=t6 at *;subst g6;generalize S 7=t7 at *;generalize S 8=t8 at *;subst g8;generalize S 9=t9 at *;obtain⟨s3,l0⟩:∃y:World,y=x:=⟨_,rfl⟩;subst l0;have s5:=hid (d1.out.trans (a4.mono d1.out.size));have s7:=hid (m8.out.below a4 m8.out.lt);have s8:=hid (d3.out.below a4 d3.out.lt);have q4:=hid (q3.out.below a4);obtain⟨b1,o1,c1,rfl,k3⟩:=Strs.one g9;go_wp2_with (at_builtin;refine uI s3 rfl _ _ rfl d5 b4 a2 _ rfl q4.out b1 o1 c1 rfl (par (fun i=>[a5,a6].getD i []) 2) k3 (e9.out.symm) (by omega) ?_)
  intro g2 r1 w4 e1;have j5:=hid e1;clear e1;go_wp2;go_roundw
  case rel=>exact⟨a2+1,by omega,by go_num,j5⟩
  case measure=>simp[intOf];omega
 obtain rfl:a2=b6:=by omega
 obtain⟨v8,_,_⟩:=e0.out.facts;obtain⟨s2,b5,s0,w7,r3,o3,o7⟩:=p6.out.unlist;subst s0;have p4:=hid o3;have q2:=hid o7;have w5:b7≤100000000:=Nat.le_trans (uN b5 b7) k5.out;unfold maxLen at r3;clear o3 o7;go_wp2;have n3:=hid (TI.start b5 (Below.refl a9.heap.size a9));go_loopw [4,31] (fun ov iv wr=>∃(k:Nat),k≤b7∧iv = .int .i64 k∧Hid (TI b5 a9 ov k wr)) (fun _ iv _=>b7-(intOf iv).toNat)
 case atStart=>exact⟨0,by omega,rfl,n3⟩
 obtain⟨a3,w2,rfl,f2⟩:=hrel;clear n3;obtain⟨b0,k9⟩:∃w:World,w=wr:=⟨_,rfl⟩;subst k9;obtain⟨o9,p1,rfl,_,_⟩:=f2.out.form;have f7:=f2.out.2;have d0:=hid (c9.out.trans (f7.mono c9.out.size));have e8:=hid (e0.out.below f7 e0.out.lt);have j4:=hid (f1.out.below f7);clear f7;by_cases b3:a3<b7
 ·obtain⟨d7,d9,j6,_,j9,f9⟩:=p4.out (by omega)
  subst j6;have o5:=q2.out a3 b3;obtain⟨x5,e7⟩:∃u,s2 a3=u:=⟨_,rfl⟩;rw[e7]at o5;have k7:Hid ((b5 a3).length≤MX):=Nat.le_trans (uc b5 b3) k5.out;have j0:Shape.sz ua5=3:=udz;obtain⟨_,j2,x2,_,a7,_,rfl,rfl,l5,x3,_,a8,_,rfl,rfl,l6,rfl,rfl⟩:=o5;injection j2 with j2 _;obtain⟨c4,c5,c7,c6,rfl⟩:=ua2 l5.ty;obtain⟨c8,rfl⟩:=ug l6.ty;have f0:=hid j2;have r6:Hid (a7.length≤MX):=Nat.le_trans (uc (fun i=>[a7,a8].getD i []) (i:=0) (k:=2) (by decide)) (uag f0.out k7.out)
  have p9:=hid l5;clear l5;have r7:Hid (a8.length≤MX):=Nat.le_trans (uc (fun i=>[a7,a8].getD i []) (i:=1) (k:=2) (by decide)) (uag f0.out k7.out)
  have q0:=hid l6;clear l6;clear j2;have k0:b0.cell? ⟨d7,d9+a3*3,none⟩=some (.int .i64 c4):=by
   have h9:=(d0.out.cell (p:=⟨d7,d9+a3*Shape.sz ua5+0,none⟩) j9).trans (f9 a3 b3 0 (.int .i64 c4) (by rw[e7];rfl))
   rw[j0]at h9;simpa using h9
  have k1:b0.cell? ⟨d7,d9+a3*3+1,none⟩=some (.slice c5 c7 c6):=by
   have h9:=(d0.out.cell (p:=⟨d7,d9+a3*Shape.sz ua5+1,none⟩) j9).trans (f9 a3 b3 1 (.slice c5 c7 c6) (by rw[e7];rfl))
   rw[j0]at h9;simpa using h9
  have k2:b0.cell? ⟨d7,d9+a3*3+2,none⟩=some (.int .i64 c8):=by
   have h9:=(d0.out.cell (p:=⟨d7,d9+a3*Shape.sz ua5+2,none⟩) j9).trans (f9 a3 b3 2 (.int .i64 c8) (by rw[e7];rfl))
   rw[j0]at h9;simpa using h9
  clear f9 e7 j0;go_upto_region 10 with(fail)
  obtain⟨n6,f5⟩:∃W,W=b0.alloc (.cells #[.int .i64 c4,.slice c5 c7 c6,.int .i64 c8] 150):=⟨_,rfl⟩;have e2:Below b0.heap.size b0 n6:=by rw[f5];exact(Below.refl _ _).alloc (Nat.le_refl _) _
  have d2:=hid (d0.out.trans (e2.mono d0.out.size));have m9:=hid (e8.out.below e2 e8.out.lt);have q5:=hid (j4.out.below e2);have q6:=hid (f2.out.below e2);have d4:Hid (Bk n6 b0.heap.size 150 #[.int .i64 c4,.slice c5 c7 c6,.int .i64 c8]):=by rw[f5];exact Bk.new _ _ _
  rw[←f5];clear f5 e2;clear k0 k1 k2;go_upto_region 10 with(fail)
  refine uv (by kernel_rfl) (by kernel_rfl) [35,36,37,38,39,40,41,42,43,44] 40 (by kernel_rfl) (fun io v x=>match io with
   | 0=>v = .slice o9 a3 p1
   | 1=>v = .pointer (some ⟨b0.heap.size,0,none⟩)
   | 2=>v = .agg #[.int .i64 c4,.slice c5 c7 c6]
   | 3=>v = .string ⟨a7.toArray⟩
   | 4=>v = .pointer (some ⟨b0.heap.size,2,none⟩)
   | 5=>v = .int .i64 c8
   | 6=>v = .string ⟨a8.toArray⟩
   | 7=>Strs x v 2 (fun i=>[a7,a8].getD i [])
   | 8=>v = .string ⟨(par (fun i=>[a7,a8].getD i []) 2).toArray⟩
   | _=>Strs x v 1 (fun _=>(par (fun i=>[a7,a8].getD i []) 2))) ?_ ?_ ?_
  ·intro io v x x' a1 h hb
   rcases io with _|_|_|_|_|_|_|_|_|io
   ·exact h
   ·exact h
   ·exact h
   ·exact h
   ·exact h
   ·exact h
   ·exact h
   ·exact Strs.below h hb
   ·exact h
   ·exact Strs.below h hb
  ·intro io oo S x ho a1 a4 a0
   rcases io with _|_|_|_|_|_|_|_|_|_|io
   ·cases ho
    refine ub rfl rfl fun KK HK=>?_
    clear a0 a1;simp only[nm,Nat.reduceAdd]at HK ⊢;go_wp2;exact HK.out _ _ ⟨_,rfl,rfl,Below.refl _ _⟩
   ·cases ho
    refine ub rfl rfl fun KK HK=>?_
    clear a0 a1;simp only[nm,Nat.reduceAdd]at HK ⊢;go_wp2;exact HK.out _ _ ⟨_,rfl,rfl,Below.refl _ _⟩
   ·cases ho
    have h1:S 1 = .pointer (some ⟨b0.heap.size,0,none⟩):=a0 1 (by kernel_rfl) (by decide)
    obtain⟨v9,_,_⟩:=(d4.out.below a4 d4.out.lt).facts;refine ub rfl rfl fun KK HK=>?_
    clear a0 a1;simp only[nm,Nat.reduceAdd]at HK ⊢;generalize S 1=t1 at *;subst h1;go_wp2;exact HK.out _ _ ⟨_,rfl,rfl,Below.refl _ _⟩
   ·cases ho
    have h2:S 2 = .agg #[.int .i64 c4,.slice c5 c7 c6]:=a0 2 (by kernel_rfl) (by decide)
    refine ub rfl rfl fun KK HK=>?_
    clear a0 a1;simp only[nm,Nat.reduceAdd]at HK ⊢;generalize S 2=t2 at *;subst h2;go_wp2_with fail
    have key:=uwz x D [.int .i64 c4,.slice c5 c7 c6] a7 (p9.out.below (d2.out.trans (a4.mono d2.out.size))) r6.out;rw[ubg]at key;refine(key).mono ?_;rintro e xN⟨rfl,b2⟩;exact HK.out _ _ ⟨_,rfl,rfl,b2⟩
   ·cases ho
    refine ub rfl rfl fun KK HK=>?_
    clear a0 a1;simp only[nm,Nat.reduceAdd]at HK ⊢;go_wp2;exact HK.out _ _ ⟨_,rfl,rfl,Below.refl _ _⟩
   ·cases ho
    have h4:S 4 = .pointer (some ⟨b0.heap.size,2,none⟩):=a0 4 (by kernel_rfl) (by decide)
    obtain⟨w0,_,_⟩:=(d4.out.below a4 d4.out.lt).facts;refine ub rfl rfl fun KK HK=>?_
    clear a0 a1;simp only[nm,Nat.reduceAdd]at HK ⊢;generalize S 4=t4 at *;subst h4;go_wp2;exact HK.out _ _ ⟨_,rfl,rfl,Below.refl _ _⟩
   ·cases ho
    have h5:S 5 = .int .i64 c8:=a0 5 (by kernel_rfl) (by decide)
    refine ub rfl rfl fun KK HK=>?_
    clear a0 a1;simp only[nm,Nat.reduceAdd]at HK ⊢;generalize S 5=t5 at *;subst h5;go_wp2_with fail
    have key:=udo x D [.int .i64 c8] a8 (q0.out.below (d2.out.trans (a4.mono d2.out.size))) r7.out;rw[uo]at key;refine(key).mono ?_;rintro e xN⟨rfl,b2⟩;exact HK.out _ _ ⟨_,rfl,rfl,b2⟩
   ·cases ho
    have h3:S 3 = .string ⟨a7.toArray⟩:=a0 3 (by kernel_rfl) (by decide)
    have h6:S 6 = .string ⟨a8.toArray⟩:=a0 6 (by kernel_rfl) (by decide)
    refine ub rfl rfl fun KK HK=>?_
    clear a0 a1;simp only[nm,Nat.reduceAdd]at HK ⊢;generalize S 3=t3 at *;subst h3;generalize S 6=t6 at *;subst h6;go_wp2;exact HK.out _ _ ⟨_,rfl,Strs.new x _ [a7,a8] _ rfl _ rfl (by decide),(Below.refl _ _).alloc (Nat.le_refl _) _⟩
   ·cases ho
    have h7:Strs x (S 7) 2 (fun i=>[a7,a8].getD i []):=a0 7 (by kernel_rfl) (by decide)
    refine ub rfl rfl fun KK HK=>?_
    clear a0 a1;simp only[nm,Nat.reduceAdd]at HK ⊢;go_wp2_with fail
    refine(ux _ _ 2 _ h7 (uag f0.out k7.out)).mono ?_;rintro e xN⟨rfl,b2⟩;exact HK.out _ _ ⟨_,rfl,rfl,b2⟩
   ·cases ho
    have h8:S 8 = .string ⟨(par (fun i=>[a7,a8].getD i []) 2).toArray⟩:=a0 8 (by kernel_rfl) (by decide)
    refine ub rfl rfl fun KK HK=>?_
    clear a0 a1;simp only[nm,Nat.reduceAdd]at HK ⊢;generalize S 8=t8 at *;subst h8;go_wp2;exact HK.out _ _ ⟨_,rfl,Strs.new1 x _ _,(Below.refl _ _).alloc (Nat.le_refl _) _⟩
   ·exact absurd a1 (by simp)
  intro S x a4 hF;have g0:S 0 = .slice o9 a3 p1:=hF 0 (by decide)
  have g1:S 1 = .pointer (some ⟨b0.heap.size,0,none⟩):=hF 1 (by decide)
  have g2:S 2 = .agg #[.int .i64 c4,.slice c5 c7 c6]:=hF 2 (by decide)
  have g3:S 3 = .string ⟨a7.toArray⟩:=hF 3 (by decide)
  have g4:S 4 = .pointer (some ⟨b0.heap.size,2,none⟩):=hF 4 (by decide)
  have g5:S 5 = .int .i64 c8:=hF 5 (by decide)
  have g6:S 6 = .string ⟨a8.toArray⟩:=hF 6 (by decide)
  have g7:Strs x (S 7) 2 (fun i=>[a7,a8].getD i []):=hF 7 (by decide)
  have g8:S 8 = .string ⟨(par (fun i=>[a7,a8].getD i []) 2).toArray⟩:=hF 8 (by decide)
  have g9:Strs x (S 9) 1 (fun _=>(par (fun i=>[a7,a8].getD i []) 2)):=hF 9 (by decide)
  clear hF;simp only[nm,Nat.reduceAdd,List.length_cons,List.length_nil,List.drop_succ_cons,List.drop_zero];generalize S 0=t0 at *;subst g0;generalize S 1=t1 at *;subst g1;generalize S 2=t2 at *;subst g2;generalize S 3=t3 at *;subst g3;generalize S 4=t4 at *;subst g4;generalize S 5=t5 at *;subst g5;generalize S 6=t6 at *;subst g6;generalize S 7=t7 at *;generalize S 8=t8 at *;subst g8;generalize S 9=t9 at *;obtain⟨s4,l0⟩:∃y:World,y=x:=⟨_,rfl⟩;subst l0;have s6:=hid (d2.out.trans (a4.mono d2.out.size));have s9:=hid (m9.out.below a4 m9.out.lt);have v0:=hid (d4.out.below a4 d4.out.lt);have v2:=hid (q5.out.below a4);have q7:=hid (q6.out.below a4);obtain⟨b1,o1,c1,rfl,k3⟩:=Strs.one g9;go_wp2_with (at_builtin;refine uI s4 rfl _ _ rfl a9 b5 a3 _ rfl q7.out b1 o1 c1 rfl (par (fun i=>[a7,a8].getD i []) 2) k3 (f0.out.symm) (by omega) ?_)
  intro g2 r1 w4 e1;have j5:=hid e1;clear e1;go_wp2;go_roundw
  case rel=>exact⟨a3+1,by omega,by go_num,j5⟩
  case measure=>simp[intOf];omega
 obtain rfl:a3=b7:=by omega
 go_wp2_with fail
 refine(ux _ _ a2 b4 (j4.out.strs) k4.out).mono ?_;rintro e x6⟨rfl,n8⟩;have e3:=n8;have m6:=hid (d0.out.trans (e3.mono d0.out.size));have n0:=hid (e8.out.below e3 e8.out.lt);have q8:=hid (j4.out.below e3);have n4:=hid (f2.out.below e3);clear e3 n8;go_wp2_with fail
 refine(ux _ _ a3 b5 (n4.out.strs) k5.out).mono ?_;rintro e l9⟨rfl,n9⟩;have e4:=n9;have m7:=hid (m6.out.trans (e4.mono m6.out.size));have n1:=hid (n0.out.below e4 n0.out.lt);have q9:=hid (q8.out.below e4);have r0:=hid (n4.out.below e4);clear e4 n9;go_wp2_with fail
 refine(ux _ _ 2 _ (Strs.new l9 _ [(par b4 a2),(par b5 a3)] _ rfl _ rfl (by decide)) (HL.out)).mono ?_
 rintro e x7⟨rfl,o0⟩;have e5:=((Below.refl l9.heap.size l9).alloc (Nat.le_refl _) (.cells #[.string ⟨(par b4 a2).toArray⟩,.string ⟨(par b5 a3).toArray⟩] 9)).trans (o0.mono (by simp;try omega))
 have p2:=hid (m7.out.trans (e5.mono m7.out.size));have v1:=hid (n1.out.below e5 n1.out.lt);have v3:=hid (q9.out.below e5);have v4:=hid (r0.out.below e5);clear e5 o0;go_wp2;go_ret
 exact⟨rfl,p2.out⟩
set_option maxHeartbeats 16000000 in
set_option maxRecDepth 100000 in
theorem uo6(n:Nat):ud8 137 (.list (un n)):=by
 intro w D v t e1 hl;obtain⟨zA,zk,zc,rfl⟩:=ua e1.ty;have f7:=hid e1;have HL:=hid hl;clear e1 hl;show Calls Tryz.prog 137 #[.slice zA zk zc] w _
 go_enter Tryz.func137,Tryz.ntmps137
 have e4:=hid (Below.refl w.heap.size w);obtain⟨k6,c7,k3,l6,k0,f0,f2⟩:=f7.out.unlist;subst k3;have f6:=hid f0;have h0:=hid f2;have l5:zk≤100000000:=Nat.le_trans (uN c7 zk) HL.out;unfold maxLen at k0;clear f0 f2;go_wp2;have e5:=hid (TI.start c7 (Below.refl w.heap.size w));go_loopw [3,8] (fun ov iv wr=>∃(k:Nat),k≤zk∧iv = .int .i64 k∧Hid (TI c7 w ov k wr)) (fun _ iv _=>zk-(intOf iv).toNat)
 case atStart=>exact⟨0,by omega,rfl,e5⟩
 obtain⟨a0,l4,rfl,d2⟩:=hrel;clear e5;obtain⟨a4,k4⟩:∃w:World,w=wr:=⟨_,rfl⟩;subst k4;obtain⟨f3,f4,rfl,_,_⟩:=d2.out.form;have e8:=d2.out.2;have a8:=hid (e4.out.trans (e8.mono e4.out.size));clear e8;by_cases c5:a0<zk
 ·obtain⟨a6,a7,j3,_,d4,d0⟩:=f6.out (by omega)
  subst j3;have f1:=h0.out a0 c5;obtain⟨l9,c6⟩:∃u,k6 a0=u:=⟨_,rfl⟩;rw[c6]at f1;have e0:Hid ((c7 a0).length≤MX):=Nat.le_trans (uc c7 c5) HL.out;have d1:Shape.sz (un n)=5:=ugr;obtain⟨_,d7,l7,_,a2,_,rfl,rfl,e2,l8,_,a3,_,rfl,rfl,e3,rfl,rfl⟩:=f1;injection d7 with d7 _;obtain⟨b3,b0,b6,b4,b2,b7,b5,rfl⟩:=uay e2.ty;obtain⟨b8,c0,b9,c2,c4,c3,rfl⟩:=uaj e3.ty;have d5:=hid d7;have k1:Hid (a2.length≤MX):=Nat.le_trans (uc (fun i=>[a2,a3].getD i []) (i:=0) (k:=2) (by decide)) (uag d5.out e0.out)
  have f8:=hid e2;clear e2;have k2:Hid (a3.length≤MX):=Nat.le_trans (uc (fun i=>[a2,a3].getD i []) (i:=1) (k:=2) (by decide)) (uag d5.out e0.out)
  have f9:=hid e3;clear e3;clear d7;have j4:a4.cell? ⟨a6,a7+a0*5,none⟩=some (.bool b3):=by
   have h9:=(a8.out.cell (p:=⟨a6,a7+a0*Shape.sz (un n)+0,none⟩) d4).trans (d0 a0 c5 0 (.bool b3) (by rw[c6];rfl))
   rw[d1]at h9;simpa using h9
  have j5:a4.cell? ⟨a6,a7+a0*5+1,none⟩=some (.slice b0 b6 b4):=by
   have h9:=(a8.out.cell (p:=⟨a6,a7+a0*Shape.sz (un n)+1,none⟩) d4).trans (d0 a0 c5 1 (.slice b0 b6 b4) (by rw[c6];rfl))
   rw[d1]at h9;simpa using h9
  have j6:a4.cell? ⟨a6,a7+a0*5+2,none⟩=some (.slice b2 b7 b5):=by
   have h9:=(a8.out.cell (p:=⟨a6,a7+a0*Shape.sz (un n)+2,none⟩) d4).trans (d0 a0 c5 2 (.slice b2 b7 b5) (by rw[c6];rfl))
   rw[d1]at h9;simpa using h9
  have j7:a4.cell? ⟨a6,a7+a0*5+3,none⟩=some (.slice b8 c0 b9):=by
   have h9:=(a8.out.cell (p:=⟨a6,a7+a0*Shape.sz (un n)+3,none⟩) d4).trans (d0 a0 c5 3 (.slice b8 c0 b9) (by rw[c6];rfl))
   rw[d1]at h9;simpa using h9
  have j8:a4.cell? ⟨a6,a7+a0*5+4,none⟩=some (.slice c2 c4 c3):=by
   have h9:=(a8.out.cell (p:=⟨a6,a7+a0*Shape.sz (un n)+4,none⟩) d4).trans (d0 a0 c5 4 (.slice c2 c4 c3) (by rw[c6];rfl))
   rw[d1]at h9;simpa using h9
  clear d0 c6 d1;go_upto_region 5 with(fail)
  obtain⟨e6,d6⟩:∃W,W=a4.alloc (.cells #[.bool b3,.slice b0 b6 b4,.slice b2 b7 b5,.slice b8 c0 b9,.slice c2 c4 c3] 139):=⟨_,rfl⟩;have d8:Below a4.heap.size a4 e6:=by rw[d6];exact(Below.refl _ _).alloc (Nat.le_refl _) _
  have c8:=hid (a8.out.trans (d8.mono a8.out.size));have j0:=hid (d2.out.below d8);have c9:Hid (Bk e6 a4.heap.size 139 #[.bool b3,.slice b0 b6 b4,.slice b2 b7 b5,.slice b8 c0 b9,.slice c2 c4 c3]):=by rw[d6];exact Bk.new _ _ _
  rw[←d6];clear d6 d8;clear j4 j5 j6 j7 j8;go_upto_region 5 with(fail)
  refine uv (by kernel_rfl) (by kernel_rfl) [12,13,14,15,16,17,18,19,20,21] 40 (by kernel_rfl) (fun io v x=>match io with
   | 0=>v = .slice f3 a0 f4
   | 1=>v = .pointer (some ⟨a4.heap.size,0,none⟩)
   | 2=>v = .agg #[.bool b3,.slice b0 b6 b4,.slice b2 b7 b5]
   | 3=>v = .string ⟨a2.toArray⟩
   | 4=>v = .pointer (some ⟨a4.heap.size,3,none⟩)
   | 5=>v = .agg #[.slice b8 c0 b9,.slice c2 c4 c3]
   | 6=>v = .string ⟨a3.toArray⟩
   | 7=>Strs x v 2 (fun i=>[a2,a3].getD i [])
   | 8=>v = .string ⟨(par (fun i=>[a2,a3].getD i []) 2).toArray⟩
   | _=>Strs x v 1 (fun _=>(par (fun i=>[a2,a3].getD i []) 2))) ?_ ?_ ?_
  ·intro io v x x' a5 h hb
   rcases io with _|_|_|_|_|_|_|_|_|io
   ·exact h
   ·exact h
   ·exact h
   ·exact h
   ·exact h
   ·exact h
   ·exact h
   ·exact Strs.below h hb
   ·exact h
   ·exact Strs.below h hb
  ·intro io oo S x ho a5 a9 a1
   rcases io with _|_|_|_|_|_|_|_|_|_|io
   ·cases ho
    refine ub rfl rfl fun KK HK=>?_
    clear a1 a5;simp only[nm,Nat.reduceAdd]at HK ⊢;go_wp2;exact HK.out _ _ ⟨_,rfl,rfl,Below.refl _ _⟩
   ·cases ho
    refine ub rfl rfl fun KK HK=>?_
    clear a1 a5;simp only[nm,Nat.reduceAdd]at HK ⊢;go_wp2;exact HK.out _ _ ⟨_,rfl,rfl,Below.refl _ _⟩
   ·cases ho
    have h1:S 1 = .pointer (some ⟨a4.heap.size,0,none⟩):=a1 1 (by kernel_rfl) (by decide)
    obtain⟨l2,_,_⟩:=(c9.out.below a9 c9.out.lt).facts;refine ub rfl rfl fun KK HK=>?_
    clear a1 a5;simp only[nm,Nat.reduceAdd]at HK ⊢;generalize S 1=t1 at *;subst h1;go_wp2;exact HK.out _ _ ⟨_,rfl,rfl,Below.refl _ _⟩
   ·cases ho
    have h2:S 2 = .agg #[.bool b3,.slice b0 b6 b4,.slice b2 b7 b5]:=a1 2 (by kernel_rfl) (by decide)
    refine ub rfl rfl fun KK HK=>?_
    clear a1 a5;simp only[nm,Nat.reduceAdd]at HK ⊢;generalize S 2=t2 at *;subst h2;go_wp2_with fail
    have key:=uui x D [.bool b3,.slice b0 b6 b4,.slice b2 b7 b5] a2 (f8.out.below (c8.out.trans (a9.mono c8.out.size))) k1.out;rw[uaz]at key;refine(key).mono ?_;rintro e xN⟨rfl,d3⟩;exact HK.out _ _ ⟨_,rfl,rfl,d3⟩
   ·cases ho
    refine ub rfl rfl fun KK HK=>?_
    clear a1 a5;simp only[nm,Nat.reduceAdd]at HK ⊢;go_wp2;exact HK.out _ _ ⟨_,rfl,rfl,Below.refl _ _⟩
   ·cases ho
    have h4:S 4 = .pointer (some ⟨a4.heap.size,3,none⟩):=a1 4 (by kernel_rfl) (by decide)
    obtain⟨l3,_,_⟩:=(c9.out.below a9 c9.out.lt).facts;refine ub rfl rfl fun KK HK=>?_
    clear a1 a5;simp only[nm,Nat.reduceAdd]at HK ⊢;generalize S 4=t4 at *;subst h4;go_wp2;exact HK.out _ _ ⟨_,rfl,rfl,Below.refl _ _⟩
   ·cases ho
    have h5:S 5 = .agg #[.slice b8 c0 b9,.slice c2 c4 c3]:=a1 5 (by kernel_rfl) (by decide)
    refine ub rfl rfl fun KK HK=>?_
    clear a1 a5;simp only[nm,Nat.reduceAdd]at HK ⊢;generalize S 5=t5 at *;subst h5;go_wp2_with fail
    have key:=(uo5 n) x D [.slice b8 c0 b9,.slice c2 c4 c3] a3 (f9.out.below (c8.out.trans (a9.mono c8.out.size))) k2.out;rw[uau]at key;refine(key).mono ?_;rintro e xN⟨rfl,d3⟩;exact HK.out _ _ ⟨_,rfl,rfl,d3⟩
   ·cases ho
    have h3:S 3 = .string ⟨a2.toArray⟩:=a1 3 (by kernel_rfl) (by decide)
    have h6:S 6 = .string ⟨a3.toArray⟩:=a1 6 (by kernel_rfl) (by decide)
    refine ub rfl rfl fun KK HK=>?_
    clear a1 a5;simp only[nm,Nat.reduceAdd]at HK ⊢;generalize S 3=t3 at *;subst h3;generalize S 6=t6 at *;subst h6;go_wp2;exact HK.out _ _ ⟨_,rfl,Strs.new x _ [a2,a3] _ rfl _ rfl (by decide),(Below.refl _ _).alloc (Nat.le_refl _) _⟩
   ·cases ho
    have h7:Strs x (S 7) 2 (fun i=>[a2,a3].getD i []):=a1 7 (by kernel_rfl) (by decide)
    refine ub rfl rfl fun KK HK=>?_
    clear a1 a5;simp only[nm,Nat.reduceAdd]at HK ⊢;go_wp2_with fail
    refine(ux _ _ 2 _ h7 (uag d5.out e0.out)).mono ?_;rintro e xN⟨rfl,d3⟩;exact HK.out _ _ ⟨_,rfl,rfl,d3⟩
   ·cases ho
    have h8:S 8 = .string ⟨(par (fun i=>[a2,a3].getD i []) 2).toArray⟩:=a1 8 (by kernel_rfl) (by decide)
    refine ub rfl rfl fun KK HK=>?_
    clear a1 a5;simp only[nm,Nat.reduceAdd]at HK ⊢;generalize S 8=t8 at *;subst h8;go_wp2;exact HK.out _ _ ⟨_,rfl,Strs.new1 x _ _,(Below.refl _ _).alloc (Nat.le_refl _) _⟩
   ·exact absurd a5 (by simp)
  intro S x a9 hF;have g0:S 0 = .slice f3 a0 f4:=hF 0 (by decide)
  have g1:S 1 = .pointer (some ⟨a4.heap.size,0,none⟩):=hF 1 (by decide)
  have g2:S 2 = .agg #[.bool b3,.slice b0 b6 b4,.slice b2 b7 b5]:=hF 2 (by decide)
  have g3:S 3 = .string ⟨a2.toArray⟩:=hF 3 (by decide)
  have g4:S 4 = .pointer (some ⟨a4.heap.size,3,none⟩):=hF 4 (by decide)
  have g5:S 5 = .agg #[.slice b8 c0 b9,.slice c2 c4 c3]:=hF 5 (by decide)
  have g6:S 6 = .string ⟨a3.toArray⟩:=hF 6 (by decide)
  have g7:Strs x (S 7) 2 (fun i=>[a2,a3].getD i []):=hF 7 (by decide)
  have g8:S 8 = .string ⟨(par (fun i=>[a2,a3].getD i []) 2).toArray⟩:=hF 8 (by decide)
  have g9:Strs x (S 9) 1 (fun _=>(par (fun i=>[a2,a3].getD i []) 2)):=hF 9 (by decide)
  clear hF;simp only[nm,Nat.reduceAdd,List.length_cons,List.length_nil,List.drop_succ_cons,List.drop_zero];generalize S 0=t0 at *;subst g0;generalize S 1=t1 at *;subst g1;generalize S 2=t2 at *;subst g2;generalize S 3=t3 at *;subst g3;generalize S 4=t4 at *;subst g4;generalize S 5=t5 at *;subst g5;generalize S 6=t6 at *;subst g6;generalize S 7=t7 at *;generalize S 8=t8 at *;subst g8;generalize S 9=t9 at *;obtain⟨k7,k5⟩:∃y:World,y=x:=⟨_,rfl⟩;subst k5;have k8:=hid (c8.out.trans (a9.mono c8.out.size));have k9:=hid (c9.out.below a9 c9.out.lt);have j1:=hid (j0.out.below a9);obtain⟨b1,o1,c1,rfl,j9⟩:=Strs.one g9;go_wp2_with (at_builtin;refine uI k7 rfl _ _ rfl w c7 a0 _ rfl j1.out b1 o1 c1 rfl (par (fun i=>[a2,a3].getD i []) 2) j9 (d5.out.symm) (by omega) ?_)
  intro g2 l1 w4 e7;have j2:=hid e7;clear e7;go_wp2;go_roundw
  case rel=>exact⟨a0+1,by omega,by go_num,j2⟩
  case measure=>simp[intOf];omega
 obtain rfl:a0=zk:=by omega
 go_wp2_with fail
 refine(ux _ _ a0 c7 (d2.out.strs) HL.out).mono ?_;rintro e m0⟨rfl,e9⟩;have d9:=e9;have f5:=hid (a8.out.trans (d9.mono a8.out.size));have l0:=hid (d2.out.below d9);clear d9 e9;go_wp2;go_ret
 exact⟨rfl,f5.out⟩
end Go.Proofs.YtellcholbkoakaaGreatDoor
