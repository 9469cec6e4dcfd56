/-
 The reference's writer: typ,index,mono,poly (printed by tgen.py).
-/
import Derived.Test.YtellcholbkoakaaGreatDoorHTe
namespace Go.Proofs.YtellcholbkoakaaGreatDoor
open Go.Lib (hid)
open Go.RowKit AC
set_option linter.unusedVariables false
set_option linter.unusedSimpArgs false
set_option maxHeartbeats 16000000 in
set_option maxRecDepth 100000 in
theorem t_typ:∀n:Nat,Texts 61 (typS n)
 | 0=>fun w D v t h _=>False.elim h
 | n+1=>by
  have ih:=t_typ n;have HIH:=hid ih;clear ih;intro w D v t hrep hl;obtain⟨_,c2,l7,_,t1,_,rfl,rfl,r4,l8,_,t2,_,rfl,rfl,r5,l9,_,t3,_,rfl,rfl,r6,rfl,rfl⟩:=hrep;injection c2 with c2 _;obtain⟨a4,rfl⟩:=ty_int r4.ty;obtain⟨a5,rfl⟩:=ty_int r5.ty;obtain⟨c3,a2,c4,rfl⟩:=ty_list r6.ty;subst c2;have HL:=hid hl;clear hl;have e2:Hid (t1.length≤MX):=Nat.le_trans (par_len_at (fun i=>[t1,t2,t3].getD i []) (i:=0) (k:=3) (by decide)) (HL.out)
  have e3:=hid r4;clear r4;have e4:Hid (t2.length≤MX):=Nat.le_trans (par_len_at (fun i=>[t1,t2,t3].getD i []) (i:=1) (k:=3) (by decide)) (HL.out)
  have e5:=hid r5;clear r5;have c5:Hid (t3.length≤MX):=Nat.le_trans (par_len_at (fun i=>[t1,t2,t3].getD i []) (i:=2) (k:=3) (by decide)) (HL.out)
  have e6:=hid r6;clear r6;show Calls Tryz.prog 61 #[.agg #[.int .i64 a4,.int .i64 a5,.slice c3 a2 c4]] w _
  go_enter Tryz.func61,Tryz.ntmps61
  have d3:=hid (Below.refl w.heap.size w);go_upto_region 1 with(fail)
  obtain⟨W20,b6⟩:∃W,W=w.alloc (.cells #[.int .i64 a4,.int .i64 a5,.slice c3 a2 c4] 116):=⟨_,rfl⟩;have d4:Below w.heap.size w W20:=by rw[b6];exact(Below.refl _ _).alloc (Nat.le_refl _) _
  have d5:=hid (d3.out.trans (d4.mono d3.out.size));have c6:Hid (Bk W20 w.heap.size 116 #[.int .i64 a4,.int .i64 a5,.slice c3 a2 c4]):=by rw[b6];exact Bk.new _ _ _
  rw[←b6];clear b6 d4;obtain⟨j3,_,_⟩:=c6.out.facts;obtain⟨e7,a0,e8,j4,e9,d6,d7⟩:=e6.out.unlist;subst e8;have f0:=hid d6;have f1:=hid d7;have j5:a2≤100000000:=Nat.le_trans (par_len_ge a0 a2) c5.out;unfold maxLen at e9;clear d6 d7;go_wp2;have d8:=hid (TI.start a0 (Below.refl W20.heap.size W20));go_loopw [3,9] (fun ov iv wr=>∃(k:Nat),k≤a2∧iv = .int .i64 k∧Hid (TI a0 W20 ov k wr)) (fun _ iv _=>a2-(intOf iv).toNat)
  case atStart=>exact⟨0,by omega,rfl,d8⟩
  obtain⟨k38,j6,rfl,a8⟩:=hrel;clear d8;obtain⟨a6,hwr⟩:∃w:World,w=wr:=⟨_,rfl⟩;subst hwr;obtain⟨c7,c8,rfl,_,_⟩:=a8.out.form;have c9:=a8.out.2;have a1:=hid (d5.out.trans (c9.mono d5.out.size));have a3:=hid (c6.out.below c9 c6.out.lt);clear c9;by_cases hlt:k38<a2
  ·obtain⟨b47,a7,hAx,_,d0,b7⟩:=f0.out (by omega)
   subst hAx;have b8:=f1.out k38 hlt;obtain⟨u51,a9⟩:∃u,e7 k38=u:=⟨_,rfl⟩;rw[a9]at b8;have f2:Hid ((a0 k38).length≤MX):=Nat.le_trans (par_len_at a0 hlt) c5.out;have b9:Shape.sz (typS n)=3:=sz_typ;obtain⟨b0,b1,b2,b3,b4,rfl⟩:=ty_typ b8.ty;have f3:=hid b8;clear b8;have f4:a6.cell? ⟨b47,a7+k38*3,none⟩=some (.int .i64 b0):=by
    have h9:=(a1.out.cell (p:=⟨b47,a7+k38*Shape.sz (typS n)+0,none⟩) d0).trans (b7 k38 hlt 0 (.int .i64 b0) (by rw[a9];rfl))
    rw[b9]at h9;simpa using h9
   have f5:a6.cell? ⟨b47,a7+k38*3+1,none⟩=some (.int .i64 b1):=by
    have h9:=(a1.out.cell (p:=⟨b47,a7+k38*Shape.sz (typS n)+1,none⟩) d0).trans (b7 k38 hlt 1 (.int .i64 b1) (by rw[a9];rfl))
    rw[b9]at h9;simpa using h9
   have f6:a6.cell? ⟨b47,a7+k38*3+2,none⟩=some (.slice b2 b3 b4):=by
    have h9:=(a1.out.cell (p:=⟨b47,a7+k38*Shape.sz (typS n)+2,none⟩) d0).trans (b7 k38 hlt 2 (.slice b2 b3 b4) (by rw[a9];rfl))
    rw[b9]at h9;simpa using h9
   clear b7 a9 b9;go_upto_region 5 with(fail)
   obtain⟨W58,c0⟩:∃W,W=a6.alloc (.cells #[.int .i64 b0,.int .i64 b1,.slice b2 b3 b4] 116):=⟨_,rfl⟩;have c1:Below a6.heap.size a6 W58:=by rw[c0];exact(Below.refl _ _).alloc (Nat.le_refl _) _
   have d1:=hid (a1.out.trans (c1.mono a1.out.size));have d9:=hid (a3.out.below c1 a3.out.lt);have f7:=hid (a8.out.below c1);have d2:Hid (Bk W58 a6.heap.size 116 #[.int .i64 b0,.int .i64 b1,.slice b2 b3 b4]):=by rw[c0];exact Bk.new _ _ _
   rw[←c0];clear c0 c1;clear f4 f5 f6;obtain⟨j7,_,_⟩:=d2.out.facts;go_wp2_with fail
   have key:=HIH.out _ D [.int .i64 b0,.int .i64 b1,.slice b2 b3 b4] (a0 k38) (f3.out.below d1.out) f2.out;rw[val_typ]at key;refine key.mono ?_;rintro e w67⟨rfl,e0⟩;have b5:=e0;have j8:=hid (d1.out.trans (b5.mono d1.out.size));have j9:=hid (d9.out.below b5 d9.out.lt);have k0:=hid (d2.out.below b5 d2.out.lt);have f8:=hid (f7.out.below b5);clear b5 e0;have f9:(w67.alloc (.cells #[.string ⟨(a0 k38).toArray⟩] 9)).cell? ⟨w67.heap.size,0,none⟩=some (.string ⟨(a0 k38).toArray⟩):=by rw[World.cell?_alloc_at _ _ _ _ rfl];rfl
   have j0:=hid (f8.out.below ((Below.refl w67.heap.size w67).alloc (Nat.le_refl _) (.cells #[.string ⟨(a0 k38).toArray⟩] 9)));go_wp2_with (at_builtin;refine wpList_pushT (w67.alloc (.cells #[.string ⟨(a0 k38).toArray⟩] 9)) rfl _ _ rfl W20 a0 k38 _ rfl j0.out w67.heap.size 0 1 rfl (a0 k38) f9 (rfl) (by omega) ?_)
   intro g2 k1 w4 e1;have j1:=hid e1;clear e1;go_wp2;go_roundw
   case rel=>exact⟨k38+1,by omega,by go_num,j1⟩
   case measure=>simp[intOf];omega
  obtain rfl:k38=a2:=by omega
  go_upto_region 7 with(fail)
  refine wp_region_facts (by kernel_rfl) (by kernel_rfl) [19,20,21,22,23,24,25,26,27,28] 40 (by kernel_rfl) (fun io v x=>match io with
   | 0=>v = .pointer (some ⟨w.heap.size,0,none⟩)
   | 1=>v = .int .i64 a4
   | 2=>v = .string ⟨t1.toArray⟩
   | 3=>v = .pointer (some ⟨w.heap.size,1,none⟩)
   | 4=>v = .int .i64 a5
   | 5=>v = .string ⟨t2.toArray⟩
   | 6=>v = .slice c7 k38 c8
   | 7=>v = .string ⟨(par a0 k38).toArray⟩
   | 8=>Strs x v 3 (fun i=>[t1,t2,(par a0 k38)].getD i [])
   | _=>v = .string ⟨(par (fun i=>[t1,t2,(par a0 k38)].getD i []) 3).toArray⟩) ?_ ?_ ?_
  ·intro io v x x' hio h hb
   rcases io with _|_|_|_|_|_|_|_|_|io
   ·exact h
   ·exact h
   ·exact h
   ·exact h
   ·exact h
   ·exact h
   ·exact h
   ·exact h
   ·exact Strs.below h hb
   ·exact h
  ·intro io oo S x ho hio hbx hdep
   rcases io with _|_|_|_|_|_|_|_|_|_|io
   ·cases ho
    refine opOk_h rfl rfl fun KK HK=>?_
    clear hdep hio;simp only[nm,Nat.reduceAdd]at HK ⊢;go_wp2;exact HK.out _ _ ⟨_,rfl,rfl,Below.refl _ _⟩
   ·cases ho
    have h0:S 0 = .pointer (some ⟨w.heap.size,0,none⟩):=hdep 0 (by kernel_rfl) (by decide)
    obtain⟨k2,_,_⟩:=(a3.out.below hbx a3.out.lt).facts;refine opOk_h rfl rfl fun KK HK=>?_
    clear hdep hio;simp only[nm,Nat.reduceAdd]at HK ⊢;generalize S 0=t0 at *;subst h0;go_wp2;exact HK.out _ _ ⟨_,rfl,rfl,Below.refl _ _⟩
   ·cases ho
    have h1:S 1 = .int .i64 a4:=hdep 1 (by kernel_rfl) (by decide)
    refine opOk_h rfl rfl fun KK HK=>?_
    clear hdep hio;simp only[nm,Nat.reduceAdd]at HK ⊢;generalize S 1=t1 at *;subst h1;go_wp2_with fail
    have key:=t_dec x D [.int .i64 a4] t1 (e3.out.below (a1.out.trans (hbx.mono a1.out.size))) e2.out;rw[val_int]at key;refine(key).mono ?_;rintro e xN⟨rfl,hbN⟩;exact HK.out _ _ ⟨_,rfl,rfl,hbN⟩
   ·cases ho
    refine opOk_h rfl rfl fun KK HK=>?_
    clear hdep hio;simp only[nm,Nat.reduceAdd]at HK ⊢;go_wp2;exact HK.out _ _ ⟨_,rfl,rfl,Below.refl _ _⟩
   ·cases ho
    have h3:S 3 = .pointer (some ⟨w.heap.size,1,none⟩):=hdep 3 (by kernel_rfl) (by decide)
    obtain⟨k3,_,_⟩:=(a3.out.below hbx a3.out.lt).facts;refine opOk_h rfl rfl fun KK HK=>?_
    clear hdep hio;simp only[nm,Nat.reduceAdd]at HK ⊢;generalize S 3=t3 at *;subst h3;go_wp2;exact HK.out _ _ ⟨_,rfl,rfl,Below.refl _ _⟩
   ·cases ho
    have h4:S 4 = .int .i64 a5:=hdep 4 (by kernel_rfl) (by decide)
    refine opOk_h rfl rfl fun KK HK=>?_
    clear hdep hio;simp only[nm,Nat.reduceAdd]at HK ⊢;generalize S 4=t4 at *;subst h4;go_wp2_with fail
    have key:=t_dec x D [.int .i64 a5] t2 (e5.out.below (a1.out.trans (hbx.mono a1.out.size))) e4.out;rw[val_int]at key;refine(key).mono ?_;rintro e xN⟨rfl,hbN⟩;exact HK.out _ _ ⟨_,rfl,rfl,hbN⟩
   ·cases ho
    refine opOk_h rfl rfl fun KK HK=>?_
    clear hdep hio;simp only[nm,Nat.reduceAdd]at HK ⊢;go_wp2;exact HK.out _ _ ⟨_,rfl,rfl,Below.refl _ _⟩
   ·cases ho
    have h6:S 6 = .slice c7 k38 c8:=hdep 6 (by kernel_rfl) (by decide)
    refine opOk_h rfl rfl fun KK HK=>?_
    clear hdep hio;simp only[nm,Nat.reduceAdd]at HK ⊢;generalize S 6=t6 at *;subst h6;go_wp2_with fail
    refine(group_any _ _ k38 a0 ((a8.out.strs).below hbx) c5.out).mono ?_;rintro e xN⟨rfl,hbN⟩;exact HK.out _ _ ⟨_,rfl,rfl,hbN⟩
   ·cases ho
    have h2:S 2 = .string ⟨t1.toArray⟩:=hdep 2 (by kernel_rfl) (by decide)
    have h5:S 5 = .string ⟨t2.toArray⟩:=hdep 5 (by kernel_rfl) (by decide)
    have h7:S 7 = .string ⟨(par a0 k38).toArray⟩:=hdep 7 (by kernel_rfl) (by decide)
    refine opOk_h rfl rfl fun KK HK=>?_
    clear hdep hio;simp only[nm,Nat.reduceAdd]at HK ⊢;generalize S 2=t2 at *;subst h2;generalize S 5=t5 at *;subst h5;generalize S 7=t7 at *;subst h7;go_wp2;exact HK.out _ _ ⟨_,rfl,Strs.new x _ [t1,t2,(par a0 k38)] _ rfl _ rfl (by decide),(Below.refl _ _).alloc (Nat.le_refl _) _⟩
   ·cases ho
    have h8:Strs x (S 8) 3 (fun i=>[t1,t2,(par a0 k38)].getD i []):=hdep 8 (by kernel_rfl) (by decide)
    refine opOk_h rfl rfl fun KK HK=>?_
    clear hdep hio;simp only[nm,Nat.reduceAdd]at HK ⊢;go_wp2_with fail
    refine(group_any _ _ 3 _ h8 (HL.out)).mono ?_;rintro e xN⟨rfl,hbN⟩;exact HK.out _ _ ⟨_,rfl,rfl,hbN⟩
   ·exact absurd hio (by simp)
  intro S x hbx hF;have g0:S 0 = .pointer (some ⟨w.heap.size,0,none⟩):=hF 0 (by decide)
  have g1:S 1 = .int .i64 a4:=hF 1 (by decide)
  have g2:S 2 = .string ⟨t1.toArray⟩:=hF 2 (by decide)
  have g3:S 3 = .pointer (some ⟨w.heap.size,1,none⟩):=hF 3 (by decide)
  have g4:S 4 = .int .i64 a5:=hF 4 (by decide)
  have g5:S 5 = .string ⟨t2.toArray⟩:=hF 5 (by decide)
  have g6:S 6 = .slice c7 k38 c8:=hF 6 (by decide)
  have g7:S 7 = .string ⟨(par a0 k38).toArray⟩:=hF 7 (by decide)
  have g8:Strs x (S 8) 3 (fun i=>[t1,t2,(par a0 k38)].getD i []):=hF 8 (by decide)
  have g9:S 9 = .string ⟨(par (fun i=>[t1,t2,(par a0 k38)].getD i []) 3).toArray⟩:=hF 9 (by decide)
  clear hF;simp only[nm,Nat.reduceAdd,List.length_cons,List.length_nil,List.drop_succ_cons,List.drop_zero];generalize S 0=t0 at *;subst g0;generalize S 1=t1 at *;subst g1;generalize S 2=t2 at *;subst g2;generalize S 3=t3 at *;subst g3;generalize S 4=t4 at *;subst g4;generalize S 5=t5 at *;subst g5;generalize S 6=t6 at *;subst g6;generalize S 7=t7 at *;subst g7;generalize S 8=t8 at *;generalize S 9=t9 at *;subst g9;obtain⟨x80,hxn⟩:∃y:World,y=x:=⟨_,rfl⟩;subst hxn;have j2:=hid (a1.out.trans (hbx.mono a1.out.size));have k4:=hid (a3.out.below hbx a3.out.lt);have k5:=hid (a8.out.below hbx);go_wp2;go_ret
  exact⟨rfl,j2.out⟩
set_option maxHeartbeats 16000000 in
set_option maxRecDepth 100000 in
theorem t_index:∀n:Nat,Texts 220 (indexS n)
 | 0=>fun w D v t h _=>False.elim h
 | n+1=>by
  have ih:=t_index n;have HIH:=hid ih;clear ih;intro w D v t hrep hl;obtain⟨_,c4,l85,_,t81,_,rfl,rfl,r83,l86,_,t82,_,rfl,rfl,r84,rfl,rfl⟩:=hrep;injection c4 with c4 _;obtain⟨b2,rfl⟩:=ty_int r83.ty;obtain⟨c5,a2,c6,rfl⟩:=ty_list r84.ty;subst c4;have HL:=hid hl;clear hl;have f4:Hid (t81.length≤MX):=Nat.le_trans (par_len_at (fun i=>[t81,t82].getD i []) (i:=0) (k:=2) (by decide)) (HL.out)
  have f5:=hid r83;clear r83;have c7:Hid (t82.length≤MX):=Nat.le_trans (par_len_at (fun i=>[t81,t82].getD i []) (i:=1) (k:=2) (by decide)) (HL.out)
  have f6:=hid r84;clear r84;show Calls Tryz.prog 220 #[.agg #[.int .i64 b2,.slice c5 a2 c6]] w _
  go_enter Tryz.func220,Tryz.ntmps220
  have d5:=hid (Below.refl w.heap.size w);go_upto_region 1 with(fail)
  obtain⟨W94,b3⟩:∃W,W=w.alloc (.cells #[.int .i64 b2,.slice c5 a2 c6] 143):=⟨_,rfl⟩;have d6:Below w.heap.size w W94:=by rw[b3];exact(Below.refl _ _).alloc (Nat.le_refl _) _
  have d7:=hid (d5.out.trans (d6.mono d5.out.size));have c8:Hid (Bk W94 w.heap.size 143 #[.int .i64 b2,.slice c5 a2 c6]):=by rw[b3];exact Bk.new _ _ _
  rw[←b3];clear b3 d6;obtain⟨h4,_,_⟩:=c8.out.facts;obtain⟨f7,a1,f8,h5,f9,d8,d9⟩:=f6.out.unlist;subst f8;have g0:=hid d8;have g1:=hid d9;have h6:a2≤100000000:=Nat.le_trans (par_len_ge a1 a2) c7.out;unfold maxLen at f9;clear d8 d9;go_wp2;have e0:=hid (TI.start a1 (Below.refl W94.heap.size W94));go_loopw [3,9] (fun ov iv wr=>∃(k:Nat),k≤a2∧iv = .int .i64 k∧Hid (TI a1 W94 ov k wr)) (fun _ iv _=>a2-(intOf iv).toNat)
  case atStart=>exact⟨0,by omega,rfl,e0⟩
  obtain⟨a0,h7,rfl,b4⟩:=hrel;clear e0;obtain⟨a4,hwr⟩:∃w:World,w=wr:=⟨_,rfl⟩;subst hwr;obtain⟨h8,j0,rfl,_,_⟩:=b4.out.form;have c9:=b4.out.2;have a3:=hid (d7.out.trans (c9.mono d7.out.size));have a6:=hid (c8.out.below c9 c8.out.lt);clear c9;by_cases hlt:a0<a2
  ·obtain⟨b5,b6,hAx,_,e1,d0⟩:=g0.out (by omega)
   subst hAx;have b7:=g1.out a0 hlt;obtain⟨j1,b8⟩:∃u,f7 a0=u:=⟨_,rfl⟩;rw[b8]at b7;have g3:Hid ((a1 a0).length≤MX):=Nat.le_trans (par_len_at a1 hlt) c7.out;have d1:Shape.sz (indexS n)=2:=sz_index;obtain⟨a7,a8,a9,b0,rfl⟩:=ty_index b7.ty;have g4:=hid b7;clear b7;have g5:a4.cell? ⟨b5,b6+a0*2,none⟩=some (.int .i64 a7):=by
    have h9:=(a3.out.cell (p:=⟨b5,b6+a0*Shape.sz (indexS n)+0,none⟩) e1).trans (d0 a0 hlt 0 (.int .i64 a7) (by rw[b8];rfl))
    rw[d1]at h9;simpa using h9
   have g6:a4.cell? ⟨b5,b6+a0*2+1,none⟩=some (.slice a8 a9 b0):=by
    have h9:=(a3.out.cell (p:=⟨b5,b6+a0*Shape.sz (indexS n)+1,none⟩) e1).trans (d0 a0 hlt 1 (.slice a8 a9 b0) (by rw[b8];rfl))
    rw[d1]at h9;simpa using h9
   clear d0 b8 d1;go_upto_region 5 with(fail)
   obtain⟨e2,b9⟩:∃W,W=a4.alloc (.cells #[.int .i64 a7,.slice a8 a9 b0] 143):=⟨_,rfl⟩;have c0:Below a4.heap.size a4 e2:=by rw[b9];exact(Below.refl _ _).alloc (Nat.le_refl _) _
   have d2:=hid (a3.out.trans (c0.mono a3.out.size));have e3:=hid (a6.out.below c0 a6.out.lt);have g7:=hid (b4.out.below c0);have d3:Hid (Bk e2 a4.heap.size 143 #[.int .i64 a7,.slice a8 a9 b0]):=by rw[b9];exact Bk.new _ _ _
   rw[←b9];clear b9 c0;clear g5 g6;obtain⟨j2,_,_⟩:=d3.out.facts;go_wp2_with fail
   have key:=HIH.out _ D [.int .i64 a7,.slice a8 a9 b0] (a1 a0) (g4.out.below d2.out) g3.out;rw[val_index]at key;refine key.mono ?_;rintro e a5⟨rfl,e4⟩;have b1:=e4;have j3:=hid (d2.out.trans (b1.mono d2.out.size));have j4:=hid (e3.out.below b1 e3.out.lt);have j5:=hid (d3.out.below b1 d3.out.lt);have g8:=hid (g7.out.below b1);clear b1 e4;have g9:(a5.alloc (.cells #[.string ⟨(a1 a0).toArray⟩] 9)).cell? ⟨a5.heap.size,0,none⟩=some (.string ⟨(a1 a0).toArray⟩):=by rw[World.cell?_alloc_at _ _ _ _ rfl];rfl
   have h0:=hid (g8.out.below ((Below.refl a5.heap.size a5).alloc (Nat.le_refl _) (.cells #[.string ⟨(a1 a0).toArray⟩] 9)));go_wp2_with (at_builtin;refine wpList_pushT (a5.alloc (.cells #[.string ⟨(a1 a0).toArray⟩] 9)) rfl _ _ rfl W94 a1 a0 _ rfl h0.out a5.heap.size 0 1 rfl (a1 a0) g9 (rfl) (by omega) ?_)
   intro g2 j6 w4 e5;have h1:=hid e5;clear e5;go_wp2;go_roundw
   case rel=>exact⟨a0+1,by omega,by go_num,h1⟩
   case measure=>simp[intOf];omega
  obtain rfl:a0=a2:=by omega
  obtain⟨j7,_,_⟩:=a6.out.facts;go_wp2_with fail
  have key:=t_dec _ D [.int .i64 b2] t81 (f5.out.below a3.out) f4.out;rw[val_int]at key;refine key.mono ?_;rintro e j8⟨rfl,e6⟩;have c1:=e6;have e7:=hid (a3.out.trans (c1.mono a3.out.size));have e8:=hid (a6.out.below c1 a6.out.lt);have e9:=hid (b4.out.below c1);clear c1 e6;go_wp2_with fail
  refine(group_any _ _ a0 a1 (e9.out.strs) c7.out).mono ?_;rintro e d4⟨rfl,f0⟩;have c2:=f0;have f1:=hid (e7.out.trans (c2.mono e7.out.size));have f2:=hid (e8.out.below c2 e8.out.lt);have h2:=hid (e9.out.below c2);clear c2 f0;go_wp2_with fail
  refine(group_any _ _ 2 _ (Strs.new d4 _ [t81,(par a1 a0)] _ rfl _ rfl (by decide)) (HL.out)).mono ?_
  rintro e j9⟨rfl,f3⟩;have c3:=((Below.refl d4.heap.size d4).alloc (Nat.le_refl _) (.cells #[.string ⟨t81.toArray⟩,.string ⟨(par a1 a0).toArray⟩] 9)).trans (f3.mono (by simp;try omega))
  have h3:=hid (f1.out.trans (c3.mono f1.out.size));have k0:=hid (f2.out.below c3 f2.out.lt);have k1:=hid (h2.out.below c3);clear c3 f3;go_wp2;go_ret
  exact⟨rfl,h3.out⟩
set_option maxHeartbeats 16000000 in
set_option maxRecDepth 100000 in
theorem t_mono(n:Nat):Texts 136 (monoS n):=by
 intro w D v t hrep hl;obtain⟨_,f9,r5,_,h0,_,rfl,rfl,j0,r6,_,j1,_,rfl,rfl,j2,rfl,rfl⟩:=hrep;injection f9 with f9 _;obtain⟨j3,a8,j4,rfl⟩:=ty_list j0.ty;obtain⟨j5,a9,j6,rfl⟩:=ty_list j2.ty;subst f9;have HL:=hid hl;clear hl;have j7:Hid (h0.length≤MX):=Nat.le_trans (par_len_at (fun i=>[h0,j1].getD i []) (i:=0) (k:=2) (by decide)) (HL.out)
 have o3:=hid j0;clear j0;have j8:Hid (j1.length≤MX):=Nat.le_trans (par_len_at (fun i=>[h0,j1].getD i []) (i:=1) (k:=2) (by decide)) (HL.out)
 have o4:=hid j2;clear j2;show Calls Tryz.prog 136 #[.agg #[.slice j3 a8 j4,.slice j5 a9 j6]] w _
 go_enter Tryz.func136,Tryz.ntmps136
 have l5:=hid (Below.refl w.heap.size w);go_upto_region 1 with(fail)
 obtain⟨c6,e3⟩:∃W,W=w.alloc (.cells #[.slice j3 a8 j4,.slice j5 a9 j6] 80):=⟨_,rfl⟩;have l6:Below w.heap.size w c6:=by rw[e3];exact(Below.refl _ _).alloc (Nat.le_refl _) _
 have l7:=hid (l5.out.trans (l6.mono l5.out.size));have j9:Hid (Bk c6 w.heap.size 80 #[.slice j3 a8 j4,.slice j5 a9 j6]):=by rw[e3];exact Bk.new _ _ _
 rw[←e3];clear e3 l6;obtain⟨r7,_,_⟩:=j9.out.facts;obtain⟨o5,b0,o6,r8,o7,l8,l9⟩:=o3.out.unlist;subst o6;have o8:=hid l8;have o9:=hid l9;have r9:a8≤100000000:=Nat.le_trans (par_len_ge b0 a8) j7.out;unfold maxLen at o7;clear l8 l9;go_wp2;have m0:=hid (TI.start b0 (Below.refl c6.heap.size c6));go_loopw [3,12] (fun ov iv wr=>∃(k:Nat),k≤a8∧iv = .int .i64 k∧Hid (TI b0 c6 ov k wr)) (fun _ iv _=>a8-(intOf iv).toNat)
 case atStart=>exact⟨0,by omega,rfl,m0⟩
 obtain⟨a0,s0,rfl,e4⟩:=hrel;clear m0;obtain⟨a2,hwr⟩:∃w:World,w=wr:=⟨_,rfl⟩;subst hwr;obtain⟨m1,m2,rfl,_,_⟩:=e4.out.form;have k0:=e4.out.2;have c4:=hid (l7.out.trans (k0.mono l7.out.size));have d5:=hid (j9.out.below k0 j9.out.lt);clear k0;by_cases hlt:a0<a8
 ·obtain⟨c7,c8,hAx,_,k1,e5⟩:=o8.out (by omega)
  subst hAx;have m3:=o9.out a0 hlt;obtain⟨s1,d6⟩:∃u,o5 a0=u:=⟨_,rfl⟩;rw[d6]at m3;have k2:Hid ((b0 a0).length≤MX):=Nat.le_trans (par_len_at b0 hlt) j7.out;have e6:Shape.sz (factorS n)=3:=sz_factor;obtain⟨_,e7,s2,_,a3,_,rfl,rfl,k3,s3,_,a4,_,rfl,rfl,k4,rfl,rfl⟩:=m3;injection e7 with e7 _;obtain⟨b3,rfl⟩:=ty_int k3.ty;obtain⟨b4,b5,b6,b7,rfl⟩:=ty_index k4.ty;have e8:=hid e7;have p0:Hid (a3.length≤MX):=Nat.le_trans (par_len_at (fun i=>[a3,a4].getD i []) (i:=0) (k:=2) (by decide)) (len_eq e8.out k2.out)
  have p1:=hid k3;clear k3;have p2:Hid (a4.length≤MX):=Nat.le_trans (par_len_at (fun i=>[a3,a4].getD i []) (i:=1) (k:=2) (by decide)) (len_eq e8.out k2.out)
  have p3:=hid k4;clear k4;clear e7;have k5:a2.cell? ⟨c7,c8+a0*3,none⟩=some (.int .i64 b3):=by
   have h9:=(c4.out.cell (p:=⟨c7,c8+a0*Shape.sz (factorS n)+0,none⟩) k1).trans (e5 a0 hlt 0 (.int .i64 b3) (by rw[d6];rfl))
   rw[e6]at h9;simpa using h9
  have k6:a2.cell? ⟨c7,c8+a0*3+1,none⟩=some (.int .i64 b4):=by
   have h9:=(c4.out.cell (p:=⟨c7,c8+a0*Shape.sz (factorS n)+1,none⟩) k1).trans (e5 a0 hlt 1 (.int .i64 b4) (by rw[d6];rfl))
   rw[e6]at h9;simpa using h9
  have k7:a2.cell? ⟨c7,c8+a0*3+2,none⟩=some (.slice b5 b6 b7):=by
   have h9:=(c4.out.cell (p:=⟨c7,c8+a0*Shape.sz (factorS n)+2,none⟩) k1).trans (e5 a0 hlt 2 (.slice b5 b6 b7) (by rw[d6];rfl))
   rw[e6]at h9;simpa using h9
  clear e5 d6 e6;go_upto_region 5 with(fail)
  obtain⟨m4,e9⟩:∃W,W=a2.alloc (.cells #[.int .i64 b3,.int .i64 b4,.slice b5 b6 b7] 145):=⟨_,rfl⟩;have f0:Below a2.heap.size a2 m4:=by rw[e9];exact(Below.refl _ _).alloc (Nat.le_refl _) _
  have c9:=hid (c4.out.trans (f0.mono c4.out.size));have m5:=hid (d5.out.below f0 d5.out.lt);have p4:=hid (e4.out.below f0);have d0:Hid (Bk m4 a2.heap.size 145 #[.int .i64 b3,.int .i64 b4,.slice b5 b6 b7]):=by rw[e9];exact Bk.new _ _ _
  rw[←e9];clear e9 f0;clear k5 k6 k7;go_upto_region 5 with(fail)
  refine wp_region_facts (by kernel_rfl) (by kernel_rfl) [16,17,18,19,20,21,22,23,24,25] 40 (by kernel_rfl) (fun io v x=>match io with
   | 0=>v = .slice m1 a0 m2
   | 1=>v = .pointer (some ⟨a2.heap.size,0,none⟩)
   | 2=>v = .int .i64 b3
   | 3=>v = .string ⟨a3.toArray⟩
   | 4=>v = .pointer (some ⟨a2.heap.size,1,none⟩)
   | 5=>v = .agg #[.int .i64 b4,.slice b5 b6 b7]
   | 6=>v = .string ⟨a4.toArray⟩
   | 7=>Strs x v 2 (fun i=>[a3,a4].getD i [])
   | 8=>v = .string ⟨(par (fun i=>[a3,a4].getD i []) 2).toArray⟩
   | _=>Strs x v 1 (fun _=>(par (fun i=>[a3,a4].getD i []) 2))) ?_ ?_ ?_
  ·intro io v x x' hio h hb
   rcases io with _|_|_|_|_|_|_|_|_|io
   ·exact h
   ·exact h
   ·exact h
   ·exact h
   ·exact h
   ·exact h
   ·exact h
   ·exact Strs.below h hb
   ·exact h
   ·exact Strs.below h hb
  ·intro io oo S x ho hio hbx hdep
   rcases io with _|_|_|_|_|_|_|_|_|_|io
   ·cases ho
    refine opOk_h rfl rfl fun KK HK=>?_
    clear hdep hio;simp only[nm,Nat.reduceAdd]at HK ⊢;go_wp2;exact HK.out _ _ ⟨_,rfl,rfl,Below.refl _ _⟩
   ·cases ho
    refine opOk_h rfl rfl fun KK HK=>?_
    clear hdep hio;simp only[nm,Nat.reduceAdd]at HK ⊢;go_wp2;exact HK.out _ _ ⟨_,rfl,rfl,Below.refl _ _⟩
   ·cases ho
    have h1:S 1 = .pointer (some ⟨a2.heap.size,0,none⟩):=hdep 1 (by kernel_rfl) (by decide)
    obtain⟨s4,_,_⟩:=(d0.out.below hbx d0.out.lt).facts;refine opOk_h rfl rfl fun KK HK=>?_
    clear hdep hio;simp only[nm,Nat.reduceAdd]at HK ⊢;generalize S 1=t1 at *;subst h1;go_wp2;exact HK.out _ _ ⟨_,rfl,rfl,Below.refl _ _⟩
   ·cases ho
    have h2:S 2 = .int .i64 b3:=hdep 2 (by kernel_rfl) (by decide)
    refine opOk_h rfl rfl fun KK HK=>?_
    clear hdep hio;simp only[nm,Nat.reduceAdd]at HK ⊢;generalize S 2=t2 at *;subst h2;go_wp2_with fail
    have key:=t_dec x D [.int .i64 b3] a3 (p1.out.below (c9.out.trans (hbx.mono c9.out.size))) p0.out;rw[val_int]at key;refine(key).mono ?_;rintro e xN⟨rfl,hbN⟩;exact HK.out _ _ ⟨_,rfl,rfl,hbN⟩
   ·cases ho
    refine opOk_h rfl rfl fun KK HK=>?_
    clear hdep hio;simp only[nm,Nat.reduceAdd]at HK ⊢;go_wp2;exact HK.out _ _ ⟨_,rfl,rfl,Below.refl _ _⟩
   ·cases ho
    have h4:S 4 = .pointer (some ⟨a2.heap.size,1,none⟩):=hdep 4 (by kernel_rfl) (by decide)
    obtain⟨s5,_,_⟩:=(d0.out.below hbx d0.out.lt).facts;refine opOk_h rfl rfl fun KK HK=>?_
    clear hdep hio;simp only[nm,Nat.reduceAdd]at HK ⊢;generalize S 4=t4 at *;subst h4;go_wp2;exact HK.out _ _ ⟨_,rfl,rfl,Below.refl _ _⟩
   ·cases ho
    have h5:S 5 = .agg #[.int .i64 b4,.slice b5 b6 b7]:=hdep 5 (by kernel_rfl) (by decide)
    refine opOk_h rfl rfl fun KK HK=>?_
    clear hdep hio;simp only[nm,Nat.reduceAdd]at HK ⊢;generalize S 5=t5 at *;subst h5;go_wp2_with fail
    have key:=(t_index n) x D [.int .i64 b4,.slice b5 b6 b7] a4 (p3.out.below (c9.out.trans (hbx.mono c9.out.size))) p2.out;rw[val_index]at key;refine(key).mono ?_;rintro e xN⟨rfl,hbN⟩;exact HK.out _ _ ⟨_,rfl,rfl,hbN⟩
   ·cases ho
    have h3:S 3 = .string ⟨a3.toArray⟩:=hdep 3 (by kernel_rfl) (by decide)
    have h6:S 6 = .string ⟨a4.toArray⟩:=hdep 6 (by kernel_rfl) (by decide)
    refine opOk_h rfl rfl fun KK HK=>?_
    clear hdep hio;simp only[nm,Nat.reduceAdd]at HK ⊢;generalize S 3=t3 at *;subst h3;generalize S 6=t6 at *;subst h6;go_wp2;exact HK.out _ _ ⟨_,rfl,Strs.new x _ [a3,a4] _ rfl _ rfl (by decide),(Below.refl _ _).alloc (Nat.le_refl _) _⟩
   ·cases ho
    have h7:Strs x (S 7) 2 (fun i=>[a3,a4].getD i []):=hdep 7 (by kernel_rfl) (by decide)
    refine opOk_h rfl rfl fun KK HK=>?_
    clear hdep hio;simp only[nm,Nat.reduceAdd]at HK ⊢;go_wp2_with fail
    refine(group_any _ _ 2 _ h7 (len_eq e8.out k2.out)).mono ?_;rintro e xN⟨rfl,hbN⟩;exact HK.out _ _ ⟨_,rfl,rfl,hbN⟩
   ·cases ho
    have h8:S 8 = .string ⟨(par (fun i=>[a3,a4].getD i []) 2).toArray⟩:=hdep 8 (by kernel_rfl) (by decide)
    refine opOk_h rfl rfl fun KK HK=>?_
    clear hdep hio;simp only[nm,Nat.reduceAdd]at HK ⊢;generalize S 8=t8 at *;subst h8;go_wp2;exact HK.out _ _ ⟨_,rfl,Strs.new1 x _ _,(Below.refl _ _).alloc (Nat.le_refl _) _⟩
   ·exact absurd hio (by simp)
  intro S x hbx hF;have g0:S 0 = .slice m1 a0 m2:=hF 0 (by decide)
  have g1:S 1 = .pointer (some ⟨a2.heap.size,0,none⟩):=hF 1 (by decide)
  have g2:S 2 = .int .i64 b3:=hF 2 (by decide)
  have g3:S 3 = .string ⟨a3.toArray⟩:=hF 3 (by decide)
  have g4:S 4 = .pointer (some ⟨a2.heap.size,1,none⟩):=hF 4 (by decide)
  have g5:S 5 = .agg #[.int .i64 b4,.slice b5 b6 b7]:=hF 5 (by decide)
  have g6:S 6 = .string ⟨a4.toArray⟩:=hF 6 (by decide)
  have g7:Strs x (S 7) 2 (fun i=>[a3,a4].getD i []):=hF 7 (by decide)
  have g8:S 8 = .string ⟨(par (fun i=>[a3,a4].getD i []) 2).toArray⟩:=hF 8 (by decide)
  have g9:Strs x (S 9) 1 (fun _=>(par (fun i=>[a3,a4].getD i []) 2)):=hF 9 (by decide)
  clear hF;simp only[nm,Nat.reduceAdd,List.length_cons,List.length_nil,List.drop_succ_cons,List.drop_zero];generalize S 0=t0 at *;subst g0;generalize S 1=t1 at *;subst g1;generalize S 2=t2 at *;subst g2;generalize S 3=t3 at *;subst g3;generalize S 4=t4 at *;subst g4;generalize S 5=t5 at *;subst g5;generalize S 6=t6 at *;subst g6;generalize S 7=t7 at *;generalize S 8=t8 at *;subst g8;generalize S 9=t9 at *;obtain⟨p5,hxn⟩:∃y:World,y=x:=⟨_,rfl⟩;subst hxn;have s6:=hid (c9.out.trans (hbx.mono c9.out.size));have s7:=hid (m5.out.below hbx m5.out.lt);have s8:=hid (d0.out.below hbx d0.out.lt);have p6:=hid (p4.out.below hbx);obtain⟨b1,o1,c1,rfl,hce⟩:=Strs.one g9;go_wp2_with (at_builtin;refine wpList_pushT p5 rfl _ _ rfl c6 b0 a0 _ rfl p6.out b1 o1 c1 rfl (par (fun i=>[a3,a4].getD i []) 2) hce (e8.out.symm) (by omega) ?_)
  intro g2 p7 w4 d7;have k8:=hid d7;clear d7;go_wp2;go_roundw
  case rel=>exact⟨a0+1,by omega,by go_num,k8⟩
  case measure=>simp[intOf];omega
 obtain rfl:a0=a8:=by omega
 obtain⟨s9,_,_⟩:=d5.out.facts;obtain⟨p8,b2,p9,v0,q0,m6,m7⟩:=o4.out.unlist;subst p9;have q1:=hid m6;have q2:=hid m7;have v1:a9≤100000000:=Nat.le_trans (par_len_ge b2 a9) j8.out;unfold maxLen at q0;clear m6 m7;go_wp2;have m8:=hid (TI.start b2 (Below.refl a2.heap.size a2));go_loopw [4,31] (fun ov iv wr=>∃(k:Nat),k≤a9∧iv = .int .i64 k∧Hid (TI b2 a2 ov k wr)) (fun _ iv _=>a9-(intOf iv).toNat)
 case atStart=>exact⟨0,by omega,rfl,m8⟩
 obtain⟨a1,v2,rfl,f1⟩:=hrel;clear m8;obtain⟨a7,hwr⟩:∃w:World,w=wr:=⟨_,rfl⟩;subst hwr;obtain⟨m9,n0,rfl,_,_⟩:=f1.out.form;have f2:=f1.out.2;have c5:=hid (c4.out.trans (f2.mono c4.out.size));have f3:=hid (d5.out.below f2 d5.out.lt);have k9:=hid (e4.out.below f2);clear f2;by_cases hlt:a1<a9
 ·obtain⟨d1,d2,hAx,_,l0,f4⟩:=q1.out (by omega)
  subst hAx;have n1:=q2.out a1 hlt;obtain⟨v3,d8⟩:∃u,p8 a1=u:=⟨_,rfl⟩;rw[d8]at n1;have l1:Hid ((b2 a1).length≤MX):=Nat.le_trans (par_len_at b2 hlt) j8.out;have f5:Shape.sz atomS=3:=sz_atom;obtain⟨_,f6,v4,_,a5,_,rfl,rfl,l2,v5,_,a6,_,rfl,rfl,l3,rfl,rfl⟩:=n1;injection f6 with f6 _;obtain⟨b8,b9,c0,c2,rfl⟩:=ty_lin l2.ty;obtain⟨c3,rfl⟩:=ty_int l3.ty;have f7:=hid f6;have q3:Hid (a5.length≤MX):=Nat.le_trans (par_len_at (fun i=>[a5,a6].getD i []) (i:=0) (k:=2) (by decide)) (len_eq f7.out l1.out)
  have q4:=hid l2;clear l2;have q5:Hid (a6.length≤MX):=Nat.le_trans (par_len_at (fun i=>[a5,a6].getD i []) (i:=1) (k:=2) (by decide)) (len_eq f7.out l1.out)
  have q6:=hid l3;clear l3;clear f6;have k5:a7.cell? ⟨d1,d2+a1*3,none⟩=some (.int .i64 b8):=by
   have h9:=(c5.out.cell (p:=⟨d1,d2+a1*Shape.sz atomS+0,none⟩) l0).trans (f4 a1 hlt 0 (.int .i64 b8) (by rw[d8];rfl))
   rw[f5]at h9;simpa using h9
  have k6:a7.cell? ⟨d1,d2+a1*3+1,none⟩=some (.slice b9 c0 c2):=by
   have h9:=(c5.out.cell (p:=⟨d1,d2+a1*Shape.sz atomS+1,none⟩) l0).trans (f4 a1 hlt 1 (.slice b9 c0 c2) (by rw[d8];rfl))
   rw[f5]at h9;simpa using h9
  have k7:a7.cell? ⟨d1,d2+a1*3+2,none⟩=some (.int .i64 c3):=by
   have h9:=(c5.out.cell (p:=⟨d1,d2+a1*Shape.sz atomS+2,none⟩) l0).trans (f4 a1 hlt 2 (.int .i64 c3) (by rw[d8];rfl))
   rw[f5]at h9;simpa using h9
  clear f4 d8 f5;go_upto_region 10 with(fail)
  obtain⟨n2,f8⟩:∃W,W=a7.alloc (.cells #[.int .i64 b8,.slice b9 c0 c2,.int .i64 c3] 150):=⟨_,rfl⟩;have d9:Below a7.heap.size a7 n2:=by rw[f8];exact(Below.refl _ _).alloc (Nat.le_refl _) _
  have d3:=hid (c5.out.trans (d9.mono c5.out.size));have n3:=hid (f3.out.below d9 f3.out.lt);have q7:=hid (k9.out.below d9);have q8:=hid (f1.out.below d9);have d4:Hid (Bk n2 a7.heap.size 150 #[.int .i64 b8,.slice b9 c0 c2,.int .i64 c3]):=by rw[f8];exact Bk.new _ _ _
  rw[←f8];clear f8 d9;clear k5 k6 k7;go_upto_region 10 with(fail)
  refine wp_region_facts (by kernel_rfl) (by kernel_rfl) [35,36,37,38,39,40,41,42,43,44] 40 (by kernel_rfl) (fun io v x=>match io with
   | 0=>v = .slice m9 a1 n0
   | 1=>v = .pointer (some ⟨a7.heap.size,0,none⟩)
   | 2=>v = .agg #[.int .i64 b8,.slice b9 c0 c2]
   | 3=>v = .string ⟨a5.toArray⟩
   | 4=>v = .pointer (some ⟨a7.heap.size,2,none⟩)
   | 5=>v = .int .i64 c3
   | 6=>v = .string ⟨a6.toArray⟩
   | 7=>Strs x v 2 (fun i=>[a5,a6].getD i [])
   | 8=>v = .string ⟨(par (fun i=>[a5,a6].getD i []) 2).toArray⟩
   | _=>Strs x v 1 (fun _=>(par (fun i=>[a5,a6].getD i []) 2))) ?_ ?_ ?_
  ·intro io v x x' hio h hb
   rcases io with _|_|_|_|_|_|_|_|_|io
   ·exact h
   ·exact h
   ·exact h
   ·exact h
   ·exact h
   ·exact h
   ·exact h
   ·exact Strs.below h hb
   ·exact h
   ·exact Strs.below h hb
  ·intro io oo S x ho hio hbx hdep
   rcases io with _|_|_|_|_|_|_|_|_|_|io
   ·cases ho
    refine opOk_h rfl rfl fun KK HK=>?_
    clear hdep hio;simp only[nm,Nat.reduceAdd]at HK ⊢;go_wp2;exact HK.out _ _ ⟨_,rfl,rfl,Below.refl _ _⟩
   ·cases ho
    refine opOk_h rfl rfl fun KK HK=>?_
    clear hdep hio;simp only[nm,Nat.reduceAdd]at HK ⊢;go_wp2;exact HK.out _ _ ⟨_,rfl,rfl,Below.refl _ _⟩
   ·cases ho
    have h1:S 1 = .pointer (some ⟨a7.heap.size,0,none⟩):=hdep 1 (by kernel_rfl) (by decide)
    obtain⟨v6,_,_⟩:=(d4.out.below hbx d4.out.lt).facts;refine opOk_h rfl rfl fun KK HK=>?_
    clear hdep hio;simp only[nm,Nat.reduceAdd]at HK ⊢;generalize S 1=t1 at *;subst h1;go_wp2;exact HK.out _ _ ⟨_,rfl,rfl,Below.refl _ _⟩
   ·cases ho
    have h2:S 2 = .agg #[.int .i64 b8,.slice b9 c0 c2]:=hdep 2 (by kernel_rfl) (by decide)
    refine opOk_h rfl rfl fun KK HK=>?_
    clear hdep hio;simp only[nm,Nat.reduceAdd]at HK ⊢;generalize S 2=t2 at *;subst h2;go_wp2_with fail
    have key:=t_lin x D [.int .i64 b8,.slice b9 c0 c2] a5 (q4.out.below (d3.out.trans (hbx.mono d3.out.size))) q3.out;rw[val_lin]at key;refine(key).mono ?_;rintro e xN⟨rfl,hbN⟩;exact HK.out _ _ ⟨_,rfl,rfl,hbN⟩
   ·cases ho
    refine opOk_h rfl rfl fun KK HK=>?_
    clear hdep hio;simp only[nm,Nat.reduceAdd]at HK ⊢;go_wp2;exact HK.out _ _ ⟨_,rfl,rfl,Below.refl _ _⟩
   ·cases ho
    have h4:S 4 = .pointer (some ⟨a7.heap.size,2,none⟩):=hdep 4 (by kernel_rfl) (by decide)
    obtain⟨v7,_,_⟩:=(d4.out.below hbx d4.out.lt).facts;refine opOk_h rfl rfl fun KK HK=>?_
    clear hdep hio;simp only[nm,Nat.reduceAdd]at HK ⊢;generalize S 4=t4 at *;subst h4;go_wp2;exact HK.out _ _ ⟨_,rfl,rfl,Below.refl _ _⟩
   ·cases ho
    have h5:S 5 = .int .i64 c3:=hdep 5 (by kernel_rfl) (by decide)
    refine opOk_h rfl rfl fun KK HK=>?_
    clear hdep hio;simp only[nm,Nat.reduceAdd]at HK ⊢;generalize S 5=t5 at *;subst h5;go_wp2_with fail
    have key:=t_dec x D [.int .i64 c3] a6 (q6.out.below (d3.out.trans (hbx.mono d3.out.size))) q5.out;rw[val_int]at key;refine(key).mono ?_;rintro e xN⟨rfl,hbN⟩;exact HK.out _ _ ⟨_,rfl,rfl,hbN⟩
   ·cases ho
    have h3:S 3 = .string ⟨a5.toArray⟩:=hdep 3 (by kernel_rfl) (by decide)
    have h6:S 6 = .string ⟨a6.toArray⟩:=hdep 6 (by kernel_rfl) (by decide)
    refine opOk_h rfl rfl fun KK HK=>?_
    clear hdep hio;simp only[nm,Nat.reduceAdd]at HK ⊢;generalize S 3=t3 at *;subst h3;generalize S 6=t6 at *;subst h6;go_wp2;exact HK.out _ _ ⟨_,rfl,Strs.new x _ [a5,a6] _ rfl _ rfl (by decide),(Below.refl _ _).alloc (Nat.le_refl _) _⟩
   ·cases ho
    have h7:Strs x (S 7) 2 (fun i=>[a5,a6].getD i []):=hdep 7 (by kernel_rfl) (by decide)
    refine opOk_h rfl rfl fun KK HK=>?_
    clear hdep hio;simp only[nm,Nat.reduceAdd]at HK ⊢;go_wp2_with fail
    refine(group_any _ _ 2 _ h7 (len_eq f7.out l1.out)).mono ?_;rintro e xN⟨rfl,hbN⟩;exact HK.out _ _ ⟨_,rfl,rfl,hbN⟩
   ·cases ho
    have h8:S 8 = .string ⟨(par (fun i=>[a5,a6].getD i []) 2).toArray⟩:=hdep 8 (by kernel_rfl) (by decide)
    refine opOk_h rfl rfl fun KK HK=>?_
    clear hdep hio;simp only[nm,Nat.reduceAdd]at HK ⊢;generalize S 8=t8 at *;subst h8;go_wp2;exact HK.out _ _ ⟨_,rfl,Strs.new1 x _ _,(Below.refl _ _).alloc (Nat.le_refl _) _⟩
   ·exact absurd hio (by simp)
  intro S x hbx hF;have g0:S 0 = .slice m9 a1 n0:=hF 0 (by decide)
  have g1:S 1 = .pointer (some ⟨a7.heap.size,0,none⟩):=hF 1 (by decide)
  have g2:S 2 = .agg #[.int .i64 b8,.slice b9 c0 c2]:=hF 2 (by decide)
  have g3:S 3 = .string ⟨a5.toArray⟩:=hF 3 (by decide)
  have g4:S 4 = .pointer (some ⟨a7.heap.size,2,none⟩):=hF 4 (by decide)
  have g5:S 5 = .int .i64 c3:=hF 5 (by decide)
  have g6:S 6 = .string ⟨a6.toArray⟩:=hF 6 (by decide)
  have g7:Strs x (S 7) 2 (fun i=>[a5,a6].getD i []):=hF 7 (by decide)
  have g8:S 8 = .string ⟨(par (fun i=>[a5,a6].getD i []) 2).toArray⟩:=hF 8 (by decide)
  have g9:Strs x (S 9) 1 (fun _=>(par (fun i=>[a5,a6].getD i []) 2)):=hF 9 (by decide)
  clear hF;simp only[nm,Nat.reduceAdd,List.length_cons,List.length_nil,List.drop_succ_cons,List.drop_zero];generalize S 0=t0 at *;subst g0;generalize S 1=t1 at *;subst g1;generalize S 2=t2 at *;subst g2;generalize S 3=t3 at *;subst g3;generalize S 4=t4 at *;subst g4;generalize S 5=t5 at *;subst g5;generalize S 6=t6 at *;subst g6;generalize S 7=t7 at *;generalize S 8=t8 at *;subst g8;generalize S 9=t9 at *;obtain⟨q9,hxn⟩:∃y:World,y=x:=⟨_,rfl⟩;subst hxn;have v8:=hid (d3.out.trans (hbx.mono d3.out.size));have v9:=hid (n3.out.below hbx n3.out.lt);have w0:=hid (d4.out.below hbx d4.out.lt);have w1:=hid (q7.out.below hbx);have r0:=hid (q8.out.below hbx);obtain⟨b1,o1,c1,rfl,hce⟩:=Strs.one g9;go_wp2_with (at_builtin;refine wpList_pushT q9 rfl _ _ rfl a2 b2 a1 _ rfl r0.out b1 o1 c1 rfl (par (fun i=>[a5,a6].getD i []) 2) hce (f7.out.symm) (by omega) ?_)
  intro g2 p7 w4 d7;have k8:=hid d7;clear d7;go_wp2;go_roundw
  case rel=>exact⟨a1+1,by omega,by go_num,k8⟩
  case measure=>simp[intOf];omega
 obtain rfl:a1=a9:=by omega
 go_wp2_with fail
 refine(group_any _ _ a0 b0 (k9.out.strs) j7.out).mono ?_;rintro e w2⟨rfl,n4⟩;have e0:=n4;have n5:=hid (c5.out.trans (e0.mono c5.out.size));have n6:=hid (f3.out.below e0 f3.out.lt);have r1:=hid (k9.out.below e0);have n7:=hid (f1.out.below e0);clear e0 n4;go_wp2_with fail
 refine(group_any _ _ a1 b2 (n7.out.strs) j8.out).mono ?_;rintro e l4⟨rfl,n8⟩;have e1:=n8;have n9:=hid (n5.out.trans (e1.mono n5.out.size));have o0:=hid (n6.out.below e1 n6.out.lt);have r2:=hid (r1.out.below e1);have r3:=hid (n7.out.below e1);clear e1 n8;go_wp2_with fail
 refine(group_any _ _ 2 _ (Strs.new l4 _ [(par b0 a0),(par b2 a1)] _ rfl _ rfl (by decide)) (HL.out)).mono ?_
 rintro e w3⟨rfl,o2⟩;have e2:=((Below.refl l4.heap.size l4).alloc (Nat.le_refl _) (.cells #[.string ⟨(par b0 a0).toArray⟩,.string ⟨(par b2 a1).toArray⟩] 9)).trans (o2.mono (by simp;try omega))
 have r4:=hid (n9.out.trans (e2.mono n9.out.size));have w5:=hid (o0.out.below e2 o0.out.lt);have w6:=hid (r2.out.below e2);have w7:=hid (r3.out.below e2);clear e2 o2;go_wp2;go_ret
 exact⟨rfl,r4.out⟩
set_option maxHeartbeats 16000000 in
set_option maxRecDepth 100000 in
theorem t_poly(n:Nat):Texts 137 (.list (termS n)):=by
 intro w D v t hrep hl;obtain⟨zA,zk,zc,rfl⟩:=ty_list hrep.ty;have HR0:=hid hrep;have HL:=hid hl;clear hrep hl;show Calls Tryz.prog 137 #[.slice zA zk zc] w _
 go_enter Tryz.func137,Tryz.ntmps137
 have d8:=hid (Below.refl w.heap.size w);obtain⟨e9,c2,f0,j7,f1,d9,e0⟩:=HR0.out.unlist;subst f0;have f2:=hid d9;have f3:=hid e0;have j8:zk≤100000000:=Nat.le_trans (par_len_ge c2 zk) HL.out;unfold maxLen at f1;clear d9 e0;go_wp2;have e1:=hid (TI.start c2 (Below.refl w.heap.size w));go_loopw [3,8] (fun ov iv wr=>∃(k:Nat),k≤zk∧iv = .int .i64 k∧Hid (TI c2 w ov k wr)) (fun _ iv _=>zk-(intOf iv).toNat)
 case atStart=>exact⟨0,by omega,rfl,e1⟩
 obtain⟨a0,j9,rfl,c8⟩:=hrel;clear e1;obtain⟨a3,hwr⟩:∃w:World,w=wr:=⟨_,rfl⟩;subst hwr;obtain⟨e2,e3,rfl,_,_⟩:=c8.out.form;have e4:=c8.out.2;have a6:=hid (d8.out.trans (e4.mono d8.out.size));clear e4;by_cases hlt:a0<zk
 ·obtain⟨a4,a5,hAx,_,c9,c4⟩:=f2.out (by omega)
  subst hAx;have e5:=f3.out a0 hlt;obtain⟨k0,c3⟩:∃u,e9 a0=u:=⟨_,rfl⟩;rw[c3]at e5;have d3:Hid ((c2 a0).length≤MX):=Nat.le_trans (par_len_at c2 hlt) HL.out;have c5:Shape.sz (termS n)=5:=sz_term;obtain⟨_,d0,k1,_,a1,_,rfl,rfl,d4,k2,_,a2,_,rfl,rfl,d5,rfl,rfl⟩:=e5;injection d0 with d0 _;obtain⟨a7,a8,a9,b0,b2,b3,b4,rfl⟩:=ty_rat d4.ty;obtain⟨b5,b6,b7,b8,b9,c0,rfl⟩:=ty_mono d5.ty;have d1:=hid d0;have f4:Hid (a1.length≤MX):=Nat.le_trans (par_len_at (fun i=>[a1,a2].getD i []) (i:=0) (k:=2) (by decide)) (len_eq d1.out d3.out)
  have f5:=hid d4;clear d4;have f6:Hid (a2.length≤MX):=Nat.le_trans (par_len_at (fun i=>[a1,a2].getD i []) (i:=1) (k:=2) (by decide)) (len_eq d1.out d3.out)
  have f7:=hid d5;clear d5;clear d0;have f8:a3.cell? ⟨a4,a5+a0*5,none⟩=some (.bool a7):=by
   have h9:=(a6.out.cell (p:=⟨a4,a5+a0*Shape.sz (termS n)+0,none⟩) c9).trans (c4 a0 hlt 0 (.bool a7) (by rw[c3];rfl))
   rw[c5]at h9;simpa using h9
  have f9:a3.cell? ⟨a4,a5+a0*5+1,none⟩=some (.slice a8 a9 b0):=by
   have h9:=(a6.out.cell (p:=⟨a4,a5+a0*Shape.sz (termS n)+1,none⟩) c9).trans (c4 a0 hlt 1 (.slice a8 a9 b0) (by rw[c3];rfl))
   rw[c5]at h9;simpa using h9
  have h0:a3.cell? ⟨a4,a5+a0*5+2,none⟩=some (.slice b2 b3 b4):=by
   have h9:=(a6.out.cell (p:=⟨a4,a5+a0*Shape.sz (termS n)+2,none⟩) c9).trans (c4 a0 hlt 2 (.slice b2 b3 b4) (by rw[c3];rfl))
   rw[c5]at h9;simpa using h9
  have j0:a3.cell? ⟨a4,a5+a0*5+3,none⟩=some (.slice b5 b6 b7):=by
   have h9:=(a6.out.cell (p:=⟨a4,a5+a0*Shape.sz (termS n)+3,none⟩) c9).trans (c4 a0 hlt 3 (.slice b5 b6 b7) (by rw[c3];rfl))
   rw[c5]at h9;simpa using h9
  have j1:a3.cell? ⟨a4,a5+a0*5+4,none⟩=some (.slice b8 b9 c0):=by
   have h9:=(a6.out.cell (p:=⟨a4,a5+a0*Shape.sz (termS n)+4,none⟩) c9).trans (c4 a0 hlt 4 (.slice b8 b9 c0) (by rw[c3];rfl))
   rw[c5]at h9;simpa using h9
  clear c4 c3 c5;go_upto_region 5 with(fail)
  obtain⟨e6,d2⟩:∃W,W=a3.alloc (.cells #[.bool a7,.slice a8 a9 b0,.slice b2 b3 b4,.slice b5 b6 b7,.slice b8 b9 c0] 139):=⟨_,rfl⟩;have d6:Below a3.heap.size a3 e6:=by rw[d2];exact(Below.refl _ _).alloc (Nat.le_refl _) _
  have c6:=hid (a6.out.trans (d6.mono a6.out.size));have j2:=hid (c8.out.below d6);have c7:Hid (Bk e6 a3.heap.size 139 #[.bool a7,.slice a8 a9 b0,.slice b2 b3 b4,.slice b5 b6 b7,.slice b8 b9 c0]):=by rw[d2];exact Bk.new _ _ _
  rw[←d2];clear d2 d6;clear f8 f9 h0 j0 j1;go_upto_region 5 with(fail)
  refine wp_region_facts (by kernel_rfl) (by kernel_rfl) [12,13,14,15,16,17,18,19,20,21] 40 (by kernel_rfl) (fun io v x=>match io with
   | 0=>v = .slice e2 a0 e3
   | 1=>v = .pointer (some ⟨a3.heap.size,0,none⟩)
   | 2=>v = .agg #[.bool a7,.slice a8 a9 b0,.slice b2 b3 b4]
   | 3=>v = .string ⟨a1.toArray⟩
   | 4=>v = .pointer (some ⟨a3.heap.size,3,none⟩)
   | 5=>v = .agg #[.slice b5 b6 b7,.slice b8 b9 c0]
   | 6=>v = .string ⟨a2.toArray⟩
   | 7=>Strs x v 2 (fun i=>[a1,a2].getD i [])
   | 8=>v = .string ⟨(par (fun i=>[a1,a2].getD i []) 2).toArray⟩
   | _=>Strs x v 1 (fun _=>(par (fun i=>[a1,a2].getD i []) 2))) ?_ ?_ ?_
  ·intro io v x x' hio h hb
   rcases io with _|_|_|_|_|_|_|_|_|io
   ·exact h
   ·exact h
   ·exact h
   ·exact h
   ·exact h
   ·exact h
   ·exact h
   ·exact Strs.below h hb
   ·exact h
   ·exact Strs.below h hb
  ·intro io oo S x ho hio hbx hdep
   rcases io with _|_|_|_|_|_|_|_|_|_|io
   ·cases ho
    refine opOk_h rfl rfl fun KK HK=>?_
    clear hdep hio;simp only[nm,Nat.reduceAdd]at HK ⊢;go_wp2;exact HK.out _ _ ⟨_,rfl,rfl,Below.refl _ _⟩
   ·cases ho
    refine opOk_h rfl rfl fun KK HK=>?_
    clear hdep hio;simp only[nm,Nat.reduceAdd]at HK ⊢;go_wp2;exact HK.out _ _ ⟨_,rfl,rfl,Below.refl _ _⟩
   ·cases ho
    have h1:S 1 = .pointer (some ⟨a3.heap.size,0,none⟩):=hdep 1 (by kernel_rfl) (by decide)
    obtain⟨k3,_,_⟩:=(c7.out.below hbx c7.out.lt).facts;refine opOk_h rfl rfl fun KK HK=>?_
    clear hdep hio;simp only[nm,Nat.reduceAdd]at HK ⊢;generalize S 1=t1 at *;subst h1;go_wp2;exact HK.out _ _ ⟨_,rfl,rfl,Below.refl _ _⟩
   ·cases ho
    have h2:S 2 = .agg #[.bool a7,.slice a8 a9 b0,.slice b2 b3 b4]:=hdep 2 (by kernel_rfl) (by decide)
    refine opOk_h rfl rfl fun KK HK=>?_
    clear hdep hio;simp only[nm,Nat.reduceAdd]at HK ⊢;generalize S 2=t2 at *;subst h2;go_wp2_with fail
    have key:=t_fmt x D [.bool a7,.slice a8 a9 b0,.slice b2 b3 b4] a1 (f5.out.below (c6.out.trans (hbx.mono c6.out.size))) f4.out;rw[val_rat]at key;refine(key).mono ?_;rintro e xN⟨rfl,hbN⟩;exact HK.out _ _ ⟨_,rfl,rfl,hbN⟩
   ·cases ho
    refine opOk_h rfl rfl fun KK HK=>?_
    clear hdep hio;simp only[nm,Nat.reduceAdd]at HK ⊢;go_wp2;exact HK.out _ _ ⟨_,rfl,rfl,Below.refl _ _⟩
   ·cases ho
    have h4:S 4 = .pointer (some ⟨a3.heap.size,3,none⟩):=hdep 4 (by kernel_rfl) (by decide)
    obtain⟨k4,_,_⟩:=(c7.out.below hbx c7.out.lt).facts;refine opOk_h rfl rfl fun KK HK=>?_
    clear hdep hio;simp only[nm,Nat.reduceAdd]at HK ⊢;generalize S 4=t4 at *;subst h4;go_wp2;exact HK.out _ _ ⟨_,rfl,rfl,Below.refl _ _⟩
   ·cases ho
    have h5:S 5 = .agg #[.slice b5 b6 b7,.slice b8 b9 c0]:=hdep 5 (by kernel_rfl) (by decide)
    refine opOk_h rfl rfl fun KK HK=>?_
    clear hdep hio;simp only[nm,Nat.reduceAdd]at HK ⊢;generalize S 5=t5 at *;subst h5;go_wp2_with fail
    have key:=(t_mono n) x D [.slice b5 b6 b7,.slice b8 b9 c0] a2 (f7.out.below (c6.out.trans (hbx.mono c6.out.size))) f6.out;rw[val_mono]at key;refine(key).mono ?_;rintro e xN⟨rfl,hbN⟩;exact HK.out _ _ ⟨_,rfl,rfl,hbN⟩
   ·cases ho
    have h3:S 3 = .string ⟨a1.toArray⟩:=hdep 3 (by kernel_rfl) (by decide)
    have h6:S 6 = .string ⟨a2.toArray⟩:=hdep 6 (by kernel_rfl) (by decide)
    refine opOk_h rfl rfl fun KK HK=>?_
    clear hdep hio;simp only[nm,Nat.reduceAdd]at HK ⊢;generalize S 3=t3 at *;subst h3;generalize S 6=t6 at *;subst h6;go_wp2;exact HK.out _ _ ⟨_,rfl,Strs.new x _ [a1,a2] _ rfl _ rfl (by decide),(Below.refl _ _).alloc (Nat.le_refl _) _⟩
   ·cases ho
    have h7:Strs x (S 7) 2 (fun i=>[a1,a2].getD i []):=hdep 7 (by kernel_rfl) (by decide)
    refine opOk_h rfl rfl fun KK HK=>?_
    clear hdep hio;simp only[nm,Nat.reduceAdd]at HK ⊢;go_wp2_with fail
    refine(group_any _ _ 2 _ h7 (len_eq d1.out d3.out)).mono ?_;rintro e xN⟨rfl,hbN⟩;exact HK.out _ _ ⟨_,rfl,rfl,hbN⟩
   ·cases ho
    have h8:S 8 = .string ⟨(par (fun i=>[a1,a2].getD i []) 2).toArray⟩:=hdep 8 (by kernel_rfl) (by decide)
    refine opOk_h rfl rfl fun KK HK=>?_
    clear hdep hio;simp only[nm,Nat.reduceAdd]at HK ⊢;generalize S 8=t8 at *;subst h8;go_wp2;exact HK.out _ _ ⟨_,rfl,Strs.new1 x _ _,(Below.refl _ _).alloc (Nat.le_refl _) _⟩
   ·exact absurd hio (by simp)
  intro S x hbx hF;have g0:S 0 = .slice e2 a0 e3:=hF 0 (by decide)
  have g1:S 1 = .pointer (some ⟨a3.heap.size,0,none⟩):=hF 1 (by decide)
  have g2:S 2 = .agg #[.bool a7,.slice a8 a9 b0,.slice b2 b3 b4]:=hF 2 (by decide)
  have g3:S 3 = .string ⟨a1.toArray⟩:=hF 3 (by decide)
  have g4:S 4 = .pointer (some ⟨a3.heap.size,3,none⟩):=hF 4 (by decide)
  have g5:S 5 = .agg #[.slice b5 b6 b7,.slice b8 b9 c0]:=hF 5 (by decide)
  have g6:S 6 = .string ⟨a2.toArray⟩:=hF 6 (by decide)
  have g7:Strs x (S 7) 2 (fun i=>[a1,a2].getD i []):=hF 7 (by decide)
  have g8:S 8 = .string ⟨(par (fun i=>[a1,a2].getD i []) 2).toArray⟩:=hF 8 (by decide)
  have g9:Strs x (S 9) 1 (fun _=>(par (fun i=>[a1,a2].getD i []) 2)):=hF 9 (by decide)
  clear hF;simp only[nm,Nat.reduceAdd,List.length_cons,List.length_nil,List.drop_succ_cons,List.drop_zero];generalize S 0=t0 at *;subst g0;generalize S 1=t1 at *;subst g1;generalize S 2=t2 at *;subst g2;generalize S 3=t3 at *;subst g3;generalize S 4=t4 at *;subst g4;generalize S 5=t5 at *;subst g5;generalize S 6=t6 at *;subst g6;generalize S 7=t7 at *;generalize S 8=t8 at *;subst g8;generalize S 9=t9 at *;obtain⟨j3,hxn⟩:∃y:World,y=x:=⟨_,rfl⟩;subst hxn;have k5:=hid (c6.out.trans (hbx.mono c6.out.size));have k6:=hid (c7.out.below hbx c7.out.lt);have j4:=hid (j2.out.below hbx);obtain⟨b1,o1,c1,rfl,hce⟩:=Strs.one g9;go_wp2_with (at_builtin;refine wpList_pushT j3 rfl _ _ rfl w c2 a0 _ rfl j4.out b1 o1 c1 rfl (par (fun i=>[a1,a2].getD i []) 2) hce (d1.out.symm) (by omega) ?_)
  intro g2 k7 w4 e7;have j5:=hid e7;clear e7;go_wp2;go_roundw
  case rel=>exact⟨a0+1,by omega,by go_num,j5⟩
  case measure=>simp[intOf];omega
 obtain rfl:a0=zk:=by omega
 go_wp2_with fail
 refine(group_any _ _ a0 c2 (c8.out.strs) HL.out).mono ?_;rintro e k8⟨rfl,e8⟩;have d7:=e8;have j6:=hid (a6.out.trans (d7.mono a6.out.size));have k9:=hid (c8.out.below d7);clear d7 e8;go_wp2;go_ret
 exact⟨rfl,j6.out⟩
end Go.Proofs.YtellcholbkoakaaGreatDoor
