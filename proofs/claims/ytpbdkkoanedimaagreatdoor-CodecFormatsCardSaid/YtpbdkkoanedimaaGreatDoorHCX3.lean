/-
 The reader: structs (printed by gen_codec.py).
-/
import Derived.Test.YtpbdkkoanedimaaGreatDoorHCRa
namespace Go.Proofs.YtpbdkkoanedimaaGreatDoor
open Go.Lib (hid)
open Go.RowKit AC
set_option linter.unusedVariables false
set_option linter.unusedSimpArgs false
set_option maxHeartbeats 4000000 in
set_option maxRecDepth 100000 in
theorem st_mono (n : Nat) (L : Nat) (h0 : CloR 297 (.list (factorS n)) L 64 0) (h1 : CloR 300 (.list atomS) L 64 1) : Reads 238 (.st (ands [(.list (factorS n)), (.list atomS)])) L := by
 intro w br str o hr hl
 have hbr := hr.lt
 have hgn := hr.gl.2
 have HC : Hid (∀ i k s, ([297, 300] : List FuncId)[i]? = some k → ([(.list (factorS n)), (.list atomS)] : List Shape)[i]? = some s → CloR k s L 64 (offs [(.list (factorS n)), (.list atomS)] i)) := by
  intro i k s hk hs
  rcases i with _ | _ | i
  ·simp only [gq] at hk hs; injection hk with hk; injection hs with hs; subst hk; subst hs; rw [show offs [(.list (factorS n)), (.list atomS)] 0 = 0 from by simp [offs, Shape.sz]]; exact h0
  ·simp only [gq] at hk hs; injection hk with hk; injection hs with hs; subst hk; subst hs; rw [show offs [(.list (factorS n)), (.list atomS)] 1 = 1 from by simp [offs, Shape.sz]]; exact h1
  ·simp at hk
 have HR := hid hr
 have HL := hid hl
 clear hr hl h0 h1
 go_enter Tryz.func238, Tryz.ntmps238
 go_wp2_with fail
 refine (fields_any [(.list (factorS n)), (.list atomS)] [297, 300] 64 L rfl (by simp) (by simp) HC.out _ br w.heap.size (w.heap.size + 1) (w.heap.size + 1 + 1) str o [[.slice none 0 0], [.slice none 0 0]] (((HR.out.alloc _).alloc _).alloc _) HL.out (((Bk.new' rfl _ _).alloc _).alloc _) ((Bk.new' (by simp) _ _).alloc _) ⟨_, _, rfl, ⟨none, 0, 0, rfl⟩, ⟨_, _, rfl, ⟨none, 0, 0, rfl⟩, rfl⟩⟩ (Bk.new' (by simp) _ _) (by omega) (by omega) (by omega) (by omega) (by omega) (by omega)).mono ?_
 rintro e w1 ⟨rfl, vs, htys, hb1, hst, hf, htx⟩
 have HTYS := hid htys
 obtain ⟨_, _, rfl, t0, _, _, rfl, t1, rfl⟩ := htys
 obtain ⟨z0A, z0k, z0c, rfl⟩ := ty_list t0
 obtain ⟨z1A, z1k, z1c, rfl⟩ := ty_list t1
 simp only [gf] at hb1
 have e0 := hb1.cell 0
 have f0 := hb1.frozen 0
 have e1 := hb1.cell 1
 have f1 := hb1.frozen 1
 simp only [gq] at e0 e1
 have HB1 := hid hb1
 have HST := hid hst
 have HF := hid hf
 have HTX := hid htx
 clear hb1 hst hf htx
 go_wp2
 have hb2 := ((HB1.out.set 0 (.slice z0A z0k z0c)).set 1 (.slice z1A z1k z1c))
 simp only [List.setIfInBounds_toArray, List.set_cons_zero, List.set_cons_succ] at hb2
 have r0 := hb2.cell 0
 have r1 := hb2.cell 1
 simp only [gq] at r0 r1
 have HB2 := hid hb2
 clear hb2
 refine bodyPost_ret (v := .agg #[.slice z0A z0k z0c, .slice z1A z1k z1c]) (by simp [results, Tryz.results238, go_sem, r0, r1]) rfl ?_
 exact RPost.ofF ((((Fr.refl _ _).alloc _).alloc _).alloc _) HTYS.out HST.out HF.out HTX.out (((Fr.refl _ _).wr _ _).wr _ _) (by omega) (by simp) hbr (by simp only [gf])
set_option maxHeartbeats 4000000 in
set_option maxRecDepth 100000 in
theorem st_term (n : Nat) (L : Nat) (h0 : CloR 235 .rat L 121 0) (h1 : CloR 237 (monoS n) L 121 3) : Reads 165 (.st (ands [.rat, (monoS n)])) L := by
 intro w br str o hr hl
 have hbr := hr.lt
 have hgn := hr.gl.2
 have HC : Hid (∀ i k s, ([235, 237] : List FuncId)[i]? = some k → ([.rat, (monoS n)] : List Shape)[i]? = some s → CloR k s L 121 (offs [.rat, (monoS n)] i)) := by
  intro i k s hk hs
  rcases i with _ | _ | i
  ·simp only [gq] at hk hs; injection hk with hk; injection hs with hs; subst hk; subst hs; rw [show offs [.rat, (monoS n)] 0 = 0 from by simp [offs, Shape.sz]]; exact h0
  ·simp only [gq] at hk hs; injection hk with hk; injection hs with hs; subst hk; subst hs; rw [show offs [.rat, (monoS n)] 1 = 3 from by simp [offs, Shape.sz]]; exact h1
  ·simp at hk
 have HR := hid hr
 have HL := hid hl
 clear hr hl h0 h1
 go_enter Tryz.func165, Tryz.ntmps165
 go_wp2_with fail
 refine (fields_any [.rat, (monoS n)] [235, 237] 121 L rfl (by simp) (by simp) HC.out _ br w.heap.size (w.heap.size + 1) (w.heap.size + 1 + 1) str o [[.bool false, .slice none 0 0, .slice none 0 0], [.slice none 0 0, .slice none 0 0]] (((HR.out.alloc _).alloc _).alloc _) HL.out (((Bk.new' rfl _ _).alloc _).alloc _) ((Bk.new' (by simp) _ _).alloc _) ⟨_, _, rfl, ⟨_, _, _, _, _, _, _, rfl⟩, ⟨_, _, rfl, zero_mono, rfl⟩⟩ (Bk.new' (by simp) _ _) (by omega) (by omega) (by omega) (by omega) (by omega) (by omega)).mono ?_
 rintro e w1 ⟨rfl, vs, htys, hb1, hst, hf, htx⟩
 have HTYS := hid htys
 obtain ⟨_, _, rfl, t0, _, _, rfl, t1, rfl⟩ := htys
 obtain ⟨z0b, z0A, z0k, z0c, z0D, z0l, z0d, rfl⟩ := ty_rat t0
 obtain ⟨z1_0A, z1_0k, z1_0c, z1_1A, z1_1k, z1_1c, rfl⟩ := ty_mono t1
 simp only [gf] at hb1
 have e0 := hb1.cell 0
 have f0 := hb1.frozen 0
 have e1 := hb1.cell 1
 have f1 := hb1.frozen 1
 have e2 := hb1.cell 2
 have f2 := hb1.frozen 2
 have e3 := hb1.cell 3
 have f3 := hb1.frozen 3
 have e4 := hb1.cell 4
 have f4 := hb1.frozen 4
 simp only [gq] at e0 e1 e2 e3 e4
 have HB1 := hid hb1
 have HST := hid hst
 have HF := hid hf
 have HTX := hid htx
 clear hb1 hst hf htx
 go_wp2
 have hb2 := (((((HB1.out.set 0 (.bool z0b)).set 1 (.slice z0A z0k z0c)).set 2 (.slice z0D z0l z0d)).set 3 (.slice z1_0A z1_0k z1_0c)).set 4 (.slice z1_1A z1_1k z1_1c))
 simp only [List.setIfInBounds_toArray, List.set_cons_zero, List.set_cons_succ] at hb2
 have r0 := hb2.cell 0
 have r1 := hb2.cell 1
 have r2 := hb2.cell 2
 have r3 := hb2.cell 3
 have r4 := hb2.cell 4
 simp only [gq] at r0 r1 r2 r3 r4
 have HB2 := hid hb2
 clear hb2
 refine bodyPost_ret (v := .agg #[.bool z0b, .slice z0A z0k z0c, .slice z0D z0l z0d, .slice z1_0A z1_0k z1_0c, .slice z1_1A z1_1k z1_1c]) (by simp [results, Tryz.results165, go_sem, r0, r1, r2, r3, r4]) rfl ?_
 exact RPost.ofF ((((Fr.refl _ _).alloc _).alloc _).alloc _) HTYS.out HST.out HF.out HTX.out ((((((Fr.refl _ _).wr _ _).wr _ _).wr _ _).wr _ _).wr _ _) (by omega) (by simp) hbr (by simp only [gf])
set_option maxHeartbeats 4000000 in
set_option maxRecDepth 100000 in
theorem st_use (n : Nat) (L : Nat) (h0 : CloR 303 .int L 73 0) (h1 : CloR 304 .rat L 73 1) (h2 : CloR 305 (monoS n) L 73 4) : Reads 242 (.st (ands [.int, .rat, (monoS n)])) L := by
 intro w br str o hr hl
 have hbr := hr.lt
 have hgn := hr.gl.2
 have HC : Hid (∀ i k s, ([303, 304, 305] : List FuncId)[i]? = some k → ([.int, .rat, (monoS n)] : List Shape)[i]? = some s → CloR k s L 73 (offs [.int, .rat, (monoS n)] i)) := by
  intro i k s hk hs
  rcases i with _ | _ | _ | i
  ·simp only [gq] at hk hs; injection hk with hk; injection hs with hs; subst hk; subst hs; rw [show offs [.int, .rat, (monoS n)] 0 = 0 from by simp [offs, Shape.sz]]; exact h0
  ·simp only [gq] at hk hs; injection hk with hk; injection hs with hs; subst hk; subst hs; rw [show offs [.int, .rat, (monoS n)] 1 = 1 from by simp [offs, Shape.sz]]; exact h1
  ·simp only [gq] at hk hs; injection hk with hk; injection hs with hs; subst hk; subst hs; rw [show offs [.int, .rat, (monoS n)] 2 = 4 from by simp [offs, Shape.sz]]; exact h2
  ·simp at hk
 have HR := hid hr
 have HL := hid hl
 clear hr hl h0 h1 h2
 go_enter Tryz.func242, Tryz.ntmps242
 go_wp2_with fail
 refine (fields_any [.int, .rat, (monoS n)] [303, 304, 305] 73 L rfl (by simp) (by simp) HC.out _ br w.heap.size (w.heap.size + 1) (w.heap.size + 1 + 1) str o [[.int .i64 0], [.bool false, .slice none 0 0, .slice none 0 0], [.slice none 0 0, .slice none 0 0]] (((HR.out.alloc _).alloc _).alloc _) HL.out (((Bk.new' rfl _ _).alloc _).alloc _) ((Bk.new' (by simp) _ _).alloc _) ⟨_, _, rfl, ⟨0, rfl, by omega, by omega⟩, ⟨_, _, rfl, ⟨_, _, _, _, _, _, _, rfl⟩, ⟨_, _, rfl, zero_mono, rfl⟩⟩⟩ (Bk.new' (by simp) _ _) (by omega) (by omega) (by omega) (by omega) (by omega) (by omega)).mono ?_
 rintro e w1 ⟨rfl, vs, htys, hb1, hst, hf, htx⟩
 have HTYS := hid htys
 obtain ⟨_, _, rfl, t0, _, _, rfl, t1, _, _, rfl, t2, rfl⟩ := htys
 obtain ⟨z0n, rfl⟩ := ty_int t0
 obtain ⟨z1b, z1A, z1k, z1c, z1D, z1l, z1d, rfl⟩ := ty_rat t1
 obtain ⟨z2_0A, z2_0k, z2_0c, z2_1A, z2_1k, z2_1c, rfl⟩ := ty_mono t2
 simp only [gf] at hb1
 have e0 := hb1.cell 0
 have f0 := hb1.frozen 0
 have e1 := hb1.cell 1
 have f1 := hb1.frozen 1
 have e2 := hb1.cell 2
 have f2 := hb1.frozen 2
 have e3 := hb1.cell 3
 have f3 := hb1.frozen 3
 have e4 := hb1.cell 4
 have f4 := hb1.frozen 4
 have e5 := hb1.cell 5
 have f5 := hb1.frozen 5
 simp only [gq] at e0 e1 e2 e3 e4 e5
 have HB1 := hid hb1
 have HST := hid hst
 have HF := hid hf
 have HTX := hid htx
 clear hb1 hst hf htx
 go_wp2
 have hb2 := ((((((HB1.out.set 0 (.int .i64 z0n)).set 1 (.bool z1b)).set 2 (.slice z1A z1k z1c)).set 3 (.slice z1D z1l z1d)).set 4 (.slice z2_0A z2_0k z2_0c)).set 5 (.slice z2_1A z2_1k z2_1c))
 simp only [List.setIfInBounds_toArray, List.set_cons_zero, List.set_cons_succ] at hb2
 have r0 := hb2.cell 0
 have r1 := hb2.cell 1
 have r2 := hb2.cell 2
 have r3 := hb2.cell 3
 have r4 := hb2.cell 4
 have r5 := hb2.cell 5
 simp only [gq] at r0 r1 r2 r3 r4 r5
 have HB2 := hid hb2
 clear hb2
 refine bodyPost_ret (v := .agg #[.int .i64 z0n, .bool z1b, .slice z1A z1k z1c, .slice z1D z1l z1d, .slice z2_0A z2_0k z2_0c, .slice z2_1A z2_1k z2_1c]) (by simp [results, Tryz.results242, go_sem, r0, r1, r2, r3, r4, r5]) rfl ?_
 exact RPost.ofF ((((Fr.refl _ _).alloc _).alloc _).alloc _) HTYS.out HST.out HF.out HTX.out (((((((Fr.refl _ _).wr _ _).wr _ _).wr _ _).wr _ _).wr _ _).wr _ _) (by omega) (by simp) hbr (by simp only [gf])
set_option maxHeartbeats 4000000 in
set_option maxRecDepth 100000 in
theorem st_part (n : Nat) (L : Nat) (h0 : CloR 244 .int L 66 0) (h1 : CloR 245 .rat L 66 1) (h2 : CloR 246 (monoS n) L 66 4) : Reads 172 (.st (ands [.int, .rat, (monoS n)])) L := by
 intro w br str o hr hl
 have hbr := hr.lt
 have hgn := hr.gl.2
 have HC : Hid (∀ i k s, ([244, 245, 246] : List FuncId)[i]? = some k → ([.int, .rat, (monoS n)] : List Shape)[i]? = some s → CloR k s L 66 (offs [.int, .rat, (monoS n)] i)) := by
  intro i k s hk hs
  rcases i with _ | _ | _ | i
  ·simp only [gq] at hk hs; injection hk with hk; injection hs with hs; subst hk; subst hs; rw [show offs [.int, .rat, (monoS n)] 0 = 0 from by simp [offs, Shape.sz]]; exact h0
  ·simp only [gq] at hk hs; injection hk with hk; injection hs with hs; subst hk; subst hs; rw [show offs [.int, .rat, (monoS n)] 1 = 1 from by simp [offs, Shape.sz]]; exact h1
  ·simp only [gq] at hk hs; injection hk with hk; injection hs with hs; subst hk; subst hs; rw [show offs [.int, .rat, (monoS n)] 2 = 4 from by simp [offs, Shape.sz]]; exact h2
  ·simp at hk
 have HR := hid hr
 have HL := hid hl
 clear hr hl h0 h1 h2
 go_enter Tryz.func172, Tryz.ntmps172
 go_wp2_with fail
 refine (fields_any [.int, .rat, (monoS n)] [244, 245, 246] 66 L rfl (by simp) (by simp) HC.out _ br w.heap.size (w.heap.size + 1) (w.heap.size + 1 + 1) str o [[.int .i64 0], [.bool false, .slice none 0 0, .slice none 0 0], [.slice none 0 0, .slice none 0 0]] (((HR.out.alloc _).alloc _).alloc _) HL.out (((Bk.new' rfl _ _).alloc _).alloc _) ((Bk.new' (by simp) _ _).alloc _) ⟨_, _, rfl, ⟨0, rfl, by omega, by omega⟩, ⟨_, _, rfl, ⟨_, _, _, _, _, _, _, rfl⟩, ⟨_, _, rfl, zero_mono, rfl⟩⟩⟩ (Bk.new' (by simp) _ _) (by omega) (by omega) (by omega) (by omega) (by omega) (by omega)).mono ?_
 rintro e w1 ⟨rfl, vs, htys, hb1, hst, hf, htx⟩
 have HTYS := hid htys
 obtain ⟨_, _, rfl, t0, _, _, rfl, t1, _, _, rfl, t2, rfl⟩ := htys
 obtain ⟨z0n, rfl⟩ := ty_int t0
 obtain ⟨z1b, z1A, z1k, z1c, z1D, z1l, z1d, rfl⟩ := ty_rat t1
 obtain ⟨z2_0A, z2_0k, z2_0c, z2_1A, z2_1k, z2_1c, rfl⟩ := ty_mono t2
 simp only [gf] at hb1
 have e0 := hb1.cell 0
 have f0 := hb1.frozen 0
 have e1 := hb1.cell 1
 have f1 := hb1.frozen 1
 have e2 := hb1.cell 2
 have f2 := hb1.frozen 2
 have e3 := hb1.cell 3
 have f3 := hb1.frozen 3
 have e4 := hb1.cell 4
 have f4 := hb1.frozen 4
 have e5 := hb1.cell 5
 have f5 := hb1.frozen 5
 simp only [gq] at e0 e1 e2 e3 e4 e5
 have HB1 := hid hb1
 have HST := hid hst
 have HF := hid hf
 have HTX := hid htx
 clear hb1 hst hf htx
 go_wp2
 have hb2 := ((((((HB1.out.set 0 (.int .i64 z0n)).set 1 (.bool z1b)).set 2 (.slice z1A z1k z1c)).set 3 (.slice z1D z1l z1d)).set 4 (.slice z2_0A z2_0k z2_0c)).set 5 (.slice z2_1A z2_1k z2_1c))
 simp only [List.setIfInBounds_toArray, List.set_cons_zero, List.set_cons_succ] at hb2
 have r0 := hb2.cell 0
 have r1 := hb2.cell 1
 have r2 := hb2.cell 2
 have r3 := hb2.cell 3
 have r4 := hb2.cell 4
 have r5 := hb2.cell 5
 simp only [gq] at r0 r1 r2 r3 r4 r5
 have HB2 := hid hb2
 clear hb2
 refine bodyPost_ret (v := .agg #[.int .i64 z0n, .bool z1b, .slice z1A z1k z1c, .slice z1D z1l z1d, .slice z2_0A z2_0k z2_0c, .slice z2_1A z2_1k z2_1c]) (by simp [results, Tryz.results172, go_sem, r0, r1, r2, r3, r4, r5]) rfl ?_
 exact RPost.ofF ((((Fr.refl _ _).alloc _).alloc _).alloc _) HTYS.out HST.out HF.out HTX.out (((((((Fr.refl _ _).wr _ _).wr _ _).wr _ _).wr _ _).wr _ _).wr _ _) (by omega) (by simp) hbr (by simp only [gf])
set_option maxHeartbeats 4000000 in
set_option maxRecDepth 100000 in
theorem st_target (n : Nat) (L : Nat) (h0 : CloR 239 .int L 71 0) (h1 : CloR 240 (.list (useS n)) L 71 1) (h2 : CloR 243 (.list (termS n)) L 71 2) : Reads 169 (.st (ands [.int, (.list (useS n)), (.list (termS n))])) L := by
 intro w br str o hr hl
 have hbr := hr.lt
 have hgn := hr.gl.2
 have HC : Hid (∀ i k s, ([239, 240, 243] : List FuncId)[i]? = some k → ([.int, (.list (useS n)), (.list (termS n))] : List Shape)[i]? = some s → CloR k s L 71 (offs [.int, (.list (useS n)), (.list (termS n))] i)) := by
  intro i k s hk hs
  rcases i with _ | _ | _ | i
  ·simp only [gq] at hk hs; injection hk with hk; injection hs with hs; subst hk; subst hs; rw [show offs [.int, (.list (useS n)), (.list (termS n))] 0 = 0 from by simp [offs, Shape.sz]]; exact h0
  ·simp only [gq] at hk hs; injection hk with hk; injection hs with hs; subst hk; subst hs; rw [show offs [.int, (.list (useS n)), (.list (termS n))] 1 = 1 from by simp [offs, Shape.sz]]; exact h1
  ·simp only [gq] at hk hs; injection hk with hk; injection hs with hs; subst hk; subst hs; rw [show offs [.int, (.list (useS n)), (.list (termS n))] 2 = 2 from by simp [offs, Shape.sz]]; exact h2
  ·simp at hk
 have HR := hid hr
 have HL := hid hl
 clear hr hl h0 h1 h2
 go_enter Tryz.func169, Tryz.ntmps169
 go_wp2_with fail
 refine (fields_any [.int, (.list (useS n)), (.list (termS n))] [239, 240, 243] 71 L rfl (by simp) (by simp) HC.out _ br w.heap.size (w.heap.size + 1) (w.heap.size + 1 + 1) str o [[.int .i64 0], [.slice none 0 0], [.slice none 0 0]] (((HR.out.alloc _).alloc _).alloc _) HL.out (((Bk.new' rfl _ _).alloc _).alloc _) ((Bk.new' (by simp) _ _).alloc _) ⟨_, _, rfl, ⟨0, rfl, by omega, by omega⟩, ⟨_, _, rfl, ⟨none, 0, 0, rfl⟩, ⟨_, _, rfl, ⟨none, 0, 0, rfl⟩, rfl⟩⟩⟩ (Bk.new' (by simp) _ _) (by omega) (by omega) (by omega) (by omega) (by omega) (by omega)).mono ?_
 rintro e w1 ⟨rfl, vs, htys, hb1, hst, hf, htx⟩
 have HTYS := hid htys
 obtain ⟨_, _, rfl, t0, _, _, rfl, t1, _, _, rfl, t2, rfl⟩ := htys
 obtain ⟨z0n, rfl⟩ := ty_int t0
 obtain ⟨z1A, z1k, z1c, rfl⟩ := ty_list t1
 obtain ⟨z2A, z2k, z2c, rfl⟩ := ty_list t2
 simp only [gf] at hb1
 have e0 := hb1.cell 0
 have f0 := hb1.frozen 0
 have e1 := hb1.cell 1
 have f1 := hb1.frozen 1
 have e2 := hb1.cell 2
 have f2 := hb1.frozen 2
 simp only [gq] at e0 e1 e2
 have HB1 := hid hb1
 have HST := hid hst
 have HF := hid hf
 have HTX := hid htx
 clear hb1 hst hf htx
 go_wp2
 have hb2 := (((HB1.out.set 0 (.int .i64 z0n)).set 1 (.slice z1A z1k z1c)).set 2 (.slice z2A z2k z2c))
 simp only [List.setIfInBounds_toArray, List.set_cons_zero, List.set_cons_succ] at hb2
 have r0 := hb2.cell 0
 have r1 := hb2.cell 1
 have r2 := hb2.cell 2
 simp only [gq] at r0 r1 r2
 have HB2 := hid hb2
 clear hb2
 refine bodyPost_ret (v := .agg #[.int .i64 z0n, .slice z1A z1k z1c, .slice z2A z2k z2c]) (by simp [results, Tryz.results169, go_sem, r0, r1, r2]) rfl ?_
 exact RPost.ofF ((((Fr.refl _ _).alloc _).alloc _).alloc _) HTYS.out HST.out HF.out HTX.out ((((Fr.refl _ _).wr _ _).wr _ _).wr _ _) (by omega) (by simp) hbr (by simp only [gf])
set_option maxHeartbeats 4000000 in
set_option maxRecDepth 100000 in
theorem st_axiom (L : Nat) (h0 : CloR 306 .int L 134 0) (h1 : CloR 307 linS L 134 1) (h2 : CloR 308 linS L 134 3) (h3 : CloR 309 .int L 134 5) : Reads 249 (.st (ands [.int, linS, linS, .int])) L := by
 intro w br str o hr hl
 have hbr := hr.lt
 have hgn := hr.gl.2
 have HC : Hid (∀ i k s, ([306, 307, 308, 309] : List FuncId)[i]? = some k → ([.int, linS, linS, .int] : List Shape)[i]? = some s → CloR k s L 134 (offs [.int, linS, linS, .int] i)) := by
  intro i k s hk hs
  rcases i with _ | _ | _ | _ | i
  ·simp only [gq] at hk hs; injection hk with hk; injection hs with hs; subst hk; subst hs; rw [show offs [.int, linS, linS, .int] 0 = 0 from by simp [offs, Shape.sz]]; exact h0
  ·simp only [gq] at hk hs; injection hk with hk; injection hs with hs; subst hk; subst hs; rw [show offs [.int, linS, linS, .int] 1 = 1 from by simp [offs, Shape.sz]]; exact h1
  ·simp only [gq] at hk hs; injection hk with hk; injection hs with hs; subst hk; subst hs; rw [show offs [.int, linS, linS, .int] 2 = 3 from by simp [offs, Shape.sz, sz_lin]]; exact h2
  ·simp only [gq] at hk hs; injection hk with hk; injection hs with hs; subst hk; subst hs; rw [show offs [.int, linS, linS, .int] 3 = 5 from by simp [offs, Shape.sz, sz_lin]]; exact h3
  ·simp at hk
 have HR := hid hr
 have HL := hid hl
 clear hr hl h0 h1 h2 h3
 go_enter Tryz.func249, Tryz.ntmps249
 go_wp2_with fail
 refine (fields_any [.int, linS, linS, .int] [306, 307, 308, 309] 134 L rfl (by simp) (by simp) HC.out _ br w.heap.size (w.heap.size + 1) (w.heap.size + 1 + 1) str o [[.int .i64 0], [.int .i64 0, .slice none 0 0], [.int .i64 0, .slice none 0 0], [.int .i64 0]] (((HR.out.alloc _).alloc _).alloc _) HL.out (((Bk.new' rfl _ _).alloc _).alloc _) ((Bk.new' (by simp) _ _).alloc _) ⟨_, _, rfl, ⟨0, rfl, by omega, by omega⟩, ⟨_, _, rfl, zero_lin, ⟨_, _, rfl, zero_lin, ⟨_, _, rfl, ⟨0, rfl, by omega, by omega⟩, rfl⟩⟩⟩⟩ (Bk.new' (by simp) _ _) (by omega) (by omega) (by omega) (by omega) (by omega) (by omega)).mono ?_
 rintro e w1 ⟨rfl, vs, htys, hb1, hst, hf, htx⟩
 have HTYS := hid htys
 obtain ⟨_, _, rfl, t0, _, _, rfl, t1, _, _, rfl, t2, _, _, rfl, t3, rfl⟩ := htys
 obtain ⟨z0n, rfl⟩ := ty_int t0
 obtain ⟨z1_0n, z1_1A, z1_1k, z1_1c, rfl⟩ := ty_lin t1
 obtain ⟨z2_0n, z2_1A, z2_1k, z2_1c, rfl⟩ := ty_lin t2
 obtain ⟨z3n, rfl⟩ := ty_int t3
 simp only [gf] at hb1
 have e0 := hb1.cell 0
 have f0 := hb1.frozen 0
 have e1 := hb1.cell 1
 have f1 := hb1.frozen 1
 have e2 := hb1.cell 2
 have f2 := hb1.frozen 2
 have e3 := hb1.cell 3
 have f3 := hb1.frozen 3
 have e4 := hb1.cell 4
 have f4 := hb1.frozen 4
 have e5 := hb1.cell 5
 have f5 := hb1.frozen 5
 simp only [gq] at e0 e1 e2 e3 e4 e5
 have HB1 := hid hb1
 have HST := hid hst
 have HF := hid hf
 have HTX := hid htx
 clear hb1 hst hf htx
 go_wp2
 have hb2 := ((((((HB1.out.set 0 (.int .i64 z0n)).set 1 (.int .i64 z1_0n)).set 2 (.slice z1_1A z1_1k z1_1c)).set 3 (.int .i64 z2_0n)).set 4 (.slice z2_1A z2_1k z2_1c)).set 5 (.int .i64 z3n))
 simp only [List.setIfInBounds_toArray, List.set_cons_zero, List.set_cons_succ] at hb2
 have r0 := hb2.cell 0
 have r1 := hb2.cell 1
 have r2 := hb2.cell 2
 have r3 := hb2.cell 3
 have r4 := hb2.cell 4
 have r5 := hb2.cell 5
 simp only [gq] at r0 r1 r2 r3 r4 r5
 have HB2 := hid hb2
 clear hb2
 refine bodyPost_ret (v := .agg #[.int .i64 z0n, .int .i64 z1_0n, .slice z1_1A z1_1k z1_1c, .int .i64 z2_0n, .slice z2_1A z2_1k z2_1c, .int .i64 z3n]) (by simp [results, Tryz.results249, go_sem, r0, r1, r2, r3, r4, r5]) rfl ?_
 exact RPost.ofF ((((Fr.refl _ _).alloc _).alloc _).alloc _) HTYS.out HST.out HF.out HTX.out (((((((Fr.refl _ _).wr _ _).wr _ _).wr _ _).wr _ _).wr _ _).wr _ _) (by omega) (by simp) hbr (by simp only [gf])
set_option maxHeartbeats 4000000 in
set_option maxRecDepth 100000 in
theorem st_axiomUse (n : Nat) (L : Nat) (h0 : CloR 248 axS L 136 0) (h1 : CloR 250 .rat L 136 6) (h2 : CloR 251 (monoS n) L 136 9) (h3 : CloR 252 (.list .rat) L 136 11) (h4 : CloR 253 (.list .rat) L 136 12) : Reads 181 (.st (ands [axS, .rat, (monoS n), (.list .rat), (.list .rat)])) L := by
 intro w br str o hr hl
 have hbr := hr.lt
 have hgn := hr.gl.2
 have HC : Hid (∀ i k s, ([248, 250, 251, 252, 253] : List FuncId)[i]? = some k → ([axS, .rat, (monoS n), (.list .rat), (.list .rat)] : List Shape)[i]? = some s → CloR k s L 136 (offs [axS, .rat, (monoS n), (.list .rat), (.list .rat)] i)) := by
  intro i k s hk hs
  rcases i with _ | _ | _ | _ | _ | i
  ·simp only [gq] at hk hs; injection hk with hk; injection hs with hs; subst hk; subst hs; rw [show offs [axS, .rat, (monoS n), (.list .rat), (.list .rat)] 0 = 0 from by simp [offs, Shape.sz]]; exact h0
  ·simp only [gq] at hk hs; injection hk with hk; injection hs with hs; subst hk; subst hs; rw [show offs [axS, .rat, (monoS n), (.list .rat), (.list .rat)] 1 = 6 from by simp [offs, Shape.sz, sz_axiom]]; exact h1
  ·simp only [gq] at hk hs; injection hk with hk; injection hs with hs; subst hk; subst hs; rw [show offs [axS, .rat, (monoS n), (.list .rat), (.list .rat)] 2 = 9 from by simp [offs, Shape.sz, sz_axiom]]; exact h2
  ·simp only [gq] at hk hs; injection hk with hk; injection hs with hs; subst hk; subst hs; rw [show offs [axS, .rat, (monoS n), (.list .rat), (.list .rat)] 3 = 11 from by simp [offs, Shape.sz, sz_axiom, sz_mono]]; exact h3
  ·simp only [gq] at hk hs; injection hk with hk; injection hs with hs; subst hk; subst hs; rw [show offs [axS, .rat, (monoS n), (.list .rat), (.list .rat)] 4 = 12 from by simp [offs, Shape.sz, sz_axiom, sz_mono]]; exact h4
  ·simp at hk
 have HR := hid hr
 have HL := hid hl
 clear hr hl h0 h1 h2 h3 h4
 go_enter Tryz.func181, Tryz.ntmps181
 go_wp2_with fail
 refine (fields_any [axS, .rat, (monoS n), (.list .rat), (.list .rat)] [248, 250, 251, 252, 253] 136 L rfl (by simp) (by simp) HC.out _ br w.heap.size (w.heap.size + 1) (w.heap.size + 1 + 1) str o [[.int .i64 0, .int .i64 0, .slice none 0 0, .int .i64 0, .slice none 0 0, .int .i64 0], [.bool false, .slice none 0 0, .slice none 0 0], [.slice none 0 0, .slice none 0 0], [.slice none 0 0], [.slice none 0 0]] (((HR.out.alloc _).alloc _).alloc _) HL.out (((Bk.new' rfl _ _).alloc _).alloc _) ((Bk.new' (by simp) _ _).alloc _) ⟨_, _, rfl, zero_axiom, ⟨_, _, rfl, ⟨_, _, _, _, _, _, _, rfl⟩, ⟨_, _, rfl, zero_mono, ⟨_, _, rfl, ⟨none, 0, 0, rfl⟩, ⟨_, _, rfl, ⟨none, 0, 0, rfl⟩, rfl⟩⟩⟩⟩⟩ (Bk.new' (by simp) _ _) (by omega) (by omega) (by omega) (by omega) (by omega) (by omega)).mono ?_
 rintro e w1 ⟨rfl, vs, htys, hb1, hst, hf, htx⟩
 have HTYS := hid htys
 obtain ⟨_, _, rfl, t0, _, _, rfl, t1, _, _, rfl, t2, _, _, rfl, t3, _, _, rfl, t4, rfl⟩ := htys
 obtain ⟨z0_0n, z0_1_0n, z0_1_1A, z0_1_1k, z0_1_1c, z0_2_0n, z0_2_1A, z0_2_1k, z0_2_1c, z0_3n, rfl⟩ := ty_axiom t0
 obtain ⟨z1b, z1A, z1k, z1c, z1D, z1l, z1d, rfl⟩ := ty_rat t1
 obtain ⟨z2_0A, z2_0k, z2_0c, z2_1A, z2_1k, z2_1c, rfl⟩ := ty_mono t2
 obtain ⟨z3A, z3k, z3c, rfl⟩ := ty_list t3
 obtain ⟨z4A, z4k, z4c, rfl⟩ := ty_list t4
 simp only [gf] at hb1
 have e0 := hb1.cell 0
 have f0 := hb1.frozen 0
 have e1 := hb1.cell 1
 have f1 := hb1.frozen 1
 have e2 := hb1.cell 2
 have f2 := hb1.frozen 2
 have e3 := hb1.cell 3
 have f3 := hb1.frozen 3
 have e4 := hb1.cell 4
 have f4 := hb1.frozen 4
 have e5 := hb1.cell 5
 have f5 := hb1.frozen 5
 have e6 := hb1.cell 6
 have f6 := hb1.frozen 6
 have e7 := hb1.cell 7
 have f7 := hb1.frozen 7
 have e8 := hb1.cell 8
 have f8 := hb1.frozen 8
 have e9 := hb1.cell 9
 have f9 := hb1.frozen 9
 have e10 := hb1.cell 10
 have f10 := hb1.frozen 10
 have e11 := hb1.cell 11
 have f11 := hb1.frozen 11
 have e12 := hb1.cell 12
 have f12 := hb1.frozen 12
 simp only [gq] at e0 e1 e2 e3 e4 e5 e6 e7 e8 e9 e10 e11 e12
 have HB1 := hid hb1
 have HST := hid hst
 have HF := hid hf
 have HTX := hid htx
 clear hb1 hst hf htx
 go_wp2
 have hb2 := (((((((((((((HB1.out.set 0 (.int .i64 z0_0n)).set 1 (.int .i64 z0_1_0n)).set 2 (.slice z0_1_1A z0_1_1k z0_1_1c)).set 3 (.int .i64 z0_2_0n)).set 4 (.slice z0_2_1A z0_2_1k z0_2_1c)).set 5 (.int .i64 z0_3n)).set 6 (.bool z1b)).set 7 (.slice z1A z1k z1c)).set 8 (.slice z1D z1l z1d)).set 9 (.slice z2_0A z2_0k z2_0c)).set 10 (.slice z2_1A z2_1k z2_1c)).set 11 (.slice z3A z3k z3c)).set 12 (.slice z4A z4k z4c))
 simp only [List.setIfInBounds_toArray, List.set_cons_zero, List.set_cons_succ] at hb2
 have r0 := hb2.cell 0
 have r1 := hb2.cell 1
 have r2 := hb2.cell 2
 have r3 := hb2.cell 3
 have r4 := hb2.cell 4
 have r5 := hb2.cell 5
 have r6 := hb2.cell 6
 have r7 := hb2.cell 7
 have r8 := hb2.cell 8
 have r9 := hb2.cell 9
 have r10 := hb2.cell 10
 have r11 := hb2.cell 11
 have r12 := hb2.cell 12
 simp only [gq] at r0 r1 r2 r3 r4 r5 r6 r7 r8 r9 r10 r11 r12
 have HB2 := hid hb2
 clear hb2
 refine bodyPost_ret (v := .agg #[.int .i64 z0_0n, .int .i64 z0_1_0n, .slice z0_1_1A z0_1_1k z0_1_1c, .int .i64 z0_2_0n, .slice z0_2_1A z0_2_1k z0_2_1c, .int .i64 z0_3n, .bool z1b, .slice z1A z1k z1c, .slice z1D z1l z1d, .slice z2_0A z2_0k z2_0c, .slice z2_1A z2_1k z2_1c, .slice z3A z3k z3c, .slice z4A z4k z4c]) (by simp [results, Tryz.results181, go_sem, r0, r1, r2, r3, r4, r5, r6, r7, r8, r9, r10, r11, r12]) rfl ?_
 exact RPost.ofF ((((Fr.refl _ _).alloc _).alloc _).alloc _) HTYS.out HST.out HF.out HTX.out ((((((((((((((Fr.refl _ _).wr _ _).wr _ _).wr _ _).wr _ _).wr _ _).wr _ _).wr _ _).wr _ _).wr _ _).wr _ _).wr _ _).wr _ _).wr _ _) (by omega) (by simp) hbr (by simp only [gf])
set_option maxHeartbeats 4000000 in
set_option maxRecDepth 100000 in
theorem st_node (n : Nat) (L : Nat) (h0 : CloR 159 .int L 55 0) (h1 : CloR 161 .int L 55 1) (h2 : CloR 162 .bool L 55 2) (h3 : CloR 163 (.list (termS n)) L 55 3) (h4 : CloR 166 (.list (termS n)) L 55 4) (h5 : CloR 167 (.list (targetS n)) L 55 5) (h6 : CloR 170 (.list (useS n)) L 55 6) (h7 : CloR 173 (.list (termS n)) L 55 7) (h8 : CloR 174 (.list .int) L 55 8) (h9 : CloR 175 (.list .rat) L 55 9) (h10 : CloR 177 (.list (.list (axuS n))) L 55 10) : Reads 78 (.st (ands [.int, .int, .bool, (.list (termS n)), (.list (termS n)), (.list (targetS n)), (.list (useS n)), (.list (termS n)), (.list .int), (.list .rat), (.list (.list (axuS n)))])) L := by
 intro w br str o hr hl
 have hbr := hr.lt
 have hgn := hr.gl.2
 have HC : Hid (∀ i k s, ([159, 161, 162, 163, 166, 167, 170, 173, 174, 175, 177] : List FuncId)[i]? = some k → ([.int, .int, .bool, (.list (termS n)), (.list (termS n)), (.list (targetS n)), (.list (useS n)), (.list (termS n)), (.list .int), (.list .rat), (.list (.list (axuS n)))] : List Shape)[i]? = some s → CloR k s L 55 (offs [.int, .int, .bool, (.list (termS n)), (.list (termS n)), (.list (targetS n)), (.list (useS n)), (.list (termS n)), (.list .int), (.list .rat), (.list (.list (axuS n)))] i)) := by
  intro i k s hk hs
  rcases i with _ | _ | _ | _ | _ | _ | _ | _ | _ | _ | _ | i
  ·simp only [gq] at hk hs; injection hk with hk; injection hs with hs; subst hk; subst hs; rw [show offs [.int, .int, .bool, (.list (termS n)), (.list (termS n)), (.list (targetS n)), (.list (useS n)), (.list (termS n)), (.list .int), (.list .rat), (.list (.list (axuS n)))] 0 = 0 from by simp [offs, Shape.sz]]; exact h0
  ·simp only [gq] at hk hs; injection hk with hk; injection hs with hs; subst hk; subst hs; rw [show offs [.int, .int, .bool, (.list (termS n)), (.list (termS n)), (.list (targetS n)), (.list (useS n)), (.list (termS n)), (.list .int), (.list .rat), (.list (.list (axuS n)))] 1 = 1 from by simp [offs, Shape.sz]]; exact h1
  ·simp only [gq] at hk hs; injection hk with hk; injection hs with hs; subst hk; subst hs; rw [show offs [.int, .int, .bool, (.list (termS n)), (.list (termS n)), (.list (targetS n)), (.list (useS n)), (.list (termS n)), (.list .int), (.list .rat), (.list (.list (axuS n)))] 2 = 2 from by simp [offs, Shape.sz]]; exact h2
  ·simp only [gq] at hk hs; injection hk with hk; injection hs with hs; subst hk; subst hs; rw [show offs [.int, .int, .bool, (.list (termS n)), (.list (termS n)), (.list (targetS n)), (.list (useS n)), (.list (termS n)), (.list .int), (.list .rat), (.list (.list (axuS n)))] 3 = 3 from by simp [offs, Shape.sz]]; exact h3
  ·simp only [gq] at hk hs; injection hk with hk; injection hs with hs; subst hk; subst hs; rw [show offs [.int, .int, .bool, (.list (termS n)), (.list (termS n)), (.list (targetS n)), (.list (useS n)), (.list (termS n)), (.list .int), (.list .rat), (.list (.list (axuS n)))] 4 = 4 from by simp [offs, Shape.sz]]; exact h4
  ·simp only [gq] at hk hs; injection hk with hk; injection hs with hs; subst hk; subst hs; rw [show offs [.int, .int, .bool, (.list (termS n)), (.list (termS n)), (.list (targetS n)), (.list (useS n)), (.list (termS n)), (.list .int), (.list .rat), (.list (.list (axuS n)))] 5 = 5 from by simp [offs, Shape.sz]]; exact h5
  ·simp only [gq] at hk hs; injection hk with hk; injection hs with hs; subst hk; subst hs; rw [show offs [.int, .int, .bool, (.list (termS n)), (.list (termS n)), (.list (targetS n)), (.list (useS n)), (.list (termS n)), (.list .int), (.list .rat), (.list (.list (axuS n)))] 6 = 6 from by simp [offs, Shape.sz]]; exact h6
  ·simp only [gq] at hk hs; injection hk with hk; injection hs with hs; subst hk; subst hs; rw [show offs [.int, .int, .bool, (.list (termS n)), (.list (termS n)), (.list (targetS n)), (.list (useS n)), (.list (termS n)), (.list .int), (.list .rat), (.list (.list (axuS n)))] 7 = 7 from by simp [offs, Shape.sz]]; exact h7
  ·simp only [gq] at hk hs; injection hk with hk; injection hs with hs; subst hk; subst hs; rw [show offs [.int, .int, .bool, (.list (termS n)), (.list (termS n)), (.list (targetS n)), (.list (useS n)), (.list (termS n)), (.list .int), (.list .rat), (.list (.list (axuS n)))] 8 = 8 from by simp [offs, Shape.sz]]; exact h8
  ·simp only [gq] at hk hs; injection hk with hk; injection hs with hs; subst hk; subst hs; rw [show offs [.int, .int, .bool, (.list (termS n)), (.list (termS n)), (.list (targetS n)), (.list (useS n)), (.list (termS n)), (.list .int), (.list .rat), (.list (.list (axuS n)))] 9 = 9 from by simp [offs, Shape.sz]]; exact h9
  ·simp only [gq] at hk hs; injection hk with hk; injection hs with hs; subst hk; subst hs; rw [show offs [.int, .int, .bool, (.list (termS n)), (.list (termS n)), (.list (targetS n)), (.list (useS n)), (.list (termS n)), (.list .int), (.list .rat), (.list (.list (axuS n)))] 10 = 10 from by simp [offs, Shape.sz]]; exact h10
  ·simp at hk
 have HR := hid hr
 have HL := hid hl
 clear hr hl h0 h1 h2 h3 h4 h5 h6 h7 h8 h9 h10
 go_enter Tryz.func78, Tryz.ntmps78
 go_wp2_with fail
 refine (fields_any [.int, .int, .bool, (.list (termS n)), (.list (termS n)), (.list (targetS n)), (.list (useS n)), (.list (termS n)), (.list .int), (.list .rat), (.list (.list (axuS n)))] [159, 161, 162, 163, 166, 167, 170, 173, 174, 175, 177] 55 L rfl (by simp) (by simp) HC.out _ br w.heap.size (w.heap.size + 1) (w.heap.size + 1 + 1) str o [[.int .i64 0], [.int .i64 0], [.bool false], [.slice none 0 0], [.slice none 0 0], [.slice none 0 0], [.slice none 0 0], [.slice none 0 0], [.slice none 0 0], [.slice none 0 0], [.slice none 0 0]] (((HR.out.alloc _).alloc _).alloc _) HL.out (((Bk.new' rfl _ _).alloc _).alloc _) ((Bk.new' (by simp) _ _).alloc _) ⟨_, _, rfl, ⟨0, rfl, by omega, by omega⟩, ⟨_, _, rfl, ⟨0, rfl, by omega, by omega⟩, ⟨_, _, rfl, ⟨false, rfl⟩, ⟨_, _, rfl, ⟨none, 0, 0, rfl⟩, ⟨_, _, rfl, ⟨none, 0, 0, rfl⟩, ⟨_, _, rfl, ⟨none, 0, 0, rfl⟩, ⟨_, _, rfl, ⟨none, 0, 0, rfl⟩, ⟨_, _, rfl, ⟨none, 0, 0, rfl⟩, ⟨_, _, rfl, ⟨none, 0, 0, rfl⟩, ⟨_, _, rfl, ⟨none, 0, 0, rfl⟩, ⟨_, _, rfl, ⟨none, 0, 0, rfl⟩, rfl⟩⟩⟩⟩⟩⟩⟩⟩⟩⟩⟩ (Bk.new' (by simp) _ _) (by omega) (by omega) (by omega) (by omega) (by omega) (by omega)).mono ?_
 rintro e w1 ⟨rfl, vs, htys, hb1, hst, hf, htx⟩
 have HTYS := hid htys
 obtain ⟨_, _, rfl, t0, _, _, rfl, t1, _, _, rfl, t2, _, _, rfl, t3, _, _, rfl, t4, _, _, rfl, t5, _, _, rfl, t6, _, _, rfl, t7, _, _, rfl, t8, _, _, rfl, t9, _, _, rfl, t10, rfl⟩ := htys
 obtain ⟨z0n, rfl⟩ := ty_int t0
 obtain ⟨z1n, rfl⟩ := ty_int t1
 obtain ⟨z2b, rfl⟩ := ty_bool t2
 obtain ⟨z3A, z3k, z3c, rfl⟩ := ty_list t3
 obtain ⟨z4A, z4k, z4c, rfl⟩ := ty_list t4
 obtain ⟨z5A, z5k, z5c, rfl⟩ := ty_list t5
 obtain ⟨z6A, z6k, z6c, rfl⟩ := ty_list t6
 obtain ⟨z7A, z7k, z7c, rfl⟩ := ty_list t7
 obtain ⟨z8A, z8k, z8c, rfl⟩ := ty_list t8
 obtain ⟨z9A, z9k, z9c, rfl⟩ := ty_list t9
 obtain ⟨a0, a1, a2, rfl⟩ := ty_list t10
 simp only [gf] at hb1
 have e0 := hb1.cell 0
 have f0 := hb1.frozen 0
 have e1 := hb1.cell 1
 have f1 := hb1.frozen 1
 have e2 := hb1.cell 2
 have f2 := hb1.frozen 2
 have e3 := hb1.cell 3
 have f3 := hb1.frozen 3
 have e4 := hb1.cell 4
 have f4 := hb1.frozen 4
 have e5 := hb1.cell 5
 have f5 := hb1.frozen 5
 have e6 := hb1.cell 6
 have f6 := hb1.frozen 6
 have e7 := hb1.cell 7
 have f7 := hb1.frozen 7
 have e8 := hb1.cell 8
 have f8 := hb1.frozen 8
 have e9 := hb1.cell 9
 have f9 := hb1.frozen 9
 have e10 := hb1.cell 10
 have f10 := hb1.frozen 10
 simp only [gq] at e0 e1 e2 e3 e4 e5 e6 e7 e8 e9 e10
 have HB1 := hid hb1
 have HST := hid hst
 have HF := hid hf
 have HTX := hid htx
 clear hb1 hst hf htx
 go_wp2
 have hb2 := (((((((((((HB1.out.set 0 (.int .i64 z0n)).set 1 (.int .i64 z1n)).set 2 (.bool z2b)).set 3 (.slice z3A z3k z3c)).set 4 (.slice z4A z4k z4c)).set 5 (.slice z5A z5k z5c)).set 6 (.slice z6A z6k z6c)).set 7 (.slice z7A z7k z7c)).set 8 (.slice z8A z8k z8c)).set 9 (.slice z9A z9k z9c)).set 10 (.slice a0 a1 a2))
 simp only [List.setIfInBounds_toArray, List.set_cons_zero, List.set_cons_succ] at hb2
 have r0 := hb2.cell 0
 have r1 := hb2.cell 1
 have r2 := hb2.cell 2
 have r3 := hb2.cell 3
 have r4 := hb2.cell 4
 have r5 := hb2.cell 5
 have r6 := hb2.cell 6
 have r7 := hb2.cell 7
 have r8 := hb2.cell 8
 have r9 := hb2.cell 9
 have r10 := hb2.cell 10
 simp only [gq] at r0 r1 r2 r3 r4 r5 r6 r7 r8 r9 r10
 have HB2 := hid hb2
 clear hb2
 refine bodyPost_ret (v := .agg #[.int .i64 z0n, .int .i64 z1n, .bool z2b, .slice z3A z3k z3c, .slice z4A z4k z4c, .slice z5A z5k z5c, .slice z6A z6k z6c, .slice z7A z7k z7c, .slice z8A z8k z8c, .slice z9A z9k z9c, .slice a0 a1 a2]) (by simp [results, Tryz.results78, go_sem, r0, r1, r2, r3, r4, r5, r6, r7, r8, r9, r10]) rfl ?_
 exact RPost.ofF ((((Fr.refl _ _).alloc _).alloc _).alloc _) HTYS.out HST.out HF.out HTX.out ((((((((((((Fr.refl _ _).wr _ _).wr _ _).wr _ _).wr _ _).wr _ _).wr _ _).wr _ _).wr _ _).wr _ _).wr _ _).wr _ _) (by omega) (by simp) hbr (by simp only [gf])
set_option maxHeartbeats 4000000 in
set_option maxRecDepth 100000 in
theorem st_claim (L : Nat) (h0 : CloR 182 .int L 99 0) (h1 : CloR 183 .int L 99 1) : Reads 81 (.st (ands [.int, .int])) L := by
 intro w br str o hr hl
 have hbr := hr.lt
 have hgn := hr.gl.2
 have HC : Hid (∀ i k s, ([182, 183] : List FuncId)[i]? = some k → ([.int, .int] : List Shape)[i]? = some s → CloR k s L 99 (offs [.int, .int] i)) := by
  intro i k s hk hs
  rcases i with _ | _ | i
  ·simp only [gq] at hk hs; injection hk with hk; injection hs with hs; subst hk; subst hs; rw [show offs [.int, .int] 0 = 0 from by simp [offs, Shape.sz]]; exact h0
  ·simp only [gq] at hk hs; injection hk with hk; injection hs with hs; subst hk; subst hs; rw [show offs [.int, .int] 1 = 1 from by simp [offs, Shape.sz]]; exact h1
  ·simp at hk
 have HR := hid hr
 have HL := hid hl
 clear hr hl h0 h1
 go_enter Tryz.func81, Tryz.ntmps81
 go_wp2_with fail
 refine (fields_any [.int, .int] [182, 183] 99 L rfl (by simp) (by simp) HC.out _ br w.heap.size (w.heap.size + 1) (w.heap.size + 1 + 1) str o [[.int .i64 0], [.int .i64 0]] (((HR.out.alloc _).alloc _).alloc _) HL.out (((Bk.new' rfl _ _).alloc _).alloc _) ((Bk.new' (by simp) _ _).alloc _) ⟨_, _, rfl, ⟨0, rfl, by omega, by omega⟩, ⟨_, _, rfl, ⟨0, rfl, by omega, by omega⟩, rfl⟩⟩ (Bk.new' (by simp) _ _) (by omega) (by omega) (by omega) (by omega) (by omega) (by omega)).mono ?_
 rintro e w1 ⟨rfl, vs, htys, hb1, hst, hf, htx⟩
 have HTYS := hid htys
 obtain ⟨_, _, rfl, t0, _, _, rfl, t1, rfl⟩ := htys
 obtain ⟨z0n, rfl⟩ := ty_int t0
 obtain ⟨z1n, rfl⟩ := ty_int t1
 simp only [gf] at hb1
 have e0 := hb1.cell 0
 have f0 := hb1.frozen 0
 have e1 := hb1.cell 1
 have f1 := hb1.frozen 1
 simp only [gq] at e0 e1
 have HB1 := hid hb1
 have HST := hid hst
 have HF := hid hf
 have HTX := hid htx
 clear hb1 hst hf htx
 go_wp2
 have hb2 := ((HB1.out.set 0 (.int .i64 z0n)).set 1 (.int .i64 z1n))
 simp only [List.setIfInBounds_toArray, List.set_cons_zero, List.set_cons_succ] at hb2
 have r0 := hb2.cell 0
 have r1 := hb2.cell 1
 simp only [gq] at r0 r1
 have HB2 := hid hb2
 clear hb2
 refine bodyPost_ret (v := .agg #[.int .i64 z0n, .int .i64 z1n]) (by simp [results, Tryz.results81, go_sem, r0, r1]) rfl ?_
 exact RPost.ofF ((((Fr.refl _ _).alloc _).alloc _).alloc _) HTYS.out HST.out HF.out HTX.out (((Fr.refl _ _).wr _ _).wr _ _) (by omega) (by simp) hbr (by simp only [gf])
set_option maxHeartbeats 4000000 in
set_option maxRecDepth 100000 in
theorem st_cert (n : Nat) (L : Nat) (h0 : CloR 67 .bool L 33 0) (h1 : CloR 69 metricS L 33 1) (h2 : CloR 71 (.list relationS) L 33 3) (h3 : CloR 74 (flowS n) L 33 4) (h4 : CloR 76 (.list (nodeS n)) L 33 7) (h5 : CloR 79 (.list claimS) L 33 8) : Reads 31 (.st (ands [.bool, metricS, (.list relationS), (flowS n), (.list (nodeS n)), (.list claimS)])) L := by
 intro w br str o hr hl
 have hbr := hr.lt
 have hgn := hr.gl.2
 have HC : Hid (∀ i k s, ([67, 69, 71, 74, 76, 79] : List FuncId)[i]? = some k → ([.bool, metricS, (.list relationS), (flowS n), (.list (nodeS n)), (.list claimS)] : List Shape)[i]? = some s → CloR k s L 33 (offs [.bool, metricS, (.list relationS), (flowS n), (.list (nodeS n)), (.list claimS)] i)) := by
  intro i k s hk hs
  rcases i with _ | _ | _ | _ | _ | _ | i
  ·simp only [gq] at hk hs; injection hk with hk; injection hs with hs; subst hk; subst hs; rw [show offs [.bool, metricS, (.list relationS), (flowS n), (.list (nodeS n)), (.list claimS)] 0 = 0 from by simp [offs, Shape.sz]]; exact h0
  ·simp only [gq] at hk hs; injection hk with hk; injection hs with hs; subst hk; subst hs; rw [show offs [.bool, metricS, (.list relationS), (flowS n), (.list (nodeS n)), (.list claimS)] 1 = 1 from by simp [offs, Shape.sz]]; exact h1
  ·simp only [gq] at hk hs; injection hk with hk; injection hs with hs; subst hk; subst hs; rw [show offs [.bool, metricS, (.list relationS), (flowS n), (.list (nodeS n)), (.list claimS)] 2 = 3 from by simp [offs, Shape.sz, sz_metric]]; exact h2
  ·simp only [gq] at hk hs; injection hk with hk; injection hs with hs; subst hk; subst hs; rw [show offs [.bool, metricS, (.list relationS), (flowS n), (.list (nodeS n)), (.list claimS)] 3 = 4 from by simp [offs, Shape.sz, sz_metric]]; exact h3
  ·simp only [gq] at hk hs; injection hk with hk; injection hs with hs; subst hk; subst hs; rw [show offs [.bool, metricS, (.list relationS), (flowS n), (.list (nodeS n)), (.list claimS)] 4 = 7 from by simp [offs, Shape.sz, sz_metric, sz_flow]]; exact h4
  ·simp only [gq] at hk hs; injection hk with hk; injection hs with hs; subst hk; subst hs; rw [show offs [.bool, metricS, (.list relationS), (flowS n), (.list (nodeS n)), (.list claimS)] 5 = 8 from by simp [offs, Shape.sz, sz_metric, sz_flow]]; exact h5
  ·simp at hk
 have HR := hid hr
 have HL := hid hl
 clear hr hl h0 h1 h2 h3 h4 h5
 go_enter Tryz.func31, Tryz.ntmps31
 go_wp2_with fail
 refine (fields_any [.bool, metricS, (.list relationS), (flowS n), (.list (nodeS n)), (.list claimS)] [67, 69, 71, 74, 76, 79] 33 L rfl (by simp) (by simp) HC.out _ br w.heap.size (w.heap.size + 1) (w.heap.size + 1 + 1) str o [[.bool false], [.slice none 0 0, .slice none 0 0], [.slice none 0 0], [.slice none 0 0, .slice none 0 0, .slice none 0 0], [.slice none 0 0], [.slice none 0 0]] (((HR.out.alloc _).alloc _).alloc _) HL.out (((Bk.new' rfl _ _).alloc _).alloc _) ((Bk.new' (by simp) _ _).alloc _) ⟨_, _, rfl, ⟨false, rfl⟩, ⟨_, _, rfl, zero_metric, ⟨_, _, rfl, ⟨none, 0, 0, rfl⟩, ⟨_, _, rfl, zero_flow, ⟨_, _, rfl, ⟨none, 0, 0, rfl⟩, ⟨_, _, rfl, ⟨none, 0, 0, rfl⟩, rfl⟩⟩⟩⟩⟩⟩ (Bk.new' (by simp) _ _) (by omega) (by omega) (by omega) (by omega) (by omega) (by omega)).mono ?_
 rintro e w1 ⟨rfl, vs, htys, hb1, hst, hf, htx⟩
 have HTYS := hid htys
 obtain ⟨_, _, rfl, t0, _, _, rfl, t1, _, _, rfl, t2, _, _, rfl, t3, _, _, rfl, t4, _, _, rfl, t5, rfl⟩ := htys
 obtain ⟨z0b, rfl⟩ := ty_bool t0
 obtain ⟨z1_0A, z1_0k, z1_0c, z1_1A, z1_1k, z1_1c, rfl⟩ := ty_metric t1
 obtain ⟨z2A, z2k, z2c, rfl⟩ := ty_list t2
 obtain ⟨z3_0A, z3_0k, z3_0c, z3_1A, z3_1k, z3_1c, z3_2A, z3_2k, z3_2c, rfl⟩ := ty_flow t3
 obtain ⟨z4A, z4k, z4c, rfl⟩ := ty_list t4
 obtain ⟨z5A, z5k, z5c, rfl⟩ := ty_list t5
 simp only [gf] at hb1
 have e0 := hb1.cell 0
 have f0 := hb1.frozen 0
 have e1 := hb1.cell 1
 have f1 := hb1.frozen 1
 have e2 := hb1.cell 2
 have f2 := hb1.frozen 2
 have e3 := hb1.cell 3
 have f3 := hb1.frozen 3
 have e4 := hb1.cell 4
 have f4 := hb1.frozen 4
 have e5 := hb1.cell 5
 have f5 := hb1.frozen 5
 have e6 := hb1.cell 6
 have f6 := hb1.frozen 6
 have e7 := hb1.cell 7
 have f7 := hb1.frozen 7
 have e8 := hb1.cell 8
 have f8 := hb1.frozen 8
 simp only [gq] at e0 e1 e2 e3 e4 e5 e6 e7 e8
 have HB1 := hid hb1
 have HST := hid hst
 have HF := hid hf
 have HTX := hid htx
 clear hb1 hst hf htx
 go_wp2
 have hb2 := (((((((((HB1.out.set 0 (.bool z0b)).set 1 (.slice z1_0A z1_0k z1_0c)).set 2 (.slice z1_1A z1_1k z1_1c)).set 3 (.slice z2A z2k z2c)).set 4 (.slice z3_0A z3_0k z3_0c)).set 5 (.slice z3_1A z3_1k z3_1c)).set 6 (.slice z3_2A z3_2k z3_2c)).set 7 (.slice z4A z4k z4c)).set 8 (.slice z5A z5k z5c))
 simp only [List.setIfInBounds_toArray, List.set_cons_zero, List.set_cons_succ] at hb2
 have r0 := hb2.cell 0
 have r1 := hb2.cell 1
 have r2 := hb2.cell 2
 have r3 := hb2.cell 3
 have r4 := hb2.cell 4
 have r5 := hb2.cell 5
 have r6 := hb2.cell 6
 have r7 := hb2.cell 7
 have r8 := hb2.cell 8
 simp only [gq] at r0 r1 r2 r3 r4 r5 r6 r7 r8
 have HB2 := hid hb2
 clear hb2
 refine bodyPost_ret (v := .agg #[.bool z0b, .slice z1_0A z1_0k z1_0c, .slice z1_1A z1_1k z1_1c, .slice z2A z2k z2c, .slice z3_0A z3_0k z3_0c, .slice z3_1A z3_1k z3_1c, .slice z3_2A z3_2k z3_2c, .slice z4A z4k z4c, .slice z5A z5k z5c]) (by simp [results, Tryz.results31, go_sem, r0, r1, r2, r3, r4, r5, r6, r7, r8]) rfl ?_
 exact RPost.ofF ((((Fr.refl _ _).alloc _).alloc _).alloc _) HTYS.out HST.out HF.out HTX.out ((((((((((Fr.refl _ _).wr _ _).wr _ _).wr _ _).wr _ _).wr _ _).wr _ _).wr _ _).wr _ _).wr _ _) (by omega) (by simp) hbr (by simp only [gf])
end Go.Proofs.YtpbdkkoanedimaaGreatDoor
