/-
 The reader: structs (printed by gen_codec.py).
-/
import Derived.Test.YtpbdkkoanedimaaGreatDoorHCRa
namespace Go.Proofs.YtpbdkkoanedimaaGreatDoor
open Go.Lib (hid)
open Go.RowKit AC
set_option linter.unusedVariables false
set_option linter.unusedSimpArgs false
set_option maxHeartbeats 4000000 in
set_option maxRecDepth 100000 in
theorem st_linTerm (L : Nat) (h0 : CloR 290 .int L 195 0) (h1 : CloR 291 .int L 195 1) : Reads 230 (.st (ands [.int, .int])) L := by
 intro w br str o hr hl
 have hbr := hr.lt
 have hgn := hr.gl.2
 have HC : Hid (∀ i k s, ([290, 291] : List FuncId)[i]? = some k → ([.int, .int] : List Shape)[i]? = some s → CloR k s L 195 (offs [.int, .int] i)) := by
  intro i k s hk hs
  rcases i with _ | _ | i
  ·simp only [gq] at hk hs; injection hk with hk; injection hs with hs; subst hk; subst hs; rw [show offs [.int, .int] 0 = 0 from by simp [offs, Shape.sz]]; exact h0
  ·simp only [gq] at hk hs; injection hk with hk; injection hs with hs; subst hk; subst hs; rw [show offs [.int, .int] 1 = 1 from by simp [offs, Shape.sz]]; exact h1
  ·simp at hk
 have HR := hid hr
 have HL := hid hl
 clear hr hl h0 h1
 go_enter Tryz.func230, Tryz.ntmps230
 go_wp2_with fail
 refine (fields_any [.int, .int] [290, 291] 195 L rfl (by simp) (by simp) HC.out _ br w.heap.size (w.heap.size + 1) (w.heap.size + 1 + 1) str o [[.int .i64 0], [.int .i64 0]] (((HR.out.alloc _).alloc _).alloc _) HL.out (((Bk.new' rfl _ _).alloc _).alloc _) ((Bk.new' (by simp) _ _).alloc _) ⟨_, _, rfl, ⟨0, rfl, by omega, by omega⟩, ⟨_, _, rfl, ⟨0, rfl, by omega, by omega⟩, rfl⟩⟩ (Bk.new' (by simp) _ _) (by omega) (by omega) (by omega) (by omega) (by omega) (by omega)).mono ?_
 rintro e w1 ⟨rfl, vs, htys, hb1, hst, hf, htx⟩
 have HTYS := hid htys
 obtain ⟨_, _, rfl, t0, _, _, rfl, t1, rfl⟩ := htys
 obtain ⟨z0n, rfl⟩ := ty_int t0
 obtain ⟨z1n, rfl⟩ := ty_int t1
 simp only [gf] at hb1
 have e0 := hb1.cell 0
 have f0 := hb1.frozen 0
 have e1 := hb1.cell 1
 have f1 := hb1.frozen 1
 simp only [gq] at e0 e1
 have HB1 := hid hb1
 have HST := hid hst
 have HF := hid hf
 have HTX := hid htx
 clear hb1 hst hf htx
 go_wp2
 have hb2 := ((HB1.out.set 0 (.int .i64 z0n)).set 1 (.int .i64 z1n))
 simp only [List.setIfInBounds_toArray, List.set_cons_zero, List.set_cons_succ] at hb2
 have r0 := hb2.cell 0
 have r1 := hb2.cell 1
 simp only [gq] at r0 r1
 have HB2 := hid hb2
 clear hb2
 refine bodyPost_ret (v := .agg #[.int .i64 z0n, .int .i64 z1n]) (by simp [results, Tryz.results230, go_sem, r0, r1]) rfl ?_
 exact RPost.ofF ((((Fr.refl _ _).alloc _).alloc _).alloc _) HTYS.out HST.out HF.out HTX.out (((Fr.refl _ _).wr _ _).wr _ _) (by omega) (by simp) hbr (by simp only [gf])
set_option maxHeartbeats 4000000 in
set_option maxRecDepth 100000 in
theorem st_lin (L : Nat) (h0 : CloR 227 .int L 130 0) (h1 : CloR 228 (.list linTermS) L 130 1) : Reads 150 (.st (ands [.int, (.list linTermS)])) L := by
 intro w br str o hr hl
 have hbr := hr.lt
 have hgn := hr.gl.2
 have HC : Hid (∀ i k s, ([227, 228] : List FuncId)[i]? = some k → ([.int, (.list linTermS)] : List Shape)[i]? = some s → CloR k s L 130 (offs [.int, (.list linTermS)] i)) := by
  intro i k s hk hs
  rcases i with _ | _ | i
  ·simp only [gq] at hk hs; injection hk with hk; injection hs with hs; subst hk; subst hs; rw [show offs [.int, (.list linTermS)] 0 = 0 from by simp [offs, Shape.sz]]; exact h0
  ·simp only [gq] at hk hs; injection hk with hk; injection hs with hs; subst hk; subst hs; rw [show offs [.int, (.list linTermS)] 1 = 1 from by simp [offs, Shape.sz]]; exact h1
  ·simp at hk
 have HR := hid hr
 have HL := hid hl
 clear hr hl h0 h1
 go_enter Tryz.func150, Tryz.ntmps150
 go_wp2_with fail
 refine (fields_any [.int, (.list linTermS)] [227, 228] 130 L rfl (by simp) (by simp) HC.out _ br w.heap.size (w.heap.size + 1) (w.heap.size + 1 + 1) str o [[.int .i64 0], [.slice none 0 0]] (((HR.out.alloc _).alloc _).alloc _) HL.out (((Bk.new' rfl _ _).alloc _).alloc _) ((Bk.new' (by simp) _ _).alloc _) ⟨_, _, rfl, ⟨0, rfl, by omega, by omega⟩, ⟨_, _, rfl, ⟨none, 0, 0, rfl⟩, rfl⟩⟩ (Bk.new' (by simp) _ _) (by omega) (by omega) (by omega) (by omega) (by omega) (by omega)).mono ?_
 rintro e w1 ⟨rfl, vs, htys, hb1, hst, hf, htx⟩
 have HTYS := hid htys
 obtain ⟨_, _, rfl, t0, _, _, rfl, t1, rfl⟩ := htys
 obtain ⟨z0n, rfl⟩ := ty_int t0
 obtain ⟨z1A, z1k, z1c, rfl⟩ := ty_list t1
 simp only [gf] at hb1
 have e0 := hb1.cell 0
 have f0 := hb1.frozen 0
 have e1 := hb1.cell 1
 have f1 := hb1.frozen 1
 simp only [gq] at e0 e1
 have HB1 := hid hb1
 have HST := hid hst
 have HF := hid hf
 have HTX := hid htx
 clear hb1 hst hf htx
 go_wp2
 have hb2 := ((HB1.out.set 0 (.int .i64 z0n)).set 1 (.slice z1A z1k z1c))
 simp only [List.setIfInBounds_toArray, List.set_cons_zero, List.set_cons_succ] at hb2
 have r0 := hb2.cell 0
 have r1 := hb2.cell 1
 simp only [gq] at r0 r1
 have HB2 := hid hb2
 clear hb2
 refine bodyPost_ret (v := .agg #[.int .i64 z0n, .slice z1A z1k z1c]) (by simp [results, Tryz.results150, go_sem, r0, r1]) rfl ?_
 exact RPost.ofF ((((Fr.refl _ _).alloc _).alloc _).alloc _) HTYS.out HST.out HF.out HTX.out (((Fr.refl _ _).wr _ _).wr _ _) (by omega) (by simp) hbr (by simp only [gf])
set_option maxHeartbeats 4000000 in
set_option maxRecDepth 100000 in
theorem st_relation (L : Nat) (h0 : CloR 148 (.list linS) L 87 0) (h1 : CloR 151 (.list linS) L 87 1) : Reads 73 (.st (ands [(.list linS), (.list linS)])) L := by
 intro w br str o hr hl
 have hbr := hr.lt
 have hgn := hr.gl.2
 have HC : Hid (∀ i k s, ([148, 151] : List FuncId)[i]? = some k → ([(.list linS), (.list linS)] : List Shape)[i]? = some s → CloR k s L 87 (offs [(.list linS), (.list linS)] i)) := by
  intro i k s hk hs
  rcases i with _ | _ | i
  ·simp only [gq] at hk hs; injection hk with hk; injection hs with hs; subst hk; subst hs; rw [show offs [(.list linS), (.list linS)] 0 = 0 from by simp [offs, Shape.sz]]; exact h0
  ·simp only [gq] at hk hs; injection hk with hk; injection hs with hs; subst hk; subst hs; rw [show offs [(.list linS), (.list linS)] 1 = 1 from by simp [offs, Shape.sz]]; exact h1
  ·simp at hk
 have HR := hid hr
 have HL := hid hl
 clear hr hl h0 h1
 go_enter Tryz.func73, Tryz.ntmps73
 go_wp2_with fail
 refine (fields_any [(.list linS), (.list linS)] [148, 151] 87 L rfl (by simp) (by simp) HC.out _ br w.heap.size (w.heap.size + 1) (w.heap.size + 1 + 1) str o [[.slice none 0 0], [.slice none 0 0]] (((HR.out.alloc _).alloc _).alloc _) HL.out (((Bk.new' rfl _ _).alloc _).alloc _) ((Bk.new' (by simp) _ _).alloc _) ⟨_, _, rfl, ⟨none, 0, 0, rfl⟩, ⟨_, _, rfl, ⟨none, 0, 0, rfl⟩, rfl⟩⟩ (Bk.new' (by simp) _ _) (by omega) (by omega) (by omega) (by omega) (by omega) (by omega)).mono ?_
 rintro e w1 ⟨rfl, vs, htys, hb1, hst, hf, htx⟩
 have HTYS := hid htys
 obtain ⟨_, _, rfl, t0, _, _, rfl, t1, rfl⟩ := htys
 obtain ⟨z0A, z0k, z0c, rfl⟩ := ty_list t0
 obtain ⟨z1A, z1k, z1c, rfl⟩ := ty_list t1
 simp only [gf] at hb1
 have e0 := hb1.cell 0
 have f0 := hb1.frozen 0
 have e1 := hb1.cell 1
 have f1 := hb1.frozen 1
 simp only [gq] at e0 e1
 have HB1 := hid hb1
 have HST := hid hst
 have HF := hid hf
 have HTX := hid htx
 clear hb1 hst hf htx
 go_wp2
 have hb2 := ((HB1.out.set 0 (.slice z0A z0k z0c)).set 1 (.slice z1A z1k z1c))
 simp only [List.setIfInBounds_toArray, List.set_cons_zero, List.set_cons_succ] at hb2
 have r0 := hb2.cell 0
 have r1 := hb2.cell 1
 simp only [gq] at r0 r1
 have HB2 := hid hb2
 clear hb2
 refine bodyPost_ret (v := .agg #[.slice z0A z0k z0c, .slice z1A z1k z1c]) (by simp [results, Tryz.results73, go_sem, r0, r1]) rfl ?_
 exact RPost.ofF ((((Fr.refl _ _).alloc _).alloc _).alloc _) HTYS.out HST.out HF.out HTX.out (((Fr.refl _ _).wr _ _).wr _ _) (by omega) (by simp) hbr (by simp only [gf])
set_option maxHeartbeats 4000000 in
set_option maxRecDepth 100000 in
theorem st_metric (L : Nat) (h0 : CloR 144 (.list .int) L 24 0) (h1 : CloR 146 (.list .int) L 24 1) : Reads 70 (.st (ands [(.list .int), (.list .int)])) L := by
 intro w br str o hr hl
 have hbr := hr.lt
 have hgn := hr.gl.2
 have HC : Hid (∀ i k s, ([144, 146] : List FuncId)[i]? = some k → ([(.list .int), (.list .int)] : List Shape)[i]? = some s → CloR k s L 24 (offs [(.list .int), (.list .int)] i)) := by
  intro i k s hk hs
  rcases i with _ | _ | i
  ·simp only [gq] at hk hs; injection hk with hk; injection hs with hs; subst hk; subst hs; rw [show offs [(.list .int), (.list .int)] 0 = 0 from by simp [offs, Shape.sz]]; exact h0
  ·simp only [gq] at hk hs; injection hk with hk; injection hs with hs; subst hk; subst hs; rw [show offs [(.list .int), (.list .int)] 1 = 1 from by simp [offs, Shape.sz]]; exact h1
  ·simp at hk
 have HR := hid hr
 have HL := hid hl
 clear hr hl h0 h1
 go_enter Tryz.func70, Tryz.ntmps70
 go_wp2_with fail
 refine (fields_any [(.list .int), (.list .int)] [144, 146] 24 L rfl (by simp) (by simp) HC.out _ br w.heap.size (w.heap.size + 1) (w.heap.size + 1 + 1) str o [[.slice none 0 0], [.slice none 0 0]] (((HR.out.alloc _).alloc _).alloc _) HL.out (((Bk.new' rfl _ _).alloc _).alloc _) ((Bk.new' (by simp) _ _).alloc _) ⟨_, _, rfl, ⟨none, 0, 0, rfl⟩, ⟨_, _, rfl, ⟨none, 0, 0, rfl⟩, rfl⟩⟩ (Bk.new' (by simp) _ _) (by omega) (by omega) (by omega) (by omega) (by omega) (by omega)).mono ?_
 rintro e w1 ⟨rfl, vs, htys, hb1, hst, hf, htx⟩
 have HTYS := hid htys
 obtain ⟨_, _, rfl, t0, _, _, rfl, t1, rfl⟩ := htys
 obtain ⟨z0A, z0k, z0c, rfl⟩ := ty_list t0
 obtain ⟨z1A, z1k, z1c, rfl⟩ := ty_list t1
 simp only [gf] at hb1
 have e0 := hb1.cell 0
 have f0 := hb1.frozen 0
 have e1 := hb1.cell 1
 have f1 := hb1.frozen 1
 simp only [gq] at e0 e1
 have HB1 := hid hb1
 have HST := hid hst
 have HF := hid hf
 have HTX := hid htx
 clear hb1 hst hf htx
 go_wp2
 have hb2 := ((HB1.out.set 0 (.slice z0A z0k z0c)).set 1 (.slice z1A z1k z1c))
 simp only [List.setIfInBounds_toArray, List.set_cons_zero, List.set_cons_succ] at hb2
 have r0 := hb2.cell 0
 have r1 := hb2.cell 1
 simp only [gq] at r0 r1
 have HB2 := hid hb2
 clear hb2
 refine bodyPost_ret (v := .agg #[.slice z0A z0k z0c, .slice z1A z1k z1c]) (by simp [results, Tryz.results70, go_sem, r0, r1]) rfl ?_
 exact RPost.ofF ((((Fr.refl _ _).alloc _).alloc _).alloc _) HTYS.out HST.out HF.out HTX.out (((Fr.refl _ _).wr _ _).wr _ _) (by omega) (by simp) hbr (by simp only [gf])
set_option maxHeartbeats 4000000 in
set_option maxRecDepth 100000 in
theorem st_typ (n : Nat) (L : Nat) (h0 : CloR 292 .int L 92 0) (h1 : CloR 293 .int L 92 1) (h2 : CloR 294 (.list (typS n)) L 92 2) : Reads 233 (.st (ands [.int, .int, (.list (typS n))])) L := by
 intro w br str o hr hl
 have hbr := hr.lt
 have hgn := hr.gl.2
 have HC : Hid (∀ i k s, ([292, 293, 294] : List FuncId)[i]? = some k → ([.int, .int, (.list (typS n))] : List Shape)[i]? = some s → CloR k s L 92 (offs [.int, .int, (.list (typS n))] i)) := by
  intro i k s hk hs
  rcases i with _ | _ | _ | i
  ·simp only [gq] at hk hs; injection hk with hk; injection hs with hs; subst hk; subst hs; rw [show offs [.int, .int, (.list (typS n))] 0 = 0 from by simp [offs, Shape.sz]]; exact h0
  ·simp only [gq] at hk hs; injection hk with hk; injection hs with hs; subst hk; subst hs; rw [show offs [.int, .int, (.list (typS n))] 1 = 1 from by simp [offs, Shape.sz]]; exact h1
  ·simp only [gq] at hk hs; injection hk with hk; injection hs with hs; subst hk; subst hs; rw [show offs [.int, .int, (.list (typS n))] 2 = 2 from by simp [offs, Shape.sz]]; exact h2
  ·simp at hk
 have HR := hid hr
 have HL := hid hl
 clear hr hl h0 h1 h2
 go_enter Tryz.func233, Tryz.ntmps233
 go_wp2_with fail
 refine (fields_any [.int, .int, (.list (typS n))] [292, 293, 294] 92 L rfl (by simp) (by simp) HC.out _ br w.heap.size (w.heap.size + 1) (w.heap.size + 1 + 1) str o [[.int .i64 0], [.int .i64 0], [.slice none 0 0]] (((HR.out.alloc _).alloc _).alloc _) HL.out (((Bk.new' rfl _ _).alloc _).alloc _) ((Bk.new' (by simp) _ _).alloc _) ⟨_, _, rfl, ⟨0, rfl, by omega, by omega⟩, ⟨_, _, rfl, ⟨0, rfl, by omega, by omega⟩, ⟨_, _, rfl, ⟨none, 0, 0, rfl⟩, rfl⟩⟩⟩ (Bk.new' (by simp) _ _) (by omega) (by omega) (by omega) (by omega) (by omega) (by omega)).mono ?_
 rintro e w1 ⟨rfl, vs, htys, hb1, hst, hf, htx⟩
 have HTYS := hid htys
 obtain ⟨_, _, rfl, t0, _, _, rfl, t1, _, _, rfl, t2, rfl⟩ := htys
 obtain ⟨z0n, rfl⟩ := ty_int t0
 obtain ⟨z1n, rfl⟩ := ty_int t1
 obtain ⟨z2A, z2k, z2c, rfl⟩ := ty_list t2
 simp only [gf] at hb1
 have e0 := hb1.cell 0
 have f0 := hb1.frozen 0
 have e1 := hb1.cell 1
 have f1 := hb1.frozen 1
 have e2 := hb1.cell 2
 have f2 := hb1.frozen 2
 simp only [gq] at e0 e1 e2
 have HB1 := hid hb1
 have HST := hid hst
 have HF := hid hf
 have HTX := hid htx
 clear hb1 hst hf htx
 go_wp2
 have hb2 := (((HB1.out.set 0 (.int .i64 z0n)).set 1 (.int .i64 z1n)).set 2 (.slice z2A z2k z2c))
 simp only [List.setIfInBounds_toArray, List.set_cons_zero, List.set_cons_succ] at hb2
 have r0 := hb2.cell 0
 have r1 := hb2.cell 1
 have r2 := hb2.cell 2
 simp only [gq] at r0 r1 r2
 have HB2 := hid hb2
 clear hb2
 refine bodyPost_ret (v := .agg #[.int .i64 z0n, .int .i64 z1n, .slice z2A z2k z2c]) (by simp [results, Tryz.results233, go_sem, r0, r1, r2]) rfl ?_
 exact RPost.ofF ((((Fr.refl _ _).alloc _).alloc _).alloc _) HTYS.out HST.out HF.out HTX.out ((((Fr.refl _ _).wr _ _).wr _ _).wr _ _) (by omega) (by simp) hbr (by simp only [gf])
set_option maxHeartbeats 4000000 in
set_option maxRecDepth 100000 in
theorem st_store (n : Nat) (L : Nat) (h0 : CloR 232 (typS n) L 94 0) (h1 : CloR 234 (.list .int) L 94 3) : Reads 158 (.st (ands [(typS n), (.list .int)])) L := by
 intro w br str o hr hl
 have hbr := hr.lt
 have hgn := hr.gl.2
 have HC : Hid (∀ i k s, ([232, 234] : List FuncId)[i]? = some k → ([(typS n), (.list .int)] : List Shape)[i]? = some s → CloR k s L 94 (offs [(typS n), (.list .int)] i)) := by
  intro i k s hk hs
  rcases i with _ | _ | i
  ·simp only [gq] at hk hs; injection hk with hk; injection hs with hs; subst hk; subst hs; rw [show offs [(typS n), (.list .int)] 0 = 0 from by simp [offs, Shape.sz]]; exact h0
  ·simp only [gq] at hk hs; injection hk with hk; injection hs with hs; subst hk; subst hs; rw [show offs [(typS n), (.list .int)] 1 = 3 from by simp [offs, Shape.sz, sz_typ]]; exact h1
  ·simp at hk
 have HR := hid hr
 have HL := hid hl
 clear hr hl h0 h1
 go_enter Tryz.func158, Tryz.ntmps158
 go_wp2_with fail
 refine (fields_any [(typS n), (.list .int)] [232, 234] 94 L rfl (by simp) (by simp) HC.out _ br w.heap.size (w.heap.size + 1) (w.heap.size + 1 + 1) str o [[.int .i64 0, .int .i64 0, .slice none 0 0], [.slice none 0 0]] (((HR.out.alloc _).alloc _).alloc _) HL.out (((Bk.new' rfl _ _).alloc _).alloc _) ((Bk.new' (by simp) _ _).alloc _) ⟨_, _, rfl, zero_typ, ⟨_, _, rfl, ⟨none, 0, 0, rfl⟩, rfl⟩⟩ (Bk.new' (by simp) _ _) (by omega) (by omega) (by omega) (by omega) (by omega) (by omega)).mono ?_
 rintro e w1 ⟨rfl, vs, htys, hb1, hst, hf, htx⟩
 have HTYS := hid htys
 obtain ⟨_, _, rfl, t0, _, _, rfl, t1, rfl⟩ := htys
 obtain ⟨z0_0n, z0_1n, z0_2A, z0_2k, z0_2c, rfl⟩ := ty_typ t0
 obtain ⟨z1A, z1k, z1c, rfl⟩ := ty_list t1
 simp only [gf] at hb1
 have e0 := hb1.cell 0
 have f0 := hb1.frozen 0
 have e1 := hb1.cell 1
 have f1 := hb1.frozen 1
 have e2 := hb1.cell 2
 have f2 := hb1.frozen 2
 have e3 := hb1.cell 3
 have f3 := hb1.frozen 3
 simp only [gq] at e0 e1 e2 e3
 have HB1 := hid hb1
 have HST := hid hst
 have HF := hid hf
 have HTX := hid htx
 clear hb1 hst hf htx
 go_wp2
 have hb2 := ((((HB1.out.set 0 (.int .i64 z0_0n)).set 1 (.int .i64 z0_1n)).set 2 (.slice z0_2A z0_2k z0_2c)).set 3 (.slice z1A z1k z1c))
 simp only [List.setIfInBounds_toArray, List.set_cons_zero, List.set_cons_succ] at hb2
 have r0 := hb2.cell 0
 have r1 := hb2.cell 1
 have r2 := hb2.cell 2
 have r3 := hb2.cell 3
 simp only [gq] at r0 r1 r2 r3
 have HB2 := hid hb2
 clear hb2
 refine bodyPost_ret (v := .agg #[.int .i64 z0_0n, .int .i64 z0_1n, .slice z0_2A z0_2k z0_2c, .slice z1A z1k z1c]) (by simp [results, Tryz.results158, go_sem, r0, r1, r2, r3]) rfl ?_
 exact RPost.ofF ((((Fr.refl _ _).alloc _).alloc _).alloc _) HTYS.out HST.out HF.out HTX.out (((((Fr.refl _ _).wr _ _).wr _ _).wr _ _).wr _ _) (by omega) (by simp) hbr (by simp only [gf])
set_option maxHeartbeats 4000000 in
set_option maxRecDepth 100000 in
theorem st_flow (n : Nat) (L : Nat) (h0 : CloR 152 (.list (.list .int)) L 29 0) (h1 : CloR 155 (.list (.list .int)) L 29 1) (h2 : CloR 156 (.list (storeS n)) L 29 2) : Reads 75 (.st (ands [(.list (.list .int)), (.list (.list .int)), (.list (storeS n))])) L := by
 intro w br str o hr hl
 have hbr := hr.lt
 have hgn := hr.gl.2
 have HC : Hid (∀ i k s, ([152, 155, 156] : List FuncId)[i]? = some k → ([(.list (.list .int)), (.list (.list .int)), (.list (storeS n))] : List Shape)[i]? = some s → CloR k s L 29 (offs [(.list (.list .int)), (.list (.list .int)), (.list (storeS n))] i)) := by
  intro i k s hk hs
  rcases i with _ | _ | _ | i
  ·simp only [gq] at hk hs; injection hk with hk; injection hs with hs; subst hk; subst hs; rw [show offs [(.list (.list .int)), (.list (.list .int)), (.list (storeS n))] 0 = 0 from by simp [offs, Shape.sz]]; exact h0
  ·simp only [gq] at hk hs; injection hk with hk; injection hs with hs; subst hk; subst hs; rw [show offs [(.list (.list .int)), (.list (.list .int)), (.list (storeS n))] 1 = 1 from by simp [offs, Shape.sz]]; exact h1
  ·simp only [gq] at hk hs; injection hk with hk; injection hs with hs; subst hk; subst hs; rw [show offs [(.list (.list .int)), (.list (.list .int)), (.list (storeS n))] 2 = 2 from by simp [offs, Shape.sz]]; exact h2
  ·simp at hk
 have HR := hid hr
 have HL := hid hl
 clear hr hl h0 h1 h2
 go_enter Tryz.func75, Tryz.ntmps75
 go_wp2_with fail
 refine (fields_any [(.list (.list .int)), (.list (.list .int)), (.list (storeS n))] [152, 155, 156] 29 L rfl (by simp) (by simp) HC.out _ br w.heap.size (w.heap.size + 1) (w.heap.size + 1 + 1) str o [[.slice none 0 0], [.slice none 0 0], [.slice none 0 0]] (((HR.out.alloc _).alloc _).alloc _) HL.out (((Bk.new' rfl _ _).alloc _).alloc _) ((Bk.new' (by simp) _ _).alloc _) ⟨_, _, rfl, ⟨none, 0, 0, rfl⟩, ⟨_, _, rfl, ⟨none, 0, 0, rfl⟩, ⟨_, _, rfl, ⟨none, 0, 0, rfl⟩, rfl⟩⟩⟩ (Bk.new' (by simp) _ _) (by omega) (by omega) (by omega) (by omega) (by omega) (by omega)).mono ?_
 rintro e w1 ⟨rfl, vs, htys, hb1, hst, hf, htx⟩
 have HTYS := hid htys
 obtain ⟨_, _, rfl, t0, _, _, rfl, t1, _, _, rfl, t2, rfl⟩ := htys
 obtain ⟨z0A, z0k, z0c, rfl⟩ := ty_list t0
 obtain ⟨z1A, z1k, z1c, rfl⟩ := ty_list t1
 obtain ⟨z2A, z2k, z2c, rfl⟩ := ty_list t2
 simp only [gf] at hb1
 have e0 := hb1.cell 0
 have f0 := hb1.frozen 0
 have e1 := hb1.cell 1
 have f1 := hb1.frozen 1
 have e2 := hb1.cell 2
 have f2 := hb1.frozen 2
 simp only [gq] at e0 e1 e2
 have HB1 := hid hb1
 have HST := hid hst
 have HF := hid hf
 have HTX := hid htx
 clear hb1 hst hf htx
 go_wp2
 have hb2 := (((HB1.out.set 0 (.slice z0A z0k z0c)).set 1 (.slice z1A z1k z1c)).set 2 (.slice z2A z2k z2c))
 simp only [List.setIfInBounds_toArray, List.set_cons_zero, List.set_cons_succ] at hb2
 have r0 := hb2.cell 0
 have r1 := hb2.cell 1
 have r2 := hb2.cell 2
 simp only [gq] at r0 r1 r2
 have HB2 := hid hb2
 clear hb2
 refine bodyPost_ret (v := .agg #[.slice z0A z0k z0c, .slice z1A z1k z1c, .slice z2A z2k z2c]) (by simp [results, Tryz.results75, go_sem, r0, r1, r2]) rfl ?_
 exact RPost.ofF ((((Fr.refl _ _).alloc _).alloc _).alloc _) HTYS.out HST.out HF.out HTX.out ((((Fr.refl _ _).wr _ _).wr _ _).wr _ _) (by omega) (by simp) hbr (by simp only [gf])
set_option maxHeartbeats 4000000 in
set_option maxRecDepth 100000 in
theorem st_index (n : Nat) (L : Nat) (h0 : CloR 357 .int L 125 0) (h1 : CloR 358 (.list (indexS n)) L 125 1) : Reads 333 (.st (ands [.int, (.list (indexS n))])) L := by
 intro w br str o hr hl
 have hbr := hr.lt
 have hgn := hr.gl.2
 have HC : Hid (∀ i k s, ([357, 358] : List FuncId)[i]? = some k → ([.int, (.list (indexS n))] : List Shape)[i]? = some s → CloR k s L 125 (offs [.int, (.list (indexS n))] i)) := by
  intro i k s hk hs
  rcases i with _ | _ | i
  ·simp only [gq] at hk hs; injection hk with hk; injection hs with hs; subst hk; subst hs; rw [show offs [.int, (.list (indexS n))] 0 = 0 from by simp [offs, Shape.sz]]; exact h0
  ·simp only [gq] at hk hs; injection hk with hk; injection hs with hs; subst hk; subst hs; rw [show offs [.int, (.list (indexS n))] 1 = 1 from by simp [offs, Shape.sz]]; exact h1
  ·simp at hk
 have HR := hid hr
 have HL := hid hl
 clear hr hl h0 h1
 go_enter Tryz.func333, Tryz.ntmps333
 go_wp2_with fail
 refine (fields_any [.int, (.list (indexS n))] [357, 358] 125 L rfl (by simp) (by simp) HC.out _ br w.heap.size (w.heap.size + 1) (w.heap.size + 1 + 1) str o [[.int .i64 0], [.slice none 0 0]] (((HR.out.alloc _).alloc _).alloc _) HL.out (((Bk.new' rfl _ _).alloc _).alloc _) ((Bk.new' (by simp) _ _).alloc _) ⟨_, _, rfl, ⟨0, rfl, by omega, by omega⟩, ⟨_, _, rfl, ⟨none, 0, 0, rfl⟩, rfl⟩⟩ (Bk.new' (by simp) _ _) (by omega) (by omega) (by omega) (by omega) (by omega) (by omega)).mono ?_
 rintro e w1 ⟨rfl, vs, htys, hb1, hst, hf, htx⟩
 have HTYS := hid htys
 obtain ⟨_, _, rfl, t0, _, _, rfl, t1, rfl⟩ := htys
 obtain ⟨z0n, rfl⟩ := ty_int t0
 obtain ⟨z1A, z1k, z1c, rfl⟩ := ty_list t1
 simp only [gf] at hb1
 have e0 := hb1.cell 0
 have f0 := hb1.frozen 0
 have e1 := hb1.cell 1
 have f1 := hb1.frozen 1
 simp only [gq] at e0 e1
 have HB1 := hid hb1
 have HST := hid hst
 have HF := hid hf
 have HTX := hid htx
 clear hb1 hst hf htx
 go_wp2
 have hb2 := ((HB1.out.set 0 (.int .i64 z0n)).set 1 (.slice z1A z1k z1c))
 simp only [List.setIfInBounds_toArray, List.set_cons_zero, List.set_cons_succ] at hb2
 have r0 := hb2.cell 0
 have r1 := hb2.cell 1
 simp only [gq] at r0 r1
 have HB2 := hid hb2
 clear hb2
 refine bodyPost_ret (v := .agg #[.int .i64 z0n, .slice z1A z1k z1c]) (by simp [results, Tryz.results333, go_sem, r0, r1]) rfl ?_
 exact RPost.ofF ((((Fr.refl _ _).alloc _).alloc _).alloc _) HTYS.out HST.out HF.out HTX.out (((Fr.refl _ _).wr _ _).wr _ _) (by omega) (by simp) hbr (by simp only [gf])
set_option maxHeartbeats 4000000 in
set_option maxRecDepth 100000 in
theorem st_factor (n : Nat) (L : Nat) (h0 : CloR 331 .int L 127 0) (h1 : CloR 332 (indexS n) L 127 1) : Reads 299 (.st (ands [.int, (indexS n)])) L := by
 intro w br str o hr hl
 have hbr := hr.lt
 have hgn := hr.gl.2
 have HC : Hid (∀ i k s, ([331, 332] : List FuncId)[i]? = some k → ([.int, (indexS n)] : List Shape)[i]? = some s → CloR k s L 127 (offs [.int, (indexS n)] i)) := by
  intro i k s hk hs
  rcases i with _ | _ | i
  ·simp only [gq] at hk hs; injection hk with hk; injection hs with hs; subst hk; subst hs; rw [show offs [.int, (indexS n)] 0 = 0 from by simp [offs, Shape.sz]]; exact h0
  ·simp only [gq] at hk hs; injection hk with hk; injection hs with hs; subst hk; subst hs; rw [show offs [.int, (indexS n)] 1 = 1 from by simp [offs, Shape.sz]]; exact h1
  ·simp at hk
 have HR := hid hr
 have HL := hid hl
 clear hr hl h0 h1
 go_enter Tryz.func299, Tryz.ntmps299
 go_wp2_with fail
 refine (fields_any [.int, (indexS n)] [331, 332] 127 L rfl (by simp) (by simp) HC.out _ br w.heap.size (w.heap.size + 1) (w.heap.size + 1 + 1) str o [[.int .i64 0], [.int .i64 0, .slice none 0 0]] (((HR.out.alloc _).alloc _).alloc _) HL.out (((Bk.new' rfl _ _).alloc _).alloc _) ((Bk.new' (by simp) _ _).alloc _) ⟨_, _, rfl, ⟨0, rfl, by omega, by omega⟩, ⟨_, _, rfl, zero_index, rfl⟩⟩ (Bk.new' (by simp) _ _) (by omega) (by omega) (by omega) (by omega) (by omega) (by omega)).mono ?_
 rintro e w1 ⟨rfl, vs, htys, hb1, hst, hf, htx⟩
 have HTYS := hid htys
 obtain ⟨_, _, rfl, t0, _, _, rfl, t1, rfl⟩ := htys
 obtain ⟨z0n, rfl⟩ := ty_int t0
 obtain ⟨z1_0n, z1_1A, z1_1k, z1_1c, rfl⟩ := ty_index t1
 simp only [gf] at hb1
 have e0 := hb1.cell 0
 have f0 := hb1.frozen 0
 have e1 := hb1.cell 1
 have f1 := hb1.frozen 1
 have e2 := hb1.cell 2
 have f2 := hb1.frozen 2
 simp only [gq] at e0 e1 e2
 have HB1 := hid hb1
 have HST := hid hst
 have HF := hid hf
 have HTX := hid htx
 clear hb1 hst hf htx
 go_wp2
 have hb2 := (((HB1.out.set 0 (.int .i64 z0n)).set 1 (.int .i64 z1_0n)).set 2 (.slice z1_1A z1_1k z1_1c))
 simp only [List.setIfInBounds_toArray, List.set_cons_zero, List.set_cons_succ] at hb2
 have r0 := hb2.cell 0
 have r1 := hb2.cell 1
 have r2 := hb2.cell 2
 simp only [gq] at r0 r1 r2
 have HB2 := hid hb2
 clear hb2
 refine bodyPost_ret (v := .agg #[.int .i64 z0n, .int .i64 z1_0n, .slice z1_1A z1_1k z1_1c]) (by simp [results, Tryz.results299, go_sem, r0, r1, r2]) rfl ?_
 exact RPost.ofF ((((Fr.refl _ _).alloc _).alloc _).alloc _) HTYS.out HST.out HF.out HTX.out ((((Fr.refl _ _).wr _ _).wr _ _).wr _ _) (by omega) (by simp) hbr (by simp only [gf])
set_option maxHeartbeats 4000000 in
set_option maxRecDepth 100000 in
theorem st_atom (L : Nat) (h0 : CloR 334 linS L 132 0) (h1 : CloR 335 .int L 132 2) : Reads 302 (.st (ands [linS, .int])) L := by
 intro w br str o hr hl
 have hbr := hr.lt
 have hgn := hr.gl.2
 have HC : Hid (∀ i k s, ([334, 335] : List FuncId)[i]? = some k → ([linS, .int] : List Shape)[i]? = some s → CloR k s L 132 (offs [linS, .int] i)) := by
  intro i k s hk hs
  rcases i with _ | _ | i
  ·simp only [gq] at hk hs; injection hk with hk; injection hs with hs; subst hk; subst hs; rw [show offs [linS, .int] 0 = 0 from by simp [offs, Shape.sz]]; exact h0
  ·simp only [gq] at hk hs; injection hk with hk; injection hs with hs; subst hk; subst hs; rw [show offs [linS, .int] 1 = 2 from by simp [offs, Shape.sz, sz_lin]]; exact h1
  ·simp at hk
 have HR := hid hr
 have HL := hid hl
 clear hr hl h0 h1
 go_enter Tryz.func302, Tryz.ntmps302
 go_wp2_with fail
 refine (fields_any [linS, .int] [334, 335] 132 L rfl (by simp) (by simp) HC.out _ br w.heap.size (w.heap.size + 1) (w.heap.size + 1 + 1) str o [[.int .i64 0, .slice none 0 0], [.int .i64 0]] (((HR.out.alloc _).alloc _).alloc _) HL.out (((Bk.new' rfl _ _).alloc _).alloc _) ((Bk.new' (by simp) _ _).alloc _) ⟨_, _, rfl, zero_lin, ⟨_, _, rfl, ⟨0, rfl, by omega, by omega⟩, rfl⟩⟩ (Bk.new' (by simp) _ _) (by omega) (by omega) (by omega) (by omega) (by omega) (by omega)).mono ?_
 rintro e w1 ⟨rfl, vs, htys, hb1, hst, hf, htx⟩
 have HTYS := hid htys
 obtain ⟨_, _, rfl, t0, _, _, rfl, t1, rfl⟩ := htys
 obtain ⟨z0_0n, z0_1A, z0_1k, z0_1c, rfl⟩ := ty_lin t0
 obtain ⟨z1n, rfl⟩ := ty_int t1
 simp only [gf] at hb1
 have e0 := hb1.cell 0
 have f0 := hb1.frozen 0
 have e1 := hb1.cell 1
 have f1 := hb1.frozen 1
 have e2 := hb1.cell 2
 have f2 := hb1.frozen 2
 simp only [gq] at e0 e1 e2
 have HB1 := hid hb1
 have HST := hid hst
 have HF := hid hf
 have HTX := hid htx
 clear hb1 hst hf htx
 go_wp2
 have hb2 := (((HB1.out.set 0 (.int .i64 z0_0n)).set 1 (.slice z0_1A z0_1k z0_1c)).set 2 (.int .i64 z1n))
 simp only [List.setIfInBounds_toArray, List.set_cons_zero, List.set_cons_succ] at hb2
 have r0 := hb2.cell 0
 have r1 := hb2.cell 1
 have r2 := hb2.cell 2
 simp only [gq] at r0 r1 r2
 have HB2 := hid hb2
 clear hb2
 refine bodyPost_ret (v := .agg #[.int .i64 z0_0n, .slice z0_1A z0_1k z0_1c, .int .i64 z1n]) (by simp [results, Tryz.results302, go_sem, r0, r1, r2]) rfl ?_
 exact RPost.ofF ((((Fr.refl _ _).alloc _).alloc _).alloc _) HTYS.out HST.out HF.out HTX.out ((((Fr.refl _ _).wr _ _).wr _ _).wr _ _) (by omega) (by simp) hbr (by simp only [gf])
end Go.Proofs.YtpbdkkoanedimaaGreatDoor
