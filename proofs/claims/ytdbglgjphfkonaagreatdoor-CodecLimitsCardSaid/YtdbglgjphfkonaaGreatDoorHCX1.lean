/-
  The reader: structs (printed by gen_codec.py).
-/
import Derived.Test.YtdbglgjphfkonaaGreatDoorHCRa
namespace Go.Proofs.YtdbglgjphfkonaaGreatDoor
open Go.RowKit AC
set_option linter.unusedVariables false
set_option linter.unusedSimpArgs false

set_option maxHeartbeats 4000000 in
set_option maxRecDepth 100000 in
theorem st_linTerm (L : Nat) (h0 : CloR 195 .int L 164 0) (h1 : CloR 196 .int L 164 1) : Reads 133 (.st (ands [.int, .int])) L := by
  intro w br str o hr hl
  have hbr := hr.lt
  have hgn := hr.gl.2
  have HC : Hid (∀ i k s, ([195, 196] : List FuncId)[i]? = some k → ([.int, .int] : List Shape)[i]? = some s → CloR k s L 164 (offs [.int, .int] i)) := by
    intro i k s hk hs
    rcases i with _ | _ | i
    · simp only [List.getElem?_cons_zero, List.getElem?_cons_succ] at hk hs; injection hk with hk; injection hs with hs; subst hk; subst hs; rw [show offs [.int, .int] 0 = 0 from by simp [offs, Shape.sz]]; exact h0
    · simp only [List.getElem?_cons_zero, List.getElem?_cons_succ] at hk hs; injection hk with hk; injection hs with hs; subst hk; subst hs; rw [show offs [.int, .int] 1 = 1 from by simp [offs, Shape.sz]]; exact h1
    · simp at hk
  have HR := Lib.hid hr
  have HL := Lib.hid hl
  clear hr hl h0 h1
  go_enter Tryz.func133, Tryz.ntmps133
  go_wp2_with fail
  refine (fields_any [.int, .int] [195, 196] 164 L rfl (by simp) (by simp) HC.out _ br w.heap.size (w.heap.size + 1) (w.heap.size + 1 + 1) str o [[.int .i64 0], [.int .i64 0]] (((HR.out.alloc _).alloc _).alloc _) HL.out (((Bk.new' rfl _ _).alloc _).alloc _) ((Bk.new' (by simp) _ _).alloc _) ⟨_, _, rfl, ⟨0, rfl, by omega, by omega⟩, ⟨_, _, rfl, ⟨0, rfl, by omega, by omega⟩, rfl⟩⟩ (Bk.new' (by simp) _ _) (by omega) (by omega) (by omega) (by omega) (by omega) (by omega)).mono ?_
  rintro e w1 ⟨rfl, vs, htys, hb1, hst, hf, htx⟩
  have HTYS := Lib.hid htys
  obtain ⟨_, _, rfl, t0, _, _, rfl, t1, rfl⟩ := htys
  obtain ⟨z0n, rfl⟩ := ty_int t0
  obtain ⟨z1n, rfl⟩ := ty_int t1
  simp only [List.flatten_cons, List.flatten_nil, List.append_nil, List.cons_append, List.nil_append] at hb1
  have e0 := hb1.cell 0
  have f0 := hb1.frozen 0
  have e1 := hb1.cell 1
  have f1 := hb1.frozen 1
  simp only [List.getElem?_toArray, List.getElem?_cons_zero, List.getElem?_cons_succ] at e0 e1
  have HB1 := Lib.hid hb1
  have HST := Lib.hid hst
  have HF := Lib.hid hf
  have HTX := Lib.hid htx
  clear hb1 hst hf htx 
  go_wp2
  have hb2 := ((HB1.out.set 0 (.int .i64 z0n)).set 1 (.int .i64 z1n))
  simp only [List.setIfInBounds_toArray, List.set_cons_zero, List.set_cons_succ] at hb2
  have r0 := hb2.cell 0
  have r1 := hb2.cell 1
  simp only [List.getElem?_toArray, List.getElem?_cons_zero, List.getElem?_cons_succ] at r0 r1
  have HB2 := Lib.hid hb2
  clear hb2
  refine bodyPost_ret (v := .agg #[.int .i64 z0n, .int .i64 z1n]) (by simp [results, Tryz.results133, go_sem, r0, r1]) rfl ?_
  exact RPost.ofF ((((Fr.refl _ _).alloc _).alloc _).alloc _) HTYS.out HST.out HF.out HTX.out (((Fr.refl _ _).wr _ _).wr _ _) (by omega) (by simp) hbr (by simp only [List.flatten_cons, List.flatten_nil, List.append_nil, List.cons_append, List.nil_append])

set_option maxHeartbeats 4000000 in
set_option maxRecDepth 100000 in
theorem st_lin (L : Nat) (h0 : CloR 130 .int L 95 0) (h1 : CloR 131 (.list linTermS) L 95 1) : Reads 51 (.st (ands [.int, (.list linTermS)])) L := by
  intro w br str o hr hl
  have hbr := hr.lt
  have hgn := hr.gl.2
  have HC : Hid (∀ i k s, ([130, 131] : List FuncId)[i]? = some k → ([.int, (.list linTermS)] : List Shape)[i]? = some s → CloR k s L 95 (offs [.int, (.list linTermS)] i)) := by
    intro i k s hk hs
    rcases i with _ | _ | i
    · simp only [List.getElem?_cons_zero, List.getElem?_cons_succ] at hk hs; injection hk with hk; injection hs with hs; subst hk; subst hs; rw [show offs [.int, (.list linTermS)] 0 = 0 from by simp [offs, Shape.sz]]; exact h0
    · simp only [List.getElem?_cons_zero, List.getElem?_cons_succ] at hk hs; injection hk with hk; injection hs with hs; subst hk; subst hs; rw [show offs [.int, (.list linTermS)] 1 = 1 from by simp [offs, Shape.sz]]; exact h1
    · simp at hk
  have HR := Lib.hid hr
  have HL := Lib.hid hl
  clear hr hl h0 h1
  go_enter Tryz.func51, Tryz.ntmps51
  go_wp2_with fail
  refine (fields_any [.int, (.list linTermS)] [130, 131] 95 L rfl (by simp) (by simp) HC.out _ br w.heap.size (w.heap.size + 1) (w.heap.size + 1 + 1) str o [[.int .i64 0], [.slice none 0 0]] (((HR.out.alloc _).alloc _).alloc _) HL.out (((Bk.new' rfl _ _).alloc _).alloc _) ((Bk.new' (by simp) _ _).alloc _) ⟨_, _, rfl, ⟨0, rfl, by omega, by omega⟩, ⟨_, _, rfl, ⟨none, 0, 0, rfl⟩, rfl⟩⟩ (Bk.new' (by simp) _ _) (by omega) (by omega) (by omega) (by omega) (by omega) (by omega)).mono ?_
  rintro e w1 ⟨rfl, vs, htys, hb1, hst, hf, htx⟩
  have HTYS := Lib.hid htys
  obtain ⟨_, _, rfl, t0, _, _, rfl, t1, rfl⟩ := htys
  obtain ⟨z0n, rfl⟩ := ty_int t0
  obtain ⟨z1A, z1k, z1c, rfl⟩ := ty_list t1
  simp only [List.flatten_cons, List.flatten_nil, List.append_nil, List.cons_append, List.nil_append] at hb1
  have e0 := hb1.cell 0
  have f0 := hb1.frozen 0
  have e1 := hb1.cell 1
  have f1 := hb1.frozen 1
  simp only [List.getElem?_toArray, List.getElem?_cons_zero, List.getElem?_cons_succ] at e0 e1
  have HB1 := Lib.hid hb1
  have HST := Lib.hid hst
  have HF := Lib.hid hf
  have HTX := Lib.hid htx
  clear hb1 hst hf htx 
  go_wp2
  have hb2 := ((HB1.out.set 0 (.int .i64 z0n)).set 1 (.slice z1A z1k z1c))
  simp only [List.setIfInBounds_toArray, List.set_cons_zero, List.set_cons_succ] at hb2
  have r0 := hb2.cell 0
  have r1 := hb2.cell 1
  simp only [List.getElem?_toArray, List.getElem?_cons_zero, List.getElem?_cons_succ] at r0 r1
  have HB2 := Lib.hid hb2
  clear hb2
  refine bodyPost_ret (v := .agg #[.int .i64 z0n, .slice z1A z1k z1c]) (by simp [results, Tryz.results51, go_sem, r0, r1]) rfl ?_
  exact RPost.ofF ((((Fr.refl _ _).alloc _).alloc _).alloc _) HTYS.out HST.out HF.out HTX.out (((Fr.refl _ _).wr _ _).wr _ _) (by omega) (by simp) hbr (by simp only [List.flatten_cons, List.flatten_nil, List.append_nil, List.cons_append, List.nil_append])

set_option maxHeartbeats 4000000 in
set_option maxRecDepth 100000 in
theorem st_relation (L : Nat) (h0 : CloR 49 (.list linS) L 61 0) (h1 : CloR 52 (.list linS) L 61 1) : Reads 18 (.st (ands [(.list linS), (.list linS)])) L := by
  intro w br str o hr hl
  have hbr := hr.lt
  have hgn := hr.gl.2
  have HC : Hid (∀ i k s, ([49, 52] : List FuncId)[i]? = some k → ([(.list linS), (.list linS)] : List Shape)[i]? = some s → CloR k s L 61 (offs [(.list linS), (.list linS)] i)) := by
    intro i k s hk hs
    rcases i with _ | _ | i
    · simp only [List.getElem?_cons_zero, List.getElem?_cons_succ] at hk hs; injection hk with hk; injection hs with hs; subst hk; subst hs; rw [show offs [(.list linS), (.list linS)] 0 = 0 from by simp [offs, Shape.sz]]; exact h0
    · simp only [List.getElem?_cons_zero, List.getElem?_cons_succ] at hk hs; injection hk with hk; injection hs with hs; subst hk; subst hs; rw [show offs [(.list linS), (.list linS)] 1 = 1 from by simp [offs, Shape.sz]]; exact h1
    · simp at hk
  have HR := Lib.hid hr
  have HL := Lib.hid hl
  clear hr hl h0 h1
  go_enter Tryz.func18, Tryz.ntmps18
  go_wp2_with fail
  refine (fields_any [(.list linS), (.list linS)] [49, 52] 61 L rfl (by simp) (by simp) HC.out _ br w.heap.size (w.heap.size + 1) (w.heap.size + 1 + 1) str o [[.slice none 0 0], [.slice none 0 0]] (((HR.out.alloc _).alloc _).alloc _) HL.out (((Bk.new' rfl _ _).alloc _).alloc _) ((Bk.new' (by simp) _ _).alloc _) ⟨_, _, rfl, ⟨none, 0, 0, rfl⟩, ⟨_, _, rfl, ⟨none, 0, 0, rfl⟩, rfl⟩⟩ (Bk.new' (by simp) _ _) (by omega) (by omega) (by omega) (by omega) (by omega) (by omega)).mono ?_
  rintro e w1 ⟨rfl, vs, htys, hb1, hst, hf, htx⟩
  have HTYS := Lib.hid htys
  obtain ⟨_, _, rfl, t0, _, _, rfl, t1, rfl⟩ := htys
  obtain ⟨z0A, z0k, z0c, rfl⟩ := ty_list t0
  obtain ⟨z1A, z1k, z1c, rfl⟩ := ty_list t1
  simp only [List.flatten_cons, List.flatten_nil, List.append_nil, List.cons_append, List.nil_append] at hb1
  have e0 := hb1.cell 0
  have f0 := hb1.frozen 0
  have e1 := hb1.cell 1
  have f1 := hb1.frozen 1
  simp only [List.getElem?_toArray, List.getElem?_cons_zero, List.getElem?_cons_succ] at e0 e1
  have HB1 := Lib.hid hb1
  have HST := Lib.hid hst
  have HF := Lib.hid hf
  have HTX := Lib.hid htx
  clear hb1 hst hf htx 
  go_wp2
  have hb2 := ((HB1.out.set 0 (.slice z0A z0k z0c)).set 1 (.slice z1A z1k z1c))
  simp only [List.setIfInBounds_toArray, List.set_cons_zero, List.set_cons_succ] at hb2
  have r0 := hb2.cell 0
  have r1 := hb2.cell 1
  simp only [List.getElem?_toArray, List.getElem?_cons_zero, List.getElem?_cons_succ] at r0 r1
  have HB2 := Lib.hid hb2
  clear hb2
  refine bodyPost_ret (v := .agg #[.slice z0A z0k z0c, .slice z1A z1k z1c]) (by simp [results, Tryz.results18, go_sem, r0, r1]) rfl ?_
  exact RPost.ofF ((((Fr.refl _ _).alloc _).alloc _).alloc _) HTYS.out HST.out HF.out HTX.out (((Fr.refl _ _).wr _ _).wr _ _) (by omega) (by simp) hbr (by simp only [List.flatten_cons, List.flatten_nil, List.append_nil, List.cons_append, List.nil_append])

set_option maxHeartbeats 4000000 in
set_option maxRecDepth 100000 in
theorem st_metric (L : Nat) (h0 : CloR 45 (.list .int) L 25 0) (h1 : CloR 47 (.list .int) L 25 1) : Reads 15 (.st (ands [(.list .int), (.list .int)])) L := by
  intro w br str o hr hl
  have hbr := hr.lt
  have hgn := hr.gl.2
  have HC : Hid (∀ i k s, ([45, 47] : List FuncId)[i]? = some k → ([(.list .int), (.list .int)] : List Shape)[i]? = some s → CloR k s L 25 (offs [(.list .int), (.list .int)] i)) := by
    intro i k s hk hs
    rcases i with _ | _ | i
    · simp only [List.getElem?_cons_zero, List.getElem?_cons_succ] at hk hs; injection hk with hk; injection hs with hs; subst hk; subst hs; rw [show offs [(.list .int), (.list .int)] 0 = 0 from by simp [offs, Shape.sz]]; exact h0
    · simp only [List.getElem?_cons_zero, List.getElem?_cons_succ] at hk hs; injection hk with hk; injection hs with hs; subst hk; subst hs; rw [show offs [(.list .int), (.list .int)] 1 = 1 from by simp [offs, Shape.sz]]; exact h1
    · simp at hk
  have HR := Lib.hid hr
  have HL := Lib.hid hl
  clear hr hl h0 h1
  go_enter Tryz.func15, Tryz.ntmps15
  go_wp2_with fail
  refine (fields_any [(.list .int), (.list .int)] [45, 47] 25 L rfl (by simp) (by simp) HC.out _ br w.heap.size (w.heap.size + 1) (w.heap.size + 1 + 1) str o [[.slice none 0 0], [.slice none 0 0]] (((HR.out.alloc _).alloc _).alloc _) HL.out (((Bk.new' rfl _ _).alloc _).alloc _) ((Bk.new' (by simp) _ _).alloc _) ⟨_, _, rfl, ⟨none, 0, 0, rfl⟩, ⟨_, _, rfl, ⟨none, 0, 0, rfl⟩, rfl⟩⟩ (Bk.new' (by simp) _ _) (by omega) (by omega) (by omega) (by omega) (by omega) (by omega)).mono ?_
  rintro e w1 ⟨rfl, vs, htys, hb1, hst, hf, htx⟩
  have HTYS := Lib.hid htys
  obtain ⟨_, _, rfl, t0, _, _, rfl, t1, rfl⟩ := htys
  obtain ⟨z0A, z0k, z0c, rfl⟩ := ty_list t0
  obtain ⟨z1A, z1k, z1c, rfl⟩ := ty_list t1
  simp only [List.flatten_cons, List.flatten_nil, List.append_nil, List.cons_append, List.nil_append] at hb1
  have e0 := hb1.cell 0
  have f0 := hb1.frozen 0
  have e1 := hb1.cell 1
  have f1 := hb1.frozen 1
  simp only [List.getElem?_toArray, List.getElem?_cons_zero, List.getElem?_cons_succ] at e0 e1
  have HB1 := Lib.hid hb1
  have HST := Lib.hid hst
  have HF := Lib.hid hf
  have HTX := Lib.hid htx
  clear hb1 hst hf htx 
  go_wp2
  have hb2 := ((HB1.out.set 0 (.slice z0A z0k z0c)).set 1 (.slice z1A z1k z1c))
  simp only [List.setIfInBounds_toArray, List.set_cons_zero, List.set_cons_succ] at hb2
  have r0 := hb2.cell 0
  have r1 := hb2.cell 1
  simp only [List.getElem?_toArray, List.getElem?_cons_zero, List.getElem?_cons_succ] at r0 r1
  have HB2 := Lib.hid hb2
  clear hb2
  refine bodyPost_ret (v := .agg #[.slice z0A z0k z0c, .slice z1A z1k z1c]) (by simp [results, Tryz.results15, go_sem, r0, r1]) rfl ?_
  exact RPost.ofF ((((Fr.refl _ _).alloc _).alloc _).alloc _) HTYS.out HST.out HF.out HTX.out (((Fr.refl _ _).wr _ _).wr _ _) (by omega) (by simp) hbr (by simp only [List.flatten_cons, List.flatten_nil, List.append_nil, List.cons_append, List.nil_append])

set_option maxHeartbeats 4000000 in
set_option maxRecDepth 100000 in
theorem st_typ (n : Nat) (L : Nat) (h0 : CloR 197 .int L 102 0) (h1 : CloR 198 .int L 102 1) (h2 : CloR 199 (.list (typS n)) L 102 2) : Reads 136 (.st (ands [.int, .int, (.list (typS n))])) L := by
  intro w br str o hr hl
  have hbr := hr.lt
  have hgn := hr.gl.2
  have HC : Hid (∀ i k s, ([197, 198, 199] : List FuncId)[i]? = some k → ([.int, .int, (.list (typS n))] : List Shape)[i]? = some s → CloR k s L 102 (offs [.int, .int, (.list (typS n))] i)) := by
    intro i k s hk hs
    rcases i with _ | _ | _ | i
    · simp only [List.getElem?_cons_zero, List.getElem?_cons_succ] at hk hs; injection hk with hk; injection hs with hs; subst hk; subst hs; rw [show offs [.int, .int, (.list (typS n))] 0 = 0 from by simp [offs, Shape.sz]]; exact h0
    · simp only [List.getElem?_cons_zero, List.getElem?_cons_succ] at hk hs; injection hk with hk; injection hs with hs; subst hk; subst hs; rw [show offs [.int, .int, (.list (typS n))] 1 = 1 from by simp [offs, Shape.sz]]; exact h1
    · simp only [List.getElem?_cons_zero, List.getElem?_cons_succ] at hk hs; injection hk with hk; injection hs with hs; subst hk; subst hs; rw [show offs [.int, .int, (.list (typS n))] 2 = 2 from by simp [offs, Shape.sz]]; exact h2
    · simp at hk
  have HR := Lib.hid hr
  have HL := Lib.hid hl
  clear hr hl h0 h1 h2
  go_enter Tryz.func136, Tryz.ntmps136
  go_wp2_with fail
  refine (fields_any [.int, .int, (.list (typS n))] [197, 198, 199] 102 L rfl (by simp) (by simp) HC.out _ br w.heap.size (w.heap.size + 1) (w.heap.size + 1 + 1) str o [[.int .i64 0], [.int .i64 0], [.slice none 0 0]] (((HR.out.alloc _).alloc _).alloc _) HL.out (((Bk.new' rfl _ _).alloc _).alloc _) ((Bk.new' (by simp) _ _).alloc _) ⟨_, _, rfl, ⟨0, rfl, by omega, by omega⟩, ⟨_, _, rfl, ⟨0, rfl, by omega, by omega⟩, ⟨_, _, rfl, ⟨none, 0, 0, rfl⟩, rfl⟩⟩⟩ (Bk.new' (by simp) _ _) (by omega) (by omega) (by omega) (by omega) (by omega) (by omega)).mono ?_
  rintro e w1 ⟨rfl, vs, htys, hb1, hst, hf, htx⟩
  have HTYS := Lib.hid htys
  obtain ⟨_, _, rfl, t0, _, _, rfl, t1, _, _, rfl, t2, rfl⟩ := htys
  obtain ⟨z0n, rfl⟩ := ty_int t0
  obtain ⟨z1n, rfl⟩ := ty_int t1
  obtain ⟨z2A, z2k, z2c, rfl⟩ := ty_list t2
  simp only [List.flatten_cons, List.flatten_nil, List.append_nil, List.cons_append, List.nil_append] at hb1
  have e0 := hb1.cell 0
  have f0 := hb1.frozen 0
  have e1 := hb1.cell 1
  have f1 := hb1.frozen 1
  have e2 := hb1.cell 2
  have f2 := hb1.frozen 2
  simp only [List.getElem?_toArray, List.getElem?_cons_zero, List.getElem?_cons_succ] at e0 e1 e2
  have HB1 := Lib.hid hb1
  have HST := Lib.hid hst
  have HF := Lib.hid hf
  have HTX := Lib.hid htx
  clear hb1 hst hf htx 
  go_wp2
  have hb2 := (((HB1.out.set 0 (.int .i64 z0n)).set 1 (.int .i64 z1n)).set 2 (.slice z2A z2k z2c))
  simp only [List.setIfInBounds_toArray, List.set_cons_zero, List.set_cons_succ] at hb2
  have r0 := hb2.cell 0
  have r1 := hb2.cell 1
  have r2 := hb2.cell 2
  simp only [List.getElem?_toArray, List.getElem?_cons_zero, List.getElem?_cons_succ] at r0 r1 r2
  have HB2 := Lib.hid hb2
  clear hb2
  refine bodyPost_ret (v := .agg #[.int .i64 z0n, .int .i64 z1n, .slice z2A z2k z2c]) (by simp [results, Tryz.results136, go_sem, r0, r1, r2]) rfl ?_
  exact RPost.ofF ((((Fr.refl _ _).alloc _).alloc _).alloc _) HTYS.out HST.out HF.out HTX.out ((((Fr.refl _ _).wr _ _).wr _ _).wr _ _) (by omega) (by simp) hbr (by simp only [List.flatten_cons, List.flatten_nil, List.append_nil, List.cons_append, List.nil_append])

end Go.Proofs.YtdbglgjphfkonaaGreatDoor

/-
  The reader: structs (printed by gen_codec.py).
-/
namespace Go.Proofs.YtdbglgjphfkonaaGreatDoor
open Go.RowKit AC
set_option linter.unusedVariables false
set_option linter.unusedSimpArgs false

set_option maxHeartbeats 4000000 in
set_option maxRecDepth 100000 in
theorem st_store (n : Nat) (L : Nat) (h0 : CloR 135 (typS n) L 104 0) (h1 : CloR 137 (.list .int) L 104 3) : Reads 59 (.st (ands [(typS n), (.list .int)])) L := by
  intro w br str o hr hl
  have hbr := hr.lt
  have hgn := hr.gl.2
  have HC : Hid (∀ i k s, ([135, 137] : List FuncId)[i]? = some k → ([(typS n), (.list .int)] : List Shape)[i]? = some s → CloR k s L 104 (offs [(typS n), (.list .int)] i)) := by
    intro i k s hk hs
    rcases i with _ | _ | i
    · simp only [List.getElem?_cons_zero, List.getElem?_cons_succ] at hk hs; injection hk with hk; injection hs with hs; subst hk; subst hs; rw [show offs [(typS n), (.list .int)] 0 = 0 from by simp [offs, Shape.sz]]; exact h0
    · simp only [List.getElem?_cons_zero, List.getElem?_cons_succ] at hk hs; injection hk with hk; injection hs with hs; subst hk; subst hs; rw [show offs [(typS n), (.list .int)] 1 = 3 from by simp [offs, Shape.sz, sz_typ]]; exact h1
    · simp at hk
  have HR := Lib.hid hr
  have HL := Lib.hid hl
  clear hr hl h0 h1
  go_enter Tryz.func59, Tryz.ntmps59
  go_wp2_with fail
  refine (fields_any [(typS n), (.list .int)] [135, 137] 104 L rfl (by simp) (by simp) HC.out _ br w.heap.size (w.heap.size + 1) (w.heap.size + 1 + 1) str o [[.int .i64 0, .int .i64 0, .slice none 0 0], [.slice none 0 0]] (((HR.out.alloc _).alloc _).alloc _) HL.out (((Bk.new' rfl _ _).alloc _).alloc _) ((Bk.new' (by simp) _ _).alloc _) ⟨_, _, rfl, zero_typ, ⟨_, _, rfl, ⟨none, 0, 0, rfl⟩, rfl⟩⟩ (Bk.new' (by simp) _ _) (by omega) (by omega) (by omega) (by omega) (by omega) (by omega)).mono ?_
  rintro e w1 ⟨rfl, vs, htys, hb1, hst, hf, htx⟩
  have HTYS := Lib.hid htys
  obtain ⟨_, _, rfl, t0, _, _, rfl, t1, rfl⟩ := htys
  obtain ⟨z0_0n, z0_1n, z0_2A, z0_2k, z0_2c, rfl⟩ := ty_typ t0
  obtain ⟨z1A, z1k, z1c, rfl⟩ := ty_list t1
  simp only [List.flatten_cons, List.flatten_nil, List.append_nil, List.cons_append, List.nil_append] at hb1
  have e0 := hb1.cell 0
  have f0 := hb1.frozen 0
  have e1 := hb1.cell 1
  have f1 := hb1.frozen 1
  have e2 := hb1.cell 2
  have f2 := hb1.frozen 2
  have e3 := hb1.cell 3
  have f3 := hb1.frozen 3
  simp only [List.getElem?_toArray, List.getElem?_cons_zero, List.getElem?_cons_succ] at e0 e1 e2 e3
  have HB1 := Lib.hid hb1
  have HST := Lib.hid hst
  have HF := Lib.hid hf
  have HTX := Lib.hid htx
  clear hb1 hst hf htx 
  go_wp2
  have hb2 := ((((HB1.out.set 0 (.int .i64 z0_0n)).set 1 (.int .i64 z0_1n)).set 2 (.slice z0_2A z0_2k z0_2c)).set 3 (.slice z1A z1k z1c))
  simp only [List.setIfInBounds_toArray, List.set_cons_zero, List.set_cons_succ] at hb2
  have r0 := hb2.cell 0
  have r1 := hb2.cell 1
  have r2 := hb2.cell 2
  have r3 := hb2.cell 3
  simp only [List.getElem?_toArray, List.getElem?_cons_zero, List.getElem?_cons_succ] at r0 r1 r2 r3
  have HB2 := Lib.hid hb2
  clear hb2
  refine bodyPost_ret (v := .agg #[.int .i64 z0_0n, .int .i64 z0_1n, .slice z0_2A z0_2k z0_2c, .slice z1A z1k z1c]) (by simp [results, Tryz.results59, go_sem, r0, r1, r2, r3]) rfl ?_
  exact RPost.ofF ((((Fr.refl _ _).alloc _).alloc _).alloc _) HTYS.out HST.out HF.out HTX.out (((((Fr.refl _ _).wr _ _).wr _ _).wr _ _).wr _ _) (by omega) (by simp) hbr (by simp only [List.flatten_cons, List.flatten_nil, List.append_nil, List.cons_append, List.nil_append])

set_option maxHeartbeats 4000000 in
set_option maxRecDepth 100000 in
theorem st_flow (n : Nat) (L : Nat) (h0 : CloR 53 (.list (.list .int)) L 30 0) (h1 : CloR 56 (.list (.list .int)) L 30 1) (h2 : CloR 57 (.list (storeS n)) L 30 2) : Reads 20 (.st (ands [(.list (.list .int)), (.list (.list .int)), (.list (storeS n))])) L := by
  intro w br str o hr hl
  have hbr := hr.lt
  have hgn := hr.gl.2
  have HC : Hid (∀ i k s, ([53, 56, 57] : List FuncId)[i]? = some k → ([(.list (.list .int)), (.list (.list .int)), (.list (storeS n))] : List Shape)[i]? = some s → CloR k s L 30 (offs [(.list (.list .int)), (.list (.list .int)), (.list (storeS n))] i)) := by
    intro i k s hk hs
    rcases i with _ | _ | _ | i
    · simp only [List.getElem?_cons_zero, List.getElem?_cons_succ] at hk hs; injection hk with hk; injection hs with hs; subst hk; subst hs; rw [show offs [(.list (.list .int)), (.list (.list .int)), (.list (storeS n))] 0 = 0 from by simp [offs, Shape.sz]]; exact h0
    · simp only [List.getElem?_cons_zero, List.getElem?_cons_succ] at hk hs; injection hk with hk; injection hs with hs; subst hk; subst hs; rw [show offs [(.list (.list .int)), (.list (.list .int)), (.list (storeS n))] 1 = 1 from by simp [offs, Shape.sz]]; exact h1
    · simp only [List.getElem?_cons_zero, List.getElem?_cons_succ] at hk hs; injection hk with hk; injection hs with hs; subst hk; subst hs; rw [show offs [(.list (.list .int)), (.list (.list .int)), (.list (storeS n))] 2 = 2 from by simp [offs, Shape.sz]]; exact h2
    · simp at hk
  have HR := Lib.hid hr
  have HL := Lib.hid hl
  clear hr hl h0 h1 h2
  go_enter Tryz.func20, Tryz.ntmps20
  go_wp2_with fail
  refine (fields_any [(.list (.list .int)), (.list (.list .int)), (.list (storeS n))] [53, 56, 57] 30 L rfl (by simp) (by simp) HC.out _ br w.heap.size (w.heap.size + 1) (w.heap.size + 1 + 1) str o [[.slice none 0 0], [.slice none 0 0], [.slice none 0 0]] (((HR.out.alloc _).alloc _).alloc _) HL.out (((Bk.new' rfl _ _).alloc _).alloc _) ((Bk.new' (by simp) _ _).alloc _) ⟨_, _, rfl, ⟨none, 0, 0, rfl⟩, ⟨_, _, rfl, ⟨none, 0, 0, rfl⟩, ⟨_, _, rfl, ⟨none, 0, 0, rfl⟩, rfl⟩⟩⟩ (Bk.new' (by simp) _ _) (by omega) (by omega) (by omega) (by omega) (by omega) (by omega)).mono ?_
  rintro e w1 ⟨rfl, vs, htys, hb1, hst, hf, htx⟩
  have HTYS := Lib.hid htys
  obtain ⟨_, _, rfl, t0, _, _, rfl, t1, _, _, rfl, t2, rfl⟩ := htys
  obtain ⟨z0A, z0k, z0c, rfl⟩ := ty_list t0
  obtain ⟨z1A, z1k, z1c, rfl⟩ := ty_list t1
  obtain ⟨z2A, z2k, z2c, rfl⟩ := ty_list t2
  simp only [List.flatten_cons, List.flatten_nil, List.append_nil, List.cons_append, List.nil_append] at hb1
  have e0 := hb1.cell 0
  have f0 := hb1.frozen 0
  have e1 := hb1.cell 1
  have f1 := hb1.frozen 1
  have e2 := hb1.cell 2
  have f2 := hb1.frozen 2
  simp only [List.getElem?_toArray, List.getElem?_cons_zero, List.getElem?_cons_succ] at e0 e1 e2
  have HB1 := Lib.hid hb1
  have HST := Lib.hid hst
  have HF := Lib.hid hf
  have HTX := Lib.hid htx
  clear hb1 hst hf htx 
  go_wp2
  have hb2 := (((HB1.out.set 0 (.slice z0A z0k z0c)).set 1 (.slice z1A z1k z1c)).set 2 (.slice z2A z2k z2c))
  simp only [List.setIfInBounds_toArray, List.set_cons_zero, List.set_cons_succ] at hb2
  have r0 := hb2.cell 0
  have r1 := hb2.cell 1
  have r2 := hb2.cell 2
  simp only [List.getElem?_toArray, List.getElem?_cons_zero, List.getElem?_cons_succ] at r0 r1 r2
  have HB2 := Lib.hid hb2
  clear hb2
  refine bodyPost_ret (v := .agg #[.slice z0A z0k z0c, .slice z1A z1k z1c, .slice z2A z2k z2c]) (by simp [results, Tryz.results20, go_sem, r0, r1, r2]) rfl ?_
  exact RPost.ofF ((((Fr.refl _ _).alloc _).alloc _).alloc _) HTYS.out HST.out HF.out HTX.out ((((Fr.refl _ _).wr _ _).wr _ _).wr _ _) (by omega) (by simp) hbr (by simp only [List.flatten_cons, List.flatten_nil, List.append_nil, List.cons_append, List.nil_append])

set_option maxHeartbeats 4000000 in
set_option maxRecDepth 100000 in
theorem st_index (n : Nat) (L : Nat) (h0 : CloR 281 .int L 209 0) (h1 : CloR 282 (.list (indexS n)) L 209 1) : Reads 254 (.st (ands [.int, (.list (indexS n))])) L := by
  intro w br str o hr hl
  have hbr := hr.lt
  have hgn := hr.gl.2
  have HC : Hid (∀ i k s, ([281, 282] : List FuncId)[i]? = some k → ([.int, (.list (indexS n))] : List Shape)[i]? = some s → CloR k s L 209 (offs [.int, (.list (indexS n))] i)) := by
    intro i k s hk hs
    rcases i with _ | _ | i
    · simp only [List.getElem?_cons_zero, List.getElem?_cons_succ] at hk hs; injection hk with hk; injection hs with hs; subst hk; subst hs; rw [show offs [.int, (.list (indexS n))] 0 = 0 from by simp [offs, Shape.sz]]; exact h0
    · simp only [List.getElem?_cons_zero, List.getElem?_cons_succ] at hk hs; injection hk with hk; injection hs with hs; subst hk; subst hs; rw [show offs [.int, (.list (indexS n))] 1 = 1 from by simp [offs, Shape.sz]]; exact h1
    · simp at hk
  have HR := Lib.hid hr
  have HL := Lib.hid hl
  clear hr hl h0 h1
  go_enter Tryz.func254, Tryz.ntmps254
  go_wp2_with fail
  refine (fields_any [.int, (.list (indexS n))] [281, 282] 209 L rfl (by simp) (by simp) HC.out _ br w.heap.size (w.heap.size + 1) (w.heap.size + 1 + 1) str o [[.int .i64 0], [.slice none 0 0]] (((HR.out.alloc _).alloc _).alloc _) HL.out (((Bk.new' rfl _ _).alloc _).alloc _) ((Bk.new' (by simp) _ _).alloc _) ⟨_, _, rfl, ⟨0, rfl, by omega, by omega⟩, ⟨_, _, rfl, ⟨none, 0, 0, rfl⟩, rfl⟩⟩ (Bk.new' (by simp) _ _) (by omega) (by omega) (by omega) (by omega) (by omega) (by omega)).mono ?_
  rintro e w1 ⟨rfl, vs, htys, hb1, hst, hf, htx⟩
  have HTYS := Lib.hid htys
  obtain ⟨_, _, rfl, t0, _, _, rfl, t1, rfl⟩ := htys
  obtain ⟨z0n, rfl⟩ := ty_int t0
  obtain ⟨z1A, z1k, z1c, rfl⟩ := ty_list t1
  simp only [List.flatten_cons, List.flatten_nil, List.append_nil, List.cons_append, List.nil_append] at hb1
  have e0 := hb1.cell 0
  have f0 := hb1.frozen 0
  have e1 := hb1.cell 1
  have f1 := hb1.frozen 1
  simp only [List.getElem?_toArray, List.getElem?_cons_zero, List.getElem?_cons_succ] at e0 e1
  have HB1 := Lib.hid hb1
  have HST := Lib.hid hst
  have HF := Lib.hid hf
  have HTX := Lib.hid htx
  clear hb1 hst hf htx 
  go_wp2
  have hb2 := ((HB1.out.set 0 (.int .i64 z0n)).set 1 (.slice z1A z1k z1c))
  simp only [List.setIfInBounds_toArray, List.set_cons_zero, List.set_cons_succ] at hb2
  have r0 := hb2.cell 0
  have r1 := hb2.cell 1
  simp only [List.getElem?_toArray, List.getElem?_cons_zero, List.getElem?_cons_succ] at r0 r1
  have HB2 := Lib.hid hb2
  clear hb2
  refine bodyPost_ret (v := .agg #[.int .i64 z0n, .slice z1A z1k z1c]) (by simp [results, Tryz.results254, go_sem, r0, r1]) rfl ?_
  exact RPost.ofF ((((Fr.refl _ _).alloc _).alloc _).alloc _) HTYS.out HST.out HF.out HTX.out (((Fr.refl _ _).wr _ _).wr _ _) (by omega) (by simp) hbr (by simp only [List.flatten_cons, List.flatten_nil, List.append_nil, List.cons_append, List.nil_append])

set_option maxHeartbeats 4000000 in
set_option maxRecDepth 100000 in
theorem st_factor (n : Nat) (L : Nat) (h0 : CloR 252 .int L 211 0) (h1 : CloR 253 (indexS n) L 211 1) : Reads 205 (.st (ands [.int, (indexS n)])) L := by
  intro w br str o hr hl
  have hbr := hr.lt
  have hgn := hr.gl.2
  have HC : Hid (∀ i k s, ([252, 253] : List FuncId)[i]? = some k → ([.int, (indexS n)] : List Shape)[i]? = some s → CloR k s L 211 (offs [.int, (indexS n)] i)) := by
    intro i k s hk hs
    rcases i with _ | _ | i
    · simp only [List.getElem?_cons_zero, List.getElem?_cons_succ] at hk hs; injection hk with hk; injection hs with hs; subst hk; subst hs; rw [show offs [.int, (indexS n)] 0 = 0 from by simp [offs, Shape.sz]]; exact h0
    · simp only [List.getElem?_cons_zero, List.getElem?_cons_succ] at hk hs; injection hk with hk; injection hs with hs; subst hk; subst hs; rw [show offs [.int, (indexS n)] 1 = 1 from by simp [offs, Shape.sz]]; exact h1
    · simp at hk
  have HR := Lib.hid hr
  have HL := Lib.hid hl
  clear hr hl h0 h1
  go_enter Tryz.func205, Tryz.ntmps205
  go_wp2_with fail
  refine (fields_any [.int, (indexS n)] [252, 253] 211 L rfl (by simp) (by simp) HC.out _ br w.heap.size (w.heap.size + 1) (w.heap.size + 1 + 1) str o [[.int .i64 0], [.int .i64 0, .slice none 0 0]] (((HR.out.alloc _).alloc _).alloc _) HL.out (((Bk.new' rfl _ _).alloc _).alloc _) ((Bk.new' (by simp) _ _).alloc _) ⟨_, _, rfl, ⟨0, rfl, by omega, by omega⟩, ⟨_, _, rfl, zero_index, rfl⟩⟩ (Bk.new' (by simp) _ _) (by omega) (by omega) (by omega) (by omega) (by omega) (by omega)).mono ?_
  rintro e w1 ⟨rfl, vs, htys, hb1, hst, hf, htx⟩
  have HTYS := Lib.hid htys
  obtain ⟨_, _, rfl, t0, _, _, rfl, t1, rfl⟩ := htys
  obtain ⟨z0n, rfl⟩ := ty_int t0
  obtain ⟨z1_0n, z1_1A, z1_1k, z1_1c, rfl⟩ := ty_index t1
  simp only [List.flatten_cons, List.flatten_nil, List.append_nil, List.cons_append, List.nil_append] at hb1
  have e0 := hb1.cell 0
  have f0 := hb1.frozen 0
  have e1 := hb1.cell 1
  have f1 := hb1.frozen 1
  have e2 := hb1.cell 2
  have f2 := hb1.frozen 2
  simp only [List.getElem?_toArray, List.getElem?_cons_zero, List.getElem?_cons_succ] at e0 e1 e2
  have HB1 := Lib.hid hb1
  have HST := Lib.hid hst
  have HF := Lib.hid hf
  have HTX := Lib.hid htx
  clear hb1 hst hf htx 
  go_wp2
  have hb2 := (((HB1.out.set 0 (.int .i64 z0n)).set 1 (.int .i64 z1_0n)).set 2 (.slice z1_1A z1_1k z1_1c))
  simp only [List.setIfInBounds_toArray, List.set_cons_zero, List.set_cons_succ] at hb2
  have r0 := hb2.cell 0
  have r1 := hb2.cell 1
  have r2 := hb2.cell 2
  simp only [List.getElem?_toArray, List.getElem?_cons_zero, List.getElem?_cons_succ] at r0 r1 r2
  have HB2 := Lib.hid hb2
  clear hb2
  refine bodyPost_ret (v := .agg #[.int .i64 z0n, .int .i64 z1_0n, .slice z1_1A z1_1k z1_1c]) (by simp [results, Tryz.results205, go_sem, r0, r1, r2]) rfl ?_
  exact RPost.ofF ((((Fr.refl _ _).alloc _).alloc _).alloc _) HTYS.out HST.out HF.out HTX.out ((((Fr.refl _ _).wr _ _).wr _ _).wr _ _) (by omega) (by simp) hbr (by simp only [List.flatten_cons, List.flatten_nil, List.append_nil, List.cons_append, List.nil_append])

set_option maxHeartbeats 4000000 in
set_option maxRecDepth 100000 in
theorem st_atom (L : Nat) (h0 : CloR 255 linS L 215 0) (h1 : CloR 256 .int L 215 2) : Reads 208 (.st (ands [linS, .int])) L := by
  intro w br str o hr hl
  have hbr := hr.lt
  have hgn := hr.gl.2
  have HC : Hid (∀ i k s, ([255, 256] : List FuncId)[i]? = some k → ([linS, .int] : List Shape)[i]? = some s → CloR k s L 215 (offs [linS, .int] i)) := by
    intro i k s hk hs
    rcases i with _ | _ | i
    · simp only [List.getElem?_cons_zero, List.getElem?_cons_succ] at hk hs; injection hk with hk; injection hs with hs; subst hk; subst hs; rw [show offs [linS, .int] 0 = 0 from by simp [offs, Shape.sz]]; exact h0
    · simp only [List.getElem?_cons_zero, List.getElem?_cons_succ] at hk hs; injection hk with hk; injection hs with hs; subst hk; subst hs; rw [show offs [linS, .int] 1 = 2 from by simp [offs, Shape.sz, sz_lin]]; exact h1
    · simp at hk
  have HR := Lib.hid hr
  have HL := Lib.hid hl
  clear hr hl h0 h1
  go_enter Tryz.func208, Tryz.ntmps208
  go_wp2_with fail
  refine (fields_any [linS, .int] [255, 256] 215 L rfl (by simp) (by simp) HC.out _ br w.heap.size (w.heap.size + 1) (w.heap.size + 1 + 1) str o [[.int .i64 0, .slice none 0 0], [.int .i64 0]] (((HR.out.alloc _).alloc _).alloc _) HL.out (((Bk.new' rfl _ _).alloc _).alloc _) ((Bk.new' (by simp) _ _).alloc _) ⟨_, _, rfl, zero_lin, ⟨_, _, rfl, ⟨0, rfl, by omega, by omega⟩, rfl⟩⟩ (Bk.new' (by simp) _ _) (by omega) (by omega) (by omega) (by omega) (by omega) (by omega)).mono ?_
  rintro e w1 ⟨rfl, vs, htys, hb1, hst, hf, htx⟩
  have HTYS := Lib.hid htys
  obtain ⟨_, _, rfl, t0, _, _, rfl, t1, rfl⟩ := htys
  obtain ⟨z0_0n, z0_1A, z0_1k, z0_1c, rfl⟩ := ty_lin t0
  obtain ⟨z1n, rfl⟩ := ty_int t1
  simp only [List.flatten_cons, List.flatten_nil, List.append_nil, List.cons_append, List.nil_append] at hb1
  have e0 := hb1.cell 0
  have f0 := hb1.frozen 0
  have e1 := hb1.cell 1
  have f1 := hb1.frozen 1
  have e2 := hb1.cell 2
  have f2 := hb1.frozen 2
  simp only [List.getElem?_toArray, List.getElem?_cons_zero, List.getElem?_cons_succ] at e0 e1 e2
  have HB1 := Lib.hid hb1
  have HST := Lib.hid hst
  have HF := Lib.hid hf
  have HTX := Lib.hid htx
  clear hb1 hst hf htx 
  go_wp2
  have hb2 := (((HB1.out.set 0 (.int .i64 z0_0n)).set 1 (.slice z0_1A z0_1k z0_1c)).set 2 (.int .i64 z1n))
  simp only [List.setIfInBounds_toArray, List.set_cons_zero, List.set_cons_succ] at hb2
  have r0 := hb2.cell 0
  have r1 := hb2.cell 1
  have r2 := hb2.cell 2
  simp only [List.getElem?_toArray, List.getElem?_cons_zero, List.getElem?_cons_succ] at r0 r1 r2
  have HB2 := Lib.hid hb2
  clear hb2
  refine bodyPost_ret (v := .agg #[.int .i64 z0_0n, .slice z0_1A z0_1k z0_1c, .int .i64 z1n]) (by simp [results, Tryz.results208, go_sem, r0, r1, r2]) rfl ?_
  exact RPost.ofF ((((Fr.refl _ _).alloc _).alloc _).alloc _) HTYS.out HST.out HF.out HTX.out ((((Fr.refl _ _).wr _ _).wr _ _).wr _ _) (by omega) (by simp) hbr (by simp only [List.flatten_cons, List.flatten_nil, List.append_nil, List.cons_append, List.nil_append])

end Go.Proofs.YtdbglgjphfkonaaGreatDoor

