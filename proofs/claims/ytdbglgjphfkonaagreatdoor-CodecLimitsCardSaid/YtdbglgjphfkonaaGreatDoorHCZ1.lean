/-
  The writer: structs (printed by gen_codec.py).
-/
import Derived.Test.YtdbglgjphfkonaaGreatDoorHCWc
import Derived.Test.YtdbglgjphfkonaaGreatDoorHCRa
namespace Go.Proofs.YtdbglgjphfkonaaGreatDoor
open Go.RowKit AC
set_option linter.unusedVariables false
set_option linter.unusedSimpArgs false

set_option maxHeartbeats 4000000 in
set_option maxRecDepth 100000 in
theorem wst_linTerm (h0 : CloW 217 .int 164 0) (h1 : CloW 218 .int 164 1) : Writes 164 (.st (ands [.int, .int])) := by
  intro w bw o v t h hrep
  have hbw := h.lt
  have HC : Hid (∀ i k s, ([217, 218] : List FuncId)[i]? = some k → ([.int, .int] : List Shape)[i]? = some s → CloW k s 164 (offs [.int, .int] i)) := by
    intro i k s hk hs
    rcases i with _ | _ | i
    · simp only [List.getElem?_cons_zero, List.getElem?_cons_succ] at hk hs; injection hk with hk; injection hs with hs; subst hk; subst hs; rw [show offs [.int, .int] 0 = 0 from by simp [offs, Shape.sz]]; exact h0
    · simp only [List.getElem?_cons_zero, List.getElem?_cons_succ] at hk hs; injection hk with hk; injection hs with hs; subst hk; subst hs; rw [show offs [.int, .int] 1 = 1 from by simp [offs, Shape.sz]]; exact h1
    · simp at hk
  obtain ⟨tx, ht, hf⟩ := hrep
  injection ht with ht _
  subst ht
  obtain ⟨hlen, vs, rfl, htys, hreps⟩ := Rep.split hf
  rw [hlen]
  have HTYS := Lib.hid htys
  have HREPS := Lib.hid hreps
  have HW := Lib.hid h
  obtain ⟨v0, _, rfl, t0, v1, _, rfl, t1, rfl⟩ := htys
  obtain ⟨z0n, rfl⟩ := ty_int t0
  obtain ⟨z1n, rfl⟩ := ty_int t1
  show Calls Tryz.prog 164 #[.pointer (some ⟨bw, 0, none⟩), .agg #[.int .i64 z0n, .int .i64 z1n]] w _
  clear h hreps hf hlen h0 h1
  go_enter Tryz.func164, Tryz.ntmps164
  go_wp2_with fail
  refine (wfields_any [.int, .int] [217, 218] 164 (by decide) rfl (by simp) HC.out _ bw w.heap.size (w.heap.size + 1) (w.heap.size + 1 + 1) o _ (fun i => tx.getD i []) (((HW.out.alloc _).alloc _).alloc _) (by simp) (((Bk.new' rfl _ _).alloc _).alloc _) ((Bk.new' (by simp) _ _).alloc _) HTYS.out (((HREPS.out.allocW _).allocW _).allocW _) (Bk.new' (by simp) _ _) (by omega) (by omega) (by omega)).mono ?_
  rintro e w1 ⟨rfl, hw1, hf1⟩
  go_wp2
  go_end0
  exact ⟨rfl, hw1, ((((Wfr.refl _ _).allocs hbw _).allocs (by simp; omega) _).allocs (by simp; omega) _).trans hf1⟩

set_option maxHeartbeats 4000000 in
set_option maxRecDepth 100000 in
theorem wst_lin (h0 : CloW 161 .int 95 0) (h1 : CloW 162 (.list linTermS) 95 1) : Writes 93 (.st (ands [.int, (.list linTermS)])) := by
  intro w bw o v t h hrep
  have hbw := h.lt
  have HC : Hid (∀ i k s, ([161, 162] : List FuncId)[i]? = some k → ([.int, (.list linTermS)] : List Shape)[i]? = some s → CloW k s 95 (offs [.int, (.list linTermS)] i)) := by
    intro i k s hk hs
    rcases i with _ | _ | i
    · simp only [List.getElem?_cons_zero, List.getElem?_cons_succ] at hk hs; injection hk with hk; injection hs with hs; subst hk; subst hs; rw [show offs [.int, (.list linTermS)] 0 = 0 from by simp [offs, Shape.sz]]; exact h0
    · simp only [List.getElem?_cons_zero, List.getElem?_cons_succ] at hk hs; injection hk with hk; injection hs with hs; subst hk; subst hs; rw [show offs [.int, (.list linTermS)] 1 = 1 from by simp [offs, Shape.sz]]; exact h1
    · simp at hk
  obtain ⟨tx, ht, hf⟩ := hrep
  injection ht with ht _
  subst ht
  obtain ⟨hlen, vs, rfl, htys, hreps⟩ := Rep.split hf
  rw [hlen]
  have HTYS := Lib.hid htys
  have HREPS := Lib.hid hreps
  have HW := Lib.hid h
  obtain ⟨v0, _, rfl, t0, v1, _, rfl, t1, rfl⟩ := htys
  obtain ⟨z0n, rfl⟩ := ty_int t0
  obtain ⟨z1A, z1k, z1c, rfl⟩ := ty_list t1
  show Calls Tryz.prog 93 #[.pointer (some ⟨bw, 0, none⟩), .agg #[.int .i64 z0n, .slice z1A z1k z1c]] w _
  clear h hreps hf hlen h0 h1
  go_enter Tryz.func93, Tryz.ntmps93
  go_wp2_with fail
  refine (wfields_any [.int, (.list linTermS)] [161, 162] 95 (by decide) rfl (by simp) HC.out _ bw w.heap.size (w.heap.size + 1) (w.heap.size + 1 + 1) o _ (fun i => tx.getD i []) (((HW.out.alloc _).alloc _).alloc _) (by simp) (((Bk.new' rfl _ _).alloc _).alloc _) ((Bk.new' (by simp) _ _).alloc _) HTYS.out (((HREPS.out.allocW _).allocW _).allocW _) (Bk.new' (by simp) _ _) (by omega) (by omega) (by omega)).mono ?_
  rintro e w1 ⟨rfl, hw1, hf1⟩
  go_wp2
  go_end0
  exact ⟨rfl, hw1, ((((Wfr.refl _ _).allocs hbw _).allocs (by simp; omega) _).allocs (by simp; omega) _).trans hf1⟩

set_option maxHeartbeats 4000000 in
set_option maxRecDepth 100000 in
theorem wst_relation (h0 : CloW 91 (.list linS) 61 0) (h1 : CloW 94 (.list linS) 61 1) : Writes 34 (.st (ands [(.list linS), (.list linS)])) := by
  intro w bw o v t h hrep
  have hbw := h.lt
  have HC : Hid (∀ i k s, ([91, 94] : List FuncId)[i]? = some k → ([(.list linS), (.list linS)] : List Shape)[i]? = some s → CloW k s 61 (offs [(.list linS), (.list linS)] i)) := by
    intro i k s hk hs
    rcases i with _ | _ | i
    · simp only [List.getElem?_cons_zero, List.getElem?_cons_succ] at hk hs; injection hk with hk; injection hs with hs; subst hk; subst hs; rw [show offs [(.list linS), (.list linS)] 0 = 0 from by simp [offs, Shape.sz]]; exact h0
    · simp only [List.getElem?_cons_zero, List.getElem?_cons_succ] at hk hs; injection hk with hk; injection hs with hs; subst hk; subst hs; rw [show offs [(.list linS), (.list linS)] 1 = 1 from by simp [offs, Shape.sz]]; exact h1
    · simp at hk
  obtain ⟨tx, ht, hf⟩ := hrep
  injection ht with ht _
  subst ht
  obtain ⟨hlen, vs, rfl, htys, hreps⟩ := Rep.split hf
  rw [hlen]
  have HTYS := Lib.hid htys
  have HREPS := Lib.hid hreps
  have HW := Lib.hid h
  obtain ⟨v0, _, rfl, t0, v1, _, rfl, t1, rfl⟩ := htys
  obtain ⟨z0A, z0k, z0c, rfl⟩ := ty_list t0
  obtain ⟨z1A, z1k, z1c, rfl⟩ := ty_list t1
  show Calls Tryz.prog 34 #[.pointer (some ⟨bw, 0, none⟩), .agg #[.slice z0A z0k z0c, .slice z1A z1k z1c]] w _
  clear h hreps hf hlen h0 h1
  go_enter Tryz.func34, Tryz.ntmps34
  go_wp2_with fail
  refine (wfields_any [(.list linS), (.list linS)] [91, 94] 61 (by decide) rfl (by simp) HC.out _ bw w.heap.size (w.heap.size + 1) (w.heap.size + 1 + 1) o _ (fun i => tx.getD i []) (((HW.out.alloc _).alloc _).alloc _) (by simp) (((Bk.new' rfl _ _).alloc _).alloc _) ((Bk.new' (by simp) _ _).alloc _) HTYS.out (((HREPS.out.allocW _).allocW _).allocW _) (Bk.new' (by simp) _ _) (by omega) (by omega) (by omega)).mono ?_
  rintro e w1 ⟨rfl, hw1, hf1⟩
  go_wp2
  go_end0
  exact ⟨rfl, hw1, ((((Wfr.refl _ _).allocs hbw _).allocs (by simp; omega) _).allocs (by simp; omega) _).trans hf1⟩

set_option maxHeartbeats 4000000 in
set_option maxRecDepth 100000 in
theorem wst_metric (h0 : CloW 88 (.list .int) 25 0) (h1 : CloW 90 (.list .int) 25 1) : Writes 31 (.st (ands [(.list .int), (.list .int)])) := by
  intro w bw o v t h hrep
  have hbw := h.lt
  have HC : Hid (∀ i k s, ([88, 90] : List FuncId)[i]? = some k → ([(.list .int), (.list .int)] : List Shape)[i]? = some s → CloW k s 25 (offs [(.list .int), (.list .int)] i)) := by
    intro i k s hk hs
    rcases i with _ | _ | i
    · simp only [List.getElem?_cons_zero, List.getElem?_cons_succ] at hk hs; injection hk with hk; injection hs with hs; subst hk; subst hs; rw [show offs [(.list .int), (.list .int)] 0 = 0 from by simp [offs, Shape.sz]]; exact h0
    · simp only [List.getElem?_cons_zero, List.getElem?_cons_succ] at hk hs; injection hk with hk; injection hs with hs; subst hk; subst hs; rw [show offs [(.list .int), (.list .int)] 1 = 1 from by simp [offs, Shape.sz]]; exact h1
    · simp at hk
  obtain ⟨tx, ht, hf⟩ := hrep
  injection ht with ht _
  subst ht
  obtain ⟨hlen, vs, rfl, htys, hreps⟩ := Rep.split hf
  rw [hlen]
  have HTYS := Lib.hid htys
  have HREPS := Lib.hid hreps
  have HW := Lib.hid h
  obtain ⟨v0, _, rfl, t0, v1, _, rfl, t1, rfl⟩ := htys
  obtain ⟨z0A, z0k, z0c, rfl⟩ := ty_list t0
  obtain ⟨z1A, z1k, z1c, rfl⟩ := ty_list t1
  show Calls Tryz.prog 31 #[.pointer (some ⟨bw, 0, none⟩), .agg #[.slice z0A z0k z0c, .slice z1A z1k z1c]] w _
  clear h hreps hf hlen h0 h1
  go_enter Tryz.func31, Tryz.ntmps31
  go_wp2_with fail
  refine (wfields_any [(.list .int), (.list .int)] [88, 90] 25 (by decide) rfl (by simp) HC.out _ bw w.heap.size (w.heap.size + 1) (w.heap.size + 1 + 1) o _ (fun i => tx.getD i []) (((HW.out.alloc _).alloc _).alloc _) (by simp) (((Bk.new' rfl _ _).alloc _).alloc _) ((Bk.new' (by simp) _ _).alloc _) HTYS.out (((HREPS.out.allocW _).allocW _).allocW _) (Bk.new' (by simp) _ _) (by omega) (by omega) (by omega)).mono ?_
  rintro e w1 ⟨rfl, hw1, hf1⟩
  go_wp2
  go_end0
  exact ⟨rfl, hw1, ((((Wfr.refl _ _).allocs hbw _).allocs (by simp; omega) _).allocs (by simp; omega) _).trans hf1⟩

set_option maxHeartbeats 4000000 in
set_option maxRecDepth 100000 in
theorem wst_typ (n : Nat) (h0 : CloW 219 .int 102 0) (h1 : CloW 220 .int 102 1) (h2 : CloW 221 (.list (typS n)) 102 2) : Writes 167 (.st (ands [.int, .int, (.list (typS n))])) := by
  intro w bw o v t h hrep
  have hbw := h.lt
  have HC : Hid (∀ i k s, ([219, 220, 221] : List FuncId)[i]? = some k → ([.int, .int, (.list (typS n))] : List Shape)[i]? = some s → CloW k s 102 (offs [.int, .int, (.list (typS n))] i)) := by
    intro i k s hk hs
    rcases i with _ | _ | _ | i
    · simp only [List.getElem?_cons_zero, List.getElem?_cons_succ] at hk hs; injection hk with hk; injection hs with hs; subst hk; subst hs; rw [show offs [.int, .int, (.list (typS n))] 0 = 0 from by simp [offs, Shape.sz]]; exact h0
    · simp only [List.getElem?_cons_zero, List.getElem?_cons_succ] at hk hs; injection hk with hk; injection hs with hs; subst hk; subst hs; rw [show offs [.int, .int, (.list (typS n))] 1 = 1 from by simp [offs, Shape.sz]]; exact h1
    · simp only [List.getElem?_cons_zero, List.getElem?_cons_succ] at hk hs; injection hk with hk; injection hs with hs; subst hk; subst hs; rw [show offs [.int, .int, (.list (typS n))] 2 = 2 from by simp [offs, Shape.sz]]; exact h2
    · simp at hk
  obtain ⟨tx, ht, hf⟩ := hrep
  injection ht with ht _
  subst ht
  obtain ⟨hlen, vs, rfl, htys, hreps⟩ := Rep.split hf
  rw [hlen]
  have HTYS := Lib.hid htys
  have HREPS := Lib.hid hreps
  have HW := Lib.hid h
  obtain ⟨v0, _, rfl, t0, v1, _, rfl, t1, v2, _, rfl, t2, rfl⟩ := htys
  obtain ⟨z0n, rfl⟩ := ty_int t0
  obtain ⟨z1n, rfl⟩ := ty_int t1
  obtain ⟨z2A, z2k, z2c, rfl⟩ := ty_list t2
  show Calls Tryz.prog 167 #[.pointer (some ⟨bw, 0, none⟩), .agg #[.int .i64 z0n, .int .i64 z1n, .slice z2A z2k z2c]] w _
  clear h hreps hf hlen h0 h1 h2
  go_enter Tryz.func167, Tryz.ntmps167
  go_wp2_with fail
  refine (wfields_any [.int, .int, (.list (typS n))] [219, 220, 221] 102 (by decide) rfl (by simp) HC.out _ bw w.heap.size (w.heap.size + 1) (w.heap.size + 1 + 1) o _ (fun i => tx.getD i []) (((HW.out.alloc _).alloc _).alloc _) (by simp) (((Bk.new' rfl _ _).alloc _).alloc _) ((Bk.new' (by simp) _ _).alloc _) HTYS.out (((HREPS.out.allocW _).allocW _).allocW _) (Bk.new' (by simp) _ _) (by omega) (by omega) (by omega)).mono ?_
  rintro e w1 ⟨rfl, hw1, hf1⟩
  go_wp2
  go_end0
  exact ⟨rfl, hw1, ((((Wfr.refl _ _).allocs hbw _).allocs (by simp; omega) _).allocs (by simp; omega) _).trans hf1⟩

end Go.Proofs.YtdbglgjphfkonaaGreatDoor

/-
  The writer: structs (printed by gen_codec.py).
-/
namespace Go.Proofs.YtdbglgjphfkonaaGreatDoor
open Go.RowKit AC
set_option linter.unusedVariables false
set_option linter.unusedSimpArgs false

set_option maxHeartbeats 4000000 in
set_option maxRecDepth 100000 in
theorem wst_store (n : Nat) (h0 : CloW 166 (typS n) 104 0) (h1 : CloW 168 (.list .int) 104 3) : Writes 101 (.st (ands [(typS n), (.list .int)])) := by
  intro w bw o v t h hrep
  have hbw := h.lt
  have HC : Hid (∀ i k s, ([166, 168] : List FuncId)[i]? = some k → ([(typS n), (.list .int)] : List Shape)[i]? = some s → CloW k s 104 (offs [(typS n), (.list .int)] i)) := by
    intro i k s hk hs
    rcases i with _ | _ | i
    · simp only [List.getElem?_cons_zero, List.getElem?_cons_succ] at hk hs; injection hk with hk; injection hs with hs; subst hk; subst hs; rw [show offs [(typS n), (.list .int)] 0 = 0 from by simp [offs, Shape.sz]]; exact h0
    · simp only [List.getElem?_cons_zero, List.getElem?_cons_succ] at hk hs; injection hk with hk; injection hs with hs; subst hk; subst hs; rw [show offs [(typS n), (.list .int)] 1 = 3 from by simp [offs, Shape.sz, sz_typ]]; exact h1
    · simp at hk
  obtain ⟨tx, ht, hf⟩ := hrep
  injection ht with ht _
  subst ht
  obtain ⟨hlen, vs, rfl, htys, hreps⟩ := Rep.split hf
  rw [hlen]
  have HTYS := Lib.hid htys
  have HREPS := Lib.hid hreps
  have HW := Lib.hid h
  obtain ⟨v0, _, rfl, t0, v1, _, rfl, t1, rfl⟩ := htys
  obtain ⟨z0_0n, z0_1n, z0_2A, z0_2k, z0_2c, rfl⟩ := ty_typ t0
  obtain ⟨z1A, z1k, z1c, rfl⟩ := ty_list t1
  show Calls Tryz.prog 101 #[.pointer (some ⟨bw, 0, none⟩), .agg #[.int .i64 z0_0n, .int .i64 z0_1n, .slice z0_2A z0_2k z0_2c, .slice z1A z1k z1c]] w _
  clear h hreps hf hlen h0 h1
  go_enter Tryz.func101, Tryz.ntmps101
  go_wp2_with fail
  refine (wfields_any [(typS n), (.list .int)] [166, 168] 104 (by decide) rfl (by simp) HC.out _ bw w.heap.size (w.heap.size + 1) (w.heap.size + 1 + 1) o _ (fun i => tx.getD i []) (((HW.out.alloc _).alloc _).alloc _) (by simp) (((Bk.new' rfl _ _).alloc _).alloc _) ((Bk.new' (by simp) _ _).alloc _) HTYS.out (((HREPS.out.allocW _).allocW _).allocW _) (Bk.new' (by simp) _ _) (by omega) (by omega) (by omega)).mono ?_
  rintro e w1 ⟨rfl, hw1, hf1⟩
  go_wp2
  go_end0
  exact ⟨rfl, hw1, ((((Wfr.refl _ _).allocs hbw _).allocs (by simp; omega) _).allocs (by simp; omega) _).trans hf1⟩

set_option maxHeartbeats 4000000 in
set_option maxRecDepth 100000 in
theorem wst_flow (n : Nat) (h0 : CloW 95 (.list (.list .int)) 30 0) (h1 : CloW 98 (.list (.list .int)) 30 1) (h2 : CloW 99 (.list (storeS n)) 30 2) : Writes 36 (.st (ands [(.list (.list .int)), (.list (.list .int)), (.list (storeS n))])) := by
  intro w bw o v t h hrep
  have hbw := h.lt
  have HC : Hid (∀ i k s, ([95, 98, 99] : List FuncId)[i]? = some k → ([(.list (.list .int)), (.list (.list .int)), (.list (storeS n))] : List Shape)[i]? = some s → CloW k s 30 (offs [(.list (.list .int)), (.list (.list .int)), (.list (storeS n))] i)) := by
    intro i k s hk hs
    rcases i with _ | _ | _ | i
    · simp only [List.getElem?_cons_zero, List.getElem?_cons_succ] at hk hs; injection hk with hk; injection hs with hs; subst hk; subst hs; rw [show offs [(.list (.list .int)), (.list (.list .int)), (.list (storeS n))] 0 = 0 from by simp [offs, Shape.sz]]; exact h0
    · simp only [List.getElem?_cons_zero, List.getElem?_cons_succ] at hk hs; injection hk with hk; injection hs with hs; subst hk; subst hs; rw [show offs [(.list (.list .int)), (.list (.list .int)), (.list (storeS n))] 1 = 1 from by simp [offs, Shape.sz]]; exact h1
    · simp only [List.getElem?_cons_zero, List.getElem?_cons_succ] at hk hs; injection hk with hk; injection hs with hs; subst hk; subst hs; rw [show offs [(.list (.list .int)), (.list (.list .int)), (.list (storeS n))] 2 = 2 from by simp [offs, Shape.sz]]; exact h2
    · simp at hk
  obtain ⟨tx, ht, hf⟩ := hrep
  injection ht with ht _
  subst ht
  obtain ⟨hlen, vs, rfl, htys, hreps⟩ := Rep.split hf
  rw [hlen]
  have HTYS := Lib.hid htys
  have HREPS := Lib.hid hreps
  have HW := Lib.hid h
  obtain ⟨v0, _, rfl, t0, v1, _, rfl, t1, v2, _, rfl, t2, rfl⟩ := htys
  obtain ⟨z0A, z0k, z0c, rfl⟩ := ty_list t0
  obtain ⟨z1A, z1k, z1c, rfl⟩ := ty_list t1
  obtain ⟨z2A, z2k, z2c, rfl⟩ := ty_list t2
  show Calls Tryz.prog 36 #[.pointer (some ⟨bw, 0, none⟩), .agg #[.slice z0A z0k z0c, .slice z1A z1k z1c, .slice z2A z2k z2c]] w _
  clear h hreps hf hlen h0 h1 h2
  go_enter Tryz.func36, Tryz.ntmps36
  go_wp2_with fail
  refine (wfields_any [(.list (.list .int)), (.list (.list .int)), (.list (storeS n))] [95, 98, 99] 30 (by decide) rfl (by simp) HC.out _ bw w.heap.size (w.heap.size + 1) (w.heap.size + 1 + 1) o _ (fun i => tx.getD i []) (((HW.out.alloc _).alloc _).alloc _) (by simp) (((Bk.new' rfl _ _).alloc _).alloc _) ((Bk.new' (by simp) _ _).alloc _) HTYS.out (((HREPS.out.allocW _).allocW _).allocW _) (Bk.new' (by simp) _ _) (by omega) (by omega) (by omega)).mono ?_
  rintro e w1 ⟨rfl, hw1, hf1⟩
  go_wp2
  go_end0
  exact ⟨rfl, hw1, ((((Wfr.refl _ _).allocs hbw _).allocs (by simp; omega) _).allocs (by simp; omega) _).trans hf1⟩

set_option maxHeartbeats 4000000 in
set_option maxRecDepth 100000 in
theorem wst_index (n : Nat) (h0 : CloW 284 .int 209 0) (h1 : CloW 285 (.list (indexS n)) 209 1) : Writes 260 (.st (ands [.int, (.list (indexS n))])) := by
  intro w bw o v t h hrep
  have hbw := h.lt
  have HC : Hid (∀ i k s, ([284, 285] : List FuncId)[i]? = some k → ([.int, (.list (indexS n))] : List Shape)[i]? = some s → CloW k s 209 (offs [.int, (.list (indexS n))] i)) := by
    intro i k s hk hs
    rcases i with _ | _ | i
    · simp only [List.getElem?_cons_zero, List.getElem?_cons_succ] at hk hs; injection hk with hk; injection hs with hs; subst hk; subst hs; rw [show offs [.int, (.list (indexS n))] 0 = 0 from by simp [offs, Shape.sz]]; exact h0
    · simp only [List.getElem?_cons_zero, List.getElem?_cons_succ] at hk hs; injection hk with hk; injection hs with hs; subst hk; subst hs; rw [show offs [.int, (.list (indexS n))] 1 = 1 from by simp [offs, Shape.sz]]; exact h1
    · simp at hk
  obtain ⟨tx, ht, hf⟩ := hrep
  injection ht with ht _
  subst ht
  obtain ⟨hlen, vs, rfl, htys, hreps⟩ := Rep.split hf
  rw [hlen]
  have HTYS := Lib.hid htys
  have HREPS := Lib.hid hreps
  have HW := Lib.hid h
  obtain ⟨v0, _, rfl, t0, v1, _, rfl, t1, rfl⟩ := htys
  obtain ⟨z0n, rfl⟩ := ty_int t0
  obtain ⟨z1A, z1k, z1c, rfl⟩ := ty_list t1
  show Calls Tryz.prog 260 #[.pointer (some ⟨bw, 0, none⟩), .agg #[.int .i64 z0n, .slice z1A z1k z1c]] w _
  clear h hreps hf hlen h0 h1
  go_enter Tryz.func260, Tryz.ntmps260
  go_wp2_with fail
  refine (wfields_any [.int, (.list (indexS n))] [284, 285] 209 (by decide) rfl (by simp) HC.out _ bw w.heap.size (w.heap.size + 1) (w.heap.size + 1 + 1) o _ (fun i => tx.getD i []) (((HW.out.alloc _).alloc _).alloc _) (by simp) (((Bk.new' rfl _ _).alloc _).alloc _) ((Bk.new' (by simp) _ _).alloc _) HTYS.out (((HREPS.out.allocW _).allocW _).allocW _) (Bk.new' (by simp) _ _) (by omega) (by omega) (by omega)).mono ?_
  rintro e w1 ⟨rfl, hw1, hf1⟩
  go_wp2
  go_end0
  exact ⟨rfl, hw1, ((((Wfr.refl _ _).allocs hbw _).allocs (by simp; omega) _).allocs (by simp; omega) _).trans hf1⟩

set_option maxHeartbeats 4000000 in
set_option maxRecDepth 100000 in
theorem wst_factor (n : Nat) (h0 : CloW 258 .int 211 0) (h1 : CloW 259 (indexS n) 211 1) : Writes 226 (.st (ands [.int, (indexS n)])) := by
  intro w bw o v t h hrep
  have hbw := h.lt
  have HC : Hid (∀ i k s, ([258, 259] : List FuncId)[i]? = some k → ([.int, (indexS n)] : List Shape)[i]? = some s → CloW k s 211 (offs [.int, (indexS n)] i)) := by
    intro i k s hk hs
    rcases i with _ | _ | i
    · simp only [List.getElem?_cons_zero, List.getElem?_cons_succ] at hk hs; injection hk with hk; injection hs with hs; subst hk; subst hs; rw [show offs [.int, (indexS n)] 0 = 0 from by simp [offs, Shape.sz]]; exact h0
    · simp only [List.getElem?_cons_zero, List.getElem?_cons_succ] at hk hs; injection hk with hk; injection hs with hs; subst hk; subst hs; rw [show offs [.int, (indexS n)] 1 = 1 from by simp [offs, Shape.sz]]; exact h1
    · simp at hk
  obtain ⟨tx, ht, hf⟩ := hrep
  injection ht with ht _
  subst ht
  obtain ⟨hlen, vs, rfl, htys, hreps⟩ := Rep.split hf
  rw [hlen]
  have HTYS := Lib.hid htys
  have HREPS := Lib.hid hreps
  have HW := Lib.hid h
  obtain ⟨v0, _, rfl, t0, v1, _, rfl, t1, rfl⟩ := htys
  obtain ⟨z0n, rfl⟩ := ty_int t0
  obtain ⟨z1_0n, z1_1A, z1_1k, z1_1c, rfl⟩ := ty_index t1
  show Calls Tryz.prog 226 #[.pointer (some ⟨bw, 0, none⟩), .agg #[.int .i64 z0n, .int .i64 z1_0n, .slice z1_1A z1_1k z1_1c]] w _
  clear h hreps hf hlen h0 h1
  go_enter Tryz.func226, Tryz.ntmps226
  go_wp2_with fail
  refine (wfields_any [.int, (indexS n)] [258, 259] 211 (by decide) rfl (by simp) HC.out _ bw w.heap.size (w.heap.size + 1) (w.heap.size + 1 + 1) o _ (fun i => tx.getD i []) (((HW.out.alloc _).alloc _).alloc _) (by simp) (((Bk.new' rfl _ _).alloc _).alloc _) ((Bk.new' (by simp) _ _).alloc _) HTYS.out (((HREPS.out.allocW _).allocW _).allocW _) (Bk.new' (by simp) _ _) (by omega) (by omega) (by omega)).mono ?_
  rintro e w1 ⟨rfl, hw1, hf1⟩
  go_wp2
  go_end0
  exact ⟨rfl, hw1, ((((Wfr.refl _ _).allocs hbw _).allocs (by simp; omega) _).allocs (by simp; omega) _).trans hf1⟩

set_option maxHeartbeats 4000000 in
set_option maxRecDepth 100000 in
theorem wst_atom (h0 : CloW 261 linS 215 0) (h1 : CloW 262 .int 215 2) : Writes 229 (.st (ands [linS, .int])) := by
  intro w bw o v t h hrep
  have hbw := h.lt
  have HC : Hid (∀ i k s, ([261, 262] : List FuncId)[i]? = some k → ([linS, .int] : List Shape)[i]? = some s → CloW k s 215 (offs [linS, .int] i)) := by
    intro i k s hk hs
    rcases i with _ | _ | i
    · simp only [List.getElem?_cons_zero, List.getElem?_cons_succ] at hk hs; injection hk with hk; injection hs with hs; subst hk; subst hs; rw [show offs [linS, .int] 0 = 0 from by simp [offs, Shape.sz]]; exact h0
    · simp only [List.getElem?_cons_zero, List.getElem?_cons_succ] at hk hs; injection hk with hk; injection hs with hs; subst hk; subst hs; rw [show offs [linS, .int] 1 = 2 from by simp [offs, Shape.sz, sz_lin]]; exact h1
    · simp at hk
  obtain ⟨tx, ht, hf⟩ := hrep
  injection ht with ht _
  subst ht
  obtain ⟨hlen, vs, rfl, htys, hreps⟩ := Rep.split hf
  rw [hlen]
  have HTYS := Lib.hid htys
  have HREPS := Lib.hid hreps
  have HW := Lib.hid h
  obtain ⟨v0, _, rfl, t0, v1, _, rfl, t1, rfl⟩ := htys
  obtain ⟨z0_0n, z0_1A, z0_1k, z0_1c, rfl⟩ := ty_lin t0
  obtain ⟨z1n, rfl⟩ := ty_int t1
  show Calls Tryz.prog 229 #[.pointer (some ⟨bw, 0, none⟩), .agg #[.int .i64 z0_0n, .slice z0_1A z0_1k z0_1c, .int .i64 z1n]] w _
  clear h hreps hf hlen h0 h1
  go_enter Tryz.func229, Tryz.ntmps229
  go_wp2_with fail
  refine (wfields_any [linS, .int] [261, 262] 215 (by decide) rfl (by simp) HC.out _ bw w.heap.size (w.heap.size + 1) (w.heap.size + 1 + 1) o _ (fun i => tx.getD i []) (((HW.out.alloc _).alloc _).alloc _) (by simp) (((Bk.new' rfl _ _).alloc _).alloc _) ((Bk.new' (by simp) _ _).alloc _) HTYS.out (((HREPS.out.allocW _).allocW _).allocW _) (Bk.new' (by simp) _ _) (by omega) (by omega) (by omega)).mono ?_
  rintro e w1 ⟨rfl, hw1, hf1⟩
  go_wp2
  go_end0
  exact ⟨rfl, hw1, ((((Wfr.refl _ _).allocs hbw _).allocs (by simp; omega) _).allocs (by simp; omega) _).trans hf1⟩

end Go.Proofs.YtdbglgjphfkonaaGreatDoor

/-
  The writer: structs (printed by gen_codec.py).
-/
namespace Go.Proofs.YtdbglgjphfkonaaGreatDoor
open Go.RowKit AC
set_option linter.unusedVariables false
set_option linter.unusedSimpArgs false

set_option maxHeartbeats 4000000 in
set_option maxRecDepth 100000 in
theorem wst_mono (n : Nat) (h0 : CloW 224 (.list (factorS n)) 114 0) (h1 : CloW 227 (.list atomS) 114 1) : Writes 173 (.st (ands [(.list (factorS n)), (.list atomS)])) := by
  intro w bw o v t h hrep
  have hbw := h.lt
  have HC : Hid (∀ i k s, ([224, 227] : List FuncId)[i]? = some k → ([(.list (factorS n)), (.list atomS)] : List Shape)[i]? = some s → CloW k s 114 (offs [(.list (factorS n)), (.list atomS)] i)) := by
    intro i k s hk hs
    rcases i with _ | _ | i
    · simp only [List.getElem?_cons_zero, List.getElem?_cons_succ] at hk hs; injection hk with hk; injection hs with hs; subst hk; subst hs; rw [show offs [(.list (factorS n)), (.list atomS)] 0 = 0 from by simp [offs, Shape.sz]]; exact h0
    · simp only [List.getElem?_cons_zero, List.getElem?_cons_succ] at hk hs; injection hk with hk; injection hs with hs; subst hk; subst hs; rw [show offs [(.list (factorS n)), (.list atomS)] 1 = 1 from by simp [offs, Shape.sz]]; exact h1
    · simp at hk
  obtain ⟨tx, ht, hf⟩ := hrep
  injection ht with ht _
  subst ht
  obtain ⟨hlen, vs, rfl, htys, hreps⟩ := Rep.split hf
  rw [hlen]
  have HTYS := Lib.hid htys
  have HREPS := Lib.hid hreps
  have HW := Lib.hid h
  obtain ⟨v0, _, rfl, t0, v1, _, rfl, t1, rfl⟩ := htys
  obtain ⟨z0A, z0k, z0c, rfl⟩ := ty_list t0
  obtain ⟨z1A, z1k, z1c, rfl⟩ := ty_list t1
  show Calls Tryz.prog 173 #[.pointer (some ⟨bw, 0, none⟩), .agg #[.slice z0A z0k z0c, .slice z1A z1k z1c]] w _
  clear h hreps hf hlen h0 h1
  go_enter Tryz.func173, Tryz.ntmps173
  go_wp2_with fail
  refine (wfields_any [(.list (factorS n)), (.list atomS)] [224, 227] 114 (by decide) rfl (by simp) HC.out _ bw w.heap.size (w.heap.size + 1) (w.heap.size + 1 + 1) o _ (fun i => tx.getD i []) (((HW.out.alloc _).alloc _).alloc _) (by simp) (((Bk.new' rfl _ _).alloc _).alloc _) ((Bk.new' (by simp) _ _).alloc _) HTYS.out (((HREPS.out.allocW _).allocW _).allocW _) (Bk.new' (by simp) _ _) (by omega) (by omega) (by omega)).mono ?_
  rintro e w1 ⟨rfl, hw1, hf1⟩
  go_wp2
  go_end0
  exact ⟨rfl, hw1, ((((Wfr.refl _ _).allocs hbw _).allocs (by simp; omega) _).allocs (by simp; omega) _).trans hf1⟩

set_option maxHeartbeats 4000000 in
set_option maxRecDepth 100000 in
theorem wst_term (n : Nat) (h0 : CloW 170 .rat 116 0) (h1 : CloW 172 (monoS n) 116 3) : Writes 108 (.st (ands [.rat, (monoS n)])) := by
  intro w bw o v t h hrep
  have hbw := h.lt
  have HC : Hid (∀ i k s, ([170, 172] : List FuncId)[i]? = some k → ([.rat, (monoS n)] : List Shape)[i]? = some s → CloW k s 116 (offs [.rat, (monoS n)] i)) := by
    intro i k s hk hs
    rcases i with _ | _ | i
    · simp only [List.getElem?_cons_zero, List.getElem?_cons_succ] at hk hs; injection hk with hk; injection hs with hs; subst hk; subst hs; rw [show offs [.rat, (monoS n)] 0 = 0 from by simp [offs, Shape.sz]]; exact h0
    · simp only [List.getElem?_cons_zero, List.getElem?_cons_succ] at hk hs; injection hk with hk; injection hs with hs; subst hk; subst hs; rw [show offs [.rat, (monoS n)] 1 = 3 from by simp [offs, Shape.sz]]; exact h1
    · simp at hk
  obtain ⟨tx, ht, hf⟩ := hrep
  injection ht with ht _
  subst ht
  obtain ⟨hlen, vs, rfl, htys, hreps⟩ := Rep.split hf
  rw [hlen]
  have HTYS := Lib.hid htys
  have HREPS := Lib.hid hreps
  have HW := Lib.hid h
  obtain ⟨v0, _, rfl, t0, v1, _, rfl, t1, rfl⟩ := htys
  obtain ⟨z0b, z0A, z0k, z0c, z0D, z0l, z0d, rfl⟩ := ty_rat t0
  obtain ⟨z1_0A, z1_0k, z1_0c, z1_1A, z1_1k, z1_1c, rfl⟩ := ty_mono t1
  show Calls Tryz.prog 108 #[.pointer (some ⟨bw, 0, none⟩), .agg #[.bool z0b, .slice z0A z0k z0c, .slice z0D z0l z0d, .slice z1_0A z1_0k z1_0c, .slice z1_1A z1_1k z1_1c]] w _
  clear h hreps hf hlen h0 h1
  go_enter Tryz.func108, Tryz.ntmps108
  go_wp2_with fail
  refine (wfields_any [.rat, (monoS n)] [170, 172] 116 (by decide) rfl (by simp) HC.out _ bw w.heap.size (w.heap.size + 1) (w.heap.size + 1 + 1) o _ (fun i => tx.getD i []) (((HW.out.alloc _).alloc _).alloc _) (by simp) (((Bk.new' rfl _ _).alloc _).alloc _) ((Bk.new' (by simp) _ _).alloc _) HTYS.out (((HREPS.out.allocW _).allocW _).allocW _) (Bk.new' (by simp) _ _) (by omega) (by omega) (by omega)).mono ?_
  rintro e w1 ⟨rfl, hw1, hf1⟩
  go_wp2
  go_end0
  exact ⟨rfl, hw1, ((((Wfr.refl _ _).allocs hbw _).allocs (by simp; omega) _).allocs (by simp; omega) _).trans hf1⟩

set_option maxHeartbeats 4000000 in
set_option maxRecDepth 100000 in
theorem wst_use (n : Nat) (h0 : CloW 230 .int 172 0) (h1 : CloW 231 .rat 172 1) (h2 : CloW 232 (monoS n) 172 4) : Writes 177 (.st (ands [.int, .rat, (monoS n)])) := by
  intro w bw o v t h hrep
  have hbw := h.lt
  have HC : Hid (∀ i k s, ([230, 231, 232] : List FuncId)[i]? = some k → ([.int, .rat, (monoS n)] : List Shape)[i]? = some s → CloW k s 172 (offs [.int, .rat, (monoS n)] i)) := by
    intro i k s hk hs
    rcases i with _ | _ | _ | i
    · simp only [List.getElem?_cons_zero, List.getElem?_cons_succ] at hk hs; injection hk with hk; injection hs with hs; subst hk; subst hs; rw [show offs [.int, .rat, (monoS n)] 0 = 0 from by simp [offs, Shape.sz]]; exact h0
    · simp only [List.getElem?_cons_zero, List.getElem?_cons_succ] at hk hs; injection hk with hk; injection hs with hs; subst hk; subst hs; rw [show offs [.int, .rat, (monoS n)] 1 = 1 from by simp [offs, Shape.sz]]; exact h1
    · simp only [List.getElem?_cons_zero, List.getElem?_cons_succ] at hk hs; injection hk with hk; injection hs with hs; subst hk; subst hs; rw [show offs [.int, .rat, (monoS n)] 2 = 4 from by simp [offs, Shape.sz]]; exact h2
    · simp at hk
  obtain ⟨tx, ht, hf⟩ := hrep
  injection ht with ht _
  subst ht
  obtain ⟨hlen, vs, rfl, htys, hreps⟩ := Rep.split hf
  rw [hlen]
  have HTYS := Lib.hid htys
  have HREPS := Lib.hid hreps
  have HW := Lib.hid h
  obtain ⟨v0, _, rfl, t0, v1, _, rfl, t1, v2, _, rfl, t2, rfl⟩ := htys
  obtain ⟨z0n, rfl⟩ := ty_int t0
  obtain ⟨z1b, z1A, z1k, z1c, z1D, z1l, z1d, rfl⟩ := ty_rat t1
  obtain ⟨z2_0A, z2_0k, z2_0c, z2_1A, z2_1k, z2_1c, rfl⟩ := ty_mono t2
  show Calls Tryz.prog 177 #[.pointer (some ⟨bw, 0, none⟩), .agg #[.int .i64 z0n, .bool z1b, .slice z1A z1k z1c, .slice z1D z1l z1d, .slice z2_0A z2_0k z2_0c, .slice z2_1A z2_1k z2_1c]] w _
  clear h hreps hf hlen h0 h1 h2
  go_enter Tryz.func177, Tryz.ntmps177
  go_wp2_with fail
  refine (wfields_any [.int, .rat, (monoS n)] [230, 231, 232] 172 (by decide) rfl (by simp) HC.out _ bw w.heap.size (w.heap.size + 1) (w.heap.size + 1 + 1) o _ (fun i => tx.getD i []) (((HW.out.alloc _).alloc _).alloc _) (by simp) (((Bk.new' rfl _ _).alloc _).alloc _) ((Bk.new' (by simp) _ _).alloc _) HTYS.out (((HREPS.out.allocW _).allocW _).allocW _) (Bk.new' (by simp) _ _) (by omega) (by omega) (by omega)).mono ?_
  rintro e w1 ⟨rfl, hw1, hf1⟩
  go_wp2
  go_end0
  exact ⟨rfl, hw1, ((((Wfr.refl _ _).allocs hbw _).allocs (by simp; omega) _).allocs (by simp; omega) _).trans hf1⟩

set_option maxHeartbeats 4000000 in
set_option maxRecDepth 100000 in
theorem wst_part (n : Nat) (h0 : CloW 179 .int 125 0) (h1 : CloW 180 .rat 125 1) (h2 : CloW 181 (monoS n) 125 4) : Writes 115 (.st (ands [.int, .rat, (monoS n)])) := by
  intro w bw o v t h hrep
  have hbw := h.lt
  have HC : Hid (∀ i k s, ([179, 180, 181] : List FuncId)[i]? = some k → ([.int, .rat, (monoS n)] : List Shape)[i]? = some s → CloW k s 125 (offs [.int, .rat, (monoS n)] i)) := by
    intro i k s hk hs
    rcases i with _ | _ | _ | i
    · simp only [List.getElem?_cons_zero, List.getElem?_cons_succ] at hk hs; injection hk with hk; injection hs with hs; subst hk; subst hs; rw [show offs [.int, .rat, (monoS n)] 0 = 0 from by simp [offs, Shape.sz]]; exact h0
    · simp only [List.getElem?_cons_zero, List.getElem?_cons_succ] at hk hs; injection hk with hk; injection hs with hs; subst hk; subst hs; rw [show offs [.int, .rat, (monoS n)] 1 = 1 from by simp [offs, Shape.sz]]; exact h1
    · simp only [List.getElem?_cons_zero, List.getElem?_cons_succ] at hk hs; injection hk with hk; injection hs with hs; subst hk; subst hs; rw [show offs [.int, .rat, (monoS n)] 2 = 4 from by simp [offs, Shape.sz]]; exact h2
    · simp at hk
  obtain ⟨tx, ht, hf⟩ := hrep
  injection ht with ht _
  subst ht
  obtain ⟨hlen, vs, rfl, htys, hreps⟩ := Rep.split hf
  rw [hlen]
  have HTYS := Lib.hid htys
  have HREPS := Lib.hid hreps
  have HW := Lib.hid h
  obtain ⟨v0, _, rfl, t0, v1, _, rfl, t1, v2, _, rfl, t2, rfl⟩ := htys
  obtain ⟨z0n, rfl⟩ := ty_int t0
  obtain ⟨z1b, z1A, z1k, z1c, z1D, z1l, z1d, rfl⟩ := ty_rat t1
  obtain ⟨z2_0A, z2_0k, z2_0c, z2_1A, z2_1k, z2_1c, rfl⟩ := ty_mono t2
  show Calls Tryz.prog 115 #[.pointer (some ⟨bw, 0, none⟩), .agg #[.int .i64 z0n, .bool z1b, .slice z1A z1k z1c, .slice z1D z1l z1d, .slice z2_0A z2_0k z2_0c, .slice z2_1A z2_1k z2_1c]] w _
  clear h hreps hf hlen h0 h1 h2
  go_enter Tryz.func115, Tryz.ntmps115
  go_wp2_with fail
  refine (wfields_any [.int, .rat, (monoS n)] [179, 180, 181] 125 (by decide) rfl (by simp) HC.out _ bw w.heap.size (w.heap.size + 1) (w.heap.size + 1 + 1) o _ (fun i => tx.getD i []) (((HW.out.alloc _).alloc _).alloc _) (by simp) (((Bk.new' rfl _ _).alloc _).alloc _) ((Bk.new' (by simp) _ _).alloc _) HTYS.out (((HREPS.out.allocW _).allocW _).allocW _) (Bk.new' (by simp) _ _) (by omega) (by omega) (by omega)).mono ?_
  rintro e w1 ⟨rfl, hw1, hf1⟩
  go_wp2
  go_end0
  exact ⟨rfl, hw1, ((((Wfr.refl _ _).allocs hbw _).allocs (by simp; omega) _).allocs (by simp; omega) _).trans hf1⟩

set_option maxHeartbeats 4000000 in
set_option maxRecDepth 100000 in
theorem wst_target (n : Nat) (h0 : CloW 174 .int 121 0) (h1 : CloW 175 (.list (useS n)) 121 1) (h2 : CloW 178 (.list (termS n)) 121 2) : Writes 112 (.st (ands [.int, (.list (useS n)), (.list (termS n))])) := by
  intro w bw o v t h hrep
  have hbw := h.lt
  have HC : Hid (∀ i k s, ([174, 175, 178] : List FuncId)[i]? = some k → ([.int, (.list (useS n)), (.list (termS n))] : List Shape)[i]? = some s → CloW k s 121 (offs [.int, (.list (useS n)), (.list (termS n))] i)) := by
    intro i k s hk hs
    rcases i with _ | _ | _ | i
    · simp only [List.getElem?_cons_zero, List.getElem?_cons_succ] at hk hs; injection hk with hk; injection hs with hs; subst hk; subst hs; rw [show offs [.int, (.list (useS n)), (.list (termS n))] 0 = 0 from by simp [offs, Shape.sz]]; exact h0
    · simp only [List.getElem?_cons_zero, List.getElem?_cons_succ] at hk hs; injection hk with hk; injection hs with hs; subst hk; subst hs; rw [show offs [.int, (.list (useS n)), (.list (termS n))] 1 = 1 from by simp [offs, Shape.sz]]; exact h1
    · simp only [List.getElem?_cons_zero, List.getElem?_cons_succ] at hk hs; injection hk with hk; injection hs with hs; subst hk; subst hs; rw [show offs [.int, (.list (useS n)), (.list (termS n))] 2 = 2 from by simp [offs, Shape.sz]]; exact h2
    · simp at hk
  obtain ⟨tx, ht, hf⟩ := hrep
  injection ht with ht _
  subst ht
  obtain ⟨hlen, vs, rfl, htys, hreps⟩ := Rep.split hf
  rw [hlen]
  have HTYS := Lib.hid htys
  have HREPS := Lib.hid hreps
  have HW := Lib.hid h
  obtain ⟨v0, _, rfl, t0, v1, _, rfl, t1, v2, _, rfl, t2, rfl⟩ := htys
  obtain ⟨z0n, rfl⟩ := ty_int t0
  obtain ⟨z1A, z1k, z1c, rfl⟩ := ty_list t1
  obtain ⟨z2A, z2k, z2c, rfl⟩ := ty_list t2
  show Calls Tryz.prog 112 #[.pointer (some ⟨bw, 0, none⟩), .agg #[.int .i64 z0n, .slice z1A z1k z1c, .slice z2A z2k z2c]] w _
  clear h hreps hf hlen h0 h1 h2
  go_enter Tryz.func112, Tryz.ntmps112
  go_wp2_with fail
  refine (wfields_any [.int, (.list (useS n)), (.list (termS n))] [174, 175, 178] 121 (by decide) rfl (by simp) HC.out _ bw w.heap.size (w.heap.size + 1) (w.heap.size + 1 + 1) o _ (fun i => tx.getD i []) (((HW.out.alloc _).alloc _).alloc _) (by simp) (((Bk.new' rfl _ _).alloc _).alloc _) ((Bk.new' (by simp) _ _).alloc _) HTYS.out (((HREPS.out.allocW _).allocW _).allocW _) (Bk.new' (by simp) _ _) (by omega) (by omega) (by omega)).mono ?_
  rintro e w1 ⟨rfl, hw1, hf1⟩
  go_wp2
  go_end0
  exact ⟨rfl, hw1, ((((Wfr.refl _ _).allocs hbw _).allocs (by simp; omega) _).allocs (by simp; omega) _).trans hf1⟩

end Go.Proofs.YtdbglgjphfkonaaGreatDoor

/-
  The writer: structs (printed by gen_codec.py).
-/
namespace Go.Proofs.YtdbglgjphfkonaaGreatDoor
open Go.RowKit AC
set_option linter.unusedVariables false
set_option linter.unusedSimpArgs false

set_option maxHeartbeats 4000000 in
set_option maxRecDepth 100000 in
theorem wst_axiom (h0 : CloW 233 .int 132 0) (h1 : CloW 234 linS 132 1) (h2 : CloW 235 linS 132 3) (h3 : CloW 236 .int 132 5) : Writes 184 (.st (ands [.int, linS, linS, .int])) := by
  intro w bw o v t h hrep
  have hbw := h.lt
  have HC : Hid (∀ i k s, ([233, 234, 235, 236] : List FuncId)[i]? = some k → ([.int, linS, linS, .int] : List Shape)[i]? = some s → CloW k s 132 (offs [.int, linS, linS, .int] i)) := by
    intro i k s hk hs
    rcases i with _ | _ | _ | _ | i
    · simp only [List.getElem?_cons_zero, List.getElem?_cons_succ] at hk hs; injection hk with hk; injection hs with hs; subst hk; subst hs; rw [show offs [.int, linS, linS, .int] 0 = 0 from by simp [offs, Shape.sz]]; exact h0
    · simp only [List.getElem?_cons_zero, List.getElem?_cons_succ] at hk hs; injection hk with hk; injection hs with hs; subst hk; subst hs; rw [show offs [.int, linS, linS, .int] 1 = 1 from by simp [offs, Shape.sz]]; exact h1
    · simp only [List.getElem?_cons_zero, List.getElem?_cons_succ] at hk hs; injection hk with hk; injection hs with hs; subst hk; subst hs; rw [show offs [.int, linS, linS, .int] 2 = 3 from by simp [offs, Shape.sz, sz_lin]]; exact h2
    · simp only [List.getElem?_cons_zero, List.getElem?_cons_succ] at hk hs; injection hk with hk; injection hs with hs; subst hk; subst hs; rw [show offs [.int, linS, linS, .int] 3 = 5 from by simp [offs, Shape.sz, sz_lin]]; exact h3
    · simp at hk
  obtain ⟨tx, ht, hf⟩ := hrep
  injection ht with ht _
  subst ht
  obtain ⟨hlen, vs, rfl, htys, hreps⟩ := Rep.split hf
  rw [hlen]
  have HTYS := Lib.hid htys
  have HREPS := Lib.hid hreps
  have HW := Lib.hid h
  obtain ⟨v0, _, rfl, t0, v1, _, rfl, t1, v2, _, rfl, t2, v3, _, rfl, t3, rfl⟩ := htys
  obtain ⟨z0n, rfl⟩ := ty_int t0
  obtain ⟨z1_0n, z1_1A, z1_1k, z1_1c, rfl⟩ := ty_lin t1
  obtain ⟨z2_0n, z2_1A, z2_1k, z2_1c, rfl⟩ := ty_lin t2
  obtain ⟨z3n, rfl⟩ := ty_int t3
  show Calls Tryz.prog 184 #[.pointer (some ⟨bw, 0, none⟩), .agg #[.int .i64 z0n, .int .i64 z1_0n, .slice z1_1A z1_1k z1_1c, .int .i64 z2_0n, .slice z2_1A z2_1k z2_1c, .int .i64 z3n]] w _
  clear h hreps hf hlen h0 h1 h2 h3
  go_enter Tryz.func184, Tryz.ntmps184
  go_wp2_with fail
  refine (wfields_any [.int, linS, linS, .int] [233, 234, 235, 236] 132 (by decide) rfl (by simp) HC.out _ bw w.heap.size (w.heap.size + 1) (w.heap.size + 1 + 1) o _ (fun i => tx.getD i []) (((HW.out.alloc _).alloc _).alloc _) (by simp) (((Bk.new' rfl _ _).alloc _).alloc _) ((Bk.new' (by simp) _ _).alloc _) HTYS.out (((HREPS.out.allocW _).allocW _).allocW _) (Bk.new' (by simp) _ _) (by omega) (by omega) (by omega)).mono ?_
  rintro e w1 ⟨rfl, hw1, hf1⟩
  go_wp2
  go_end0
  exact ⟨rfl, hw1, ((((Wfr.refl _ _).allocs hbw _).allocs (by simp; omega) _).allocs (by simp; omega) _).trans hf1⟩

set_option maxHeartbeats 4000000 in
set_option maxRecDepth 100000 in
theorem wst_axiomUse (n : Nat) (h0 : CloW 183 axS 134 0) (h1 : CloW 185 .rat 134 6) (h2 : CloW 186 (monoS n) 134 9) (h3 : CloW 187 (.list .rat) 134 11) (h4 : CloW 188 (.list .rat) 134 12) : Writes 124 (.st (ands [axS, .rat, (monoS n), (.list .rat), (.list .rat)])) := by
  intro w bw o v t h hrep
  have hbw := h.lt
  have HC : Hid (∀ i k s, ([183, 185, 186, 187, 188] : List FuncId)[i]? = some k → ([axS, .rat, (monoS n), (.list .rat), (.list .rat)] : List Shape)[i]? = some s → CloW k s 134 (offs [axS, .rat, (monoS n), (.list .rat), (.list .rat)] i)) := by
    intro i k s hk hs
    rcases i with _ | _ | _ | _ | _ | i
    · simp only [List.getElem?_cons_zero, List.getElem?_cons_succ] at hk hs; injection hk with hk; injection hs with hs; subst hk; subst hs; rw [show offs [axS, .rat, (monoS n), (.list .rat), (.list .rat)] 0 = 0 from by simp [offs, Shape.sz]]; exact h0
    · simp only [List.getElem?_cons_zero, List.getElem?_cons_succ] at hk hs; injection hk with hk; injection hs with hs; subst hk; subst hs; rw [show offs [axS, .rat, (monoS n), (.list .rat), (.list .rat)] 1 = 6 from by simp [offs, Shape.sz, sz_axiom]]; exact h1
    · simp only [List.getElem?_cons_zero, List.getElem?_cons_succ] at hk hs; injection hk with hk; injection hs with hs; subst hk; subst hs; rw [show offs [axS, .rat, (monoS n), (.list .rat), (.list .rat)] 2 = 9 from by simp [offs, Shape.sz, sz_axiom]]; exact h2
    · simp only [List.getElem?_cons_zero, List.getElem?_cons_succ] at hk hs; injection hk with hk; injection hs with hs; subst hk; subst hs; rw [show offs [axS, .rat, (monoS n), (.list .rat), (.list .rat)] 3 = 11 from by simp [offs, Shape.sz, sz_axiom, sz_mono]]; exact h3
    · simp only [List.getElem?_cons_zero, List.getElem?_cons_succ] at hk hs; injection hk with hk; injection hs with hs; subst hk; subst hs; rw [show offs [axS, .rat, (monoS n), (.list .rat), (.list .rat)] 4 = 12 from by simp [offs, Shape.sz, sz_axiom, sz_mono]]; exact h4
    · simp at hk
  obtain ⟨tx, ht, hf⟩ := hrep
  injection ht with ht _
  subst ht
  obtain ⟨hlen, vs, rfl, htys, hreps⟩ := Rep.split hf
  rw [hlen]
  have HTYS := Lib.hid htys
  have HREPS := Lib.hid hreps
  have HW := Lib.hid h
  obtain ⟨v0, _, rfl, t0, v1, _, rfl, t1, v2, _, rfl, t2, v3, _, rfl, t3, v4, _, rfl, t4, rfl⟩ := htys
  obtain ⟨z0_0n, z0_1_0n, z0_1_1A, z0_1_1k, z0_1_1c, z0_2_0n, z0_2_1A, z0_2_1k, z0_2_1c, z0_3n, rfl⟩ := ty_axiom t0
  obtain ⟨z1b, z1A, z1k, z1c, z1D, z1l, z1d, rfl⟩ := ty_rat t1
  obtain ⟨z2_0A, z2_0k, z2_0c, z2_1A, z2_1k, z2_1c, rfl⟩ := ty_mono t2
  obtain ⟨z3A, z3k, z3c, rfl⟩ := ty_list t3
  obtain ⟨z4A, z4k, z4c, rfl⟩ := ty_list t4
  show Calls Tryz.prog 124 #[.pointer (some ⟨bw, 0, none⟩), .agg #[.int .i64 z0_0n, .int .i64 z0_1_0n, .slice z0_1_1A z0_1_1k z0_1_1c, .int .i64 z0_2_0n, .slice z0_2_1A z0_2_1k z0_2_1c, .int .i64 z0_3n, .bool z1b, .slice z1A z1k z1c, .slice z1D z1l z1d, .slice z2_0A z2_0k z2_0c, .slice z2_1A z2_1k z2_1c, .slice z3A z3k z3c, .slice z4A z4k z4c]] w _
  clear h hreps hf hlen h0 h1 h2 h3 h4
  go_enter Tryz.func124, Tryz.ntmps124
  go_wp2_with fail
  refine (wfields_any [axS, .rat, (monoS n), (.list .rat), (.list .rat)] [183, 185, 186, 187, 188] 134 (by decide) rfl (by simp) HC.out _ bw w.heap.size (w.heap.size + 1) (w.heap.size + 1 + 1) o _ (fun i => tx.getD i []) (((HW.out.alloc _).alloc _).alloc _) (by simp) (((Bk.new' rfl _ _).alloc _).alloc _) ((Bk.new' (by simp) _ _).alloc _) HTYS.out (((HREPS.out.allocW _).allocW _).allocW _) (Bk.new' (by simp) _ _) (by omega) (by omega) (by omega)).mono ?_
  rintro e w1 ⟨rfl, hw1, hf1⟩
  go_wp2
  go_end0
  exact ⟨rfl, hw1, ((((Wfr.refl _ _).allocs hbw _).allocs (by simp; omega) _).allocs (by simp; omega) _).trans hf1⟩

set_option maxHeartbeats 4000000 in
set_option maxRecDepth 100000 in
theorem wst_node (n : Nat) (h0 : CloW 102 .int 72 0) (h1 : CloW 104 .int 72 1) (h2 : CloW 105 .bool 72 2) (h3 : CloW 106 (.list (termS n)) 72 3) (h4 : CloW 109 (.list (termS n)) 72 4) (h5 : CloW 110 (.list (targetS n)) 72 5) (h6 : CloW 113 (.list (useS n)) 72 6) (h7 : CloW 116 (.list (termS n)) 72 7) (h8 : CloW 117 (.list .int) 72 8) (h9 : CloW 118 (.list .rat) 72 9) (h10 : CloW 120 (.list (.list (axuS n))) 72 10) : Writes 39 (.st (ands [.int, .int, .bool, (.list (termS n)), (.list (termS n)), (.list (targetS n)), (.list (useS n)), (.list (termS n)), (.list .int), (.list .rat), (.list (.list (axuS n)))])) := by
  intro w bw o v t h hrep
  have hbw := h.lt
  have HC : Hid (∀ i k s, ([102, 104, 105, 106, 109, 110, 113, 116, 117, 118, 120] : List FuncId)[i]? = some k → ([.int, .int, .bool, (.list (termS n)), (.list (termS n)), (.list (targetS n)), (.list (useS n)), (.list (termS n)), (.list .int), (.list .rat), (.list (.list (axuS n)))] : List Shape)[i]? = some s → CloW k s 72 (offs [.int, .int, .bool, (.list (termS n)), (.list (termS n)), (.list (targetS n)), (.list (useS n)), (.list (termS n)), (.list .int), (.list .rat), (.list (.list (axuS n)))] i)) := by
    intro i k s hk hs
    rcases i with _ | _ | _ | _ | _ | _ | _ | _ | _ | _ | _ | i
    · simp only [List.getElem?_cons_zero, List.getElem?_cons_succ] at hk hs; injection hk with hk; injection hs with hs; subst hk; subst hs; rw [show offs [.int, .int, .bool, (.list (termS n)), (.list (termS n)), (.list (targetS n)), (.list (useS n)), (.list (termS n)), (.list .int), (.list .rat), (.list (.list (axuS n)))] 0 = 0 from by simp [offs, Shape.sz]]; exact h0
    · simp only [List.getElem?_cons_zero, List.getElem?_cons_succ] at hk hs; injection hk with hk; injection hs with hs; subst hk; subst hs; rw [show offs [.int, .int, .bool, (.list (termS n)), (.list (termS n)), (.list (targetS n)), (.list (useS n)), (.list (termS n)), (.list .int), (.list .rat), (.list (.list (axuS n)))] 1 = 1 from by simp [offs, Shape.sz]]; exact h1
    · simp only [List.getElem?_cons_zero, List.getElem?_cons_succ] at hk hs; injection hk with hk; injection hs with hs; subst hk; subst hs; rw [show offs [.int, .int, .bool, (.list (termS n)), (.list (termS n)), (.list (targetS n)), (.list (useS n)), (.list (termS n)), (.list .int), (.list .rat), (.list (.list (axuS n)))] 2 = 2 from by simp [offs, Shape.sz]]; exact h2
    · simp only [List.getElem?_cons_zero, List.getElem?_cons_succ] at hk hs; injection hk with hk; injection hs with hs; subst hk; subst hs; rw [show offs [.int, .int, .bool, (.list (termS n)), (.list (termS n)), (.list (targetS n)), (.list (useS n)), (.list (termS n)), (.list .int), (.list .rat), (.list (.list (axuS n)))] 3 = 3 from by simp [offs, Shape.sz]]; exact h3
    · simp only [List.getElem?_cons_zero, List.getElem?_cons_succ] at hk hs; injection hk with hk; injection hs with hs; subst hk; subst hs; rw [show offs [.int, .int, .bool, (.list (termS n)), (.list (termS n)), (.list (targetS n)), (.list (useS n)), (.list (termS n)), (.list .int), (.list .rat), (.list (.list (axuS n)))] 4 = 4 from by simp [offs, Shape.sz]]; exact h4
    · simp only [List.getElem?_cons_zero, List.getElem?_cons_succ] at hk hs; injection hk with hk; injection hs with hs; subst hk; subst hs; rw [show offs [.int, .int, .bool, (.list (termS n)), (.list (termS n)), (.list (targetS n)), (.list (useS n)), (.list (termS n)), (.list .int), (.list .rat), (.list (.list (axuS n)))] 5 = 5 from by simp [offs, Shape.sz]]; exact h5
    · simp only [List.getElem?_cons_zero, List.getElem?_cons_succ] at hk hs; injection hk with hk; injection hs with hs; subst hk; subst hs; rw [show offs [.int, .int, .bool, (.list (termS n)), (.list (termS n)), (.list (targetS n)), (.list (useS n)), (.list (termS n)), (.list .int), (.list .rat), (.list (.list (axuS n)))] 6 = 6 from by simp [offs, Shape.sz]]; exact h6
    · simp only [List.getElem?_cons_zero, List.getElem?_cons_succ] at hk hs; injection hk with hk; injection hs with hs; subst hk; subst hs; rw [show offs [.int, .int, .bool, (.list (termS n)), (.list (termS n)), (.list (targetS n)), (.list (useS n)), (.list (termS n)), (.list .int), (.list .rat), (.list (.list (axuS n)))] 7 = 7 from by simp [offs, Shape.sz]]; exact h7
    · simp only [List.getElem?_cons_zero, List.getElem?_cons_succ] at hk hs; injection hk with hk; injection hs with hs; subst hk; subst hs; rw [show offs [.int, .int, .bool, (.list (termS n)), (.list (termS n)), (.list (targetS n)), (.list (useS n)), (.list (termS n)), (.list .int), (.list .rat), (.list (.list (axuS n)))] 8 = 8 from by simp [offs, Shape.sz]]; exact h8
    · simp only [List.getElem?_cons_zero, List.getElem?_cons_succ] at hk hs; injection hk with hk; injection hs with hs; subst hk; subst hs; rw [show offs [.int, .int, .bool, (.list (termS n)), (.list (termS n)), (.list (targetS n)), (.list (useS n)), (.list (termS n)), (.list .int), (.list .rat), (.list (.list (axuS n)))] 9 = 9 from by simp [offs, Shape.sz]]; exact h9
    · simp only [List.getElem?_cons_zero, List.getElem?_cons_succ] at hk hs; injection hk with hk; injection hs with hs; subst hk; subst hs; rw [show offs [.int, .int, .bool, (.list (termS n)), (.list (termS n)), (.list (targetS n)), (.list (useS n)), (.list (termS n)), (.list .int), (.list .rat), (.list (.list (axuS n)))] 10 = 10 from by simp [offs, Shape.sz]]; exact h10
    · simp at hk
  obtain ⟨tx, ht, hf⟩ := hrep
  injection ht with ht _
  subst ht
  obtain ⟨hlen, vs, rfl, htys, hreps⟩ := Rep.split hf
  rw [hlen]
  have HTYS := Lib.hid htys
  have HREPS := Lib.hid hreps
  have HW := Lib.hid h
  obtain ⟨v0, _, rfl, t0, v1, _, rfl, t1, v2, _, rfl, t2, v3, _, rfl, t3, v4, _, rfl, t4, v5, _, rfl, t5, v6, _, rfl, t6, v7, _, rfl, t7, v8, _, rfl, t8, v9, _, rfl, t9, v10, _, rfl, t10, rfl⟩ := htys
  obtain ⟨z0n, rfl⟩ := ty_int t0
  obtain ⟨z1n, rfl⟩ := ty_int t1
  obtain ⟨z2b, rfl⟩ := ty_bool t2
  obtain ⟨z3A, z3k, z3c, rfl⟩ := ty_list t3
  obtain ⟨z4A, z4k, z4c, rfl⟩ := ty_list t4
  obtain ⟨z5A, z5k, z5c, rfl⟩ := ty_list t5
  obtain ⟨z6A, z6k, z6c, rfl⟩ := ty_list t6
  obtain ⟨z7A, z7k, z7c, rfl⟩ := ty_list t7
  obtain ⟨z8A, z8k, z8c, rfl⟩ := ty_list t8
  obtain ⟨z9A, z9k, z9c, rfl⟩ := ty_list t9
  obtain ⟨z10A, z10k, z10c, rfl⟩ := ty_list t10
  show Calls Tryz.prog 39 #[.pointer (some ⟨bw, 0, none⟩), .agg #[.int .i64 z0n, .int .i64 z1n, .bool z2b, .slice z3A z3k z3c, .slice z4A z4k z4c, .slice z5A z5k z5c, .slice z6A z6k z6c, .slice z7A z7k z7c, .slice z8A z8k z8c, .slice z9A z9k z9c, .slice z10A z10k z10c]] w _
  clear h hreps hf hlen h0 h1 h2 h3 h4 h5 h6 h7 h8 h9 h10
  go_enter Tryz.func39, Tryz.ntmps39
  go_wp2_with fail
  refine (wfields_any [.int, .int, .bool, (.list (termS n)), (.list (termS n)), (.list (targetS n)), (.list (useS n)), (.list (termS n)), (.list .int), (.list .rat), (.list (.list (axuS n)))] [102, 104, 105, 106, 109, 110, 113, 116, 117, 118, 120] 72 (by decide) rfl (by simp) HC.out _ bw w.heap.size (w.heap.size + 1) (w.heap.size + 1 + 1) o _ (fun i => tx.getD i []) (((HW.out.alloc _).alloc _).alloc _) (by simp) (((Bk.new' rfl _ _).alloc _).alloc _) ((Bk.new' (by simp) _ _).alloc _) HTYS.out (((HREPS.out.allocW _).allocW _).allocW _) (Bk.new' (by simp) _ _) (by omega) (by omega) (by omega)).mono ?_
  rintro e w1 ⟨rfl, hw1, hf1⟩
  go_wp2
  go_end0
  exact ⟨rfl, hw1, ((((Wfr.refl _ _).allocs hbw _).allocs (by simp; omega) _).allocs (by simp; omega) _).trans hf1⟩

set_option maxHeartbeats 4000000 in
set_option maxRecDepth 100000 in
theorem wst_claim (h0 : CloW 125 .int 76 0) (h1 : CloW 126 .int 76 1) : Writes 42 (.st (ands [.int, .int])) := by
  intro w bw o v t h hrep
  have hbw := h.lt
  have HC : Hid (∀ i k s, ([125, 126] : List FuncId)[i]? = some k → ([.int, .int] : List Shape)[i]? = some s → CloW k s 76 (offs [.int, .int] i)) := by
    intro i k s hk hs
    rcases i with _ | _ | i
    · simp only [List.getElem?_cons_zero, List.getElem?_cons_succ] at hk hs; injection hk with hk; injection hs with hs; subst hk; subst hs; rw [show offs [.int, .int] 0 = 0 from by simp [offs, Shape.sz]]; exact h0
    · simp only [List.getElem?_cons_zero, List.getElem?_cons_succ] at hk hs; injection hk with hk; injection hs with hs; subst hk; subst hs; rw [show offs [.int, .int] 1 = 1 from by simp [offs, Shape.sz]]; exact h1
    · simp at hk
  obtain ⟨tx, ht, hf⟩ := hrep
  injection ht with ht _
  subst ht
  obtain ⟨hlen, vs, rfl, htys, hreps⟩ := Rep.split hf
  rw [hlen]
  have HTYS := Lib.hid htys
  have HREPS := Lib.hid hreps
  have HW := Lib.hid h
  obtain ⟨v0, _, rfl, t0, v1, _, rfl, t1, rfl⟩ := htys
  obtain ⟨z0n, rfl⟩ := ty_int t0
  obtain ⟨z1n, rfl⟩ := ty_int t1
  show Calls Tryz.prog 42 #[.pointer (some ⟨bw, 0, none⟩), .agg #[.int .i64 z0n, .int .i64 z1n]] w _
  clear h hreps hf hlen h0 h1
  go_enter Tryz.func42, Tryz.ntmps42
  go_wp2_with fail
  refine (wfields_any [.int, .int] [125, 126] 76 (by decide) rfl (by simp) HC.out _ bw w.heap.size (w.heap.size + 1) (w.heap.size + 1 + 1) o _ (fun i => tx.getD i []) (((HW.out.alloc _).alloc _).alloc _) (by simp) (((Bk.new' rfl _ _).alloc _).alloc _) ((Bk.new' (by simp) _ _).alloc _) HTYS.out (((HREPS.out.allocW _).allocW _).allocW _) (Bk.new' (by simp) _ _) (by omega) (by omega) (by omega)).mono ?_
  rintro e w1 ⟨rfl, hw1, hf1⟩
  go_wp2
  go_end0
  exact ⟨rfl, hw1, ((((Wfr.refl _ _).allocs hbw _).allocs (by simp; omega) _).allocs (by simp; omega) _).trans hf1⟩

set_option maxHeartbeats 4000000 in
set_option maxRecDepth 100000 in
theorem wst_cert (n : Nat) (h0 : CloW 28 .bool 34 0) (h1 : CloW 30 metricS 34 1) (h2 : CloW 32 (.list relationS) 34 3) (h3 : CloW 35 (flowS n) 34 4) (h4 : CloW 37 (.list (nodeS n)) 34 7) (h5 : CloW 40 (.list claimS) 34 8) : Writes 9 (.st (ands [.bool, metricS, (.list relationS), (flowS n), (.list (nodeS n)), (.list claimS)])) := by
  intro w bw o v t h hrep
  have hbw := h.lt
  have HC : Hid (∀ i k s, ([28, 30, 32, 35, 37, 40] : List FuncId)[i]? = some k → ([.bool, metricS, (.list relationS), (flowS n), (.list (nodeS n)), (.list claimS)] : List Shape)[i]? = some s → CloW k s 34 (offs [.bool, metricS, (.list relationS), (flowS n), (.list (nodeS n)), (.list claimS)] i)) := by
    intro i k s hk hs
    rcases i with _ | _ | _ | _ | _ | _ | i
    · simp only [List.getElem?_cons_zero, List.getElem?_cons_succ] at hk hs; injection hk with hk; injection hs with hs; subst hk; subst hs; rw [show offs [.bool, metricS, (.list relationS), (flowS n), (.list (nodeS n)), (.list claimS)] 0 = 0 from by simp [offs, Shape.sz]]; exact h0
    · simp only [List.getElem?_cons_zero, List.getElem?_cons_succ] at hk hs; injection hk with hk; injection hs with hs; subst hk; subst hs; rw [show offs [.bool, metricS, (.list relationS), (flowS n), (.list (nodeS n)), (.list claimS)] 1 = 1 from by simp [offs, Shape.sz]]; exact h1
    · simp only [List.getElem?_cons_zero, List.getElem?_cons_succ] at hk hs; injection hk with hk; injection hs with hs; subst hk; subst hs; rw [show offs [.bool, metricS, (.list relationS), (flowS n), (.list (nodeS n)), (.list claimS)] 2 = 3 from by simp [offs, Shape.sz, sz_metric]]; exact h2
    · simp only [List.getElem?_cons_zero, List.getElem?_cons_succ] at hk hs; injection hk with hk; injection hs with hs; subst hk; subst hs; rw [show offs [.bool, metricS, (.list relationS), (flowS n), (.list (nodeS n)), (.list claimS)] 3 = 4 from by simp [offs, Shape.sz, sz_metric]]; exact h3
    · simp only [List.getElem?_cons_zero, List.getElem?_cons_succ] at hk hs; injection hk with hk; injection hs with hs; subst hk; subst hs; rw [show offs [.bool, metricS, (.list relationS), (flowS n), (.list (nodeS n)), (.list claimS)] 4 = 7 from by simp [offs, Shape.sz, sz_metric, sz_flow]]; exact h4
    · simp only [List.getElem?_cons_zero, List.getElem?_cons_succ] at hk hs; injection hk with hk; injection hs with hs; subst hk; subst hs; rw [show offs [.bool, metricS, (.list relationS), (flowS n), (.list (nodeS n)), (.list claimS)] 5 = 8 from by simp [offs, Shape.sz, sz_metric, sz_flow]]; exact h5
    · simp at hk
  obtain ⟨tx, ht, hf⟩ := hrep
  injection ht with ht _
  subst ht
  obtain ⟨hlen, vs, rfl, htys, hreps⟩ := Rep.split hf
  rw [hlen]
  have HTYS := Lib.hid htys
  have HREPS := Lib.hid hreps
  have HW := Lib.hid h
  obtain ⟨v0, _, rfl, t0, v1, _, rfl, t1, v2, _, rfl, t2, v3, _, rfl, t3, v4, _, rfl, t4, v5, _, rfl, t5, rfl⟩ := htys
  obtain ⟨z0b, rfl⟩ := ty_bool t0
  obtain ⟨z1_0A, z1_0k, z1_0c, z1_1A, z1_1k, z1_1c, rfl⟩ := ty_metric t1
  obtain ⟨z2A, z2k, z2c, rfl⟩ := ty_list t2
  obtain ⟨z3_0A, z3_0k, z3_0c, z3_1A, z3_1k, z3_1c, z3_2A, z3_2k, z3_2c, rfl⟩ := ty_flow t3
  obtain ⟨z4A, z4k, z4c, rfl⟩ := ty_list t4
  obtain ⟨z5A, z5k, z5c, rfl⟩ := ty_list t5
  show Calls Tryz.prog 9 #[.pointer (some ⟨bw, 0, none⟩), .agg #[.bool z0b, .slice z1_0A z1_0k z1_0c, .slice z1_1A z1_1k z1_1c, .slice z2A z2k z2c, .slice z3_0A z3_0k z3_0c, .slice z3_1A z3_1k z3_1c, .slice z3_2A z3_2k z3_2c, .slice z4A z4k z4c, .slice z5A z5k z5c]] w _
  clear h hreps hf hlen h0 h1 h2 h3 h4 h5
  go_enter Tryz.func9, Tryz.ntmps9
  go_wp2_with fail
  refine (wfields_any [.bool, metricS, (.list relationS), (flowS n), (.list (nodeS n)), (.list claimS)] [28, 30, 32, 35, 37, 40] 34 (by decide) rfl (by simp) HC.out _ bw w.heap.size (w.heap.size + 1) (w.heap.size + 1 + 1) o _ (fun i => tx.getD i []) (((HW.out.alloc _).alloc _).alloc _) (by simp) (((Bk.new' rfl _ _).alloc _).alloc _) ((Bk.new' (by simp) _ _).alloc _) HTYS.out (((HREPS.out.allocW _).allocW _).allocW _) (Bk.new' (by simp) _ _) (by omega) (by omega) (by omega)).mono ?_
  rintro e w1 ⟨rfl, hw1, hf1⟩
  go_wp2
  go_end0
  exact ⟨rfl, hw1, ((((Wfr.refl _ _).allocs hbw _).allocs (by simp; omega) _).allocs (by simp; omega) _).trans hf1⟩

end Go.Proofs.YtdbglgjphfkonaaGreatDoor

