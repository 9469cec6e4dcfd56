/-
 The writer: structs (printed by gen_codec.py).
-/
import Derived.Test.YtpbdkkoanedimaaGreatDoorHCWa
import Derived.Test.YtpbdkkoanedimaaGreatDoorHCRa
namespace Go.Proofs.YtpbdkkoanedimaaGreatDoor
open Go.Lib (hid)
open Go.RowKit AC
set_option linter.unusedVariables false
set_option linter.unusedSimpArgs false
set_option maxHeartbeats 4000000 in
set_option maxRecDepth 100000 in
theorem wst_linTerm (h0 : CloW 259 .int 195 0) (h1 : CloW 260 .int 195 1) : Writes 196 (.st (ands [.int, .int])) := by
 intro w bw o v t h hrep
 have hbw := h.lt
 have HC : Hid (∀ i k s, ([259, 260] : List FuncId)[i]? = some k → ([.int, .int] : List Shape)[i]? = some s → CloW k s 195 (offs [.int, .int] i)) := by
  intro i k s hk hs
  rcases i with _ | _ | i
  ·simp only [gq] at hk hs; injection hk with hk; injection hs with hs; subst hk; subst hs; rw [show offs [.int, .int] 0 = 0 from by simp [offs, Shape.sz]]; exact h0
  ·simp only [gq] at hk hs; injection hk with hk; injection hs with hs; subst hk; subst hs; rw [show offs [.int, .int] 1 = 1 from by simp [offs, Shape.sz]]; exact h1
  ·simp at hk
 obtain ⟨tx, ht, hf⟩ := hrep
 injection ht with ht _
 subst ht
 obtain ⟨hlen, vs, rfl, htys, hreps⟩ := Rep.split hf
 rw [hlen]
 have HTYS := hid htys
 have HREPS := hid hreps
 have HW := hid h
 obtain ⟨v0, _, rfl, t0, v1, _, rfl, t1, rfl⟩ := htys
 obtain ⟨z0n, rfl⟩ := ty_int t0
 obtain ⟨z1n, rfl⟩ := ty_int t1
 show Calls Tryz.prog 196 #[.pointer (some ⟨bw, 0, none⟩), .agg #[.int .i64 z0n, .int .i64 z1n]] w _
 clear h hreps hf hlen h0 h1
 go_enter Tryz.func196, Tryz.ntmps196
 go_wp2_with fail
 refine (wfields_any [.int, .int] [259, 260] 195 (by decide) rfl (by simp) HC.out _ bw w.heap.size (w.heap.size + 1) (w.heap.size + 1 + 1) o _ (fun i => tx.getD i []) (((HW.out.alloc _).alloc _).alloc _) (by simp) (((Bk.new' rfl _ _).alloc _).alloc _) ((Bk.new' (by simp) _ _).alloc _) HTYS.out (((HREPS.out.allocW _).allocW _).allocW _) (Bk.new' (by simp) _ _) (by omega) (by omega) (by omega)).mono ?_
 rintro e w1 ⟨rfl, hw1, hf1⟩
 go_wp2
 go_end0
 exact ⟨rfl, hw1, ((((Wfr.refl _ _).allocs hbw _).allocs (by simp; omega) _).allocs (by simp; omega) _).trans hf1⟩
set_option maxHeartbeats 4000000 in
set_option maxRecDepth 100000 in
theorem wst_lin (h0 : CloW 193 .int 130 0) (h1 : CloW 194 (.list linTermS) 130 1) : Writes 102 (.st (ands [.int, (.list linTermS)])) := by
 intro w bw o v t h hrep
 have hbw := h.lt
 have HC : Hid (∀ i k s, ([193, 194] : List FuncId)[i]? = some k → ([.int, (.list linTermS)] : List Shape)[i]? = some s → CloW k s 130 (offs [.int, (.list linTermS)] i)) := by
  intro i k s hk hs
  rcases i with _ | _ | i
  ·simp only [gq] at hk hs; injection hk with hk; injection hs with hs; subst hk; subst hs; rw [show offs [.int, (.list linTermS)] 0 = 0 from by simp [offs, Shape.sz]]; exact h0
  ·simp only [gq] at hk hs; injection hk with hk; injection hs with hs; subst hk; subst hs; rw [show offs [.int, (.list linTermS)] 1 = 1 from by simp [offs, Shape.sz]]; exact h1
  ·simp at hk
 obtain ⟨tx, ht, hf⟩ := hrep
 injection ht with ht _
 subst ht
 obtain ⟨hlen, vs, rfl, htys, hreps⟩ := Rep.split hf
 rw [hlen]
 have HTYS := hid htys
 have HREPS := hid hreps
 have HW := hid h
 obtain ⟨v0, _, rfl, t0, v1, _, rfl, t1, rfl⟩ := htys
 obtain ⟨z0n, rfl⟩ := ty_int t0
 obtain ⟨z1A, z1k, z1c, rfl⟩ := ty_list t1
 show Calls Tryz.prog 102 #[.pointer (some ⟨bw, 0, none⟩), .agg #[.int .i64 z0n, .slice z1A z1k z1c]] w _
 clear h hreps hf hlen h0 h1
 go_enter Tryz.func102, Tryz.ntmps102
 go_wp2_with fail
 refine (wfields_any [.int, (.list linTermS)] [193, 194] 130 (by decide) rfl (by simp) HC.out _ bw w.heap.size (w.heap.size + 1) (w.heap.size + 1 + 1) o _ (fun i => tx.getD i []) (((HW.out.alloc _).alloc _).alloc _) (by simp) (((Bk.new' rfl _ _).alloc _).alloc _) ((Bk.new' (by simp) _ _).alloc _) HTYS.out (((HREPS.out.allocW _).allocW _).allocW _) (Bk.new' (by simp) _ _) (by omega) (by omega) (by omega)).mono ?_
 rintro e w1 ⟨rfl, hw1, hf1⟩
 go_wp2
 go_end0
 exact ⟨rfl, hw1, ((((Wfr.refl _ _).allocs hbw _).allocs (by simp; omega) _).allocs (by simp; omega) _).trans hf1⟩
set_option maxHeartbeats 4000000 in
set_option maxRecDepth 100000 in
theorem wst_relation (h0 : CloW 100 (.list linS) 87 0) (h1 : CloW 103 (.list linS) 87 1) : Writes 51 (.st (ands [(.list linS), (.list linS)])) := by
 intro w bw o v t h hrep
 have hbw := h.lt
 have HC : Hid (∀ i k s, ([100, 103] : List FuncId)[i]? = some k → ([(.list linS), (.list linS)] : List Shape)[i]? = some s → CloW k s 87 (offs [(.list linS), (.list linS)] i)) := by
  intro i k s hk hs
  rcases i with _ | _ | i
  ·simp only [gq] at hk hs; injection hk with hk; injection hs with hs; subst hk; subst hs; rw [show offs [(.list linS), (.list linS)] 0 = 0 from by simp [offs, Shape.sz]]; exact h0
  ·simp only [gq] at hk hs; injection hk with hk; injection hs with hs; subst hk; subst hs; rw [show offs [(.list linS), (.list linS)] 1 = 1 from by simp [offs, Shape.sz]]; exact h1
  ·simp at hk
 obtain ⟨tx, ht, hf⟩ := hrep
 injection ht with ht _
 subst ht
 obtain ⟨hlen, vs, rfl, htys, hreps⟩ := Rep.split hf
 rw [hlen]
 have HTYS := hid htys
 have HREPS := hid hreps
 have HW := hid h
 obtain ⟨v0, _, rfl, t0, v1, _, rfl, t1, rfl⟩ := htys
 obtain ⟨z0A, z0k, z0c, rfl⟩ := ty_list t0
 obtain ⟨z1A, z1k, z1c, rfl⟩ := ty_list t1
 show Calls Tryz.prog 51 #[.pointer (some ⟨bw, 0, none⟩), .agg #[.slice z0A z0k z0c, .slice z1A z1k z1c]] w _
 clear h hreps hf hlen h0 h1
 go_enter Tryz.func51, Tryz.ntmps51
 go_wp2_with fail
 refine (wfields_any [(.list linS), (.list linS)] [100, 103] 87 (by decide) rfl (by simp) HC.out _ bw w.heap.size (w.heap.size + 1) (w.heap.size + 1 + 1) o _ (fun i => tx.getD i []) (((HW.out.alloc _).alloc _).alloc _) (by simp) (((Bk.new' rfl _ _).alloc _).alloc _) ((Bk.new' (by simp) _ _).alloc _) HTYS.out (((HREPS.out.allocW _).allocW _).allocW _) (Bk.new' (by simp) _ _) (by omega) (by omega) (by omega)).mono ?_
 rintro e w1 ⟨rfl, hw1, hf1⟩
 go_wp2
 go_end0
 exact ⟨rfl, hw1, ((((Wfr.refl _ _).allocs hbw _).allocs (by simp; omega) _).allocs (by simp; omega) _).trans hf1⟩
set_option maxHeartbeats 4000000 in
set_option maxRecDepth 100000 in
theorem wst_metric (h0 : CloW 97 (.list .int) 24 0) (h1 : CloW 99 (.list .int) 24 1) : Writes 48 (.st (ands [(.list .int), (.list .int)])) := by
 intro w bw o v t h hrep
 have hbw := h.lt
 have HC : Hid (∀ i k s, ([97, 99] : List FuncId)[i]? = some k → ([(.list .int), (.list .int)] : List Shape)[i]? = some s → CloW k s 24 (offs [(.list .int), (.list .int)] i)) := by
  intro i k s hk hs
  rcases i with _ | _ | i
  ·simp only [gq] at hk hs; injection hk with hk; injection hs with hs; subst hk; subst hs; rw [show offs [(.list .int), (.list .int)] 0 = 0 from by simp [offs, Shape.sz]]; exact h0
  ·simp only [gq] at hk hs; injection hk with hk; injection hs with hs; subst hk; subst hs; rw [show offs [(.list .int), (.list .int)] 1 = 1 from by simp [offs, Shape.sz]]; exact h1
  ·simp at hk
 obtain ⟨tx, ht, hf⟩ := hrep
 injection ht with ht _
 subst ht
 obtain ⟨hlen, vs, rfl, htys, hreps⟩ := Rep.split hf
 rw [hlen]
 have HTYS := hid htys
 have HREPS := hid hreps
 have HW := hid h
 obtain ⟨v0, _, rfl, t0, v1, _, rfl, t1, rfl⟩ := htys
 obtain ⟨z0A, z0k, z0c, rfl⟩ := ty_list t0
 obtain ⟨z1A, z1k, z1c, rfl⟩ := ty_list t1
 show Calls Tryz.prog 48 #[.pointer (some ⟨bw, 0, none⟩), .agg #[.slice z0A z0k z0c, .slice z1A z1k z1c]] w _
 clear h hreps hf hlen h0 h1
 go_enter Tryz.func48, Tryz.ntmps48
 go_wp2_with fail
 refine (wfields_any [(.list .int), (.list .int)] [97, 99] 24 (by decide) rfl (by simp) HC.out _ bw w.heap.size (w.heap.size + 1) (w.heap.size + 1 + 1) o _ (fun i => tx.getD i []) (((HW.out.alloc _).alloc _).alloc _) (by simp) (((Bk.new' rfl _ _).alloc _).alloc _) ((Bk.new' (by simp) _ _).alloc _) HTYS.out (((HREPS.out.allocW _).allocW _).allocW _) (Bk.new' (by simp) _ _) (by omega) (by omega) (by omega)).mono ?_
 rintro e w1 ⟨rfl, hw1, hf1⟩
 go_wp2
 go_end0
 exact ⟨rfl, hw1, ((((Wfr.refl _ _).allocs hbw _).allocs (by simp; omega) _).allocs (by simp; omega) _).trans hf1⟩
set_option maxHeartbeats 4000000 in
set_option maxRecDepth 100000 in
theorem wst_typ (n : Nat) (h0 : CloW 261 .int 92 0) (h1 : CloW 262 .int 92 1) (h2 : CloW 263 (.list (typS n)) 92 2) : Writes 199 (.st (ands [.int, .int, (.list (typS n))])) := by
 intro w bw o v t h hrep
 have hbw := h.lt
 have HC : Hid (∀ i k s, ([261, 262, 263] : List FuncId)[i]? = some k → ([.int, .int, (.list (typS n))] : List Shape)[i]? = some s → CloW k s 92 (offs [.int, .int, (.list (typS n))] i)) := by
  intro i k s hk hs
  rcases i with _ | _ | _ | i
  ·simp only [gq] at hk hs; injection hk with hk; injection hs with hs; subst hk; subst hs; rw [show offs [.int, .int, (.list (typS n))] 0 = 0 from by simp [offs, Shape.sz]]; exact h0
  ·simp only [gq] at hk hs; injection hk with hk; injection hs with hs; subst hk; subst hs; rw [show offs [.int, .int, (.list (typS n))] 1 = 1 from by simp [offs, Shape.sz]]; exact h1
  ·simp only [gq] at hk hs; injection hk with hk; injection hs with hs; subst hk; subst hs; rw [show offs [.int, .int, (.list (typS n))] 2 = 2 from by simp [offs, Shape.sz]]; exact h2
  ·simp at hk
 obtain ⟨tx, ht, hf⟩ := hrep
 injection ht with ht _
 subst ht
 obtain ⟨hlen, vs, rfl, htys, hreps⟩ := Rep.split hf
 rw [hlen]
 have HTYS := hid htys
 have HREPS := hid hreps
 have HW := hid h
 obtain ⟨v0, _, rfl, t0, v1, _, rfl, t1, v2, _, rfl, t2, rfl⟩ := htys
 obtain ⟨z0n, rfl⟩ := ty_int t0
 obtain ⟨z1n, rfl⟩ := ty_int t1
 obtain ⟨z2A, z2k, z2c, rfl⟩ := ty_list t2
 show Calls Tryz.prog 199 #[.pointer (some ⟨bw, 0, none⟩), .agg #[.int .i64 z0n, .int .i64 z1n, .slice z2A z2k z2c]] w _
 clear h hreps hf hlen h0 h1 h2
 go_enter Tryz.func199, Tryz.ntmps199
 go_wp2_with fail
 refine (wfields_any [.int, .int, (.list (typS n))] [261, 262, 263] 92 (by decide) rfl (by simp) HC.out _ bw w.heap.size (w.heap.size + 1) (w.heap.size + 1 + 1) o _ (fun i => tx.getD i []) (((HW.out.alloc _).alloc _).alloc _) (by simp) (((Bk.new' rfl _ _).alloc _).alloc _) ((Bk.new' (by simp) _ _).alloc _) HTYS.out (((HREPS.out.allocW _).allocW _).allocW _) (Bk.new' (by simp) _ _) (by omega) (by omega) (by omega)).mono ?_
 rintro e w1 ⟨rfl, hw1, hf1⟩
 go_wp2
 go_end0
 exact ⟨rfl, hw1, ((((Wfr.refl _ _).allocs hbw _).allocs (by simp; omega) _).allocs (by simp; omega) _).trans hf1⟩
set_option maxHeartbeats 4000000 in
set_option maxRecDepth 100000 in
theorem wst_store (n : Nat) (h0 : CloW 198 (typS n) 94 0) (h1 : CloW 200 (.list .int) 94 3) : Writes 110 (.st (ands [(typS n), (.list .int)])) := by
 intro w bw o v t h hrep
 have hbw := h.lt
 have HC : Hid (∀ i k s, ([198, 200] : List FuncId)[i]? = some k → ([(typS n), (.list .int)] : List Shape)[i]? = some s → CloW k s 94 (offs [(typS n), (.list .int)] i)) := by
  intro i k s hk hs
  rcases i with _ | _ | i
  ·simp only [gq] at hk hs; injection hk with hk; injection hs with hs; subst hk; subst hs; rw [show offs [(typS n), (.list .int)] 0 = 0 from by simp [offs, Shape.sz]]; exact h0
  ·simp only [gq] at hk hs; injection hk with hk; injection hs with hs; subst hk; subst hs; rw [show offs [(typS n), (.list .int)] 1 = 3 from by simp [offs, Shape.sz, sz_typ]]; exact h1
  ·simp at hk
 obtain ⟨tx, ht, hf⟩ := hrep
 injection ht with ht _
 subst ht
 obtain ⟨hlen, vs, rfl, htys, hreps⟩ := Rep.split hf
 rw [hlen]
 have HTYS := hid htys
 have HREPS := hid hreps
 have HW := hid h
 obtain ⟨v0, _, rfl, t0, v1, _, rfl, t1, rfl⟩ := htys
 obtain ⟨z0_0n, z0_1n, z0_2A, z0_2k, z0_2c, rfl⟩ := ty_typ t0
 obtain ⟨z1A, z1k, z1c, rfl⟩ := ty_list t1
 show Calls Tryz.prog 110 #[.pointer (some ⟨bw, 0, none⟩), .agg #[.int .i64 z0_0n, .int .i64 z0_1n, .slice z0_2A z0_2k z0_2c, .slice z1A z1k z1c]] w _
 clear h hreps hf hlen h0 h1
 go_enter Tryz.func110, Tryz.ntmps110
 go_wp2_with fail
 refine (wfields_any [(typS n), (.list .int)] [198, 200] 94 (by decide) rfl (by simp) HC.out _ bw w.heap.size (w.heap.size + 1) (w.heap.size + 1 + 1) o _ (fun i => tx.getD i []) (((HW.out.alloc _).alloc _).alloc _) (by simp) (((Bk.new' rfl _ _).alloc _).alloc _) ((Bk.new' (by simp) _ _).alloc _) HTYS.out (((HREPS.out.allocW _).allocW _).allocW _) (Bk.new' (by simp) _ _) (by omega) (by omega) (by omega)).mono ?_
 rintro e w1 ⟨rfl, hw1, hf1⟩
 go_wp2
 go_end0
 exact ⟨rfl, hw1, ((((Wfr.refl _ _).allocs hbw _).allocs (by simp; omega) _).allocs (by simp; omega) _).trans hf1⟩
set_option maxHeartbeats 4000000 in
set_option maxRecDepth 100000 in
theorem wst_flow (n : Nat) (h0 : CloW 104 (.list (.list .int)) 29 0) (h1 : CloW 107 (.list (.list .int)) 29 1) (h2 : CloW 108 (.list (storeS n)) 29 2) : Writes 53 (.st (ands [(.list (.list .int)), (.list (.list .int)), (.list (storeS n))])) := by
 intro w bw o v t h hrep
 have hbw := h.lt
 have HC : Hid (∀ i k s, ([104, 107, 108] : List FuncId)[i]? = some k → ([(.list (.list .int)), (.list (.list .int)), (.list (storeS n))] : List Shape)[i]? = some s → CloW k s 29 (offs [(.list (.list .int)), (.list (.list .int)), (.list (storeS n))] i)) := by
  intro i k s hk hs
  rcases i with _ | _ | _ | i
  ·simp only [gq] at hk hs; injection hk with hk; injection hs with hs; subst hk; subst hs; rw [show offs [(.list (.list .int)), (.list (.list .int)), (.list (storeS n))] 0 = 0 from by simp [offs, Shape.sz]]; exact h0
  ·simp only [gq] at hk hs; injection hk with hk; injection hs with hs; subst hk; subst hs; rw [show offs [(.list (.list .int)), (.list (.list .int)), (.list (storeS n))] 1 = 1 from by simp [offs, Shape.sz]]; exact h1
  ·simp only [gq] at hk hs; injection hk with hk; injection hs with hs; subst hk; subst hs; rw [show offs [(.list (.list .int)), (.list (.list .int)), (.list (storeS n))] 2 = 2 from by simp [offs, Shape.sz]]; exact h2
  ·simp at hk
 obtain ⟨tx, ht, hf⟩ := hrep
 injection ht with ht _
 subst ht
 obtain ⟨hlen, vs, rfl, htys, hreps⟩ := Rep.split hf
 rw [hlen]
 have HTYS := hid htys
 have HREPS := hid hreps
 have HW := hid h
 obtain ⟨v0, _, rfl, t0, v1, _, rfl, t1, v2, _, rfl, t2, rfl⟩ := htys
 obtain ⟨z0A, z0k, z0c, rfl⟩ := ty_list t0
 obtain ⟨z1A, z1k, z1c, rfl⟩ := ty_list t1
 obtain ⟨z2A, z2k, z2c, rfl⟩ := ty_list t2
 show Calls Tryz.prog 53 #[.pointer (some ⟨bw, 0, none⟩), .agg #[.slice z0A z0k z0c, .slice z1A z1k z1c, .slice z2A z2k z2c]] w _
 clear h hreps hf hlen h0 h1 h2
 go_enter Tryz.func53, Tryz.ntmps53
 go_wp2_with fail
 refine (wfields_any [(.list (.list .int)), (.list (.list .int)), (.list (storeS n))] [104, 107, 108] 29 (by decide) rfl (by simp) HC.out _ bw w.heap.size (w.heap.size + 1) (w.heap.size + 1 + 1) o _ (fun i => tx.getD i []) (((HW.out.alloc _).alloc _).alloc _) (by simp) (((Bk.new' rfl _ _).alloc _).alloc _) ((Bk.new' (by simp) _ _).alloc _) HTYS.out (((HREPS.out.allocW _).allocW _).allocW _) (Bk.new' (by simp) _ _) (by omega) (by omega) (by omega)).mono ?_
 rintro e w1 ⟨rfl, hw1, hf1⟩
 go_wp2
 go_end0
 exact ⟨rfl, hw1, ((((Wfr.refl _ _).allocs hbw _).allocs (by simp; omega) _).allocs (by simp; omega) _).trans hf1⟩
set_option maxHeartbeats 4000000 in
set_option maxRecDepth 100000 in
theorem wst_index (n : Nat) (h0 : CloW 345 .int 125 0) (h1 : CloW 346 (.list (indexS n)) 125 1) : Writes 318 (.st (ands [.int, (.list (indexS n))])) := by
 intro w bw o v t h hrep
 have hbw := h.lt
 have HC : Hid (∀ i k s, ([345, 346] : List FuncId)[i]? = some k → ([.int, (.list (indexS n))] : List Shape)[i]? = some s → CloW k s 125 (offs [.int, (.list (indexS n))] i)) := by
  intro i k s hk hs
  rcases i with _ | _ | i
  ·simp only [gq] at hk hs; injection hk with hk; injection hs with hs; subst hk; subst hs; rw [show offs [.int, (.list (indexS n))] 0 = 0 from by simp [offs, Shape.sz]]; exact h0
  ·simp only [gq] at hk hs; injection hk with hk; injection hs with hs; subst hk; subst hs; rw [show offs [.int, (.list (indexS n))] 1 = 1 from by simp [offs, Shape.sz]]; exact h1
  ·simp at hk
 obtain ⟨tx, ht, hf⟩ := hrep
 injection ht with ht _
 subst ht
 obtain ⟨hlen, vs, rfl, htys, hreps⟩ := Rep.split hf
 rw [hlen]
 have HTYS := hid htys
 have HREPS := hid hreps
 have HW := hid h
 obtain ⟨v0, _, rfl, t0, v1, _, rfl, t1, rfl⟩ := htys
 obtain ⟨z0n, rfl⟩ := ty_int t0
 obtain ⟨z1A, z1k, z1c, rfl⟩ := ty_list t1
 show Calls Tryz.prog 318 #[.pointer (some ⟨bw, 0, none⟩), .agg #[.int .i64 z0n, .slice z1A z1k z1c]] w _
 clear h hreps hf hlen h0 h1
 go_enter Tryz.func318, Tryz.ntmps318
 go_wp2_with fail
 refine (wfields_any [.int, (.list (indexS n))] [345, 346] 125 (by decide) rfl (by simp) HC.out _ bw w.heap.size (w.heap.size + 1) (w.heap.size + 1 + 1) o _ (fun i => tx.getD i []) (((HW.out.alloc _).alloc _).alloc _) (by simp) (((Bk.new' rfl _ _).alloc _).alloc _) ((Bk.new' (by simp) _ _).alloc _) HTYS.out (((HREPS.out.allocW _).allocW _).allocW _) (Bk.new' (by simp) _ _) (by omega) (by omega) (by omega)).mono ?_
 rintro e w1 ⟨rfl, hw1, hf1⟩
 go_wp2
 go_end0
 exact ⟨rfl, hw1, ((((Wfr.refl _ _).allocs hbw _).allocs (by simp; omega) _).allocs (by simp; omega) _).trans hf1⟩
set_option maxHeartbeats 4000000 in
set_option maxRecDepth 100000 in
theorem wst_factor (n : Nat) (h0 : CloW 316 .int 127 0) (h1 : CloW 317 (indexS n) 127 1) : Writes 269 (.st (ands [.int, (indexS n)])) := by
 intro w bw o v t h hrep
 have hbw := h.lt
 have HC : Hid (∀ i k s, ([316, 317] : List FuncId)[i]? = some k → ([.int, (indexS n)] : List Shape)[i]? = some s → CloW k s 127 (offs [.int, (indexS n)] i)) := by
  intro i k s hk hs
  rcases i with _ | _ | i
  ·simp only [gq] at hk hs; injection hk with hk; injection hs with hs; subst hk; subst hs; rw [show offs [.int, (indexS n)] 0 = 0 from by simp [offs, Shape.sz]]; exact h0
  ·simp only [gq] at hk hs; injection hk with hk; injection hs with hs; subst hk; subst hs; rw [show offs [.int, (indexS n)] 1 = 1 from by simp [offs, Shape.sz]]; exact h1
  ·simp at hk
 obtain ⟨tx, ht, hf⟩ := hrep
 injection ht with ht _
 subst ht
 obtain ⟨hlen, vs, rfl, htys, hreps⟩ := Rep.split hf
 rw [hlen]
 have HTYS := hid htys
 have HREPS := hid hreps
 have HW := hid h
 obtain ⟨v0, _, rfl, t0, v1, _, rfl, t1, rfl⟩ := htys
 obtain ⟨z0n, rfl⟩ := ty_int t0
 obtain ⟨z1_0n, z1_1A, z1_1k, z1_1c, rfl⟩ := ty_index t1
 show Calls Tryz.prog 269 #[.pointer (some ⟨bw, 0, none⟩), .agg #[.int .i64 z0n, .int .i64 z1_0n, .slice z1_1A z1_1k z1_1c]] w _
 clear h hreps hf hlen h0 h1
 go_enter Tryz.func269, Tryz.ntmps269
 go_wp2_with fail
 refine (wfields_any [.int, (indexS n)] [316, 317] 127 (by decide) rfl (by simp) HC.out _ bw w.heap.size (w.heap.size + 1) (w.heap.size + 1 + 1) o _ (fun i => tx.getD i []) (((HW.out.alloc _).alloc _).alloc _) (by simp) (((Bk.new' rfl _ _).alloc _).alloc _) ((Bk.new' (by simp) _ _).alloc _) HTYS.out (((HREPS.out.allocW _).allocW _).allocW _) (Bk.new' (by simp) _ _) (by omega) (by omega) (by omega)).mono ?_
 rintro e w1 ⟨rfl, hw1, hf1⟩
 go_wp2
 go_end0
 exact ⟨rfl, hw1, ((((Wfr.refl _ _).allocs hbw _).allocs (by simp; omega) _).allocs (by simp; omega) _).trans hf1⟩
set_option maxHeartbeats 4000000 in
set_option maxRecDepth 100000 in
theorem wst_atom (h0 : CloW 319 linS 132 0) (h1 : CloW 320 .int 132 2) : Writes 272 (.st (ands [linS, .int])) := by
 intro w bw o v t h hrep
 have hbw := h.lt
 have HC : Hid (∀ i k s, ([319, 320] : List FuncId)[i]? = some k → ([linS, .int] : List Shape)[i]? = some s → CloW k s 132 (offs [linS, .int] i)) := by
  intro i k s hk hs
  rcases i with _ | _ | i
  ·simp only [gq] at hk hs; injection hk with hk; injection hs with hs; subst hk; subst hs; rw [show offs [linS, .int] 0 = 0 from by simp [offs, Shape.sz]]; exact h0
  ·simp only [gq] at hk hs; injection hk with hk; injection hs with hs; subst hk; subst hs; rw [show offs [linS, .int] 1 = 2 from by simp [offs, Shape.sz, sz_lin]]; exact h1
  ·simp at hk
 obtain ⟨tx, ht, hf⟩ := hrep
 injection ht with ht _
 subst ht
 obtain ⟨hlen, vs, rfl, htys, hreps⟩ := Rep.split hf
 rw [hlen]
 have HTYS := hid htys
 have HREPS := hid hreps
 have HW := hid h
 obtain ⟨v0, _, rfl, t0, v1, _, rfl, t1, rfl⟩ := htys
 obtain ⟨z0_0n, z0_1A, z0_1k, z0_1c, rfl⟩ := ty_lin t0
 obtain ⟨z1n, rfl⟩ := ty_int t1
 show Calls Tryz.prog 272 #[.pointer (some ⟨bw, 0, none⟩), .agg #[.int .i64 z0_0n, .slice z0_1A z0_1k z0_1c, .int .i64 z1n]] w _
 clear h hreps hf hlen h0 h1
 go_enter Tryz.func272, Tryz.ntmps272
 go_wp2_with fail
 refine (wfields_any [linS, .int] [319, 320] 132 (by decide) rfl (by simp) HC.out _ bw w.heap.size (w.heap.size + 1) (w.heap.size + 1 + 1) o _ (fun i => tx.getD i []) (((HW.out.alloc _).alloc _).alloc _) (by simp) (((Bk.new' rfl _ _).alloc _).alloc _) ((Bk.new' (by simp) _ _).alloc _) HTYS.out (((HREPS.out.allocW _).allocW _).allocW _) (Bk.new' (by simp) _ _) (by omega) (by omega) (by omega)).mono ?_
 rintro e w1 ⟨rfl, hw1, hf1⟩
 go_wp2
 go_end0
 exact ⟨rfl, hw1, ((((Wfr.refl _ _).allocs hbw _).allocs (by simp; omega) _).allocs (by simp; omega) _).trans hf1⟩
set_option maxHeartbeats 4000000 in
set_option maxRecDepth 100000 in
theorem wst_mono (n : Nat) (h0 : CloW 267 (.list (factorS n)) 64 0) (h1 : CloW 270 (.list atomS) 64 1) : Writes 205 (.st (ands [(.list (factorS n)), (.list atomS)])) := by
 intro w bw o v t h hrep
 have hbw := h.lt
 have HC : Hid (∀ i k s, ([267, 270] : List FuncId)[i]? = some k → ([(.list (factorS n)), (.list atomS)] : List Shape)[i]? = some s → CloW k s 64 (offs [(.list (factorS n)), (.list atomS)] i)) := by
  intro i k s hk hs
  rcases i with _ | _ | i
  ·simp only [gq] at hk hs; injection hk with hk; injection hs with hs; subst hk; subst hs; rw [show offs [(.list (factorS n)), (.list atomS)] 0 = 0 from by simp [offs, Shape.sz]]; exact h0
  ·simp only [gq] at hk hs; injection hk with hk; injection hs with hs; subst hk; subst hs; rw [show offs [(.list (factorS n)), (.list atomS)] 1 = 1 from by simp [offs, Shape.sz]]; exact h1
  ·simp at hk
 obtain ⟨tx, ht, hf⟩ := hrep
 injection ht with ht _
 subst ht
 obtain ⟨hlen, vs, rfl, htys, hreps⟩ := Rep.split hf
 rw [hlen]
 have HTYS := hid htys
 have HREPS := hid hreps
 have HW := hid h
 obtain ⟨v0, _, rfl, t0, v1, _, rfl, t1, rfl⟩ := htys
 obtain ⟨z0A, z0k, z0c, rfl⟩ := ty_list t0
 obtain ⟨z1A, z1k, z1c, rfl⟩ := ty_list t1
 show Calls Tryz.prog 205 #[.pointer (some ⟨bw, 0, none⟩), .agg #[.slice z0A z0k z0c, .slice z1A z1k z1c]] w _
 clear h hreps hf hlen h0 h1
 go_enter Tryz.func205, Tryz.ntmps205
 go_wp2_with fail
 refine (wfields_any [(.list (factorS n)), (.list atomS)] [267, 270] 64 (by decide) rfl (by simp) HC.out _ bw w.heap.size (w.heap.size + 1) (w.heap.size + 1 + 1) o _ (fun i => tx.getD i []) (((HW.out.alloc _).alloc _).alloc _) (by simp) (((Bk.new' rfl _ _).alloc _).alloc _) ((Bk.new' (by simp) _ _).alloc _) HTYS.out (((HREPS.out.allocW _).allocW _).allocW _) (Bk.new' (by simp) _ _) (by omega) (by omega) (by omega)).mono ?_
 rintro e w1 ⟨rfl, hw1, hf1⟩
 go_wp2
 go_end0
 exact ⟨rfl, hw1, ((((Wfr.refl _ _).allocs hbw _).allocs (by simp; omega) _).allocs (by simp; omega) _).trans hf1⟩
set_option maxHeartbeats 4000000 in
set_option maxRecDepth 100000 in
theorem wst_term (n : Nat) (h0 : CloW 202 .rat 121 0) (h1 : CloW 204 (monoS n) 121 3) : Writes 117 (.st (ands [.rat, (monoS n)])) := by
 intro w bw o v t h hrep
 have hbw := h.lt
 have HC : Hid (∀ i k s, ([202, 204] : List FuncId)[i]? = some k → ([.rat, (monoS n)] : List Shape)[i]? = some s → CloW k s 121 (offs [.rat, (monoS n)] i)) := by
  intro i k s hk hs
  rcases i with _ | _ | i
  ·simp only [gq] at hk hs; injection hk with hk; injection hs with hs; subst hk; subst hs; rw [show offs [.rat, (monoS n)] 0 = 0 from by simp [offs, Shape.sz]]; exact h0
  ·simp only [gq] at hk hs; injection hk with hk; injection hs with hs; subst hk; subst hs; rw [show offs [.rat, (monoS n)] 1 = 3 from by simp [offs, Shape.sz]]; exact h1
  ·simp at hk
 obtain ⟨tx, ht, hf⟩ := hrep
 injection ht with ht _
 subst ht
 obtain ⟨hlen, vs, rfl, htys, hreps⟩ := Rep.split hf
 rw [hlen]
 have HTYS := hid htys
 have HREPS := hid hreps
 have HW := hid h
 obtain ⟨v0, _, rfl, t0, v1, _, rfl, t1, rfl⟩ := htys
 obtain ⟨z0b, z0A, z0k, z0c, z0D, z0l, z0d, rfl⟩ := ty_rat t0
 obtain ⟨z1_0A, z1_0k, z1_0c, z1_1A, z1_1k, z1_1c, rfl⟩ := ty_mono t1
 show Calls Tryz.prog 117 #[.pointer (some ⟨bw, 0, none⟩), .agg #[.bool z0b, .slice z0A z0k z0c, .slice z0D z0l z0d, .slice z1_0A z1_0k z1_0c, .slice z1_1A z1_1k z1_1c]] w _
 clear h hreps hf hlen h0 h1
 go_enter Tryz.func117, Tryz.ntmps117
 go_wp2_with fail
 refine (wfields_any [.rat, (monoS n)] [202, 204] 121 (by decide) rfl (by simp) HC.out _ bw w.heap.size (w.heap.size + 1) (w.heap.size + 1 + 1) o _ (fun i => tx.getD i []) (((HW.out.alloc _).alloc _).alloc _) (by simp) (((Bk.new' rfl _ _).alloc _).alloc _) ((Bk.new' (by simp) _ _).alloc _) HTYS.out (((HREPS.out.allocW _).allocW _).allocW _) (Bk.new' (by simp) _ _) (by omega) (by omega) (by omega)).mono ?_
 rintro e w1 ⟨rfl, hw1, hf1⟩
 go_wp2
 go_end0
 exact ⟨rfl, hw1, ((((Wfr.refl _ _).allocs hbw _).allocs (by simp; omega) _).allocs (by simp; omega) _).trans hf1⟩
set_option maxHeartbeats 4000000 in
set_option maxRecDepth 100000 in
theorem wst_use (n : Nat) (h0 : CloW 273 .int 73 0) (h1 : CloW 274 .rat 73 1) (h2 : CloW 275 (monoS n) 73 4) : Writes 209 (.st (ands [.int, .rat, (monoS n)])) := by
 intro w bw o v t h hrep
 have hbw := h.lt
 have HC : Hid (∀ i k s, ([273, 274, 275] : List FuncId)[i]? = some k → ([.int, .rat, (monoS n)] : List Shape)[i]? = some s → CloW k s 73 (offs [.int, .rat, (monoS n)] i)) := by
  intro i k s hk hs
  rcases i with _ | _ | _ | i
  ·simp only [gq] at hk hs; injection hk with hk; injection hs with hs; subst hk; subst hs; rw [show offs [.int, .rat, (monoS n)] 0 = 0 from by simp [offs, Shape.sz]]; exact h0
  ·simp only [gq] at hk hs; injection hk with hk; injection hs with hs; subst hk; subst hs; rw [show offs [.int, .rat, (monoS n)] 1 = 1 from by simp [offs, Shape.sz]]; exact h1
  ·simp only [gq] at hk hs; injection hk with hk; injection hs with hs; subst hk; subst hs; rw [show offs [.int, .rat, (monoS n)] 2 = 4 from by simp [offs, Shape.sz]]; exact h2
  ·simp at hk
 obtain ⟨tx, ht, hf⟩ := hrep
 injection ht with ht _
 subst ht
 obtain ⟨hlen, vs, rfl, htys, hreps⟩ := Rep.split hf
 rw [hlen]
 have HTYS := hid htys
 have HREPS := hid hreps
 have HW := hid h
 obtain ⟨v0, _, rfl, t0, v1, _, rfl, t1, v2, _, rfl, t2, rfl⟩ := htys
 obtain ⟨z0n, rfl⟩ := ty_int t0
 obtain ⟨z1b, z1A, z1k, z1c, z1D, z1l, z1d, rfl⟩ := ty_rat t1
 obtain ⟨z2_0A, z2_0k, z2_0c, z2_1A, z2_1k, z2_1c, rfl⟩ := ty_mono t2
 show Calls Tryz.prog 209 #[.pointer (some ⟨bw, 0, none⟩), .agg #[.int .i64 z0n, .bool z1b, .slice z1A z1k z1c, .slice z1D z1l z1d, .slice z2_0A z2_0k z2_0c, .slice z2_1A z2_1k z2_1c]] w _
 clear h hreps hf hlen h0 h1 h2
 go_enter Tryz.func209, Tryz.ntmps209
 go_wp2_with fail
 refine (wfields_any [.int, .rat, (monoS n)] [273, 274, 275] 73 (by decide) rfl (by simp) HC.out _ bw w.heap.size (w.heap.size + 1) (w.heap.size + 1 + 1) o _ (fun i => tx.getD i []) (((HW.out.alloc _).alloc _).alloc _) (by simp) (((Bk.new' rfl _ _).alloc _).alloc _) ((Bk.new' (by simp) _ _).alloc _) HTYS.out (((HREPS.out.allocW _).allocW _).allocW _) (Bk.new' (by simp) _ _) (by omega) (by omega) (by omega)).mono ?_
 rintro e w1 ⟨rfl, hw1, hf1⟩
 go_wp2
 go_end0
 exact ⟨rfl, hw1, ((((Wfr.refl _ _).allocs hbw _).allocs (by simp; omega) _).allocs (by simp; omega) _).trans hf1⟩
set_option maxHeartbeats 4000000 in
set_option maxRecDepth 100000 in
theorem wst_part (n : Nat) (h0 : CloW 211 .int 66 0) (h1 : CloW 212 .rat 66 1) (h2 : CloW 213 (monoS n) 66 4) : Writes 124 (.st (ands [.int, .rat, (monoS n)])) := by
 intro w bw o v t h hrep
 have hbw := h.lt
 have HC : Hid (∀ i k s, ([211, 212, 213] : List FuncId)[i]? = some k → ([.int, .rat, (monoS n)] : List Shape)[i]? = some s → CloW k s 66 (offs [.int, .rat, (monoS n)] i)) := by
  intro i k s hk hs
  rcases i with _ | _ | _ | i
  ·simp only [gq] at hk hs; injection hk with hk; injection hs with hs; subst hk; subst hs; rw [show offs [.int, .rat, (monoS n)] 0 = 0 from by simp [offs, Shape.sz]]; exact h0
  ·simp only [gq] at hk hs; injection hk with hk; injection hs with hs; subst hk; subst hs; rw [show offs [.int, .rat, (monoS n)] 1 = 1 from by simp [offs, Shape.sz]]; exact h1
  ·simp only [gq] at hk hs; injection hk with hk; injection hs with hs; subst hk; subst hs; rw [show offs [.int, .rat, (monoS n)] 2 = 4 from by simp [offs, Shape.sz]]; exact h2
  ·simp at hk
 obtain ⟨tx, ht, hf⟩ := hrep
 injection ht with ht _
 subst ht
 obtain ⟨hlen, vs, rfl, htys, hreps⟩ := Rep.split hf
 rw [hlen]
 have HTYS := hid htys
 have HREPS := hid hreps
 have HW := hid h
 obtain ⟨v0, _, rfl, t0, v1, _, rfl, t1, v2, _, rfl, t2, rfl⟩ := htys
 obtain ⟨z0n, rfl⟩ := ty_int t0
 obtain ⟨z1b, z1A, z1k, z1c, z1D, z1l, z1d, rfl⟩ := ty_rat t1
 obtain ⟨z2_0A, z2_0k, z2_0c, z2_1A, z2_1k, z2_1c, rfl⟩ := ty_mono t2
 show Calls Tryz.prog 124 #[.pointer (some ⟨bw, 0, none⟩), .agg #[.int .i64 z0n, .bool z1b, .slice z1A z1k z1c, .slice z1D z1l z1d, .slice z2_0A z2_0k z2_0c, .slice z2_1A z2_1k z2_1c]] w _
 clear h hreps hf hlen h0 h1 h2
 go_enter Tryz.func124, Tryz.ntmps124
 go_wp2_with fail
 refine (wfields_any [.int, .rat, (monoS n)] [211, 212, 213] 66 (by decide) rfl (by simp) HC.out _ bw w.heap.size (w.heap.size + 1) (w.heap.size + 1 + 1) o _ (fun i => tx.getD i []) (((HW.out.alloc _).alloc _).alloc _) (by simp) (((Bk.new' rfl _ _).alloc _).alloc _) ((Bk.new' (by simp) _ _).alloc _) HTYS.out (((HREPS.out.allocW _).allocW _).allocW _) (Bk.new' (by simp) _ _) (by omega) (by omega) (by omega)).mono ?_
 rintro e w1 ⟨rfl, hw1, hf1⟩
 go_wp2
 go_end0
 exact ⟨rfl, hw1, ((((Wfr.refl _ _).allocs hbw _).allocs (by simp; omega) _).allocs (by simp; omega) _).trans hf1⟩
set_option maxHeartbeats 4000000 in
set_option maxRecDepth 100000 in
theorem wst_target (n : Nat) (h0 : CloW 206 .int 71 0) (h1 : CloW 207 (.list (useS n)) 71 1) (h2 : CloW 210 (.list (termS n)) 71 2) : Writes 121 (.st (ands [.int, (.list (useS n)), (.list (termS n))])) := by
 intro w bw o v t h hrep
 have hbw := h.lt
 have HC : Hid (∀ i k s, ([206, 207, 210] : List FuncId)[i]? = some k → ([.int, (.list (useS n)), (.list (termS n))] : List Shape)[i]? = some s → CloW k s 71 (offs [.int, (.list (useS n)), (.list (termS n))] i)) := by
  intro i k s hk hs
  rcases i with _ | _ | _ | i
  ·simp only [gq] at hk hs; injection hk with hk; injection hs with hs; subst hk; subst hs; rw [show offs [.int, (.list (useS n)), (.list (termS n))] 0 = 0 from by simp [offs, Shape.sz]]; exact h0
  ·simp only [gq] at hk hs; injection hk with hk; injection hs with hs; subst hk; subst hs; rw [show offs [.int, (.list (useS n)), (.list (termS n))] 1 = 1 from by simp [offs, Shape.sz]]; exact h1
  ·simp only [gq] at hk hs; injection hk with hk; injection hs with hs; subst hk; subst hs; rw [show offs [.int, (.list (useS n)), (.list (termS n))] 2 = 2 from by simp [offs, Shape.sz]]; exact h2
  ·simp at hk
 obtain ⟨tx, ht, hf⟩ := hrep
 injection ht with ht _
 subst ht
 obtain ⟨hlen, vs, rfl, htys, hreps⟩ := Rep.split hf
 rw [hlen]
 have HTYS := hid htys
 have HREPS := hid hreps
 have HW := hid h
 obtain ⟨v0, _, rfl, t0, v1, _, rfl, t1, v2, _, rfl, t2, rfl⟩ := htys
 obtain ⟨z0n, rfl⟩ := ty_int t0
 obtain ⟨z1A, z1k, z1c, rfl⟩ := ty_list t1
 obtain ⟨z2A, z2k, z2c, rfl⟩ := ty_list t2
 show Calls Tryz.prog 121 #[.pointer (some ⟨bw, 0, none⟩), .agg #[.int .i64 z0n, .slice z1A z1k z1c, .slice z2A z2k z2c]] w _
 clear h hreps hf hlen h0 h1 h2
 go_enter Tryz.func121, Tryz.ntmps121
 go_wp2_with fail
 refine (wfields_any [.int, (.list (useS n)), (.list (termS n))] [206, 207, 210] 71 (by decide) rfl (by simp) HC.out _ bw w.heap.size (w.heap.size + 1) (w.heap.size + 1 + 1) o _ (fun i => tx.getD i []) (((HW.out.alloc _).alloc _).alloc _) (by simp) (((Bk.new' rfl _ _).alloc _).alloc _) ((Bk.new' (by simp) _ _).alloc _) HTYS.out (((HREPS.out.allocW _).allocW _).allocW _) (Bk.new' (by simp) _ _) (by omega) (by omega) (by omega)).mono ?_
 rintro e w1 ⟨rfl, hw1, hf1⟩
 go_wp2
 go_end0
 exact ⟨rfl, hw1, ((((Wfr.refl _ _).allocs hbw _).allocs (by simp; omega) _).allocs (by simp; omega) _).trans hf1⟩
set_option maxHeartbeats 4000000 in
set_option maxRecDepth 100000 in
theorem wst_axiom (h0 : CloW 276 .int 134 0) (h1 : CloW 277 linS 134 1) (h2 : CloW 278 linS 134 3) (h3 : CloW 279 .int 134 5) : Writes 216 (.st (ands [.int, linS, linS, .int])) := by
 intro w bw o v t h hrep
 have hbw := h.lt
 have HC : Hid (∀ i k s, ([276, 277, 278, 279] : List FuncId)[i]? = some k → ([.int, linS, linS, .int] : List Shape)[i]? = some s → CloW k s 134 (offs [.int, linS, linS, .int] i)) := by
  intro i k s hk hs
  rcases i with _ | _ | _ | _ | i
  ·simp only [gq] at hk hs; injection hk with hk; injection hs with hs; subst hk; subst hs; rw [show offs [.int, linS, linS, .int] 0 = 0 from by simp [offs, Shape.sz]]; exact h0
  ·simp only [gq] at hk hs; injection hk with hk; injection hs with hs; subst hk; subst hs; rw [show offs [.int, linS, linS, .int] 1 = 1 from by simp [offs, Shape.sz]]; exact h1
  ·simp only [gq] at hk hs; injection hk with hk; injection hs with hs; subst hk; subst hs; rw [show offs [.int, linS, linS, .int] 2 = 3 from by simp [offs, Shape.sz, sz_lin]]; exact h2
  ·simp only [gq] at hk hs; injection hk with hk; injection hs with hs; subst hk; subst hs; rw [show offs [.int, linS, linS, .int] 3 = 5 from by simp [offs, Shape.sz, sz_lin]]; exact h3
  ·simp at hk
 obtain ⟨tx, ht, hf⟩ := hrep
 injection ht with ht _
 subst ht
 obtain ⟨hlen, vs, rfl, htys, hreps⟩ := Rep.split hf
 rw [hlen]
 have HTYS := hid htys
 have HREPS := hid hreps
 have HW := hid h
 obtain ⟨v0, _, rfl, t0, v1, _, rfl, t1, v2, _, rfl, t2, v3, _, rfl, t3, rfl⟩ := htys
 obtain ⟨z0n, rfl⟩ := ty_int t0
 obtain ⟨z1_0n, z1_1A, z1_1k, z1_1c, rfl⟩ := ty_lin t1
 obtain ⟨z2_0n, z2_1A, z2_1k, z2_1c, rfl⟩ := ty_lin t2
 obtain ⟨z3n, rfl⟩ := ty_int t3
 show Calls Tryz.prog 216 #[.pointer (some ⟨bw, 0, none⟩), .agg #[.int .i64 z0n, .int .i64 z1_0n, .slice z1_1A z1_1k z1_1c, .int .i64 z2_0n, .slice z2_1A z2_1k z2_1c, .int .i64 z3n]] w _
 clear h hreps hf hlen h0 h1 h2 h3
 go_enter Tryz.func216, Tryz.ntmps216
 go_wp2_with fail
 refine (wfields_any [.int, linS, linS, .int] [276, 277, 278, 279] 134 (by decide) rfl (by simp) HC.out _ bw w.heap.size (w.heap.size + 1) (w.heap.size + 1 + 1) o _ (fun i => tx.getD i []) (((HW.out.alloc _).alloc _).alloc _) (by simp) (((Bk.new' rfl _ _).alloc _).alloc _) ((Bk.new' (by simp) _ _).alloc _) HTYS.out (((HREPS.out.allocW _).allocW _).allocW _) (Bk.new' (by simp) _ _) (by omega) (by omega) (by omega)).mono ?_
 rintro e w1 ⟨rfl, hw1, hf1⟩
 go_wp2
 go_end0
 exact ⟨rfl, hw1, ((((Wfr.refl _ _).allocs hbw _).allocs (by simp; omega) _).allocs (by simp; omega) _).trans hf1⟩
set_option maxHeartbeats 4000000 in
set_option maxRecDepth 100000 in
theorem wst_axiomUse (n : Nat) (h0 : CloW 215 axS 136 0) (h1 : CloW 217 .rat 136 6) (h2 : CloW 218 (monoS n) 136 9) (h3 : CloW 219 (.list .rat) 136 11) (h4 : CloW 220 (.list .rat) 136 12) : Writes 133 (.st (ands [axS, .rat, (monoS n), (.list .rat), (.list .rat)])) := by
 intro w bw o v t h hrep
 have hbw := h.lt
 have HC : Hid (∀ i k s, ([215, 217, 218, 219, 220] : List FuncId)[i]? = some k → ([axS, .rat, (monoS n), (.list .rat), (.list .rat)] : List Shape)[i]? = some s → CloW k s 136 (offs [axS, .rat, (monoS n), (.list .rat), (.list .rat)] i)) := by
  intro i k s hk hs
  rcases i with _ | _ | _ | _ | _ | i
  ·simp only [gq] at hk hs; injection hk with hk; injection hs with hs; subst hk; subst hs; rw [show offs [axS, .rat, (monoS n), (.list .rat), (.list .rat)] 0 = 0 from by simp [offs, Shape.sz]]; exact h0
  ·simp only [gq] at hk hs; injection hk with hk; injection hs with hs; subst hk; subst hs; rw [show offs [axS, .rat, (monoS n), (.list .rat), (.list .rat)] 1 = 6 from by simp [offs, Shape.sz, sz_axiom]]; exact h1
  ·simp only [gq] at hk hs; injection hk with hk; injection hs with hs; subst hk; subst hs; rw [show offs [axS, .rat, (monoS n), (.list .rat), (.list .rat)] 2 = 9 from by simp [offs, Shape.sz, sz_axiom]]; exact h2
  ·simp only [gq] at hk hs; injection hk with hk; injection hs with hs; subst hk; subst hs; rw [show offs [axS, .rat, (monoS n), (.list .rat), (.list .rat)] 3 = 11 from by simp [offs, Shape.sz, sz_axiom, sz_mono]]; exact h3
  ·simp only [gq] at hk hs; injection hk with hk; injection hs with hs; subst hk; subst hs; rw [show offs [axS, .rat, (monoS n), (.list .rat), (.list .rat)] 4 = 12 from by simp [offs, Shape.sz, sz_axiom, sz_mono]]; exact h4
  ·simp at hk
 obtain ⟨tx, ht, hf⟩ := hrep
 injection ht with ht _
 subst ht
 obtain ⟨hlen, vs, rfl, htys, hreps⟩ := Rep.split hf
 rw [hlen]
 have HTYS := hid htys
 have HREPS := hid hreps
 have HW := hid h
 obtain ⟨v0, _, rfl, t0, v1, _, rfl, t1, v2, _, rfl, t2, v3, _, rfl, t3, v4, _, rfl, t4, rfl⟩ := htys
 obtain ⟨z0_0n, z0_1_0n, z0_1_1A, z0_1_1k, z0_1_1c, z0_2_0n, z0_2_1A, z0_2_1k, z0_2_1c, z0_3n, rfl⟩ := ty_axiom t0
 obtain ⟨z1b, z1A, z1k, z1c, z1D, z1l, z1d, rfl⟩ := ty_rat t1
 obtain ⟨z2_0A, z2_0k, z2_0c, z2_1A, z2_1k, z2_1c, rfl⟩ := ty_mono t2
 obtain ⟨z3A, z3k, z3c, rfl⟩ := ty_list t3
 obtain ⟨z4A, z4k, z4c, rfl⟩ := ty_list t4
 show Calls Tryz.prog 133 #[.pointer (some ⟨bw, 0, none⟩), .agg #[.int .i64 z0_0n, .int .i64 z0_1_0n, .slice z0_1_1A z0_1_1k z0_1_1c, .int .i64 z0_2_0n, .slice z0_2_1A z0_2_1k z0_2_1c, .int .i64 z0_3n, .bool z1b, .slice z1A z1k z1c, .slice z1D z1l z1d, .slice z2_0A z2_0k z2_0c, .slice z2_1A z2_1k z2_1c, .slice z3A z3k z3c, .slice z4A z4k z4c]] w _
 clear h hreps hf hlen h0 h1 h2 h3 h4
 go_enter Tryz.func133, Tryz.ntmps133
 go_wp2_with fail
 refine (wfields_any [axS, .rat, (monoS n), (.list .rat), (.list .rat)] [215, 217, 218, 219, 220] 136 (by decide) rfl (by simp) HC.out _ bw w.heap.size (w.heap.size + 1) (w.heap.size + 1 + 1) o _ (fun i => tx.getD i []) (((HW.out.alloc _).alloc _).alloc _) (by simp) (((Bk.new' rfl _ _).alloc _).alloc _) ((Bk.new' (by simp) _ _).alloc _) HTYS.out (((HREPS.out.allocW _).allocW _).allocW _) (Bk.new' (by simp) _ _) (by omega) (by omega) (by omega)).mono ?_
 rintro e w1 ⟨rfl, hw1, hf1⟩
 go_wp2
 go_end0
 exact ⟨rfl, hw1, ((((Wfr.refl _ _).allocs hbw _).allocs (by simp; omega) _).allocs (by simp; omega) _).trans hf1⟩
set_option maxHeartbeats 4000000 in
set_option maxRecDepth 100000 in
theorem wst_node (n : Nat) (h0 : CloW 111 .int 55 0) (h1 : CloW 113 .int 55 1) (h2 : CloW 114 .bool 55 2) (h3 : CloW 115 (.list (termS n)) 55 3) (h4 : CloW 118 (.list (termS n)) 55 4) (h5 : CloW 119 (.list (targetS n)) 55 5) (h6 : CloW 122 (.list (useS n)) 55 6) (h7 : CloW 125 (.list (termS n)) 55 7) (h8 : CloW 126 (.list .int) 55 8) (h9 : CloW 127 (.list .rat) 55 9) (h10 : CloW 129 (.list (.list (axuS n))) 55 10) : Writes 56 (.st (ands [.int, .int, .bool, (.list (termS n)), (.list (termS n)), (.list (targetS n)), (.list (useS n)), (.list (termS n)), (.list .int), (.list .rat), (.list (.list (axuS n)))])) := by
 intro w bw o v t h hrep
 have hbw := h.lt
 have HC : Hid (∀ i k s, ([111, 113, 114, 115, 118, 119, 122, 125, 126, 127, 129] : List FuncId)[i]? = some k → ([.int, .int, .bool, (.list (termS n)), (.list (termS n)), (.list (targetS n)), (.list (useS n)), (.list (termS n)), (.list .int), (.list .rat), (.list (.list (axuS n)))] : List Shape)[i]? = some s → CloW k s 55 (offs [.int, .int, .bool, (.list (termS n)), (.list (termS n)), (.list (targetS n)), (.list (useS n)), (.list (termS n)), (.list .int), (.list .rat), (.list (.list (axuS n)))] i)) := by
  intro i k s hk hs
  rcases i with _ | _ | _ | _ | _ | _ | _ | _ | _ | _ | _ | i
  ·simp only [gq] at hk hs; injection hk with hk; injection hs with hs; subst hk; subst hs; rw [show offs [.int, .int, .bool, (.list (termS n)), (.list (termS n)), (.list (targetS n)), (.list (useS n)), (.list (termS n)), (.list .int), (.list .rat), (.list (.list (axuS n)))] 0 = 0 from by simp [offs, Shape.sz]]; exact h0
  ·simp only [gq] at hk hs; injection hk with hk; injection hs with hs; subst hk; subst hs; rw [show offs [.int, .int, .bool, (.list (termS n)), (.list (termS n)), (.list (targetS n)), (.list (useS n)), (.list (termS n)), (.list .int), (.list .rat), (.list (.list (axuS n)))] 1 = 1 from by simp [offs, Shape.sz]]; exact h1
  ·simp only [gq] at hk hs; injection hk with hk; injection hs with hs; subst hk; subst hs; rw [show offs [.int, .int, .bool, (.list (termS n)), (.list (termS n)), (.list (targetS n)), (.list (useS n)), (.list (termS n)), (.list .int), (.list .rat), (.list (.list (axuS n)))] 2 = 2 from by simp [offs, Shape.sz]]; exact h2
  ·simp only [gq] at hk hs; injection hk with hk; injection hs with hs; subst hk; subst hs; rw [show offs [.int, .int, .bool, (.list (termS n)), (.list (termS n)), (.list (targetS n)), (.list (useS n)), (.list (termS n)), (.list .int), (.list .rat), (.list (.list (axuS n)))] 3 = 3 from by simp [offs, Shape.sz]]; exact h3
  ·simp only [gq] at hk hs; injection hk with hk; injection hs with hs; subst hk; subst hs; rw [show offs [.int, .int, .bool, (.list (termS n)), (.list (termS n)), (.list (targetS n)), (.list (useS n)), (.list (termS n)), (.list .int), (.list .rat), (.list (.list (axuS n)))] 4 = 4 from by simp [offs, Shape.sz]]; exact h4
  ·simp only [gq] at hk hs; injection hk with hk; injection hs with hs; subst hk; subst hs; rw [show offs [.int, .int, .bool, (.list (termS n)), (.list (termS n)), (.list (targetS n)), (.list (useS n)), (.list (termS n)), (.list .int), (.list .rat), (.list (.list (axuS n)))] 5 = 5 from by simp [offs, Shape.sz]]; exact h5
  ·simp only [gq] at hk hs; injection hk with hk; injection hs with hs; subst hk; subst hs; rw [show offs [.int, .int, .bool, (.list (termS n)), (.list (termS n)), (.list (targetS n)), (.list (useS n)), (.list (termS n)), (.list .int), (.list .rat), (.list (.list (axuS n)))] 6 = 6 from by simp [offs, Shape.sz]]; exact h6
  ·simp only [gq] at hk hs; injection hk with hk; injection hs with hs; subst hk; subst hs; rw [show offs [.int, .int, .bool, (.list (termS n)), (.list (termS n)), (.list (targetS n)), (.list (useS n)), (.list (termS n)), (.list .int), (.list .rat), (.list (.list (axuS n)))] 7 = 7 from by simp [offs, Shape.sz]]; exact h7
  ·simp only [gq] at hk hs; injection hk with hk; injection hs with hs; subst hk; subst hs; rw [show offs [.int, .int, .bool, (.list (termS n)), (.list (termS n)), (.list (targetS n)), (.list (useS n)), (.list (termS n)), (.list .int), (.list .rat), (.list (.list (axuS n)))] 8 = 8 from by simp [offs, Shape.sz]]; exact h8
  ·simp only [gq] at hk hs; injection hk with hk; injection hs with hs; subst hk; subst hs; rw [show offs [.int, .int, .bool, (.list (termS n)), (.list (termS n)), (.list (targetS n)), (.list (useS n)), (.list (termS n)), (.list .int), (.list .rat), (.list (.list (axuS n)))] 9 = 9 from by simp [offs, Shape.sz]]; exact h9
  ·simp only [gq] at hk hs; injection hk with hk; injection hs with hs; subst hk; subst hs; rw [show offs [.int, .int, .bool, (.list (termS n)), (.list (termS n)), (.list (targetS n)), (.list (useS n)), (.list (termS n)), (.list .int), (.list .rat), (.list (.list (axuS n)))] 10 = 10 from by simp [offs, Shape.sz]]; exact h10
  ·simp at hk
 obtain ⟨tx, ht, hf⟩ := hrep
 injection ht with ht _
 subst ht
 obtain ⟨hlen, vs, rfl, htys, hreps⟩ := Rep.split hf
 rw [hlen]
 have HTYS := hid htys
 have HREPS := hid hreps
 have HW := hid h
 obtain ⟨v0, _, rfl, t0, v1, _, rfl, t1, v2, _, rfl, t2, v3, _, rfl, t3, v4, _, rfl, t4, v5, _, rfl, t5, v6, _, rfl, t6, v7, _, rfl, t7, v8, _, rfl, t8, v9, _, rfl, t9, v10, _, rfl, t10, rfl⟩ := htys
 obtain ⟨z0n, rfl⟩ := ty_int t0
 obtain ⟨z1n, rfl⟩ := ty_int t1
 obtain ⟨z2b, rfl⟩ := ty_bool t2
 obtain ⟨z3A, z3k, z3c, rfl⟩ := ty_list t3
 obtain ⟨z4A, z4k, z4c, rfl⟩ := ty_list t4
 obtain ⟨z5A, z5k, z5c, rfl⟩ := ty_list t5
 obtain ⟨z6A, z6k, z6c, rfl⟩ := ty_list t6
 obtain ⟨z7A, z7k, z7c, rfl⟩ := ty_list t7
 obtain ⟨z8A, z8k, z8c, rfl⟩ := ty_list t8
 obtain ⟨z9A, z9k, z9c, rfl⟩ := ty_list t9
 obtain ⟨a0, a1, a2, rfl⟩ := ty_list t10
 show Calls Tryz.prog 56 #[.pointer (some ⟨bw, 0, none⟩), .agg #[.int .i64 z0n, .int .i64 z1n, .bool z2b, .slice z3A z3k z3c, .slice z4A z4k z4c, .slice z5A z5k z5c, .slice z6A z6k z6c, .slice z7A z7k z7c, .slice z8A z8k z8c, .slice z9A z9k z9c, .slice a0 a1 a2]] w _
 clear h hreps hf hlen h0 h1 h2 h3 h4 h5 h6 h7 h8 h9 h10
 go_enter Tryz.func56, Tryz.ntmps56
 go_wp2_with fail
 refine (wfields_any [.int, .int, .bool, (.list (termS n)), (.list (termS n)), (.list (targetS n)), (.list (useS n)), (.list (termS n)), (.list .int), (.list .rat), (.list (.list (axuS n)))] [111, 113, 114, 115, 118, 119, 122, 125, 126, 127, 129] 55 (by decide) rfl (by simp) HC.out _ bw w.heap.size (w.heap.size + 1) (w.heap.size + 1 + 1) o _ (fun i => tx.getD i []) (((HW.out.alloc _).alloc _).alloc _) (by simp) (((Bk.new' rfl _ _).alloc _).alloc _) ((Bk.new' (by simp) _ _).alloc _) HTYS.out (((HREPS.out.allocW _).allocW _).allocW _) (Bk.new' (by simp) _ _) (by omega) (by omega) (by omega)).mono ?_
 rintro e w1 ⟨rfl, hw1, hf1⟩
 go_wp2
 go_end0
 exact ⟨rfl, hw1, ((((Wfr.refl _ _).allocs hbw _).allocs (by simp; omega) _).allocs (by simp; omega) _).trans hf1⟩
set_option maxHeartbeats 4000000 in
set_option maxRecDepth 100000 in
theorem wst_claim (h0 : CloW 134 .int 99 0) (h1 : CloW 135 .int 99 1) : Writes 59 (.st (ands [.int, .int])) := by
 intro w bw o v t h hrep
 have hbw := h.lt
 have HC : Hid (∀ i k s, ([134, 135] : List FuncId)[i]? = some k → ([.int, .int] : List Shape)[i]? = some s → CloW k s 99 (offs [.int, .int] i)) := by
  intro i k s hk hs
  rcases i with _ | _ | i
  ·simp only [gq] at hk hs; injection hk with hk; injection hs with hs; subst hk; subst hs; rw [show offs [.int, .int] 0 = 0 from by simp [offs, Shape.sz]]; exact h0
  ·simp only [gq] at hk hs; injection hk with hk; injection hs with hs; subst hk; subst hs; rw [show offs [.int, .int] 1 = 1 from by simp [offs, Shape.sz]]; exact h1
  ·simp at hk
 obtain ⟨tx, ht, hf⟩ := hrep
 injection ht with ht _
 subst ht
 obtain ⟨hlen, vs, rfl, htys, hreps⟩ := Rep.split hf
 rw [hlen]
 have HTYS := hid htys
 have HREPS := hid hreps
 have HW := hid h
 obtain ⟨v0, _, rfl, t0, v1, _, rfl, t1, rfl⟩ := htys
 obtain ⟨z0n, rfl⟩ := ty_int t0
 obtain ⟨z1n, rfl⟩ := ty_int t1
 show Calls Tryz.prog 59 #[.pointer (some ⟨bw, 0, none⟩), .agg #[.int .i64 z0n, .int .i64 z1n]] w _
 clear h hreps hf hlen h0 h1
 go_enter Tryz.func59, Tryz.ntmps59
 go_wp2_with fail
 refine (wfields_any [.int, .int] [134, 135] 99 (by decide) rfl (by simp) HC.out _ bw w.heap.size (w.heap.size + 1) (w.heap.size + 1 + 1) o _ (fun i => tx.getD i []) (((HW.out.alloc _).alloc _).alloc _) (by simp) (((Bk.new' rfl _ _).alloc _).alloc _) ((Bk.new' (by simp) _ _).alloc _) HTYS.out (((HREPS.out.allocW _).allocW _).allocW _) (Bk.new' (by simp) _ _) (by omega) (by omega) (by omega)).mono ?_
 rintro e w1 ⟨rfl, hw1, hf1⟩
 go_wp2
 go_end0
 exact ⟨rfl, hw1, ((((Wfr.refl _ _).allocs hbw _).allocs (by simp; omega) _).allocs (by simp; omega) _).trans hf1⟩
set_option maxHeartbeats 4000000 in
set_option maxRecDepth 100000 in
theorem wst_cert (n : Nat) (h0 : CloW 45 .bool 33 0) (h1 : CloW 47 metricS 33 1) (h2 : CloW 49 (.list relationS) 33 3) (h3 : CloW 52 (flowS n) 33 4) (h4 : CloW 54 (.list (nodeS n)) 33 7) (h5 : CloW 57 (.list claimS) 33 8) : Writes 20 (.st (ands [.bool, metricS, (.list relationS), (flowS n), (.list (nodeS n)), (.list claimS)])) := by
 intro w bw o v t h hrep
 have hbw := h.lt
 have HC : Hid (∀ i k s, ([45, 47, 49, 52, 54, 57] : List FuncId)[i]? = some k → ([.bool, metricS, (.list relationS), (flowS n), (.list (nodeS n)), (.list claimS)] : List Shape)[i]? = some s → CloW k s 33 (offs [.bool, metricS, (.list relationS), (flowS n), (.list (nodeS n)), (.list claimS)] i)) := by
  intro i k s hk hs
  rcases i with _ | _ | _ | _ | _ | _ | i
  ·simp only [gq] at hk hs; injection hk with hk; injection hs with hs; subst hk; subst hs; rw [show offs [.bool, metricS, (.list relationS), (flowS n), (.list (nodeS n)), (.list claimS)] 0 = 0 from by simp [offs, Shape.sz]]; exact h0
  ·simp only [gq] at hk hs; injection hk with hk; injection hs with hs; subst hk; subst hs; rw [show offs [.bool, metricS, (.list relationS), (flowS n), (.list (nodeS n)), (.list claimS)] 1 = 1 from by simp [offs, Shape.sz]]; exact h1
  ·simp only [gq] at hk hs; injection hk with hk; injection hs with hs; subst hk; subst hs; rw [show offs [.bool, metricS, (.list relationS), (flowS n), (.list (nodeS n)), (.list claimS)] 2 = 3 from by simp [offs, Shape.sz, sz_metric]]; exact h2
  ·simp only [gq] at hk hs; injection hk with hk; injection hs with hs; subst hk; subst hs; rw [show offs [.bool, metricS, (.list relationS), (flowS n), (.list (nodeS n)), (.list claimS)] 3 = 4 from by simp [offs, Shape.sz, sz_metric]]; exact h3
  ·simp only [gq] at hk hs; injection hk with hk; injection hs with hs; subst hk; subst hs; rw [show offs [.bool, metricS, (.list relationS), (flowS n), (.list (nodeS n)), (.list claimS)] 4 = 7 from by simp [offs, Shape.sz, sz_metric, sz_flow]]; exact h4
  ·simp only [gq] at hk hs; injection hk with hk; injection hs with hs; subst hk; subst hs; rw [show offs [.bool, metricS, (.list relationS), (flowS n), (.list (nodeS n)), (.list claimS)] 5 = 8 from by simp [offs, Shape.sz, sz_metric, sz_flow]]; exact h5
  ·simp at hk
 obtain ⟨tx, ht, hf⟩ := hrep
 injection ht with ht _
 subst ht
 obtain ⟨hlen, vs, rfl, htys, hreps⟩ := Rep.split hf
 rw [hlen]
 have HTYS := hid htys
 have HREPS := hid hreps
 have HW := hid h
 obtain ⟨v0, _, rfl, t0, v1, _, rfl, t1, v2, _, rfl, t2, v3, _, rfl, t3, v4, _, rfl, t4, v5, _, rfl, t5, rfl⟩ := htys
 obtain ⟨z0b, rfl⟩ := ty_bool t0
 obtain ⟨z1_0A, z1_0k, z1_0c, z1_1A, z1_1k, z1_1c, rfl⟩ := ty_metric t1
 obtain ⟨z2A, z2k, z2c, rfl⟩ := ty_list t2
 obtain ⟨z3_0A, z3_0k, z3_0c, z3_1A, z3_1k, z3_1c, z3_2A, z3_2k, z3_2c, rfl⟩ := ty_flow t3
 obtain ⟨z4A, z4k, z4c, rfl⟩ := ty_list t4
 obtain ⟨z5A, z5k, z5c, rfl⟩ := ty_list t5
 show Calls Tryz.prog 20 #[.pointer (some ⟨bw, 0, none⟩), .agg #[.bool z0b, .slice z1_0A z1_0k z1_0c, .slice z1_1A z1_1k z1_1c, .slice z2A z2k z2c, .slice z3_0A z3_0k z3_0c, .slice z3_1A z3_1k z3_1c, .slice z3_2A z3_2k z3_2c, .slice z4A z4k z4c, .slice z5A z5k z5c]] w _
 clear h hreps hf hlen h0 h1 h2 h3 h4 h5
 go_enter Tryz.func20, Tryz.ntmps20
 go_wp2_with fail
 refine (wfields_any [.bool, metricS, (.list relationS), (flowS n), (.list (nodeS n)), (.list claimS)] [45, 47, 49, 52, 54, 57] 33 (by decide) rfl (by simp) HC.out _ bw w.heap.size (w.heap.size + 1) (w.heap.size + 1 + 1) o _ (fun i => tx.getD i []) (((HW.out.alloc _).alloc _).alloc _) (by simp) (((Bk.new' rfl _ _).alloc _).alloc _) ((Bk.new' (by simp) _ _).alloc _) HTYS.out (((HREPS.out.allocW _).allocW _).allocW _) (Bk.new' (by simp) _ _) (by omega) (by omega) (by omega)).mono ?_
 rintro e w1 ⟨rfl, hw1, hf1⟩
 go_wp2
 go_end0
 exact ⟨rfl, hw1, ((((Wfr.refl _ _).allocs hbw _).allocs (by simp; omega) _).allocs (by simp; omega) _).trans hf1⟩
end Go.Proofs.YtpbdkkoanedimaaGreatDoor
