/-
  Audits: the sum of Counter and Value of a point.
-/
import Derived.Test.YtgheaoaicbkaoaaGreatDoorMAd
import Derived.Test.YtgheaoaicbkaoaaGreatDoorMAb
import Derived.Test.YtgheaoaicbkaoaaGreatDoorMRefL
import Derived.Test.YtgheaoaicbkaoaaGreatDoorMSy
import Derived.Maps.AppendAt
namespace Go.Proofs.YtgheaoaicbkaoaaGreatDoor
open Go.RowKit AC
set_option linter.unusedVariables false
set_option linter.unusedSimpArgs false
theorem sz_i64 {x : Int} (h1 : -9223372036854775808 ≤ x) (h2 : x ≤ 9223372036854775807) : sz (mkRat x 1) ≤ 3 := by
  refine sz_mk x 1 3 (dl_le ?_) (dl_le ?_) (by omega)
  · have h3 : B ^ 3 = 1000000000000000000000000000 := by decide
    omega
  · have h3 : B ^ 3 = 1000000000000000000000000000 := by decide
    omega
/-- The level of a point. -/
def lvl (ct : Int) (q : Rat) : Rat := mkRat ct 1 + q
theorem sz_lvl {ct : Int} {q : Rat} {K : Nat} (h1 : -9223372036854775808 ≤ ct) (h2 : ct ≤ 9223372036854775807) (hq : sz q ≤ K) : sz (lvl ct q) ≤ K + 4 := by
  have := sz_add (mkRat ct 1) q
  have := sz_i64 h1 h2
  unfold lvl
  omega
set_option maxHeartbeats 4000000 in
set_option maxRecDepth 100000 in
theorem total_any (w : World) (lo K : Nat) (nd kd ct : Int) (s : Bool) (An Ad : Option Addr) (kn cn km cm : Nat) (q : Rat) (h1 : -9223372036854775808 ≤ ct) (h2 : ct ≤ 9223372036854775807) (hr : RatV w lo (.agg #[.bool s, .slice An kn cn, .slice Ad km cm]) K q) (hK : K ≤ 1000) :
    Calls Tryz.prog 13 #[.agg #[.int .i64 nd, .int .i64 kd, .int .i64 ct, .bool s, .slice An kn cn, .slice Ad km cm]] w (RetQ w (lvl ct q)) := by
  have HR := Lib.hid hr
  have H1 := Lib.hid h1
  have H2 := Lib.hid h2
  clear hr h1 h2
  obtain ⟨Q, hQ⟩ : ∃ Q, Hid (Q = lvl ct q) := ⟨_, rfl⟩
  rw [← hQ.out]
  go_enter Tryz.func13, Tryz.ntmps13
  go_upto_region 1 with (fail)
  obtain ⟨W, hW⟩ : ∃ W, W = ((w.alloc (.cells #[.int .i64 nd, .int .i64 kd, .int .i64 ct, .bool s, .slice An kn cn, .slice Ad km cm] 29)).alloc (.cells zero3 27)) := ⟨_, rfl⟩
  have hbW : Hid (Below w.heap.size w W) := by rw [hW]; exact ((Below.refl _ _).alloc (Nat.le_refl _) _).alloc (by simp) _
  have HP : Hid (Bk W w.heap.size 29 #[.int .i64 nd, .int .i64 kd, .int .i64 ct, .bool s, .slice An kn cn, .slice Ad km cm]) := by rw [hW]; exact (Bk.new _ _ _).alloc _
  have hRW : Hid (Bk W (w.heap.size + 1) 27 zero3) := by
    rw [hW]; have := Bk.new (w.alloc (.cells #[.int .i64 nd, .int .i64 kd, .int .i64 ct, .bool s, .slice An kn cn, .slice Ad km cm] 29)) 27 zero3; exact Lib.hid (by simpa using this)
  have hW' := hW
  simp only [zero3] at hW'
  rw [← hW']
  clear hW hW'
  refine wp_region_sym (⟨[(w.heap.size, 0, [.int .i64 nd, .int .i64 kd, .int .i64 ct, .bool s, .slice An kn cn, .slice Ad km cm])], [], [fun v x => RatV x W.heap.size v 3 (mkRat ct 1), fun v x => RatR x W.heap.size v (Q)], [(1, .p 0 0)], [(2, .f 0), (5, .f 1)]⟩ : Sp) [3, 4, 5, 6, 7, 8] W ((Below.refl _ _).drew) (by kernel_rfl) (by kernel_rfl) (by kernel_rfl) (sI (fun v x x' h hb => RatV.below h hb) (sI (fun v x x' h hb => RatR.below h hb) sN)) (by kernel_rfl)
    (fun x hx => (mI (bk_cells (HP.out.below hx HP.out.lt)) mN)) (dI (duty_call [.v (.int .i64 ct)] rfl rfl (by kernel_rfl) (by kernel_rfl) fun x vs hx hC hv => by
      obtain ⟨v1, rfl, rfl⟩ := satL1 hv
      refine (fromInt_any x ct H1.out H2.out).mono ?_
      rintro en w2 ⟨v2, rfl, hr2, hb⟩
      exact ⟨_, rfl, (hr2.lower hx.size).toV (sz_i64 H1.out H2.out), hb⟩) (
    dI (duty_call [.f 0, .v (.agg #[.bool s, .slice An kn cn, .slice Ad km cm])] rfl rfl (by kernel_rfl) (by kernel_rfl) fun x vs hx hC hv => by
      obtain ⟨v1, v2, rfl, h1, rfl⟩ := satL2 hv
      have h1 : RatV x W.heap.size v1 3 (mkRat ct 1) := h1
      refine (add_any' x W.heap.size lo v1 _ 3 K _ q h1 (HR.out.below (hbW.out.trans (hx.mono hbW.out.size))) (by omega)).mono ?_
      rintro en w2 ⟨v2, rfl, hr2, hb⟩
      refine ⟨_, rfl, ?_, hb⟩
      show RatR w2 W.heap.size v2 Q
      rw [hQ.out]
      exact hr2.lower hx.size) (dN))) ?_
  intro S x1 hbx hS
  obtain ⟨f5, _⟩ : (fun v x => RatR x W.heap.size v (Q) : Value → World → Prop) (S 5) x1 ∧ True := hS (l := [(5, .f 1)]) (by kernel_rfl)
  clear hS
  simp only [nv, Nat.reduceAdd, List.length_cons, List.length_nil, List.drop_succ_cons, List.drop_zero]
  have hr5 : RatR x1 W.heap.size (S 5) Q := f5
  obtain ⟨A4, c4, A5, c5, e5, _, _⟩ := FracR.form hr5
  rw [e5] at hr5 ⊢
  have HR5 := Lib.hid hr5
  have HBX := Lib.hid hbx
  obtain ⟨hcR, hfR, hzR⟩ := (hRW.out.below hbx hRW.out.lt).facts
  simp only [zero3] at hcR
  have hbw := hbW.out.trans (hbx.mono hbW.out.size)
  have HBW := Lib.hid hbw
  clear hr5 hbx f5 e5 hbw
  go_wp2
  exact bodyPost_ret (v := .agg #[.bool (decide (Q.num < 0)), .slice A4 (dl Q.num.natAbs) c4, .slice A5 (dl Q.den) c5]) (by simp [results, Tryz.results13, go_sem, hcR]) rfl
    ⟨_, rfl, RatR.lower (rat_set3 HR5.out (by have := hRW.out.lt; omega) _ _ _) hbW.out.size, below_set3 HBW.out (by omega) _ _ _⟩
theorem level_any (w : World) (lo K : Nat) (nd kd ct : Int) (s : Bool) (An Ad : Option Addr) (kn cn km cm : Nat) (q : Rat) (h1 : -9223372036854775808 ≤ ct) (h2 : ct ≤ 9223372036854775807) (hr : RatV w lo (.agg #[.bool s, .slice An kn cn, .slice Ad km cm]) K q) (hK : K ≤ 1000) :
    Calls Tryz.prog 18 #[.agg #[.int .i64 nd, .int .i64 kd, .int .i64 ct, .bool s, .slice An kn cn, .slice Ad km cm]] w (RetQ w (lvl ct q)) := by
  have HR := Lib.hid hr
  have H1 := Lib.hid h1
  have H2 := Lib.hid h2
  clear hr h1 h2
  obtain ⟨Q, hQ⟩ : ∃ Q, Hid (Q = lvl ct q) := ⟨_, rfl⟩
  rw [← hQ.out]
  go_enter Tryz.func18, Tryz.ntmps18
  go_upto_region 1 with (fail)
  obtain ⟨W, hW⟩ : ∃ W, W = ((w.alloc (.cells #[.int .i64 nd, .int .i64 kd, .int .i64 ct, .bool s, .slice An kn cn, .slice Ad km cm] 29)).alloc (.cells zero3 27)) := ⟨_, rfl⟩
  have hbW : Hid (Below w.heap.size w W) := by rw [hW]; exact ((Below.refl _ _).alloc (Nat.le_refl _) _).alloc (by simp) _
  have HP : Hid (Bk W w.heap.size 29 #[.int .i64 nd, .int .i64 kd, .int .i64 ct, .bool s, .slice An kn cn, .slice Ad km cm]) := by rw [hW]; exact (Bk.new _ _ _).alloc _
  have hRW : Hid (Bk W (w.heap.size + 1) 27 zero3) := by
    rw [hW]; have := Bk.new (w.alloc (.cells #[.int .i64 nd, .int .i64 kd, .int .i64 ct, .bool s, .slice An kn cn, .slice Ad km cm] 29)) 27 zero3; exact Lib.hid (by simpa using this)
  have hW' := hW
  simp only [zero3] at hW'
  rw [← hW']
  clear hW hW'
  refine wp_region_sym (⟨[(w.heap.size, 0, [.int .i64 nd, .int .i64 kd, .int .i64 ct, .bool s, .slice An kn cn, .slice Ad km cm])], [], [fun v x => RatV x W.heap.size v 3 (mkRat ct 1), fun v x => RatR x W.heap.size v (Q)], [(1, .p 0 0)], [(2, .f 0), (5, .f 1)]⟩ : Sp) [3, 4, 5, 6, 7, 8] W ((Below.refl _ _).drew) (by kernel_rfl) (by kernel_rfl) (by kernel_rfl) (sI (fun v x x' h hb => RatV.below h hb) (sI (fun v x x' h hb => RatR.below h hb) sN)) (by kernel_rfl)
    (fun x hx => (mI (bk_cells (HP.out.below hx HP.out.lt)) mN)) (dI (duty_call [.v (.int .i64 ct)] rfl rfl (by kernel_rfl) (by kernel_rfl) fun x vs hx hC hv => by
      obtain ⟨v1, rfl, rfl⟩ := satL1 hv
      refine (rFromInt_any x ct H1.out H2.out).mono ?_
      rintro en w2 ⟨v2, rfl, hr2, hb⟩
      exact ⟨_, rfl, (hr2.lower hx.size).toV (sz_i64 H1.out H2.out), hb⟩) (
    dI (duty_call [.f 0, .v (.agg #[.bool s, .slice An kn cn, .slice Ad km cm])] rfl rfl (by kernel_rfl) (by kernel_rfl) fun x vs hx hC hv => by
      obtain ⟨v1, v2, rfl, h1, rfl⟩ := satL2 hv
      have h1 : RatV x W.heap.size v1 3 (mkRat ct 1) := h1
      refine (rAdd_any x W.heap.size lo v1 _ 3 K _ q h1 (HR.out.below (hbW.out.trans (hx.mono hbW.out.size))) (by omega)).mono ?_
      rintro en w2 ⟨v2, rfl, hr2, hb⟩
      refine ⟨_, rfl, ?_, hb⟩
      show RatR w2 W.heap.size v2 Q
      rw [hQ.out]
      exact hr2.lower hx.size) (dN))) ?_
  intro S x1 hbx hS
  obtain ⟨f5, _⟩ : (fun v x => RatR x W.heap.size v (Q) : Value → World → Prop) (S 5) x1 ∧ True := hS (l := [(5, .f 1)]) (by kernel_rfl)
  clear hS
  simp only [nv, Nat.reduceAdd, List.length_cons, List.length_nil, List.drop_succ_cons, List.drop_zero]
  have hr5 : RatR x1 W.heap.size (S 5) Q := f5
  obtain ⟨A4, c4, A5, c5, e5, _, _⟩ := FracR.form hr5
  rw [e5] at hr5 ⊢
  have HR5 := Lib.hid hr5
  have HBX := Lib.hid hbx
  obtain ⟨hcR, hfR, hzR⟩ := (hRW.out.below hbx hRW.out.lt).facts
  simp only [zero3] at hcR
  have hbw := hbW.out.trans (hbx.mono hbW.out.size)
  have HBW := Lib.hid hbw
  clear hr5 hbx f5 e5 hbw
  go_wp2
  exact bodyPost_ret (v := .agg #[.bool (decide (Q.num < 0)), .slice A4 (dl Q.num.natAbs) c4, .slice A5 (dl Q.den) c5]) (by simp [results, Tryz.results18, go_sem, hcR]) rfl
    ⟨_, rfl, RatR.lower (rat_set3 HR5.out (by have := hRW.out.lt; omega) _ _ _) hbW.out.size, below_set3 HBW.out (by omega) _ _ _⟩
end Go.Proofs.YtgheaoaicbkaoaaGreatDoor

/-
  Audits: the walk of least.
-/
namespace Go.Proofs.YtgheaoaicbkaoaaGreatDoor
open Go.RowKit AC
set_option linter.unusedVariables false
set_option linter.unusedSimpArgs false
theorem cells7 {w : World} {b o : Nat} {x0 x1 x2 x3 x4 x5 x6 : Value} (h0 : w.cell? ⟨b, o, none⟩ = some x0) (h1 : w.cell? ⟨b, o + 1, none⟩ = some x1) (h2 : w.cell? ⟨b, o + 2, none⟩ = some x2) (h3 : w.cell? ⟨b, o + 3, none⟩ = some x3) (h4 : w.cell? ⟨b, o + 4, none⟩ = some x4) (h5 : w.cell? ⟨b, o + 5, none⟩ = some x5) (h6 : w.cell? ⟨b, o + 6, none⟩ = some x6) : CellsA w b o [x0, x1, x2, x3, x4, x5, x6] := by
  intro j x hx
  rcases j with _ | _ | _ | _ | _ | _ | _ | j <;> simp at hx
  · subst hx; exact h0
  · subst hx; exact h1
  · subst hx; exact h2
  · subst hx; exact h3
  · subst hx; exact h4
  · subst hx; exact h5
  · subst hx; exact h6
section
variable {w w' : World} {base k K : Nat} {N : Nat → Int} {s t : Nat → Rat}
theorem OwnO.at {g c : Nat} (h : OwnO w base (.slice (some ⟨g, 0, none⟩) k c) k K N s t) {j : Nat} (hj : j < k) :
    ∃ b1 A1 k1 c1 A2 k2 c2 b2 A3 k3 c3 A4 k4 c4, CellsA w g (0 + j * 7) [.int .i64 (N j), .bool b1, .slice A1 k1 c1, .slice A2 k2 c2, .bool b2, .slice A3 k3 c3, .slice A4 k4 c4] ∧
      RatVP w (fun b => base ≤ b ∧ b ≠ g) (.agg #[.bool b1, .slice A1 k1 c1, .slice A2 k2 c2]) K (s j) ∧ RatVP w (fun b => base ≤ b ∧ b ≠ g) (.agg #[.bool b2, .slice A3 k3 c3, .slice A4 k4 c4]) K (t j) := by
  obtain ⟨g', b1, A1, k1, c1, A2, k2, c2, b2, A3, k3, c3, A4, k4, c4, e, hb, hl, e0, e1, e2, e3, e4, e5, e6, _, h3, h4⟩ := h.elem hj
  injection e with e
  injection e with e
  subst e
  exact ⟨b1, A1, k1, c1, A2, k2, c2, b2, A3, k3, c3, A4, k4, c4, by rw [Nat.zero_add]; exact cells7 e0 e1 e2 e3 e4 e5 e6, h3, h4⟩
theorem OwnO.has {g c : Nat} (h : OwnO w base (.slice (some ⟨g, 0, none⟩) k c) k K N s t) : base ≤ g ∧ g < w.heap.size ∧ ∀ o, w.frozen? ⟨g, o, none⟩ = false := by
  obtain ⟨xs, h1, _⟩ := h
  rcases h1.2 with ⟨e, _⟩ | ⟨g', cap, cur, e, hb, hgg, _⟩
  · cases e
  · injection e with e _ _
    injection e with e
    injection e with e
    subst e
    exact ⟨hb, (Array.getElem?_eq_some_iff.1 hgg).1, fun o => by simp [World.frozen?, hgg]⟩
theorem RatVP.toB {g : Nat} {v : Value} {q : Rat} (h : RatVP w (fun b => base ≤ b ∧ b ≠ g) v K q) : RatV w base v K q := RatVP.toV (h.keep (Nat.le_refl _) fun b hb _ => ⟨rfl, hb.1⟩)
theorem grown_refl (w : World) (r : Option Nat) : w.grownBy w r := ⟨rfl, rfl, rfl, Nat.le_refl _, fun _ _ _ => rfl⟩
theorem grown_set3 (w : World) (g i j l : Nat) (x y z : Value) : w.grownBy (((w.setCell ⟨g, i, none⟩ x).setCell ⟨g, j, none⟩ y).setCell ⟨g, l, none⟩ z) (some g) :=
  ⟨rfl, rfl, rfl, by simp [World.setCell], fun b _ hne => heap_setAt3 _ _ _ _ _ _ _ _ _ fun e => hne (by rw [e])⟩
theorem grown_below {r : Option Nat} (h : Below w.heap.size w w') : w.grownBy w' r := ⟨h.os, h.tape, h.output, h.size, fun b hb _ => h.block b hb⟩
end
/-- The least sums when the places from fr on below j are set. -/
def lst (s t : Nat → Rat) (fr j : Nat) : Nat → Rat := fun i => if i < fr then t i else if i < j then mn s i else t i
theorem lst_start (s t : Nat → Rat) (fr : Nat) : lst s t fr fr = t := by
  funext i
  unfold lst
  by_cases h : i < fr <;> simp [h]
theorem lst_prev {s t : Nat → Rat} {fr j : Nat} (ht : 0 < fr → t (fr - 1) = mn s (fr - 1)) (hf : fr ≤ j) (hj : 0 < j) : lst s t fr j (j - 1) = mn s (j - 1) := by
  unfold lst
  by_cases h : j - 1 < fr
  · have : j = fr := by omega
    subst this
    rw [if_pos h]
    exact ht hj
  · rw [if_neg h, if_pos (by omega)]
theorem lst_next {s t : Nat → Rat} {fr j i : Nat} (hf : fr ≤ j) {q : Rat} (hq : q = mn s j) : (if i = j then q else lst s t fr j i) = lst s t fr (j + 1) i := by
  unfold lst
  by_cases h : i = j
  · subst h
    rw [if_pos rfl, if_neg (by omega), if_pos (by omega)]
    exact hq
  · rw [if_neg h]
    by_cases h1 : i < fr
    · rw [if_pos h1, if_pos h1]
    · rw [if_neg h1, if_neg h1]
      by_cases h2 : i < j
      · rw [if_pos h2, if_pos (by omega)]
      · rw [if_neg h2, if_neg (by omega)]
set_option maxHeartbeats 8000000 in
set_option maxRecDepth 100000 in
theorem least_any {w : World} {base k K : Nat} {v : Value} {N : Nat → Int} {s t : Nat → Rat} (h : OwnO w base v k K N s t) (fr : Nat) (hf : fr ≤ k) (ht : 0 < fr → t (fr - 1) = mn s (fr - 1)) (hk : k ≤ 1000000) (hK : K ≤ 1000) :
    Calls Tryz.prog 12 #[v, .int .i64 fr] w (fun e w' => e = .returned v ∧ OwnO w' base v k K N s (fun j => if j < fr then t j else mn s j) ∧ w.grownBy w' v.ownBlock) := by
  obtain ⟨A, c, rfl, hkc, hcm⟩ := h.form
  have HO := Lib.hid h
  have HT := Lib.hid ht
  clear h ht
  go_enter Tryz.func12, Tryz.ntmps12
  go_wp2
  go_loopw [5] (fun iv wr => ∃ j : Nat, fr ≤ j ∧ j ≤ k ∧ iv = .int .i64 j ∧ Hid (OwnO wr base (.slice A k c) k K N s (lst s t fr j)) ∧ Hid (w.grownBy wr (Value.slice A k c).ownBlock)) (fun iv _ => k - (intOf iv).toNat)
  case atStart => exact ⟨fr, Nat.le_refl _, hf, rfl, by rw [lst_start]; exact HO, grown_refl _ _⟩
  case round =>
    obtain ⟨j, hfj, hjk, rfl, hO, hG⟩ := hrel
    by_cases hlt : j < k
    · obtain ⟨g, b1, A1, k1, c1, A2, k2, c2, b2, A3, k3, c3, A4, k4, c4, rfl, hg1, hg2, e0, e1, e2, e3, e4, e5, e6, hfz, hs1, ht1⟩ := hO.out.elem hlt
      have HS1 := Lib.hid hs1
      clear hs1 ht1
      obtain ⟨u, hu⟩ : ∃ u, Hid (u = s j) := ⟨_, rfl⟩
      have HU : Hid (RatVP wr (fun b => base ≤ b ∧ b ≠ g) (.agg #[.bool b1, .slice A1 k1 c1, .slice A2 k2 c2]) K u) := by rw [hu.out]; exact HS1.out
      go_upto_region 5 with (fail)
      obtain ⟨W, hW⟩ : ∃ W, W = ((wr.setCell ⟨g, j * 7 + 4, none⟩ (.bool b1)).setCell ⟨g, j * 7 + 4 + 1, none⟩ (.slice A1 k1 c1)).setCell ⟨g, j * 7 + 4 + 2, none⟩ (.slice A2 k2 c2) := ⟨_, rfl⟩
      have HO1 : Hid (OwnO W base (.slice (some ⟨g, 0, none⟩) k c) k K N s (fun i => if i = j then u else lst s t fr j i)) := by rw [hW]; exact hO.out.setT hlt HU.out
      have HG1 : Hid (w.grownBy W (some g)) := by rw [hW]; exact hG.out.trans (grown_set3 _ _ _ _ _ _ _ _)
      rw [← hW]
      clear hW HU HS1 hO hG e0 e1 e2 e3 e4 e5 e6
      rcases Nat.eq_zero_or_pos j with hj0 | hj0
      · subst hj0
        have ef : ((0 : Nat) : Int) = 0 := rfl
        simp only [ef]
        refine wp_region_sym (⟨[], [], [], [(5, .v (.int .i64 0))], []⟩ : Sp) [22, 23, 24, 25, 26, 27, 28, 29, 30, 31, 32, 33, 34, 35, 36, 37, 38] W ((Below.refl _ _).drew) (by kernel_rfl) (by kernel_rfl) (by kernel_rfl) sN (by kernel_rfl)
          (fun x hx => mN) (dN) ?_
        intro S x1 hbx hS
        obtain ⟨g16, _⟩ : S 16 = .bool false ∧ True := hS (l := [(16, .v (.bool false))]) (by kernel_rfl)
        clear hS
        simp only [nv, Nat.reduceAdd, List.length_cons, List.length_nil, List.drop_succ_cons, List.drop_zero, g16]
        clear g16
        have HX := Lib.hid hbx
        go_wp2
        go_roundw
        case rel => exact ⟨0 + 1, by omega, by omega, rfl, (HO1.out.below HX.out).congr fun i hi => ⟨rfl, rfl, lst_next hfj (by rw [hu.out]; rfl)⟩, HG1.out.trans (grown_below HX.out)⟩
        case measure => simp [intOf]; omega
      · obtain ⟨M, hM⟩ : ∃ M, Hid (M = mn s (j - 1)) := ⟨_, rfl⟩
        obtain ⟨z, hz⟩ : ∃ z : Int, Hid (z = cmpQ M u) := ⟨_, rfl⟩
        have hmn : Hid (mn s j = if z < 0 then M else u) := by
          show mn s j = _
          obtain ⟨j', rfl⟩ : ∃ j', j = j' + 1 := ⟨j - 1, by omega⟩
          rw [mn, hz.out, hM.out, hu.out]
          rfl
        obtain ⟨b3, A5, k5, c5, A6, k6, c6, b4, A7, k7, c7, A8, k8, c8, hc1, _, hr1⟩ := HO1.out.at (j := j - 1) (by omega)
        obtain ⟨b5, A9, k9, c9, A10, k10, c10, b6, A11, k11, c11, A12, k12, c12, hc2, hr2, _⟩ := HO1.out.at hlt
        have HM : Hid (RatV W base (.agg #[.bool b4, .slice A7 k7 c7, .slice A8 k8 c8]) K M) := by
          have h := hr1.toB
          simp only [if_neg (show ¬ j - 1 = j by omega)] at h
          rw [lst_prev HT.out hfj hj0, ← hM.out] at h
          exact h
        have HU : Hid (RatV W base (.agg #[.bool b5, .slice A9 k9 c9, .slice A10 k10 c10]) K u) := by rw [hu.out]; exact hr2.toB
        have HC1 := Lib.hid hc1
        have HC2 := Lib.hid hc2
        have HC1l := Lib.hid HO1.out.has.2.1
        have HC2l := HC1l
        clear hc1 hc2 hr1 hr2
        by_cases hzp : z < 0
        · skip
          refine wp_region_sym (⟨[(g, (0 + (j - 1) * 7), [.int .i64 ((N (j - 1))), .bool b3, .slice A5 k5 c5, .slice A6 k6 c6, .bool b4, .slice A7 k7 c7, .slice A8 k8 c8]), (g, (0 + j * 7), [.int .i64 ((N j)), .bool b5, .slice A9 k9 c9, .slice A10 k10 c10, .bool b6, .slice A11 k11 c11, .slice A12 k12 c12])], [], [], [(0, .v (.slice (some ⟨g, 0, none⟩) k c)), (5, .v (.int .i64 ((j : Int))))], [(1, .b .t), (5, .v (.int .i64 (((j - 1 : Nat) : Int)))), (6, .p 0 0), (11, .p 1 0), (14, .v (.int .i64 z)), (15, .b .t)]⟩ : Sp) [22, 23, 24, 25, 26, 27, 28, 29, 30, 31, 32, 33, 34, 35, 36, 37, 38] W ((Below.refl _ _).drew) (by kernel_rfl) (by kernel_rfl) (by kernel_rfl) sN (by kernel_rfl)
            (fun x hx => (mI (HC1.out.sure hx HC1l.out) (mI (HC2.out.sure hx HC2l.out) mN))) (dI (duty_cmp (op := .gtr) rfl rfl .i64 ((j : Int)) 0 .t (by kernel_rfl) (cmp_t (show (((j : Int)) : Int) > 0 by omega))) (
            dI (duty_arith (op := .sub) rfl rfl ((j : Int)) 1 (((j - 1 : Nat) : Int)) (by kernel_rfl) (.inr ⟨rfl, (by omega)⟩) (fun _ => by omega)) (
            dI (duty_index rfl rfl g (0) k c .i64 (j - 1) 7 0 (by kernel_rfl) (by kernel_rfl) (fun _ => by omega) rfl) (
            dI (duty_index rfl rfl g (0) k c .i64 j 7 1 (by kernel_rfl) (by kernel_rfl) (fun _ => by omega) rfl) (
            dI (duty_call [.v (.agg #[.bool b4, .slice A7 k7 c7, .slice A8 k8 c8]), .v (.agg #[.bool b5, .slice A9 k9 c9, .slice A10 k10 c10])] rfl rfl (by kernel_rfl) (by kernel_rfl) fun x vs hx hC hv => by
              obtain ⟨v1, v2, rfl, rfl, rfl⟩ := satL2 hv
              refine (Cmp_any x base base _ _ K K M u (HM.out.below hx) (HU.out.below hx) (by omega)).mono ?_
              rintro en w2 ⟨rfl, hb⟩
              rw [← hz.out]
              exact ⟨_, rfl, rfl, hb⟩) (
            dI (duty_cmp (op := .lss) rfl rfl .i64 z 0 .t (by kernel_rfl) (cmp_t (show (z : Int) < 0 by omega))) (dN))))))) ?_
          intro S x1 hbx hS
          obtain ⟨g16, _⟩ : S 16 = .bool true ∧ True := hS (l := [(16, .b .t)]) (by kernel_rfl)
          clear hS
          simp only [nv, Nat.reduceAdd, List.length_cons, List.length_nil, List.drop_succ_cons, List.drop_zero, g16]
          clear g16
          have HX := Lib.hid hbx
          have HO2 := Lib.hid (HO1.out.below HX.out)
          obtain ⟨g', b7, B1, l1, d1, B2, l2, d2, b8, B3, l3, d3, B4, l4, d4, eg, _, _, f0, f1, f2, f3, f4, f5, f6, _, _, hp1⟩ := HO2.out.elem (j := j - 1) (by omega)
          injection eg with eg
          injection eg with eg
          subst eg
          obtain ⟨g', b9, B5, l5, d5, B6, l6, d6, b10, B7, l7, d7, B8, l8, d8, eg, _, hgx, h0, h1, h2, h3, h4, h5, h6, hfx, _, _⟩ := HO2.out.elem (j := j) hlt
          injection eg with eg
          injection eg with eg
          subst eg
          have HP1 : Hid (RatVP x1 (fun b => base ≤ b ∧ b ≠ g) (.agg #[.bool b8, .slice B3 l3 d3, .slice B4 l4 d4]) K M) := by
            have h := hp1
            simp only [if_neg (show ¬ j - 1 = j by omega)] at h
            rw [lst_prev HT.out hfj hj0, ← hM.out] at h
            exact h
          have ej : ((j : Int) - 1) = ((j - 1 : Nat) : Int) := by omega
          clear hp1 hbx
          go_wp2
          go_roundw
          case rel => exact ⟨j + 1, by omega, by omega, rfl, (HO2.out.setT hlt HP1.out).congr fun i hi => ⟨rfl, rfl, by
            by_cases e : i = j
            · simp only [if_pos e]
              have := lst_next (s := s) (t := t) (fr := fr) (j := j) (i := i) hfj (q := M) (by rw [hmn.out, if_pos hzp])
              rw [← this, if_pos e]
            · simp only [if_neg e]
              have := lst_next (s := s) (t := t) (fr := fr) (j := j) (i := i) hfj (q := M) (by rw [hmn.out, if_pos hzp])
              rw [← this, if_neg e]⟩, HG1.out.trans ((grown_below HX.out).trans (grown_set3 _ _ _ _ _ _ _ _))⟩
          case measure => simp [intOf]; omega
        · skip
          refine wp_region_sym (⟨[(g, (0 + (j - 1) * 7), [.int .i64 ((N (j - 1))), .bool b3, .slice A5 k5 c5, .slice A6 k6 c6, .bool b4, .slice A7 k7 c7, .slice A8 k8 c8]), (g, (0 + j * 7), [.int .i64 ((N j)), .bool b5, .slice A9 k9 c9, .slice A10 k10 c10, .bool b6, .slice A11 k11 c11, .slice A12 k12 c12])], [], [], [(0, .v (.slice (some ⟨g, 0, none⟩) k c)), (5, .v (.int .i64 ((j : Int))))], [(1, .b .t), (5, .v (.int .i64 (((j - 1 : Nat) : Int)))), (6, .p 0 0), (11, .p 1 0), (14, .v (.int .i64 z)), (15, .b .f)]⟩ : Sp) [22, 23, 24, 25, 26, 27, 28, 29, 30, 31, 32, 33, 34, 35, 36, 37, 38] W ((Below.refl _ _).drew) (by kernel_rfl) (by kernel_rfl) (by kernel_rfl) sN (by kernel_rfl)
            (fun x hx => (mI (HC1.out.sure hx HC1l.out) (mI (HC2.out.sure hx HC2l.out) mN))) (dI (duty_cmp (op := .gtr) rfl rfl .i64 ((j : Int)) 0 .t (by kernel_rfl) (cmp_t (show (((j : Int)) : Int) > 0 by omega))) (
            dI (duty_arith (op := .sub) rfl rfl ((j : Int)) 1 (((j - 1 : Nat) : Int)) (by kernel_rfl) (.inr ⟨rfl, (by omega)⟩) (fun _ => by omega)) (
            dI (duty_index rfl rfl g (0) k c .i64 (j - 1) 7 0 (by kernel_rfl) (by kernel_rfl) (fun _ => by omega) rfl) (
            dI (duty_index rfl rfl g (0) k c .i64 j 7 1 (by kernel_rfl) (by kernel_rfl) (fun _ => by omega) rfl) (
            dI (duty_call [.v (.agg #[.bool b4, .slice A7 k7 c7, .slice A8 k8 c8]), .v (.agg #[.bool b5, .slice A9 k9 c9, .slice A10 k10 c10])] rfl rfl (by kernel_rfl) (by kernel_rfl) fun x vs hx hC hv => by
              obtain ⟨v1, v2, rfl, rfl, rfl⟩ := satL2 hv
              refine (Cmp_any x base base _ _ K K M u (HM.out.below hx) (HU.out.below hx) (by omega)).mono ?_
              rintro en w2 ⟨rfl, hb⟩
              rw [← hz.out]
              exact ⟨_, rfl, rfl, hb⟩) (
            dI (duty_cmp (op := .lss) rfl rfl .i64 z 0 .f (by kernel_rfl) (cmp_f (show ¬ (z : Int) < 0 by omega))) (dN))))))) ?_
          intro S x1 hbx hS
          obtain ⟨g16, _⟩ : S 16 = .bool false ∧ True := hS (l := [(16, .b .f)]) (by kernel_rfl)
          clear hS
          simp only [nv, Nat.reduceAdd, List.length_cons, List.length_nil, List.drop_succ_cons, List.drop_zero, g16]
          clear g16
          have HX := Lib.hid hbx
          go_wp2
          go_roundw
          case rel => exact ⟨j + 1, by omega, by omega, rfl, (HO1.out.below HX.out).congr fun i hi => ⟨rfl, rfl, lst_next hfj (by rw [hmn.out, if_neg hzp])⟩, HG1.out.trans (grown_below HX.out)⟩
          case measure => simp [intOf]; omega
    · obtain rfl : j = k := by omega
      go_wp2
      go_ret
      refine ⟨rfl, hO.out.congr fun i hi => ⟨rfl, rfl, ?_⟩, hG.out⟩
      unfold lst
      by_cases h : i < fr
      · simp only [if_pos h]
      · simp only [if_neg h, if_pos hi]
end Go.Proofs.YtgheaoaicbkaoaaGreatDoor

