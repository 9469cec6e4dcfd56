/-
  scan: the token that begins at a place.
-/
import Derived.Test.YtdbiedpdibjdlaaGreatMGt
import Derived.Laws.ResultCell
import Derived.Laws.Rows
namespace Go.Proofs.YtdbiedpdibjdlaaGreat
open Go.RowKit AC
set_option linter.unusedVariables false
set_option linter.unusedSimpArgs false

theorem res_ct {P : Program} {fn : Func} {p u : Tmp} {ty : TypeId} (h : fn.results = #[.cell p ty, .tmp u]) (tmps : Array Value) (w : World) (g : Nat) (t : TypeId) (cs : Array Value) (fr : Nat × Nat) (d : TypeDesc)
    (hp : tmps.getD p undef = .pointer (some ⟨g, 0, none⟩)) (hg : w.heap[g]? = some (.cells cs t fr))
    (hu : P.underlying ty = some d) (hd : (match d with | .struct _ | .array _ _ => true | _ => false) = true) (hi : (P.info? ty).map (·.size) = some cs.size) :
    (results fn tmps).run P w = .ok (.tuple #[.agg cs, tmps.getD u undef]) w := by
  rw [results_cell_tmp h, hp]
  simp [asAddr, run_loadVar_row w g t ty cs fr d hg hu hd hi]
def Tok (k : Int) (t : ByteArray) (p : Int) : Array Value := #[.int .i64 k, .string t, .int .i64 p]
theorem bk_tok {w : World} {g : Nat} {T : TypeId} {a b c x y z : Value} (h : Bk w g T #[a, b, c]) : Bk (((w.setCell ⟨g, 0, none⟩ x).setCell ⟨g, 1, none⟩ y).setCell ⟨g, 2, none⟩ z) g T #[x, y, z] := by
  have := ((h.set 0 x).set 1 y).set 2 z
  simpa using this
theorem Longest.uniq {p : Nat → Bool} {s : ByteArray} {n m : Nat} (h : Longest p s n) (h' : Longest p s m) : n = m := by
  rcases Nat.lt_trichotomy n m with h1 | h1 | h1
  · have h2 : n < s.size := Nat.lt_of_lt_of_le h1 h'.1
    have h3 := h.2.2 h2
    rw [h'.2.1 n h2 h1] at h3
    cases h3
  · exact h1
  · have h2 : m < s.size := Nat.lt_of_lt_of_le h1 h.1
    have h3 := h'.2.2 h2
    rw [h.2.1 m h2 h1] at h3
    cases h3
theorem Longest.pos {p : Nat → Bool} {s : ByteArray} {pos n : Nat} (hp : pos < s.size) (h : Longest p (s.extract pos s.size) n) (hc : p (s[pos]'hp).toNat = true) : 1 ≤ n := by
  rcases Nat.eq_zero_or_pos n with h0 | h0
  · subst h0
    have h1 : 0 < (s.extract pos s.size).size := by simp [ByteArray.size_extract]; omega
    have h2 := h.2.2 h1
    rw [ByteArray.getElem_extract] at h2
    simp only [Nat.add_zero] at h2
    rw [hc] at h2
    cases h2
  · exact h0
/-- What scan leaves. -/
def ScanPost (s : ByteArray) (pos : Nat) (hp : pos < s.size) (w : World) (e : Ending) (w' : World) : Prop :=
  ∃ (kind : Int) (txt : ByteArray) (p err : Int), e = .returned (.tuple #[.agg (Tok kind txt p), .int .i64 err]) ∧ Below w.heap.size w w' ∧
    (err = 0 → 1 ≤ txt.size ∧ pos + txt.size ≤ s.size ∧ (kind = 2 → upperB (s[pos]'hp).toNat = true ∧ ∃ n, n ≤ 24 ∧ Longest withinB (s.extract pos s.size) n ∧ txt = (s.extract pos s.size).extract 0 n)) ∧
    (upperB (s[pos]'hp).toNat = true → ∀ n, Longest withinB (s.extract pos s.size) n → n ≤ 24 → err = 0 ∧ kind = 2 ∧ txt = (s.extract pos s.size).extract 0 n)

set_option maxHeartbeats 8000000 in
set_option maxRecDepth 100000 in
theorem scan_any (s : ByteArray) (pos : Nat) (hp : pos < s.size) (hs : s.size ≤ 1000000) (w : World) : Calls Tryz.prog 124 #[.string s, .int .i64 (pos : Int)] w (ScanPost s pos hp w) := by
  obtain ⟨c, hc⟩ : ∃ c : UInt8, s[pos]'hp = c := ⟨_, rfl⟩
  have KL := Lib.hid fun w => lower_any c.toNat w
  have KU := Lib.hid fun w => upper_any c.toNat w
  have KD := Lib.hid fun w => digit_any c.toNat w
  obtain ⟨R, hR⟩ : ∃ R, s.extract pos s.size = R := ⟨_, rfl⟩
  have hrs : R.size = s.size - pos := by rw [← hR]; simp [ByteArray.size_extract]
  have HRS := Lib.hid hrs
  have HC := Lib.hid hc
  have HR := Lib.hid hR
  have KW := Lib.hid fun w => prefix_any class_within R (by omega) w
  have KG := Lib.hid fun w => prefix_any class_digit R (by omega) w
  go_enter Tryz.func124, Tryz.ntmps124
  go_upto_region 2 with (fail)
  obtain ⟨C, hC⟩ : ∃ C, C = (w.alloc (.cells #[.int .i64 0, .string { data := #[] }, .int .i64 0] 157)).alloc (.cells #[.int .i64 0, .string { data := #[] }, .int .i64 (pos : Int)] 157) := ⟨_, rfl⟩
  have HB0 : Hid (Below w.heap.size w C) := by rw [hC]; exact ((Below.refl _ _).alloc (Nat.le_refl _) _).alloc (by simp) _
  have HX0 : Hid (Bk C w.heap.size 157 #[.int .i64 0, .string { data := #[] }, .int .i64 0]) := by rw [hC]; exact (Bk.new _ _ _).alloc _
  have HY0 : Hid (Bk C (w.heap.size + 1) 157 #[.int .i64 0, .string { data := #[] }, .int .i64 (pos : Int)]) := by rw [hC]; exact bk_two _ _ _ _
  rw [← hC]
  clear hC
  obtain ⟨lb, hlb⟩ : ∃ b, lowerB c.toNat = b := ⟨_, rfl⟩
  obtain ⟨ub, hub⟩ : ∃ b, upperB c.toNat = b := ⟨_, rfl⟩
  obtain ⟨db, hdb⟩ : ∃ b, digitB c.toNat = b := ⟨_, rfl⟩
  rw [hlb] at KL
  rw [hub] at KU
  rw [hdb] at KD
  have HLB := Lib.hid hlb
  have HUB := Lib.hid hub
  have HDB := Lib.hid hdb
  clear hlb hub hdb
  go_wp2_with fail
  refine (KL.out _).mono ?_
  rintro e w1 ⟨rfl, hb⟩
  have HB1 := Lib.hid (HB0.out.trans (hb.mono HB0.out.size))
  have HX1 := Lib.hid (Bk.below HX0.out hb (by simpa using Bk.lt HX0.out))
  have HY1 := Lib.hid (Bk.below HY0.out hb (by simpa using Bk.lt HY0.out))
  obtain ⟨hx1, hxf1, _⟩ := HX1.out.facts
  obtain ⟨hy1, hyf1, _⟩ := HY1.out.facts
  clear hb
  cases lb with
  | true =>
    have HWI : Hid (withinB c.toNat = true) := by
      have h1 := HLB.out
      have h2 := HUB.out
      show _ = _
      unfold withinB
      rw [h1]
      simp
    go_wp2_with fail
    refine (KW.out _).mono ?_
    rintro e w2 ⟨n, hL, rfl, hb⟩
    have HB2 := Lib.hid (HB1.out.trans (hb.mono HB1.out.size))
    have HX2 := Lib.hid (Bk.below HX1.out hb (by simpa using Bk.lt HX1.out))
    have HY2 := Lib.hid (Bk.below HY1.out hb (by simpa using Bk.lt HY1.out))
    obtain ⟨hx2, hxf2, _⟩ := HX2.out.facts
    obtain ⟨hy2, hyf2, _⟩ := HY2.out.facts
    clear hb
    obtain ⟨X, hX⟩ : ∃ X, R.extract 0 n = X := ⟨_, rfl⟩
    have hxs : X.size = n := by
      have h1 := hL.1
      rw [← hX]
      simp [ByteArray.size_extract]
      omega
    rw [hX]
    have HL := Lib.hid (show Longest withinB (s.extract pos s.size) n by rw [HR.out]; exact hL)
    have HXX := Lib.hid (show (s.extract pos s.size).extract 0 n = X by rw [HR.out]; exact hX)
    have hnR : n ≤ R.size := hL.1
    have HN1 : Hid (1 ≤ n) := by
      have h2 := hL
      rw [← HR.out] at h2
      exact h2.pos hp (by rw [HC.out]; exact HWI.out)
    clear hL hX
    by_cases h24 : X.size ≤ 24
    · have h24i : ¬ (24 : Int) < (X.size : Int) := by omega
      have HB3 := Lib.hid (HB2.out.setCell (p := ⟨w.heap.size + 1, 1, none⟩) (by show w.heap.size ≤ w.heap.size + 1; omega) (.string X))
      have HX3 := Lib.hid (Bk.far HX2.out (p := ⟨w.heap.size + 1, 1, none⟩) (by show w.heap.size ≠ w.heap.size + 1; omega) (.string X))
      have HY3 := Lib.hid (Bk.set HY2.out 1 (.string X))
      simp only [List.setIfInBounds_toArray, List.set_cons_zero, List.set_cons_succ] at HY3
      go_wp2_with fail
      refine (KU.out _).mono ?_
      rintro e w4 ⟨rfl, hb⟩
      have HB4 := Lib.hid (HB3.out.trans (hb.mono HB3.out.size))
      have HX4 := Lib.hid (Bk.below HX3.out hb (by simpa using Bk.lt HX3.out))
      have HY4 := Lib.hid (Bk.below HY3.out hb (by simpa using Bk.lt HY3.out))
      obtain ⟨hx4, hxf4, _⟩ := HX4.out.facts
      obtain ⟨hy4, hyf4, _⟩ := HY4.out.facts
      clear hb
      cases ub with
      | true =>
        go_wp2
        refine bodyPost_ret (res_ct rfl _ _ w.heap.size 157 (Tok 2 X pos) (0, 0) _ rfl (bk_tok (Bk.far HX4.out (p := ⟨w.heap.size + 1, 0, none⟩) (by show w.heap.size ≠ w.heap.size + 1; omega) (.int .i64 2))) Tryz.underlying157 rfl (by kernel_rfl)) rfl ?_
        exact ⟨2, X, pos, 0, rfl, (below_set3 (HB4.out.setCell (p := ⟨w.heap.size + 1, 0, none⟩) (by show w.heap.size ≤ w.heap.size + 1; omega) (.int .i64 2)) (Nat.le_refl _) _ _ _), (fun _ => ⟨by have h1 := HN1.out; omega, by have h1 := HRS.out; omega, (fun _ => ⟨by rw [HC.out]; exact HUB.out, n, by omega, HL.out, HXX.out.symm⟩)⟩), (fun _ m hm _ => ⟨rfl, rfl, by rw [hm.uniq HL.out]; exact HXX.out.symm⟩)⟩
      | false =>
        go_wp2_with fail
        refine ((fun w => keyword_any X w) _).mono ?_
        rintro e w5 ⟨kb, rfl, hb⟩
        have HB5 := Lib.hid (HB4.out.trans (hb.mono HB4.out.size))
        have HX5 := Lib.hid (Bk.below HX4.out hb (by simpa using Bk.lt HX4.out))
        have HY5 := Lib.hid (Bk.below HY4.out hb (by simpa using Bk.lt HY4.out))
        obtain ⟨hx5, hxf5, _⟩ := HX5.out.facts
        obtain ⟨hy5, hyf5, _⟩ := HY5.out.facts
        clear hb
        cases kb with
        | true =>
          go_wp2
          refine bodyPost_ret (res_ct rfl _ _ w.heap.size 157 (Tok 4 X pos) (0, 0) _ rfl (bk_tok (Bk.far HX5.out (p := ⟨w.heap.size + 1, 0, none⟩) (by show w.heap.size ≠ w.heap.size + 1; omega) (.int .i64 4))) Tryz.underlying157 rfl (by kernel_rfl)) rfl ?_
          exact ⟨4, X, pos, 0, rfl, (below_set3 (HB5.out.setCell (p := ⟨w.heap.size + 1, 0, none⟩) (by show w.heap.size ≤ w.heap.size + 1; omega) (.int .i64 4)) (Nat.le_refl _) _ _ _), (fun _ => ⟨by have h1 := HN1.out; omega, by have h1 := HRS.out; omega, (fun h => absurd h (by decide))⟩), (fun h => by rw [HC.out, HUB.out] at h; cases h)⟩
        | false =>
          go_wp2
          refine bodyPost_ret (res_ct rfl _ _ w.heap.size 157 (Tok 1 X pos) (0, 0) _ rfl (bk_tok (Bk.far HX5.out (p := ⟨w.heap.size + 1, 0, none⟩) (by show w.heap.size ≠ w.heap.size + 1; omega) (.int .i64 1))) Tryz.underlying157 rfl (by kernel_rfl)) rfl ?_
          exact ⟨1, X, pos, 0, rfl, (below_set3 (HB5.out.setCell (p := ⟨w.heap.size + 1, 0, none⟩) (by show w.heap.size ≤ w.heap.size + 1; omega) (.int .i64 1)) (Nat.le_refl _) _ _ _), (fun _ => ⟨by have h1 := HN1.out; omega, by have h1 := HRS.out; omega, (fun h => absurd h (by decide))⟩), (fun h => by rw [HC.out, HUB.out] at h; cases h)⟩
    · have h24i : (24 : Int) < (X.size : Int) := by omega
      go_wp2
      refine bodyPost_ret (res_ct rfl _ _ w.heap.size 157 (Tok 0 ByteArray.empty 0) (0, 0) _ rfl (bk_tok (Bk.far HX2.out (p := ⟨w.heap.size + 1, 1, none⟩) (by show w.heap.size ≠ w.heap.size + 1; omega) (.string X))) Tryz.underlying157 rfl (by kernel_rfl)) rfl ?_
      exact ⟨0, ByteArray.empty, 0, 9, rfl, (below_set3 (HB2.out.setCell (p := ⟨w.heap.size + 1, 1, none⟩) (by show w.heap.size ≤ w.heap.size + 1; omega) (.string X)) (Nat.le_refl _) _ _ _), (fun h => absurd h (by decide)), (fun _ m hm h9 => absurd h9 (by have h1 := hm.uniq HL.out; omega))⟩
  | false =>
    go_wp2_with fail
    refine (KU.out _).mono ?_
    rintro e w2 ⟨rfl, hb⟩
    have HB2 := Lib.hid (HB1.out.trans (hb.mono HB1.out.size))
    have HX2 := Lib.hid (Bk.below HX1.out hb (by simpa using Bk.lt HX1.out))
    have HY2 := Lib.hid (Bk.below HY1.out hb (by simpa using Bk.lt HY1.out))
    obtain ⟨hx2, hxf2, _⟩ := HX2.out.facts
    obtain ⟨hy2, hyf2, _⟩ := HY2.out.facts
    clear hb
    cases ub with
    | true =>
      have HWI : Hid (withinB c.toNat = true) := by
        have h1 := HLB.out
        have h2 := HUB.out
        show _ = _
        unfold withinB
        rw [h2]
        simp
      go_wp2_with fail
      refine (KW.out _).mono ?_
      rintro e w3 ⟨n, hL, rfl, hb⟩
      have HB3 := Lib.hid (HB2.out.trans (hb.mono HB2.out.size))
      have HX3 := Lib.hid (Bk.below HX2.out hb (by simpa using Bk.lt HX2.out))
      have HY3 := Lib.hid (Bk.below HY2.out hb (by simpa using Bk.lt HY2.out))
      obtain ⟨hx3, hxf3, _⟩ := HX3.out.facts
      obtain ⟨hy3, hyf3, _⟩ := HY3.out.facts
      clear hb
      obtain ⟨X, hX⟩ : ∃ X, R.extract 0 n = X := ⟨_, rfl⟩
      have hxs : X.size = n := by
        have h1 := hL.1
        rw [← hX]
        simp [ByteArray.size_extract]
        omega
      rw [hX]
      have HL := Lib.hid (show Longest withinB (s.extract pos s.size) n by rw [HR.out]; exact hL)
      have HXX := Lib.hid (show (s.extract pos s.size).extract 0 n = X by rw [HR.out]; exact hX)
      have hnR : n ≤ R.size := hL.1
      have HN1 : Hid (1 ≤ n) := by
        have h2 := hL
        rw [← HR.out] at h2
        exact h2.pos hp (by rw [HC.out]; exact HWI.out)
      clear hL hX
      by_cases h24 : X.size ≤ 24
      · have h24i : ¬ (24 : Int) < (X.size : Int) := by omega
        have HB4 := Lib.hid (HB3.out.setCell (p := ⟨w.heap.size + 1, 1, none⟩) (by show w.heap.size ≤ w.heap.size + 1; omega) (.string X))
        have HX4 := Lib.hid (Bk.far HX3.out (p := ⟨w.heap.size + 1, 1, none⟩) (by show w.heap.size ≠ w.heap.size + 1; omega) (.string X))
        have HY4 := Lib.hid (Bk.set HY3.out 1 (.string X))
        simp only [List.setIfInBounds_toArray, List.set_cons_zero, List.set_cons_succ] at HY4
        go_wp2_with fail
        refine (KU.out _).mono ?_
        rintro e w5 ⟨rfl, hb⟩
        have HB5 := Lib.hid (HB4.out.trans (hb.mono HB4.out.size))
        have HX5 := Lib.hid (Bk.below HX4.out hb (by simpa using Bk.lt HX4.out))
        have HY5 := Lib.hid (Bk.below HY4.out hb (by simpa using Bk.lt HY4.out))
        obtain ⟨hx5, hxf5, _⟩ := HX5.out.facts
        obtain ⟨hy5, hyf5, _⟩ := HY5.out.facts
        clear hb
        go_wp2
        refine bodyPost_ret (res_ct rfl _ _ w.heap.size 157 (Tok 2 X pos) (0, 0) _ rfl (bk_tok (Bk.far HX5.out (p := ⟨w.heap.size + 1, 0, none⟩) (by show w.heap.size ≠ w.heap.size + 1; omega) (.int .i64 2))) Tryz.underlying157 rfl (by kernel_rfl)) rfl ?_
        exact ⟨2, X, pos, 0, rfl, (below_set3 (HB5.out.setCell (p := ⟨w.heap.size + 1, 0, none⟩) (by show w.heap.size ≤ w.heap.size + 1; omega) (.int .i64 2)) (Nat.le_refl _) _ _ _), (fun _ => ⟨by have h1 := HN1.out; omega, by have h1 := HRS.out; omega, (fun _ => ⟨by rw [HC.out]; exact HUB.out, n, by omega, HL.out, HXX.out.symm⟩)⟩), (fun _ m hm _ => ⟨rfl, rfl, by rw [hm.uniq HL.out]; exact HXX.out.symm⟩)⟩
      · have h24i : (24 : Int) < (X.size : Int) := by omega
        go_wp2
        refine bodyPost_ret (res_ct rfl _ _ w.heap.size 157 (Tok 0 ByteArray.empty 0) (0, 0) _ rfl (bk_tok (Bk.far HX3.out (p := ⟨w.heap.size + 1, 1, none⟩) (by show w.heap.size ≠ w.heap.size + 1; omega) (.string X))) Tryz.underlying157 rfl (by kernel_rfl)) rfl ?_
        exact ⟨0, ByteArray.empty, 0, 9, rfl, (below_set3 (HB3.out.setCell (p := ⟨w.heap.size + 1, 1, none⟩) (by show w.heap.size ≤ w.heap.size + 1; omega) (.string X)) (Nat.le_refl _) _ _ _), (fun h => absurd h (by decide)), (fun _ m hm h9 => absurd h9 (by have h1 := hm.uniq HL.out; omega))⟩
    | false =>
      go_wp2_with fail
      refine (KD.out _).mono ?_
      rintro e w3 ⟨rfl, hb⟩
      have HB3 := Lib.hid (HB2.out.trans (hb.mono HB2.out.size))
      have HX3 := Lib.hid (Bk.below HX2.out hb (by simpa using Bk.lt HX2.out))
      have HY3 := Lib.hid (Bk.below HY2.out hb (by simpa using Bk.lt HY2.out))
      obtain ⟨hx3, hxf3, _⟩ := HX3.out.facts
      obtain ⟨hy3, hyf3, _⟩ := HY3.out.facts
      clear hb
      cases db with
      | true =>
        have HB4 := Lib.hid (HB3.out.setCell (p := ⟨w.heap.size + 1, 0, none⟩) (by show w.heap.size ≤ w.heap.size + 1; omega) (.int .i64 3))
        have HX4 := Lib.hid (Bk.far HX3.out (p := ⟨w.heap.size + 1, 0, none⟩) (by show w.heap.size ≠ w.heap.size + 1; omega) (.int .i64 3))
        have HY4 := Lib.hid (Bk.set HY3.out 0 (.int .i64 3))
        simp only [List.setIfInBounds_toArray, List.set_cons_zero, List.set_cons_succ] at HY4
        go_wp2_with fail
        refine (KG.out _).mono ?_
        rintro e w5 ⟨n, hL, rfl, hb⟩
        have HB5 := Lib.hid (HB4.out.trans (hb.mono HB4.out.size))
        have HX5 := Lib.hid (Bk.below HX4.out hb (by simpa using Bk.lt HX4.out))
        have HY5 := Lib.hid (Bk.below HY4.out hb (by simpa using Bk.lt HY4.out))
        obtain ⟨hx5, hxf5, _⟩ := HX5.out.facts
        obtain ⟨hy5, hyf5, _⟩ := HY5.out.facts
        clear hb
        obtain ⟨X, hX⟩ : ∃ X, R.extract 0 n = X := ⟨_, rfl⟩
        have hxs : X.size = n := by
          have h1 := hL.1
          rw [← hX]
          simp [ByteArray.size_extract]
          omega
        rw [hX]
        have hnR : n ≤ R.size := hL.1
        have HN1 : Hid (1 ≤ n) := by
          have h2 := hL
          rw [← HR.out] at h2
          exact h2.pos hp (by rw [HC.out]; exact HDB.out)
        clear hL hX
        have KS := Lib.hid fun w => small_any X (by omega) w
        by_cases h48 : (c.toNat : Int) = 48
        · by_cases hx1 : 1 < X.size
          · have hx1i : (1 : Int) < (X.size : Int) := by omega
            go_wp2
            refine bodyPost_ret (res_ct rfl _ _ w.heap.size 157 (Tok 0 ByteArray.empty 0) (0, 0) _ rfl (bk_tok (Bk.far HX5.out (p := ⟨w.heap.size + 1, 1, none⟩) (by show w.heap.size ≠ w.heap.size + 1; omega) (.string X))) Tryz.underlying157 rfl (by kernel_rfl)) rfl ?_
            exact ⟨0, ByteArray.empty, 0, 2, rfl, (below_set3 (HB5.out.setCell (p := ⟨w.heap.size + 1, 1, none⟩) (by show w.heap.size ≤ w.heap.size + 1; omega) (.string X)) (Nat.le_refl _) _ _ _), (fun h => absurd h (by decide)), (fun h => by rw [HC.out, HUB.out] at h; cases h)⟩
          · have hx1i : ¬ (1 : Int) < (X.size : Int) := by omega
            have HB6 := Lib.hid (HB5.out.setCell (p := ⟨w.heap.size + 1, 1, none⟩) (by show w.heap.size ≤ w.heap.size + 1; omega) (.string X))
            have HX6 := Lib.hid (Bk.far HX5.out (p := ⟨w.heap.size + 1, 1, none⟩) (by show w.heap.size ≠ w.heap.size + 1; omega) (.string X))
            have HY6 := Lib.hid (Bk.set HY5.out 1 (.string X))
            simp only [List.setIfInBounds_toArray, List.set_cons_zero, List.set_cons_succ] at HY6
            go_wp2_with fail
            refine (KS.out _).mono ?_
            rintro e w7 ⟨kb, rfl, hb⟩
            have HB7 := Lib.hid (HB6.out.trans (hb.mono HB6.out.size))
            have HX7 := Lib.hid (Bk.below HX6.out hb (by simpa using Bk.lt HX6.out))
            have HY7 := Lib.hid (Bk.below HY6.out hb (by simpa using Bk.lt HY6.out))
            obtain ⟨hx7, hxf7, _⟩ := HX7.out.facts
            obtain ⟨hy7, hyf7, _⟩ := HY7.out.facts
            clear hb
            cases kb with
            | true =>
              go_wp2
              refine bodyPost_ret (res_ct rfl _ _ w.heap.size 157 (Tok 3 X pos) (0, 0) _ rfl (bk_tok HX7.out) Tryz.underlying157 rfl (by kernel_rfl)) rfl ?_
              exact ⟨3, X, pos, 0, rfl, (below_set3 HB7.out (Nat.le_refl _) _ _ _), (fun _ => ⟨by have h1 := HN1.out; omega, by have h1 := HRS.out; omega, (fun h => absurd h (by decide))⟩), (fun h => by rw [HC.out, HUB.out] at h; cases h)⟩
            | false =>
              go_wp2
              refine bodyPost_ret (res_ct rfl _ _ w.heap.size 157 (Tok 0 ByteArray.empty 0) (0, 0) _ rfl (bk_tok HX7.out) Tryz.underlying157 rfl (by kernel_rfl)) rfl ?_
              exact ⟨0, ByteArray.empty, 0, 9, rfl, (below_set3 HB7.out (Nat.le_refl _) _ _ _), (fun h => absurd h (by decide)), (fun h => by rw [HC.out, HUB.out] at h; cases h)⟩
        · have HB6 := Lib.hid (HB5.out.setCell (p := ⟨w.heap.size + 1, 1, none⟩) (by show w.heap.size ≤ w.heap.size + 1; omega) (.string X))
          have HX6 := Lib.hid (Bk.far HX5.out (p := ⟨w.heap.size + 1, 1, none⟩) (by show w.heap.size ≠ w.heap.size + 1; omega) (.string X))
          have HY6 := Lib.hid (Bk.set HY5.out 1 (.string X))
          simp only [List.setIfInBounds_toArray, List.set_cons_zero, List.set_cons_succ] at HY6
          go_wp2_with fail
          refine (KS.out _).mono ?_
          rintro e w7 ⟨kb, rfl, hb⟩
          have HB7 := Lib.hid (HB6.out.trans (hb.mono HB6.out.size))
          have HX7 := Lib.hid (Bk.below HX6.out hb (by simpa using Bk.lt HX6.out))
          have HY7 := Lib.hid (Bk.below HY6.out hb (by simpa using Bk.lt HY6.out))
          obtain ⟨hx7, hxf7, _⟩ := HX7.out.facts
          obtain ⟨hy7, hyf7, _⟩ := HY7.out.facts
          clear hb
          cases kb with
          | true =>
            go_wp2
            refine bodyPost_ret (res_ct rfl _ _ w.heap.size 157 (Tok 3 X pos) (0, 0) _ rfl (bk_tok HX7.out) Tryz.underlying157 rfl (by kernel_rfl)) rfl ?_
            exact ⟨3, X, pos, 0, rfl, (below_set3 HB7.out (Nat.le_refl _) _ _ _), (fun _ => ⟨by have h1 := HN1.out; omega, by have h1 := HRS.out; omega, (fun h => absurd h (by decide))⟩), (fun h => by rw [HC.out, HUB.out] at h; cases h)⟩
          | false =>
            go_wp2
            refine bodyPost_ret (res_ct rfl _ _ w.heap.size 157 (Tok 0 ByteArray.empty 0) (0, 0) _ rfl (bk_tok HX7.out) Tryz.underlying157 rfl (by kernel_rfl)) rfl ?_
            exact ⟨0, ByteArray.empty, 0, 9, rfl, (below_set3 HB7.out (Nat.le_refl _) _ _ _), (fun h => absurd h (by decide)), (fun h => by rw [HC.out, HUB.out] at h; cases h)⟩
      | false =>
        have KI := Lib.hid fun w => sign_any R (by have h1 := HRS.out; omega) (by omega) w
        have HB4 := Lib.hid (HB3.out.setCell (p := ⟨w.heap.size + 1, 0, none⟩) (by show w.heap.size ≤ w.heap.size + 1; omega) (.int .i64 5))
        have HX4 := Lib.hid (Bk.far HX3.out (p := ⟨w.heap.size + 1, 0, none⟩) (by show w.heap.size ≠ w.heap.size + 1; omega) (.int .i64 5))
        have HY4 := Lib.hid (Bk.set HY3.out 0 (.int .i64 5))
        simp only [List.setIfInBounds_toArray, List.set_cons_zero, List.set_cons_succ] at HY4
        go_wp2_with fail
        refine (KI.out _).mono ?_
        rintro e w5 ⟨X, rfl, hXR, hb⟩
        have HB5 := Lib.hid (HB4.out.trans (hb.mono HB4.out.size))
        have HX5 := Lib.hid (Bk.below HX4.out hb (by simpa using Bk.lt HX4.out))
        have HY5 := Lib.hid (Bk.below HY4.out hb (by simpa using Bk.lt HY4.out))
        obtain ⟨hx5, hxf5, _⟩ := HX5.out.facts
        obtain ⟨hy5, hyf5, _⟩ := HY5.out.facts
        clear hb
        have HN1 : Hid (¬ X = ByteArray.empty → 1 ≤ X.size) := by
          intro h
          rcases Nat.eq_zero_or_pos X.size with h0 | h0
          · exact absurd (ByteArray.size_eq_zero_iff.1 h0) h
          · exact h0
        by_cases hxe : X = ByteArray.empty
        · subst hxe
          go_wp2
          refine bodyPost_ret (res_ct rfl _ _ w.heap.size 157 (Tok 0 ByteArray.empty 0) (0, 0) _ rfl (bk_tok (Bk.far HX5.out (p := ⟨w.heap.size + 1, 1, none⟩) (by show w.heap.size ≠ w.heap.size + 1; omega) (.string ByteArray.empty))) Tryz.underlying157 rfl (by kernel_rfl)) rfl ?_
          exact ⟨0, ByteArray.empty, 0, 2, rfl, (below_set3 (HB5.out.setCell (p := ⟨w.heap.size + 1, 1, none⟩) (by show w.heap.size ≤ w.heap.size + 1; omega) (.string ByteArray.empty)) (Nat.le_refl _) _ _ _), (fun h => absurd h (by decide)), (fun h => by rw [HC.out, HUB.out] at h; cases h)⟩
        · have hx2 : X.toList.isEmpty = false := by rw [← decide_eq_emptyBytes]; exact decide_eq_false hxe
          go_wp2
          refine bodyPost_ret (res_ct rfl _ _ w.heap.size 157 (Tok 5 X pos) (0, 0) _ rfl (bk_tok (Bk.far HX5.out (p := ⟨w.heap.size + 1, 1, none⟩) (by show w.heap.size ≠ w.heap.size + 1; omega) (.string X))) Tryz.underlying157 rfl (by kernel_rfl)) rfl ?_
          exact ⟨5, X, pos, 0, rfl, (below_set3 (HB5.out.setCell (p := ⟨w.heap.size + 1, 1, none⟩) (by show w.heap.size ≤ w.heap.size + 1; omega) (.string X)) (Nat.le_refl _) _ _ _), (fun _ => ⟨by exact HN1.out hxe, by have h1 := HRS.out; omega, (fun h => absurd h (by decide))⟩), (fun h => by rw [HC.out, HUB.out] at h; cases h)⟩
end Go.Proofs.YtdbiedpdibjdlaaGreat

