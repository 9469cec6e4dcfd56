/-
  Classes of bytes (printed by gen_t.py).
-/
import Derived.Test.YtdbiedpdibjdlaaGreatMGg
import Derived.Laws.Strings3
namespace Go.Proofs.YtdbiedpdibjdlaaGreat
open Go.RowKit AC
set_option linter.unusedVariables false
set_option linter.unusedSimpArgs false

def lowerB (k : Nat) : Bool := decide (97 ≤ k) && decide (k ≤ 122)
theorem lower_any (k : Nat) (w : World) : Calls Tryz.prog 133 #[.int .u8 (k : Int)] w (RetV (.bool (lowerB k)) w) := by
  by_cases h1 : 97 ≤ k
  · by_cases h2 : k ≤ 122
    · rw [show lowerB k = true from by simp [lowerB, h1, h2]]
      have i1 : (97 : Int) ≤ (k : Int) := by omega
      have i2 : (k : Int) ≤ 122 := by omega
      go_enter Tryz.func133, Tryz.ntmps133
      go_wp2
      go_ret
      exact ⟨rfl, Below.refl _ _⟩
    · rw [show lowerB k = false from by simp [lowerB, h2]]
      have i1 : (97 : Int) ≤ (k : Int) := by omega
      have i2 : ¬ (k : Int) ≤ 122 := by omega
      go_enter Tryz.func133, Tryz.ntmps133
      go_wp2
      go_ret
      exact ⟨rfl, Below.refl _ _⟩
  · rw [show lowerB k = false from by simp [lowerB, h1]]
    have i1 : ¬ (97 : Int) ≤ (k : Int) := by omega
    go_enter Tryz.func133, Tryz.ntmps133
    go_wp2
    go_ret
    exact ⟨rfl, Below.refl _ _⟩
def upperB (k : Nat) : Bool := decide (65 ≤ k) && decide (k ≤ 90)
theorem upper_any (k : Nat) (w : World) : Calls Tryz.prog 134 #[.int .u8 (k : Int)] w (RetV (.bool (upperB k)) w) := by
  by_cases h1 : 65 ≤ k
  · by_cases h2 : k ≤ 90
    · rw [show upperB k = true from by simp [upperB, h1, h2]]
      have i1 : (65 : Int) ≤ (k : Int) := by omega
      have i2 : (k : Int) ≤ 90 := by omega
      go_enter Tryz.func134, Tryz.ntmps134
      go_wp2
      go_ret
      exact ⟨rfl, Below.refl _ _⟩
    · rw [show upperB k = false from by simp [upperB, h2]]
      have i1 : (65 : Int) ≤ (k : Int) := by omega
      have i2 : ¬ (k : Int) ≤ 90 := by omega
      go_enter Tryz.func134, Tryz.ntmps134
      go_wp2
      go_ret
      exact ⟨rfl, Below.refl _ _⟩
  · rw [show upperB k = false from by simp [upperB, h1]]
    have i1 : ¬ (65 : Int) ≤ (k : Int) := by omega
    go_enter Tryz.func134, Tryz.ntmps134
    go_wp2
    go_ret
    exact ⟨rfl, Below.refl _ _⟩
def digitB (k : Nat) : Bool := decide (48 ≤ k) && decide (k ≤ 57)
theorem digit_any (k : Nat) (w : World) : Calls Tryz.prog 138 #[.int .u8 (k : Int)] w (RetV (.bool (digitB k)) w) := by
  by_cases h1 : 48 ≤ k
  · by_cases h2 : k ≤ 57
    · rw [show digitB k = true from by simp [digitB, h1, h2]]
      have i1 : (48 : Int) ≤ (k : Int) := by omega
      have i2 : (k : Int) ≤ 57 := by omega
      go_enter Tryz.func138, Tryz.ntmps138
      go_wp2
      go_ret
      exact ⟨rfl, Below.refl _ _⟩
    · rw [show digitB k = false from by simp [digitB, h2]]
      have i1 : (48 : Int) ≤ (k : Int) := by omega
      have i2 : ¬ (k : Int) ≤ 57 := by omega
      go_enter Tryz.func138, Tryz.ntmps138
      go_wp2
      go_ret
      exact ⟨rfl, Below.refl _ _⟩
  · rw [show digitB k = false from by simp [digitB, h1]]
    have i1 : ¬ (48 : Int) ≤ (k : Int) := by omega
    go_enter Tryz.func138, Tryz.ntmps138
    go_wp2
    go_ret
    exact ⟨rfl, Below.refl _ _⟩
def blankB (k : Nat) : Bool := (k : Int) == 9 || (k : Int) == 10 || (k : Int) == 13 || (k : Int) == 32
theorem blank_any (k : Nat) (w : World) : Calls Tryz.prog 123 #[.int .u8 (k : Int)] w (RetV (.bool (blankB k)) w) := by
  go_enter Tryz.func123, Tryz.ntmps123
  go_wp2
  all_goals go_ret
  all_goals exact ⟨by simp_all [blankB], Below.refl _ _⟩
def withinB (k : Nat) : Bool := lowerB k || upperB k || digitB k || (k : Int) == 95
set_option maxHeartbeats 1000000 in
theorem within_any (k : Nat) (w : World) : Calls Tryz.prog 136 #[.int .u8 (k : Int)] w (RetV (.bool (withinB k)) w) := by
  have K1 := Lib.hid fun w => lower_any k w
  have K2 := Lib.hid fun w => upper_any k w
  have K3 := Lib.hid fun w => digit_any k w
  unfold withinB
  generalize lowerB k = a at *
  generalize upperB k = b at *
  generalize digitB k = c at *
  go_enter Tryz.func136, Tryz.ntmps136
  go_wp2_with fail
  refine (K1.out _).mono ?_
  rintro e w1 ⟨rfl, hb1⟩
  have HB1 := Lib.hid hb1
  clear hb1
  cases a with
  | true =>
    go_wp2
    go_ret
    exact ⟨rfl, HB1.out⟩
  | false =>
    go_wp2_with fail
    refine (K2.out _).mono ?_
    rintro e w2 ⟨rfl, hb2⟩
    have HB2 := Lib.hid (HB1.out.trans (hb2.mono HB1.out.size))
    clear hb2
    cases b with
    | true =>
      go_wp2
      go_ret
      exact ⟨rfl, HB2.out⟩
    | false =>
      go_wp2_with fail
      refine (K3.out _).mono ?_
      rintro e w3 ⟨rfl, hb3⟩
      have HB3 := Lib.hid (HB2.out.trans (hb3.mono HB2.out.size))
      clear hb3
      cases c with
      | true =>
        go_wp2
        go_ret
        exact ⟨rfl, HB3.out⟩
      | false =>
        go_wp2
        go_ret
        exact ⟨by simp, HB3.out⟩
end Go.Proofs.YtdbiedpdibjdlaaGreat

/-
  The longest beginning of a text that consists of bytes of a class.
-/
namespace Go.Proofs.YtdbiedpdibjdlaaGreat
open Go.RowKit AC
set_option linter.unusedVariables false
set_option linter.unusedSimpArgs false

/-- A function that says of which class a byte is. -/
def Class (g : FuncId) (p : Nat → Bool) : Prop := Enters Tryz.prog g ∧ ∀ (k : Nat) (w : World), Calls Tryz.prog g #[.int .u8 (k : Int)] w (RetV (.bool (p k)) w)
theorem class_within : Class 136 withinB := ⟨enters_of Tryz.func136 (by kernel_rfl) rfl, within_any⟩
theorem class_digit : Class 138 digitB := ⟨enters_of Tryz.func138 (by kernel_rfl) rfl, digit_any⟩
/-- n is the number of bytes of the longest beginning. -/
def Longest (p : Nat → Bool) (s : ByteArray) (n : Nat) : Prop := n ≤ s.size ∧ (∀ (j : Nat) (h : j < s.size), j < n → p s[j].toNat = true) ∧ ∀ (h : n < s.size), p s[n].toNat = false
def PrePost (p : Nat → Bool) (s : ByteArray) (w : World) (e : Ending) (w' : World) : Prop := ∃ n, Longest p s n ∧ e = .returned (.string (s.extract 0 n)) ∧ Below w.heap.size w w'

set_option maxHeartbeats 2000000 in
set_option maxRecDepth 100000 in
theorem prefix_any {g : FuncId} {p : Nat → Bool} (hg : Class g p) (s : ByteArray) (hs : s.size ≤ 1000000) (w : World) :
    Calls Tryz.prog 135 #[.string s, .func (.func g) #[] #[]] w (PrePost p s w) := by
  obtain ⟨he, hk⟩ := hg
  unfold Enters at he
  have HK := Lib.hid hk
  clear hk
  go_enter Tryz.func135, Tryz.ntmps135
  go_wp2
  go_loopw [5] (fun iv wr => ∃ i : Nat, i ≤ s.size ∧ iv = .int .i64 i ∧ Hid (∀ (j : Nat) (h : j < s.size), j < i → p s[j].toNat = true) ∧ Hid (Below w.heap.size w wr)) (fun iv _ => s.size - (intOf iv).toNat)
  case atStart => exact ⟨0, by omega, rfl, (fun j _ h => absurd h (by omega)), Below.refl _ _⟩
  case round =>
    obtain ⟨i, hi, rfl, HP, HB⟩ := hrel
    by_cases hlt : i < s.size
    · obtain ⟨c, hc⟩ : ∃ c : UInt8, s[i]'hlt = c := ⟨_, rfl⟩
      obtain ⟨q, hq⟩ : ∃ q, p c.toNat = q := ⟨_, rfl⟩
      have key := HK.out c.toNat wr
      rw [hq] at key
      have KEY := Lib.hid key
      have HQ := Lib.hid (show p (s[i]'hlt).toNat = q by rw [hc]; exact hq)
      clear key
      go_wp2_with fail
      refine KEY.out.mono ?_
      rintro e w2 ⟨rfl, hb2⟩
      have HB2 := Lib.hid (HB.out.trans (hb2.mono HB.out.size))
      clear hb2 hq hc
      cases q with
      | true =>
        have HP2 : Hid (∀ (j : Nat) (h : j < s.size), j < i + 1 → p s[j].toNat = true) := by
          intro j h hj
          rcases Nat.lt_or_ge j i with h5 | h5
          · exact HP.out j h h5
          · obtain rfl : j = i := by omega
            exact HQ.out
        go_wp2
        go_roundw
        case rel => exact ⟨i + 1, by omega, by go_num, HP2, HB2⟩
        case measure => simp [intOf]; omega
      | false =>
        go_wp2
        go_ret
        exact ⟨i, ⟨hi, HP.out, fun _ => HQ.out⟩, by simp, HB2.out⟩
    · obtain rfl : i = s.size := by omega
      go_wp2
      go_ret
      exact ⟨s.size, ⟨Nat.le_refl _, HP.out, fun h => absurd h (by omega)⟩, by simp, HB.out⟩
end Go.Proofs.YtdbiedpdibjdlaaGreat

/-
  Keywords, small numbers, signs: some answer, nothing written.
-/
namespace Go.Proofs.YtdbiedpdibjdlaaGreat
open Go.RowKit AC
set_option linter.unusedVariables false
set_option linter.unusedSimpArgs false

/-- Some truth value comes back. -/
def BPost (w : World) (e : Ending) (w' : World) : Prop := ∃ b : Bool, e = .returned (.bool b) ∧ Below w.heap.size w w'
set_option maxHeartbeats 8000000 in
set_option maxRecDepth 100000 in
theorem keyword_any (s : ByteArray) (w : World) : Calls Tryz.prog 137 #[.string s] w (BPost w) := by
  go_enter Tryz.func137, Tryz.ntmps137
  go_wp2
  all_goals go_ret
  all_goals exact ⟨_, rfl, Below.refl _ _⟩
set_option maxHeartbeats 4000000 in
set_option maxRecDepth 100000 in
theorem small_any (s : ByteArray) (hs : s.size ≤ 1000000) (w : World) : Calls Tryz.prog 139 #[.string s] w (BPost w) := by
  go_enter Tryz.func139, Tryz.ntmps139
  go_wp2
  go_loopw [3, 7] (fun nv iv wr => ∃ (i : Nat) (n : Int), i ≤ s.size ∧ iv = .int .i64 i ∧ nv = .int .i64 n ∧ 0 ≤ n ∧ n ≤ 1000000 ∧ wr = w) (fun _ iv _ => s.size - (intOf iv).toNat)
  case atStart => exact ⟨0, 0, by omega, rfl, rfl, by omega, by omega, rfl⟩
  case round =>
    obtain ⟨i, n, hi, rfl, rfl, hn0, hn1, rfl⟩ := hrel
    by_cases hlt : i < s.size
    · obtain ⟨c, hc⟩ : ∃ c : UInt8, s[i]'hlt = c := ⟨_, rfl⟩
      obtain ⟨m, hm⟩ : ∃ m : Int, ((c.toNat : Int) - 48) % 256 = m := ⟨_, rfl⟩
      have hm0 : 0 ≤ m := by omega
      have hm1 : m ≤ 255 := by omega
      by_cases hb : 1000000 < n * 10 + m
      · go_wp2
        go_ret
        exact ⟨_, rfl, Below.refl _ _⟩
      · go_wp2
        go_roundw
        case rel => exact ⟨i + 1, n * 10 + m, by omega, by go_num, by go_num, by omega, by omega, trivial⟩
        case measure => simp [intOf]; omega
    · obtain rfl : i = s.size := by omega
      go_wp2
      go_ret
      exact ⟨_, rfl, Below.refl _ _⟩

/-- A sign, or nothing. -/
def SPost (s : ByteArray) (w : World) (e : Ending) (w' : World) : Prop := ∃ r : ByteArray, e = .returned (.string r) ∧ r.size ≤ s.size ∧ Below w.heap.size w w'
set_option maxHeartbeats 8000000 in
set_option maxRecDepth 100000 in
theorem sign_any (s : ByteArray) (h1 : 1 ≤ s.size) (hs : s.size ≤ 1000000) (w : World) : Calls Tryz.prog 140 #[.string s] w (SPost s w) := by
  have hi1 : (1 : Int) ≤ (s.size : Int) := by omega
  obtain ⟨t, ht⟩ : ∃ t, s.extract 0 1 = t := ⟨_, rfl⟩
  have hts : t.size ≤ s.size := by rw [← ht]; simp [ByteArray.size_extract]; omega
  have HTS := Lib.hid hts
  clear hts
  by_cases h2 : 2 ≤ s.size
  · have hi2 : (2 : Int) ≤ (s.size : Int) := by omega
    obtain ⟨u, hu⟩ : ∃ u, s.extract 0 2 = u := ⟨_, rfl⟩
    have hus : u.size ≤ s.size := by rw [← hu]; simp [ByteArray.size_extract]; omega
    have HUS := Lib.hid hus
    clear hus
    go_enter Tryz.func140, Tryz.ntmps140
    go_wp2
    all_goals go_ret
    all_goals exact ⟨_, rfl, by first | exact HUS.out | exact HTS.out | exact Nat.zero_le _, Below.refl _ _⟩
  · go_enter Tryz.func140, Tryz.ntmps140
    go_wp2
    all_goals go_ret
    all_goals exact ⟨_, rfl, by first | exact HTS.out | exact Nat.zero_le _, Below.refl _ _⟩
end Go.Proofs.YtdbiedpdibjdlaaGreat

