/-
  Decimal numerals, limb by limb from the lowest: no program in sight.
-/
import Derived.Test.YtpbdkkoanedimaaGreatDoorHNum
import Derived.Lib.ParseIntBTie
import Derived.Lib.ItoaLen
import Derived.Test.YtpbdkkoanedimaaGreatDoorHCRa
import Derived.Test.YtpbdkkoanedimaaGreatDoorHCDi
namespace AC
open Go
set_option linter.unusedVariables false
set_option linter.unusedSimpArgs false
theorem padD_add : ∀ (b a m d : Nat), d < 10 ^ b → padD (a + b) (m * 10 ^ b + d) = padD a m ++ padD b d
 | 0, a, m, d, hd => by
  have : d = 0 := by simpa using hd
  subst this
  simp [padD]
 | b + 1, a, m, d, hd => by
  have h1 : m * 10 ^ (b + 1) = m * 10 ^ b * 10 := by rw [Nat.pow_succ, Nat.mul_assoc]
  show padD (a + b) ((m * 10 ^ (b + 1) + d) / 10) ++ [UInt8.ofNat (48 + (m * 10 ^ (b + 1) + d) % 10)] = padD a m ++ (padD b (d / 10) ++ [UInt8.ofNat (48 + d % 10)])
  rw [show (m * 10 ^ (b + 1) + d) / 10 = m * 10 ^ b + d / 10 by omega, show (m * 10 ^ (b + 1) + d) % 10 = d % 10 by omega,
   padD_add b a m (d / 10) (by rw [Nat.pow_succ] at hd; omega), List.append_assoc]
theorem padD_len : ∀ (j d : Nat), (padD j d).length = j
 | 0, _ => rfl
 | j + 1, d => by unfold padD; simp [padD_len j]
def lowText (n i : Nat) : List UInt8 := padD (9 * i) (n % B ^ i)
theorem lowText_len (n i : Nat) : (lowText n i).length = 9 * i := padD_len _ _
theorem lowText_succ (n i : Nat) : lowText n (i + 1) = padD 9 (dg n i) ++ lowText n i := by
 unfold lowText
 rw [mod_pow_succ, show 9 * (i + 1) = 9 + 9 * i by omega, B_pow, Nat.add_comm (n % _), padD_add (9 * i) 9 (dg n i) _ (Nat.mod_lt _ (Nat.pow_pos (by decide)))]
theorem lowText_top {n : Nat} (h : n ≠ 0) : Lib.decDigits n = Lib.decDigits (dg n (dl n - 1)) ++ lowText n (dl n - 1) := by
 have h0 := mt dl_eq_zero.1 h
 have ht := dg_top h
 have e : n = dg n (dl n - 1) * 10 ^ (9 * (dl n - 1)) + n % B ^ (dl n - 1) := by
  have h1 := mod_pow_succ n (dl n - 1)
  rw [show dl n - 1 + 1 = dl n by omega, Nat.mod_eq_of_lt (lt_dl n)] at h1
  rw [← B_pow]
  omega
 conv => lhs; rw [e]
 rw [dec_pad _ _ _ (by omega) (by rw [← B_pow]; exact Nat.mod_lt _ (Bp_pos _))]
 rfl
theorem pad_one (m : Nat) : padD 1 m = [UInt8.ofNat (48 + m % 10)] := rfl
theorem pad_next (v k : Nat) : padD (k + 1) (v % 10 ^ (k + 1)) = UInt8.ofNat (48 + v / 10 ^ k % 10) :: padD k (v % 10 ^ k) := by
  have h1 : v % 10 ^ (k + 1) = (v / 10 ^ k % 10) * 10 ^ k + v % 10 ^ k := by
    rw [Nat.pow_succ, Nat.mod_mul]
    rw [Nat.mul_comm (10 ^ k) _]
    omega
  rw [h1, Nat.add_comm k 1, padD_add k 1 _ _ (Nat.mod_lt _ (Nat.pow_pos (by decide))), pad_one, Nat.mod_mod]
  rfl
theorem pad_full : ∀ (k v : Nat), 0 < k → v < 10 ^ k → (k = 1 ∨ 10 ^ (k - 1) ≤ v) → padD k v = Lib.decDigits v
 | 1, v, _, hv, _ => by
  have : v < 10 := by simpa using hv
  rw [Lib.decDigits, dif_pos this, pad_one, Nat.mod_eq_of_lt this]
 | k + 2, v, _, hv, h => by
  have hp : 1 ≤ 10 ^ k := Nat.one_le_pow _ _ (by decide)
  rcases h with h | h
  ·omega
  ·have h2 : 10 ^ (k + 1) = 10 ^ k * 10 := Nat.pow_succ ..
   have h3 : 10 ^ (k + 2) = 10 ^ (k + 1) * 10 := Nat.pow_succ ..
   have h4 : k + 2 - 1 = k + 1 := by omega
   rw [h4] at h
   have hb : ¬ v < 10 := by omega
   rw [dec_big hb]
   show padD (k + 1) (v / 10) ++ _ = _
   rw [pad_full (k + 1) (v / 10) (by omega) (by omega) (.inr (by rw [show k + 1 - 1 = k by omega]; omega))]
theorem body_len_mono (ts : Nat → List UInt8) : ∀ {i k : Nat}, i ≤ k → (body ts i).length ≤ (body ts k).length := by
 have key : ∀ i j, (body ts i).length ≤ (body ts (i + j)).length := by
  intro i j
  induction j with
  | zero => exact Nat.le_refl _
  | succ j ih =>
   refine Nat.le_trans ih ?_
   rcases Nat.eq_zero_or_pos (i + j) with h | h
   ·have h1 : i = 0 := by omega
    have h2 : j = 0 := by omega
    subst h1; subst h2
    simp [body]
   ·rw [show i + (j + 1) = i + j + 1 by omega, body_succ ts h]
    simp
 intro i k h
 have := key i (k - i)
 rwa [show i + (k - i) = k by omega] at this
theorem body_len_at (ts : Nat → List UInt8) {i k : Nat} (h : i < k) : (ts i).length ≤ (body ts k).length := by
 refine Nat.le_trans ?_ (body_len_mono ts (show i + 1 ≤ k from h))
 rcases Nat.eq_zero_or_pos i with h0 | h0
 ·subst h0; exact Nat.le_refl _
 ·rw [body_succ ts h0]; simp; omega
theorem body_len_ge (ts : Nat → List UInt8) : ∀ k, k ≤ (body ts k).length + 1
 | 0 => by omega
 | 1 => by omega
 | k + 2 => by
  have := body_len_ge ts (k + 1)
  unfold body
  simp
  omega
theorem par_len_at (ts : Nat → List UInt8) {i k : Nat} (h : i < k) : (ts i).length ≤ (par ts k).length := by
 have := body_len_at ts h
 unfold par
 simp
 omega
theorem par_len_ge (ts : Nat → List UInt8) (k : Nat) : k ≤ (par ts k).length := by
 have := body_len_ge ts k
 unfold par
 simp
 omega
end AC
/-
  Texts of whole numbers, read by two readers: no program in sight.
-/
namespace AC
open Go
set_option linter.unusedVariables false
set_option linter.unusedSimpArgs false
theorem dig_byte {d : Nat} (h : d < 10) : (UInt8.ofNat (48 + d)).toNat = 48 + d := by
 rw [UInt8.toNat_ofNat']; omega
theorem dec_ne (u : Nat) : Lib.decDigits u ≠ [] := by
 intro h
 have := Lib.decDigits_length u
 rw [h] at this
 have h2 := Lib.nDigits_pos u
 simp at this
 omega
theorem fmtQ_int (n : Int) : fmtQ (mkRat n 1) = Lib.itoa n := by
 have h1 : (mkRat n 1).num = n := by rw [Rat.mkRat_one]; rfl
 have h2 : (mkRat n 1).den = 1 := by rw [Rat.mkRat_one]; rfl
 unfold fmtQ Lib.itoa
 rw [h1, h2]
 by_cases hn : n < 0
 ·simp [hn]
 ·simp [hn]; congr 1; omega
end AC
/-
  How long texts are; lists and structs taken apart and put together again.
-/
namespace Go.Proofs.YtpbdkkoanedimaaGreatDoor
open Go.RowKit AC
set_option linter.unusedVariables false
set_option linter.unusedSimpArgs false
theorem body_len_le (tx : Nat → List UInt8) (M : Nat) : ∀ k, (∀ i, i < k → (tx i).length ≤ M) → (body tx k).length ≤ k * (M + 1)
 | 0, _ => by simp [body]
 | 1, h => by have := h 0 (by omega); unfold body; omega
 | k + 2, h => by
  have h1 := body_len_le tx M (k + 1) fun i hi => h i (by omega)
  have h2 := h (k + 1) (by omega)
  unfold body
  rw [List.length_append, List.length_cons, show (k + 2) * (M + 1) = (k + 1) * (M + 1) + (M + 1) from Nat.succ_mul _ _]
  omega
theorem par_len_le {tx : Nat → List UInt8} {k n M : Nat} (hk : k ≤ n) (h : ∀ i, i < k → (tx i).length ≤ M) : (par tx k).length ≤ 2 + n * (M + 1) := by
 have h1 := body_len_le tx M k h
 have h2 : k * (M + 1) ≤ n * (M + 1) := Nat.mul_le_mul_right _ hk
 unfold par
 simp
 omega
section
variable {w : World} {D : Nat → Prop}
theorem Rep.int_len {v : List Value} {t : List UInt8} (h : Rep w D .int v [t]) : t.length ≤ 21 := by
 obtain ⟨n, _, h1, h2, ht⟩ := h
 injection ht with ht _
 rw [ht]
 exact Lib.itoa_length_le n h1 h2
theorem Rep.bool_len {v : List Value} {t : List UInt8} (h : Rep w D .bool v [t]) : t.length ≤ 21 := by
 obtain ⟨b, _, ht⟩ := h
 injection ht with ht _
 rw [ht]
 cases b <;> simp
theorem Rep.unlist {s : Shape} {A : Option Addr} {k c : Nat} {t : List UInt8} (h : Rep w D (.list s) [.slice A k c] [t]) : ∃ (us : Nat → List Value) (tx : Nat → List UInt8), t = par tx k ∧ k ≤ c ∧ c ≤ maxLen ∧ (0 < k → ∃ b off, A = some ⟨b, off, none⟩ ∧ D b ∧ b < w.heap.size ∧ ∀ i, i < k → CellsAt w b (off + i * s.sz) (us i)) ∧ ∀ i, i < k → Rep w D s (us i) [tx i] := by
  obtain ⟨A', k', c', us, tx, hl, h1, h2, ht, h3, h4⟩ := h
  injection hl with hl _
  injection hl with e1 e2 e3
  subst e1; subst e2; subst e3
  injection ht with ht _
  exact ⟨us, tx, ht, h1, h2, h3, h4⟩
theorem Rep.relist {s s' : Shape} (hsz : s'.sz = s.sz) {A : Option Addr} {k c : Nat} {us : Nat → List Value} {tx : Nat → List UInt8} (h1 : k ≤ c) (h2 : c ≤ maxLen) (h3 : 0 < k → ∃ b off, A = some ⟨b, off, none⟩ ∧ D b ∧ b < w.heap.size ∧ ∀ i, i < k → CellsAt w b (off + i * s.sz) (us i)) (h4 : ∀ i, i < k → Rep w D s' (us i) [tx i]) : Rep w D (.list s') [.slice A k c] [par tx k] :=
 ⟨A, k, c, us, tx, rfl, h1, h2, rfl, fun h0 => by rw [hsz]; exact h3 h0, h4⟩
theorem Rep.list_len {s : Shape} {A : Option Addr} {k c n M : Nat} {t : List UInt8} (h : Rep w D (.list s) [.slice A k c] [t]) (hk : k ≤ n) (hM : ∀ v t, Rep w D s v [t] → t.length ≤ M) : t.length ≤ 2 + n * (M + 1) := by
 obtain ⟨us, tx, rfl, _, _, _, h4⟩ := h.unlist
 exact par_len_le hk fun i hi => hM _ _ (h4 i hi)
theorem st_len2 {a b : List UInt8} : (par (fun i => [a, b].getD i []) [a, b].length).length = a.length + b.length + 3 := by
  simp [par, body]; omega
theorem st_len3 {a b c : List UInt8} : (par (fun i => [a, b, c].getD i []) [a, b, c].length).length = a.length + b.length + c.length + 4 := by
 simp [par, body]; omega
theorem st_len4 {a b c d : List UInt8} : (par (fun i => [a, b, c, d].getD i []) [a, b, c, d].length).length = a.length + b.length + c.length + d.length + 5 := by
 simp [par, body]; omega
theorem st_len5 {a b c d e : List UInt8} : (par (fun i => [a, b, c, d, e].getD i []) [a, b, c, d, e].length).length = a.length + b.length + c.length + d.length + e.length + 6 := by
 simp [par, body]; omega
theorem Rep.un2 {s1 s2 : Shape} {v : List Value} {t : List UInt8} (h : Rep w D (.st (.and s1 (.and s2 .fin))) v [t]) : ∃ l1 l2 t1 t2, v = l1 ++ l2 ∧ t = par (fun i => [t1, t2].getD i []) 2 ∧ Rep w D s1 l1 [t1] ∧ Rep w D s2 l2 [t2] := by
  obtain ⟨tx, ht, l1, _, t1, _, rfl, rfl, h1, l2, _, t2, _, rfl, rfl, h2, rfl, rfl⟩ := h
  injection ht with ht _
  exact ⟨l1, l2, t1, t2, by simp, ht, h1, h2⟩
theorem Rep.re2 {s1 s2 : Shape} {l1 l2 : List Value} {t1 t2 : List UInt8} (h1 : Rep w D s1 l1 [t1]) (h2 : Rep w D s2 l2 [t2]) : Rep w D (.st (.and s1 (.and s2 .fin))) (l1 ++ l2) [par (fun i => [t1, t2].getD i []) 2] :=
 ⟨[t1, t2], rfl, l1, l2, t1, [t2], rfl, rfl, h1, l2, [], t2, [], by simp, rfl, h2, rfl, rfl⟩
theorem Rep.re3 {s1 s2 s3 : Shape} {l1 l2 l3 : List Value} {t1 t2 t3 : List UInt8} (h1 : Rep w D s1 l1 [t1]) (h2 : Rep w D s2 l2 [t2]) (h3 : Rep w D s3 l3 [t3]) : Rep w D (.st (.and s1 (.and s2 (.and s3 .fin)))) (l1 ++ (l2 ++ l3)) [par (fun i => [t1, t2, t3].getD i []) 3] :=
 ⟨[t1, t2, t3], rfl, l1, l2 ++ l3, t1, [t2, t3], rfl, rfl, h1, l2, l3, t2, [t3], rfl, rfl, h2, l3, [], t3, [], by simp, rfl, h3, rfl, rfl⟩
theorem par2_len (a b : List UInt8) : (par (fun i => [a, b].getD i []) 2).length = a.length + b.length + 3 := st_len2
theorem linTerm_len {v : List Value} {t : List UInt8} (h : Rep w D linTermS v [t]) : t.length ≤ 45 := by
 obtain ⟨l1, l2, t1, t2, rfl, rfl, h1, h2⟩ := h.un2
 have := h1.int_len
 have := h2.int_len
 rw [par2_len]
 omega
theorem lin_len {v : List Value} {t : List UInt8} (h : Rep w D linS v [t]) {n : Nat} (hk : ∀ z A k c, v = [.int .i64 z, .slice A k c] → k ≤ n) : t.length ≤ 26 + 46 * n := by
 obtain ⟨l1, l2, t1, t2, rfl, rfl, h1, h2⟩ := h.un2
 have q1 := h1.int_len
 obtain ⟨z, rfl⟩ := ty_int h1.ty
 obtain ⟨A, k, c, rfl⟩ := ty_list h2.ty
 have q2 := h2.list_len (hk z A k c rfl) (M := 45) fun v t h => linTerm_len h
 rw [par2_len]
 omega
end
theorem fmtQ_len {neg : Bool} {kn kd : Nat} {fn fd : Nat → Nat} (hn : ∀ i, i < kn → fn i < 4294967296) (hd : ∀ i, i < kd → fd i < 4294967296) (h1 : kn ≤ 2) (h2 : kd ≤ 2) : (fmtQ (mkRat (sg neg (vs fn kn)) (vs fd kd))).length ≤ 58 := by
 have key : ∀ (k : Nat) (f : Nat → Nat), (∀ i, i < k → f i < 4294967296) → k ≤ 2 → vs f k < B ^ 3 := by
  intro k f hf hk
  have hB : B ^ 3 = 1000000000000000000000000000 := by decide
  rcases k with _ | _ | _ | k
  ·rw [hB]; simp [vs]
  ·have := hf 0 (by omega)
   simp [vs]; omega
  ·have a := hf 0 (by omega)
   have b := hf 1 (by omega)
   have : vs f 2 = f 0 + f 1 * B := by simp [vs]
   rw [this, hB, B_eq]
   omega
  ·omega
 have hN := key kn fn hn h1
 have hD := key kd fd hd h2
 have hs : AC.sz (mkRat (sg neg (vs fn kn)) (vs fd kd)) ≤ 3 := sz_mk _ _ 3 (by rw [sg_natAbs]; exact dl_le hN) (dl_le hD) (by omega)
 have q1 : dl (mkRat (sg neg (vs fn kn)) (vs fd kd)).num.natAbs ≤ 3 := Nat.le_trans (Nat.le_max_left _ _) hs
 have q2 : dl (mkRat (sg neg (vs fn kn)) (vs fd kd)).den ≤ 3 := Nat.le_trans (Nat.le_max_right _ _) hs
 have p1 := dec_len (mkRat (sg neg (vs fn kn)) (vs fd kd)).num.natAbs
 have p2 := dec_len (mkRat (sg neg (vs fn kn)) (vs fd kd)).den
 unfold fmtQ
 rw [List.length_append]
 split <;> split <;> simp <;> omega
end Go.Proofs.YtpbdkkoanedimaaGreatDoor
