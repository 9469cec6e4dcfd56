/-
  The walks of rational's natural numbers: trim, isOne, normal, compare, add, subtract.
-/
import Derived.Test.YtdbiedpdibjdlaaGreatMMem
import Derived.Test.YtdbiedpdibjdlaaGreatProg
import Derived.WalkKit
import Derived.WalkSpells
import Derived.WalkLawsBesides
import Derived.Deep.QuietTactic
import Derived.BigQuiet
import Derived.IntWalk
import Derived.Lib.Hide
namespace Go.Proofs.YtdbiedpdibjdlaaGreat
open Go.RowKit AC
set_option linter.unusedVariables false
set_option linter.unusedSimpArgs false

/-- The call returns a value v and leaves a world w' with R v w'. -/
def Ret (R : Value → World → Prop) (e : Ending) (w' : World) : Prop := ∃ v, e = .returned v ∧ R v w'

theorem low_of_zero {N j : Nat} (h : N < B ^ (j + 1)) (h0 : dg N j = 0) : N < B ^ j := by
  have h1 := mod_pow_succ N j
  rw [h0, Nat.mod_eq_of_lt h] at h1
  have := Nat.mod_lt N (Bp_pos j)
  omega

set_option maxHeartbeats 400000 in
theorem trim_any (w : World) (lo : Nat) (v : Value) (k N : Nat) (hv : Limbs w lo v k (dg N)) (hN : N < B ^ k) :
    Calls Tryz.prog 84 #[v] w (Ret fun v' w' => NatR w lo v' N ∧ w = w') := by
  obtain ⟨hlt, A, c, rfl, hkc, hcm, hb⟩ := hv
  have hv : Hid (Limbs w lo (.slice A k c) k (dg N)) := ⟨hlt, A, c, rfl, hkc, hcm, hb⟩
  have HN := Lib.hid hN
  have HB := Lib.hid hb
  have HL := Lib.hid hlt
  unfold maxLen at hcm
  clear hN hb hlt
  go_enter Tryz.func84, Tryz.ntmps84
  go_wp2
  go_loop [3] (fun t => ∃ j : Nat, j ≤ k ∧ t = .int .i64 j ∧ Hid (N < B ^ j)) (fun t => (intOf t).toNat)
  case atStart => exact ⟨k, Nat.le_refl _, rfl, HN⟩
  case round =>
    obtain ⟨j, hj, rfl, hNj⟩ := hrel
    rcases j with _ | j
    · go_wp2
      go_ret
      refine ⟨.slice A 0 c, rfl, ?_, rfl⟩
      have h0 : N = 0 := by simpa using hNj.out
      subst h0
      refine ⟨fun i hi => ?_, A, c, by rw [dl_zero], by rw [dl_zero]; omega, by unfold maxLen; omega, fun h => ?_⟩
      · rw [dl_zero] at hi; omega
      · rw [dl_zero] at h; omega
    · obtain ⟨b, off, rfl, hlb, hbw, hcell⟩ := HB.out (by omega)
      have hcl := hcell j (by omega)
      have HC := Lib.hid hcell
      clear hcell
      by_cases h0 : dg N j = 0
      · have h1 : (((dg N j : Nat) : Int) == 0) = true := by rw [h0]; rfl
        have H0 := Lib.hid h0
        clear h0
        go_wp2
        go_round
        case rel => exact ⟨j, by omega, rfl, low_of_zero hNj.out H0.out⟩
        case measure => simp [intOf]
      · have h1 : (((dg N j : Nat) : Int) == 0) = false := by rw [beq_eq_false_iff_ne]; omega
        have H0 := Lib.hid h0
        clear h0
        go_wp2
        go_ret
        have e := dl_of_digits (k := j + 1) hNj.out (.inr (by simpa using H0.out))
        refine ⟨.slice (some ⟨b, off, none⟩) (j + 1) c, rfl, ?_, rfl⟩
        refine NatR.of (k := j + 1) ⟨fun i hi => HL.out i (by omega), _, c, rfl, by omega, by unfold maxLen; omega, fun _ => ⟨b, off, rfl, hlb, hbw, fun i hi => HC.out i (by omega)⟩⟩ e

theorem info_u32 : (Tryz.prog.info? 80).map (fun i => (i.zero, i.size, i.bytes)) = some (some (.int .u32 0), 1, 4) := by kernel_rfl

theorem carry_small (f : Nat → Nat) (k : Nat) (h : ∀ i, i < k → f i < 4294967296) : ∀ j, j ≤ k → vs f j / B ^ j ≤ 4 := by
  intro j
  induction j with
  | zero => intro _; simp [vs]
  | succ j ih =>
    intro hj
    have h1 := ih (by omega)
    have h2 := h j (by omega)
    rw [vs_div_succ]
    generalize vs f j / B ^ j = q at *
    rw [B_eq]
    omega

set_option maxHeartbeats 800000 in
theorem normal_any (w : World) (lo : Nat) (v : Value) (k : Nat) (f : Nat → Nat) (hv : Limbs w lo v k f) (hk : k ≤ 4294967296) :
    Calls Tryz.prog 83 #[v] w (Ret fun v' w' => NatR w' w.heap.size v' (vs f k) ∧ Below w.heap.size w w') := by
  obtain ⟨hlt, A, c, rfl, hkc, hcm, hb⟩ := hv
  have HC := Lib.hid (carry_small f k hlt)
  have HB := Lib.hid hb
  have HL := Lib.hid hlt
  obtain ⟨N, HN⟩ : ∃ N, Hid (N = vs f k) := ⟨_, rfl⟩
  unfold maxLen at hcm
  clear hb hlt
  go_enter Tryz.func83, Tryz.ntmps83
  go_wp2_with (at_make; refine wpList_mk0 _ rfl _ _ 104 rfl w.heap.size 80 Tryz.underlying104 info_u32 _ _ _ (k + 1) rfl rfl (by omega) (by omega) (Nat.le_refl _) ?_; intro v0 w0 hown0 hg0)
  have hb0 : Below w.heap.size w w0 := (Below.refl _ _).grown hg0 (Nat.le_refl _) (by simp)
  go_loopw [3, 4, 13] (fun o cv i wr => ∃ j c : Nat, j ≤ k ∧ c ≤ 4 ∧ i = .int .i64 j ∧ cv = .int .u64 c ∧ Hid (c = vs f j / B ^ j) ∧ Own wr w.heap.size 80 o j (dg N) ∧ Below w.heap.size w wr) (fun _ _ i _ => k - (intOf i).toNat)
  case atStart => exact ⟨0, 0, by omega, by omega, rfl, rfl, by simp [vs, Hid], hown0 _, hb0⟩
  case round =>
    obtain ⟨j, c, hj, hc, rfl, rfl, hcv, hown, hbw⟩ := hrel
    by_cases hlt : j < k
    · obtain ⟨b, off, rfl, hlb, hbb, hcell⟩ := HB.out (by omega)
      have hcl := (hbw.cell (p := ⟨b, off + j, none⟩) hbb).trans (hcell j hlt)
      have hfj := HL.out j hlt
      have hdg : Hid ((f j + c) % 1000000000 = dg N j) := by
        have h1 := dg_vs_any f hlt
        rw [← hcv.out, ← HN.out, B_eq] at h1
        exact h1.symm
      have hcn : Hid ((f j + c) / 1000000000 = vs f (j + 1) / B ^ (j + 1)) := by
        have h1 := vs_div_succ f j
        rw [← hcv.out] at h1
        exact h1.symm
      have hc4 : (f j + c) / 1000000000 ≤ 4 := by omega
      clear hcell
      go_wp2_with (at_builtin; refine wpList_push wr rfl _ _ 104 rfl w.heap.size 80 Tryz.underlying104 info_u32 _ j (dg N) (by rfl) hown (by rfl) w hbw hbw.size (by omega) ?c1 ?_)
      case c1 => rw [← hdg.out]; omega
      intro v1 w1 hown1 hb1
      go_wp2
      go_roundw
      case rel => exact ⟨j + 1, (f j + c) / 1000000000, by omega, hc4, by go_num, by go_num, hcn, hown1, hb1⟩
      case measure => simp [intOf]; omega
    · obtain rfl : j = k := by omega
      have hNv : Hid (N = vs f j) := HN
      have hdv : Hid (c = N / B ^ j) := by rw [hcv.out, HN.out]; rfl
      by_cases hc0 : 0 < c
      · have hcb : Hid (dg N j = c) := by
          show N / B ^ j % B = c
          rw [← hdv.out, B_eq]
          omega
        have hNj : Hid (N < B ^ (j + 1)) := by
          show N < B ^ (j + 1)
          rw [Nat.pow_succ, Nat.mul_comm, ← Nat.div_lt_iff_lt_mul (Bp_pos j), ← hdv.out, B_eq]
          omega
        go_wp2_with (at_builtin; refine wpList_push wr rfl _ _ 104 rfl w.heap.size 80 Tryz.underlying104 info_u32 _ j (dg N) (by rfl) hown (by rfl) w hbw hbw.size (by omega) ?c1 ?_)
        case c1 => rw [hcb.out]
        intro v1 w1 hown1 hb1
        go_wp2_with fail
        refine (trim_any _ _ _ _ _ (hown1.limbs fun i _ => Nat.lt_trans (dg_lt N i) (by decide)) hNj.out).mono ?_
        rintro e w' ⟨v', rfl, hnat, rfl⟩
        go_wp2
        go_ret
        exact ⟨v', rfl, by rw [← HN.out]; exact hnat, hb1⟩
      · have hNj : Hid (N < B ^ j) := by
          have h0 : N / B ^ j = 0 := by rw [← hdv.out]; omega
          exact (Nat.div_eq_zero_iff_lt (Bp_pos j)).1 h0
        go_wp2_with fail
        refine (trim_any _ _ _ _ _ (hown.limbs fun i _ => Nat.lt_trans (dg_lt N i) (by decide)) hNj.out).mono ?_
        rintro e w' ⟨v', rfl, hnat, rfl⟩
        go_wp2
        go_ret
        exact ⟨v', rfl, by rw [← HN.out]; exact hnat, hbw⟩

end Go.Proofs.YtdbiedpdibjdlaaGreat

/-
  Words for memory: a block that is known whole.
-/
namespace AC
open Go Go.RowKit
set_option linter.unusedVariables false
set_option linter.unusedSimpArgs false

/-- Block b is just the cells cs of element type t, none frozen. -/
def Bk (w : World) (b : Nat) (t : TypeId) (cs : Array Value) : Prop := w.heap[b]? = some (.cells cs t (0, 0))
section
variable {w w' : World} {b : Nat} {t : TypeId} {cs : Array Value}
theorem Bk.lt (h : Bk w b t cs) : b < w.heap.size := by
  unfold Bk at h
  rcases Nat.lt_or_ge b w.heap.size with h1 | h1
  · exact h1
  · rw [Array.getElem?_eq_none h1] at h; cases h
theorem Bk.cell (h : Bk w b t cs) (o : Nat) : w.cell? ⟨b, o, none⟩ = cs[o]? := by
  unfold Bk at h; simp [World.cell?, h]
theorem Bk.frozen (h : Bk w b t cs) (o : Nat) : w.frozen? ⟨b, o, none⟩ = false := by
  unfold Bk at h; simp [World.frozen?, h]
theorem Bk.facts (h : Bk w b t cs) : (∀ o, w.cell? ⟨b, o, none⟩ = cs[o]?) ∧ (∀ o, w.frozen? ⟨b, o, none⟩ = false) ∧ b < w.heap.size := ⟨h.cell, h.frozen, h.lt⟩
theorem Bk.new (w : World) (t : TypeId) (cs : Array Value) : Bk (w.alloc (.cells cs t)) w.heap.size t cs := heap_alloc_new w _
theorem Bk.drew (h : Bk w b t cs) : Bk w.drew b t cs := h
theorem Bk.drewN (h : Bk w b t cs) (n : Nat) : Bk (w.drewN n) b t cs := h
theorem Bk.alloc (h : Bk w b t cs) (o : Obj) : Bk (w.alloc o) b t cs := (Below.heap_alloc w o b h.lt).trans h
theorem Bk.below (h : Bk w b t cs) {n : Nat} (hb : Below n w w') (hn : b < n) : Bk w' b t cs := (hb.block b hn).trans h
theorem Bk.grown (h : Bk w b t cs) {r : Option Nat} (hg : w.grownBy w' r) (hr : some b ≠ r) : Bk w' b t cs := (hg.block b h.lt hr).trans h
theorem Bk.far (h : Bk w b t cs) {p : Addr} (hp : b ≠ p.block) (u : Value) : Bk (w.setCell p u) b t cs := (Below.heap_setCell w p u b hp).trans h
theorem Bk.set (h : Bk w b t cs) (i : Nat) (u : Value) : Bk (w.setCell ⟨b, i, none⟩ u) b t (cs.setIfInBounds i u) := by
  unfold Bk at h ⊢
  simp [World.setCell, Array.getElem?_modify, h]
end

/-- Three stores into one block of the call's own. -/
theorem below_set3 {n : Nat} {a w : World} (h : Below n a w) {g : Nat} (hg : n ≤ g) (x y z : Value) :
    Below n a (((w.setCell ⟨g, 0, none⟩ x).setCell ⟨g, 1, none⟩ y).setCell ⟨g, 2, none⟩ z) :=
  ((h.setCell (p := ⟨g, 0, none⟩) hg x).setCell (p := ⟨g, 1, none⟩) hg y).setCell (p := ⟨g, 2, none⟩) hg z
theorem limbs_set3 {w : World} {lo k : Nat} {v : Value} {f : Nat → Nat} (h : Limbs w lo v k f) {g : Nat} (hg : g < lo) (x y z : Value) :
    Limbs (((w.setCell ⟨g, 0, none⟩ x).setCell ⟨g, 1, none⟩ y).setCell ⟨g, 2, none⟩ z) lo v k f :=
  ((h.setCell (p := ⟨g, 0, none⟩) hg x).setCell (p := ⟨g, 1, none⟩) hg y).setCell (p := ⟨g, 2, none⟩) hg z

end AC

