/-
  valid: is a type valid over data types?
-/
import Derived.Test.YtdbiedpdibjdlaaGreatMGg
import Derived.Test.YtdbiedpdibjdlaaGreatMGy
import Derived.Deep.CutBlock
import Derived.Deep.CutRange
import Derived.BigQuiet
import Derived.Deep.QuietTactic
namespace AC
set_option linter.unusedVariables false
/-- headD without the test of the number. -/
def headP (D : List DaD) (vars k m : Int) : Option (Int × Int) :=
  if k = 1 ∨ k = 2 ∨ k = 3 then some (0, 0)
  else if k = 4 then (if 0 ≤ m ∧ m < vars then some (0, 0) else none)
  else if k = 5 then (if 0 ≤ m ∧ m < D.length then (D[m.toNat]?).map fun d => (d.vars, d.vars) else none)
  else if k = 6 then some (2, 6)
  else if k = 7 ∨ k = 8 then some (1, 1)
  else if k = 9 then some (1, 7)
  else none
theorem headD_of (D : List DaD) (vars k m : Int) : headD D vars k m = (headP D vars k m).bind fun p => if k ≠ 4 ∧ k ≠ 5 ∧ m ≠ 0 then none else some p := by
  unfold headD headP
  by_cases h1 : k = 1 ∨ k = 2 ∨ k = 3
  · rw [if_pos h1, if_pos h1, Option.bind_some]
    by_cases h : m = 0
    · rw [if_pos h, if_neg (by omega)]
    · rw [if_neg h, if_pos (by omega)]
  rw [if_neg h1, if_neg h1]
  by_cases h2 : k = 4
  · rw [if_pos h2, if_pos h2]
    by_cases h : 0 ≤ m ∧ m < vars
    · rw [if_pos h, Option.bind_some, if_neg (by omega)]
    · rw [if_neg h]; rfl
  rw [if_neg h2, if_neg h2]
  by_cases h3 : k = 5
  · rw [if_pos h3, if_pos h3]
    by_cases h : 0 ≤ m ∧ m < D.length
    · rw [if_pos h]
      cases D[m.toNat]? with
      | none => rfl
      | some d => rw [Option.map_some, Option.bind_some, if_neg (by omega)]
    · rw [if_neg h]; rfl
  rw [if_neg h3, if_neg h3]
  by_cases h4 : k = 6
  · rw [if_pos h4, if_pos h4, Option.bind_some]
    by_cases h : m = 0
    · rw [if_pos h, if_neg (by omega)]
    · rw [if_neg h, if_pos (by omega)]
  rw [if_neg h4, if_neg h4]
  by_cases h5 : k = 7 ∨ k = 8
  · rw [if_pos h5, if_pos h5, Option.bind_some]
    by_cases h : m = 0
    · rw [if_pos h, if_neg (by omega)]
    · rw [if_neg h, if_pos (by omega)]
  rw [if_neg h5, if_neg h5]
  by_cases h6 : k = 9
  · rw [if_pos h6, if_pos h6, Option.bind_some]
    by_cases h : m = 0
    · rw [if_pos h, if_neg (by omega)]
    · rw [if_neg h, if_pos (by omega)]
  rw [if_neg h6, if_neg h6]
  rfl
theorem two_tests {x0 x1 lo hi len : Int} {X : Option Nat} : (if x0 ≠ 4 ∧ x0 ≠ 5 ∧ x1 ≠ 0 then none else if lo ≤ len ∧ len ≤ hi then X else none) =
    if decide (x0 ≠ 4 ∧ x0 ≠ 5 ∧ x1 ≠ 0) = true then none else if decide (len < lo ∨ hi < len) = true then none else X := by
  simp only [decide_eq_true_eq]
  by_cases h1 : x0 ≠ 4 ∧ x0 ≠ 5 ∧ x1 ≠ 0
  · rw [if_pos h1, if_pos h1]
  · rw [if_neg h1, if_neg h1]
    by_cases h2 : lo ≤ len ∧ len ≤ hi
    · rw [if_pos h2, if_neg (by omega)]
    · rw [if_neg h2, if_pos (by omega)]
mutual
theorem validT_le {D : List DaD} {vars : Int} : ∀ {t : Tr} {L r : Nat}, validT D vars L t = some r → r ≤ L
  | .n k m l, 0, r, h => by rw [validT] at h; cases h
  | .n k m l, L + 1, r, h => by
    rw [validT] at h
    split at h
    · cases h
    · split at h
      · have := validTs_le h; omega
      · cases h
theorem validTs_le {D : List DaD} {vars : Int} : ∀ {l : List Tr} {L r : Nat}, validTs D vars L l = some r → r ≤ L
  | [], L, r, h => by rw [validTs] at h; cases h; exact Nat.le_refl _
  | t :: l, L, r, h => by
    rw [validTs] at h
    cases hq : validT D vars L t with
    | none => rw [hq] at h; cases h
    | some s =>
      rw [hq] at h
      have h1 := validT_le hq
      have h2 := validTs_le h
      omega
end
end AC
namespace Go.Proofs.YtdbiedpdibjdlaaGreat
open Go.RowKit AC
set_option linter.unusedVariables false
set_option linter.unusedSimpArgs false
section
variable (D D' : Nat → Prop) (dat : List DaD) (A : Option Addr) (dl dc : Nat) (vars : Int)
/-- A validator's block. -/
def VB (vb : Nat) (L : Int) (w : World) : Prop := Bk w vb 119 #[.slice A dl dc, .int .i64 vars, .int .i64 L]
def VPost (q : Option Nat) (vb : Nat) (w : World) (e : Ending) (w' : World) : Prop :=
  Fw (· = vb) w w' ∧ ((∃ r : Nat, q = some r ∧ e = .returned (.bool true) ∧ VB A dl dc vars vb r w') ∨ (q = none ∧ e = .returned (.bool false) ∧ ∃ x : Int, VB A dl dc vars vb x w'))
def ValidOk (n : Nat) : Prop := ∀ (t : Tr) (L vb : Nat) (w : World) (v : List Value), t.size ≤ n → L ≤ 200 → ¬ D' vb → ¬ D vb → TrR w D' t v → DaS w D dat A dl dc → VB A dl dc vars vb L w →
  Calls Tryz.prog 73 #[.pointer (some ⟨vb, 0, none⟩), .agg v.toArray] w (VPost A dl dc vars (validT dat vars L t) vb w)
end
section
variable {D D' : Nat → Prop} {dat : List DaD} {A : Option Addr} {dl dc : Nat} {vars : Int}
theorem CoS.sub {w : World} {D D' : Nat → Prop} (hd : ∀ b, b < w.heap.size → D b → D' b) {l : List CoD} {A : Option Addr} {len cap : Nat} (h : CoS w D l A len cap) : CoS w D' l A len cap := by
  obtain ⟨h1, h2, h3, h4⟩ := h
  refine ⟨h1, h2, h3, fun hp => ?_⟩
  obtain ⟨b, off, hA, hD, hb, hL⟩ := h4 hp
  refine ⟨b, off, hA, hd b hb hD, hb, fun i hi => ?_⟩
  obtain ⟨v, h5, s, A1, l1, c1, h6, h7, h8⟩ := hL i hi
  exact ⟨v, h5, s, A1, l1, c1, h6, h7, h8.sub hd⟩
theorem DaS.sub {w : World} {D D' : Nat → Prop} (hd : ∀ b, b < w.heap.size → D b → D' b) {l : List DaD} {A : Option Addr} {len cap : Nat} (h : DaS w D l A len cap) : DaS w D' l A len cap := by
  obtain ⟨h1, h2, h3, h4⟩ := h
  refine ⟨h1, h2, h3, fun hp => ?_⟩
  obtain ⟨b, off, hA, hD, hb, hL⟩ := h4 hp
  refine ⟨b, off, hA, hd b hb hD, hb, fun i hi => ?_⟩
  obtain ⟨v, h5, s, A1, l1, c1, h6, h7, h8, h9⟩ := hL i hi
  exact ⟨v, h5, s, A1, l1, c1, h6, h7, h8, h9.sub hd⟩
theorem Fw.drewN {S : Nat → Prop} {a b : World} (h : Fw S a b) (n : Nat) : Fw S a (b.drewN n) := ⟨h.os, h.tape, h.output, h.size, h.block⟩
set_option maxHeartbeats 4000000 in
set_option maxRecDepth 100000 in
theorem valid1_any {n : Nat} (ih : ValidOk D D' dat A dl dc vars n) (t : Tr) (L vb b2 : Nat) (w : World) (v : List Value) (hn : t.size ≤ n) (hL : L ≤ 200) (hD' : ¬ D' vb) (hD : ¬ D vb) (hr : TrR w D' t v) (hd : DaS w D dat A dl dc) (hb : VB A dl dc vars vb L w) (h2 : Bk w b2 117 #[.pointer (some ⟨vb, 0, none⟩)]) :
    Calls Tryz.prog 102 #[.agg v.toArray, .pointer (some ⟨b2, 0, none⟩)] w (fun e w' => Fw (· = vb) w w' ∧ ((∃ r : Nat, validT dat vars L t = some r ∧ e = .returned (.bool false) ∧ VB A dl dc vars vb r w') ∨ (validT dat vars L t = none ∧ e = .returned (.bool true) ∧ ∃ x : Int, VB A dl dc vars vb x w'))) := by
  obtain ⟨B, len, cap, rfl, _, _, _⟩ := hr.form
  obtain ⟨x0, hx0⟩ : ∃ x, t.k = x := ⟨_, rfl⟩
  obtain ⟨x1, hx1⟩ : ∃ x, t.m = x := ⟨_, rfl⟩
  have hlt2 := h2.lt
  obtain ⟨C, hC⟩ : ∃ C, C = w.alloc (.cells #[.int .i64 t.k, .int .i64 t.m, .slice B len cap] 25) := ⟨_, rfl⟩
  have HB0 : Hid (Below w.heap.size w C) := by rw [hC]; exact (Below.refl _ _).alloc (Nat.le_refl _) _
  have HF0 : Hid (Fw (· = vb) w C) := by rw [hC]; exact (Fw.refl _ _).alloc _
  have HBX : Hid (Bk C w.heap.size 25 #[.int .i64 t.k, .int .i64 t.m, .slice B len cap]) := by rw [hC]; exact Bk.new _ _ _
  have hbl : vb < w.heap.size := Bk.lt hb
  have key := ih t L vb C _ hn hL hD' hD (hr.below HB0.out) (hd.below HB0.out) (Bk.below hb HB0.out hbl)
  have h2c := h2.below HB0.out hlt2
  have KEY := Lib.hid (show Calls Tryz.prog 73 #[.pointer (some ⟨vb, 0, none⟩), .agg #[.int .i64 t.k, .int .i64 t.m, .slice B len cap]] C (VPost A dl dc vars (validT dat vars L t) vb C) from key)
  show Calls Tryz.prog 102 #[.agg #[.int .i64 t.k, .int .i64 t.m, .slice B len cap], .pointer (some ⟨b2, 0, none⟩)] w _
  clear key hr hb h2 ih hd
  rw [hx0, hx1] at HBX KEY ⊢
  rw [hx0, hx1] at hC
  clear hx0 hx1
  generalize validT dat vars L t = q at *
  go_enter Tryz.func102, Tryz.ntmps102
  go_upto_region 1 with (fail)
  rw [← hC]
  clear hC
  obtain ⟨hc0, _, _⟩ := HBX.out.facts
  obtain ⟨hc2, _, _⟩ := h2c.facts
  go_wp2_with fail
  refine KEY.out.mono ?_
  rintro e w2 ⟨hf, (⟨r, hq, rfl, hb⟩ | ⟨hq, rfl, hb⟩)⟩
  · have HF := Lib.hid (HF0.out.trans hf)
    have HBB := Lib.hid hb
    have HQ := Lib.hid hq
    clear hf hb hq
    go_wp2
    go_ret
    exact ⟨HF.out, .inl ⟨r, HQ.out, rfl, HBB.out⟩⟩
  · have HF := Lib.hid (HF0.out.trans hf)
    have HBB := Lib.hid hb
    have HQ := Lib.hid hq
    clear hf hb hq
    go_wp2
    go_ret
    exact ⟨HF.out, .inr ⟨HQ.out, rfl, HBB.out⟩⟩
set_option maxHeartbeats 8000000 in
set_option maxRecDepth 100000 in
theorem valid_any (hvars : rng vars) : ∀ (n : Nat), ValidOk D D' dat A dl dc vars n
  | 0 => fun t L vb w v h _ _ _ _ _ _ => absurd t.size_pos (by omega)
  | n + 1 => fun t L vb w v hn hL hD' hD hr hd hb => by
    have IH := Lib.hid (valid_any hvars n)
    obtain ⟨B, len, cap, rfl, hs, hk, hm⟩ := hr.form
    have hsz := Tr.size_eq t
    obtain ⟨x0, hx0⟩ : ∃ x, t.k = x := ⟨_, rfl⟩
    obtain ⟨x1, hx1⟩ : ∃ x, t.m = x := ⟨_, rfl⟩
    obtain ⟨l, hl⟩ : ∃ l, t.kids = l := ⟨_, rfl⟩
    have ht : t = .n x0 x1 l := by
      cases t
      rw [← hx0, ← hx1, ← hl]; rfl
    rw [hx0] at hk
    rw [hx1] at hm
    rw [hl] at hs hsz
    rw [hx0, hx1]
    obtain ⟨q, hq⟩ : ∃ q, validT dat vars L t = q := ⟨_, rfl⟩
    rw [hq]
    rw [ht] at hq
    clear hx0 hx1 hl ht hr
    have hlen : len = l.length := hs.1
    have hlc := hs.2.1
    have hcap : cap ≤ maxLen := hs.2.2.1
    have hdl : dl = dat.length := hd.1
    have hdlc := hd.2.1
    have hdcap : dc ≤ maxLen := hd.2.2.1
    unfold maxLen at hcap hdcap
    unfold rng at hk hm hvars
    have hlt : vb < w.heap.size := Bk.lt hb
    have HLEN := Lib.hid hlen
    have HDL := Lib.hid hdl
    have HS := Lib.hid hs
    have HD := Lib.hid hd
    have HB := Lib.hid hb
    have HQ := Lib.hid hq
    have HN : Hid (∀ (i : Nat) (h : i < l.length), l[i].size ≤ n) := fun i h => by have := sizes_get h; omega
    clear hs hlen hsz hb hd hq hdl
    obtain ⟨C, hC⟩ : ∃ C, C = (w.alloc (.cells #[.pointer (some ⟨vb, 0, none⟩)] 117)).alloc (.cells #[.int .i64 x0, .int .i64 x1, .slice B len cap] 25) := ⟨_, rfl⟩
    have HB0 : Hid (Below w.heap.size w C) := by rw [hC]; exact ((Below.refl _ _).alloc (Nat.le_refl _) _).alloc (by simp) _
    have HF0 : Hid (Fw (· = vb) w C) := by rw [hC]; exact ((Fw.refl _ _).alloc _).alloc _
    have HBP : Hid (Bk C w.heap.size 117 #[.pointer (some ⟨vb, 0, none⟩)]) := by rw [hC]; exact (Bk.new _ _ _).alloc _
    have HBX : Hid (Bk C (w.heap.size + 1) 25 #[.int .i64 x0, .int .i64 x1, .slice B len cap]) := by rw [hC]; exact bk_two _ _ _ _
    have HBL : Hid (VB A dl dc vars vb L C) := Bk.below HB.out HB0.out hlt
    show Calls Tryz.prog 73 #[.pointer (some ⟨vb, 0, none⟩), .agg #[.int .i64 x0, .int .i64 x1, .slice B len cap]] w _
    go_enter Tryz.func73, Tryz.ntmps73
    go_upto_region 1 with (fail)
    rw [← hC]
    clear hC
    obtain ⟨hc0, _, _⟩ := HBP.out.facts
    obtain ⟨hc1, _, _⟩ := HBX.out.facts
    obtain ⟨hc2, hfz, _⟩ := Bk.facts HBL.out
    by_cases hL1 : 1 ≤ L
    · obtain ⟨L', rfl⟩ : ∃ L', L = L' + 1 := ⟨L - 1, by omega⟩
      obtain ⟨W1, hW1⟩ : ∃ W1, W1 = C.setCell ⟨vb, 2, none⟩ (.int .i64 (L' : Int)) := ⟨_, rfl⟩
      have HF1 : Hid (Fw (· = vb) w W1) := by rw [hW1]; exact HF0.out.setCell (p := ⟨vb, 2, none⟩) (.inl rfl) _
      have HL1 : Hid (VB A dl dc vars vb L' W1) := by
        rw [hW1]
        have := Bk.set HBL.out 2 (.int .i64 (L' : Int))
        exact Lib.hid (by simpa [VB] using this)
      have HP1 : Hid (Bk W1 w.heap.size 117 #[.pointer (some ⟨vb, 0, none⟩)]) := by rw [hW1]; exact HBP.out.far (by show w.heap.size ≠ vb; omega) _
      have HX1 : Hid (Bk W1 (w.heap.size + 1) 25 #[.int .i64 x0, .int .i64 x1, .slice B len cap]) := by rw [hW1]; exact HBX.out.far (by show w.heap.size + 1 ≠ vb; omega) _
      obtain ⟨hd0, _, _⟩ := HP1.out.facts
      obtain ⟨hd1, _, _⟩ := HX1.out.facts
      obtain ⟨hd2, _, _⟩ := Bk.facts HL1.out
      have hLe : ((L' + 1 : Nat) : Int) - 1 = (L' : Int) := by omega
      have hneg : ¬ (L' : Int) < 0 := by omega
      have hqh : headP dat vars x0 x1 = none → q = none := fun h => by
        have h2 := HQ.out
        rw [validT, headD_of, h] at h2
        exact h2.symm
      have HQH := Lib.hid hqh
      clear hqh
      go_upto_region 2 with (fail)
      rw [← hW1]
      clear hW1
      go_upto_block 0 with (fail)
      go_cut [5, 6] from 21 to 78 (fun lo hi wx => ∃ a b : Int, lo = .int .i64 a ∧ hi = .int .i64 b ∧ rng a ∧ rng b ∧ headP dat vars x0 x1 = some (a, b) ∧ Hid (Fw (· = vb) w wx) ∧ Hid (VB A dl dc vars vb L' wx) ∧ Hid (Bk wx w.heap.size 117 #[.pointer (some ⟨vb, 0, none⟩)]) ∧ Hid (Bk wx (w.heap.size + 1) 25 #[.int .i64 x0, .int .i64 x1, .slice B len cap]))
      case first =>
        by_cases h1 : x0 = 1
        · subst h1
          go_wp2
          go_meet
          exact ⟨0, 0, rfl, rfl, by unfold rng; omega, by unfold rng; omega, by simp [headP], HF1, HL1, HP1, HX1⟩
        by_cases h2 : x0 = 2
        · subst h2
          go_wp2
          go_meet
          exact ⟨0, 0, rfl, rfl, by unfold rng; omega, by unfold rng; omega, by simp [headP], HF1, HL1, HP1, HX1⟩
        by_cases h3 : x0 = 3
        · subst h3
          go_wp2
          go_meet
          exact ⟨0, 0, rfl, rfl, by unfold rng; omega, by unfold rng; omega, by simp [headP], HF1, HL1, HP1, HX1⟩
        by_cases h6 : x0 = 6
        · subst h6
          go_wp2
          go_meet
          exact ⟨2, 6, rfl, rfl, by unfold rng; omega, by unfold rng; omega, by simp [headP], HF1, HL1, HP1, HX1⟩
        by_cases h7 : x0 = 7
        · subst h7
          go_wp2
          go_meet
          exact ⟨1, 1, rfl, rfl, by unfold rng; omega, by unfold rng; omega, by simp [headP], HF1, HL1, HP1, HX1⟩
        by_cases h8 : x0 = 8
        · subst h8
          go_wp2
          go_meet
          exact ⟨1, 1, rfl, rfl, by unfold rng; omega, by unfold rng; omega, by simp [headP], HF1, HL1, HP1, HX1⟩
        by_cases h9 : x0 = 9
        · subst h9
          go_wp2
          go_meet
          exact ⟨1, 7, rfl, rfl, by unfold rng; omega, by unfold rng; omega, by simp [headP], HF1, HL1, HP1, HX1⟩
        by_cases h4 : x0 = 4
        · subst h4
          have hqh : ¬ (0 ≤ x1 ∧ x1 < vars) → q = none := fun h => HQH.out (by simp [headP, h])
          by_cases hm0 : x1 < 0
          · have c1 : decide (x1 < 0) = true := by simp [hm0]
            have hqn := Lib.hid (hqh (by omega))
            clear hqh
            go_wp2
            go_quiet (fail)
            go_wp2
            go_ret
            exact ⟨HF1.out.drewN _, .inr ⟨hqn.out, rfl, _, (Bk.drewN HL1.out _)⟩⟩
          have c1 : decide (x1 < 0) = false := by simp; omega
          by_cases hm1 : vars ≤ x1
          · have hqn := Lib.hid (hqh (by omega))
            clear hqh
            go_wp2
            go_quiet (fail)
            go_wp2
            go_ret
            exact ⟨HF1.out.drewN _, .inr ⟨hqn.out, rfl, _, (Bk.drewN HL1.out _)⟩⟩
          clear hqh
          go_wp2
          go_quiet (fail)
          go_wp2
          go_meet
          exact ⟨0, 0, rfl, rfl, by unfold rng; omega, by unfold rng; omega, by simp [headP]; omega, HF1.out.drewN _, Bk.drewN HL1.out _, HP1.out.drewN _, HX1.out.drewN _⟩
        by_cases h5 : x0 = 5
        · subst h5
          have hqh : ¬ (0 ≤ x1 ∧ x1 < dat.length) → q = none := fun h => HQH.out (by simp only [headP]; simp [h])
          rw [← HDL.out] at hqh
          by_cases hm0 : x1 < 0
          · have c1 : decide (x1 < 0) = true := by simp [hm0]
            have hqn := Lib.hid (hqh (by omega))
            clear hqh
            go_wp2
            go_quiet (fail)
            go_wp2
            go_ret
            exact ⟨HF1.out.drewN _, .inr ⟨hqn.out, rfl, _, (Bk.drewN HL1.out _)⟩⟩
          have c1 : decide (x1 < 0) = false := by simp; omega
          by_cases hm1 : (dl : Int) ≤ x1
          · have hqn := Lib.hid (hqh (by omega))
            clear hqh
            go_wp2
            go_quiet (fail)
            go_wp2
            go_ret
            exact ⟨HF1.out.drewN _, .inr ⟨hqn.out, rfl, _, (Bk.drewN HL1.out _)⟩⟩
          clear hqh
          obtain ⟨m, rfl⟩ : ∃ m : Nat, x1 = m := ⟨x1.toNat, by omega⟩
          have hmd : m < dat.length := by have := HDL.out; omega
          obtain ⟨b, off, s, A', len', cap', rfl, hbb, e0, e1, e2, hname, hvr, hcs⟩ := (HD.out.keep (Keeps.fw HF1.out fun b hb e => hD (by rw [← e]; exact hb))).get (i := m) hmd
          have hhp : Hid (headP dat vars 5 m = some (dat[m].vars, dat[m].vars)) := by
            show _ = _
            rw [headP, if_neg (by omega), if_neg (by omega), if_pos rfl, if_pos ⟨by omega, by omega⟩, Int.toNat_natCast, List.getElem?_eq_getElem hmd]
            rfl
          clear hcs hname
          generalize dat[m].vars = vr at *
          go_wp2
          go_quiet (fail)
          go_wp2
          go_quiet (fail)
          go_wp2
          go_meet
          exact ⟨vr, vr, rfl, rfl, hvr, hvr, hhp.out, (HF1.out.drewN _).drewN _, Bk.drewN (Bk.drewN HL1.out _) _, (HP1.out.drewN _).drewN _, (HX1.out.drewN _).drewN _⟩
        have hqn := Lib.hid (HQH.out (by simp [headP, *]))
        go_wp2
        go_ret
        exact ⟨HF1.out, .inr ⟨hqn.out, rfl, _, HL1.out⟩⟩
      case rest =>
        obtain ⟨lo, hi, rfl, rfl, hlo, hhi, hhp, HF2, HL2, HP2, HX2⟩ := hcut
        have hq : q = if x0 ≠ 4 ∧ x0 ≠ 5 ∧ x1 ≠ 0 then none else if lo ≤ len ∧ (len : Int) ≤ hi then validTs dat vars L' l else none := by
          have h := HQ.out
          rw [validT, headD_of, hhp, Option.bind_some, ← HLEN.out] at h
          by_cases hc : x0 ≠ 4 ∧ x0 ≠ 5 ∧ x1 ≠ 0
          · rw [if_pos hc] at h ⊢; exact h.symm
          · rw [if_neg hc] at h ⊢; exact h.symm
        unfold rng at hlo hhi
        obtain ⟨hd0, _, _⟩ := HP2.out.facts
        obtain ⟨hd1, _, _⟩ := HX2.out.facts
        obtain ⟨qa, hqa⟩ : ∃ qa : Bool, decide (x0 ≠ 4 ∧ x0 ≠ 5 ∧ x1 ≠ 0) = qa := ⟨_, rfl⟩
        obtain ⟨qb, hqb⟩ : ∃ qb : Bool, decide ((len : Int) < lo ∨ hi < (len : Int)) = qb := ⟨_, rfl⟩
        have hq2 : q = if qa = true then none else if qb = true then none else validTs dat vars L' l := by
          rw [hq, ← hqa, ← hqb]
          exact two_tests
        have HQ2 := Lib.hid hq2
        have HQA := Lib.hid hqa
        have HQB := Lib.hid hqb
        clear hq hhp hq2 hqa hqb
        go_upto_region 24 with (fail)
        go_cut [91] from 79 to 91 (fun v wx => v = .bool qa ∧ wc = wx)
        case first =>
          by_cases h4 : x0 = 4
          · subst h4
            go_wp2
            go_meet
            exact ⟨by rw [← HQA.out]; simp, rfl⟩
          · by_cases h5 : x0 = 5
            · subst h5
              go_wp2
              go_meet
              exact ⟨by rw [← HQA.out]; simp, rfl⟩
            · by_cases h6 : x1 = 0
              · subst h6
                go_wp2
                go_meet
                exact ⟨by rw [← HQA.out]; simp, rfl⟩
              · go_wp2
                go_meet
                exact ⟨by rw [← HQA.out]; simp [h4, h5, h6], rfl⟩
        case rest =>
        obtain ⟨rfl, rfl⟩ := hcut
        cases qa with
        | true =>
          have hqn := Lib.hid (show q = none by rw [HQ2.out, if_pos rfl])
          go_wp2
          go_ret
          exact ⟨HF2.out, .inr ⟨hqn.out, rfl, _, HL2.out⟩⟩
        | false =>
          go_upto_region 26 with (fail)
          go_cut [103] from 92 to 103 (fun v wx => v = .bool qb ∧ wc = wx)
          case first =>
            by_cases hC : (len : Int) < lo
            · go_wp2
              go_meet
              exact ⟨by rw [← HQB.out]; simp [hC], rfl⟩
            · by_cases hE : hi < (len : Int)
              · go_wp2
                go_meet
                exact ⟨by rw [← HQB.out]; simp [hE], rfl⟩
              · go_wp2
                go_meet
                exact ⟨by rw [← HQB.out]; simp; omega, rfl⟩
          case rest =>
          obtain ⟨rfl, rfl⟩ := hcut
          cases qb with
          | true =>
            have hqn := Lib.hid (show q = none by rw [HQ2.out]; simp)
            go_wp2
            go_ret
            exact ⟨HF2.out, .inr ⟨hqn.out, rfl, _, HL2.out⟩⟩
          | false =>
            have hq3 : validTs dat vars L' l = q := by rw [HQ2.out]; simp
            have HQ3 := Lib.hid hq3
            clear hq3
            have key := containsT_any D' l B len cap 102 #[] #[.pointer (some ⟨w.heap.size, 0, none⟩)]
              (fun i w' => ∃ r : Nat, r ≤ 200 ∧ VB A dl dc vars vb r w' ∧ validTs dat vars r (l.drop i) = q ∧ Bk w' w.heap.size 117 #[.pointer (some ⟨vb, 0, none⟩)] ∧ Fw (· = vb) w w')
              (fun w' => q = none ∧ (∃ x : Int, VB A dl dc vars vb x w') ∧ Fw (· = vb) w w')
              (fun i w' ⟨_, _, _, _, _, h⟩ => HS.out.keep (Keeps.fw h fun b hb e => hD' (by rw [← e]; exact hb)))
              ⟨enters_of Tryz.func102 (by kernel_rfl) rfl, fun i hi w' v ⟨r, h1, h2, h3, h4, h5⟩ hr => by
                rw [List.drop_eq_getElem_cons hi, validTs] at h3
                have := valid1_any IH.out l[i] r vb w.heap.size w' v (HN.out i hi) h1 hD' hD hr (HD.out.keep (Keeps.fw h5 fun b hb e => hD (by rw [← e]; exact hb))) h2 h4
                refine Calls.mono (by simpa using this) ?_
                rintro e w2 ⟨hf, (⟨r2, hv, rfl, hb⟩ | ⟨hv, rfl, hb⟩)⟩
                · rw [hv] at h3
                  exact .inr ⟨rfl, r2, by have := validT_le hv; omega, hb, h3, Bk.fw h4 hf (by show ¬ (w.heap.size = vb); omega), h5.trans hf⟩
                · rw [hv] at h3
                  exact .inl ⟨rfl, h3.symm, hb, h5.trans hf⟩⟩ wc ⟨L', by omega, HL2.out, HQ3.out, HP2.out, HF2.out⟩
            have KEY := Lib.hid key
            clear key
            go_wp2_with fail
            refine KEY.out.mono ?_
            rintro e w2 (⟨rfl, hx, hy, hf⟩ | ⟨rfl, r, hr2, hx, hy, _, hf⟩)
            · have HX5 := Lib.hid hx
              have HY5 := Lib.hid hy
              have HF5 := Lib.hid hf
              clear hx hy hf
              go_wp2
              go_ret
              exact ⟨HF5.out, .inr ⟨HX5.out, rfl, HY5.out⟩⟩
            · have HX5 := Lib.hid hx
              have HY5 := Lib.hid hy
              have HF5 := Lib.hid hf
              clear hx hy hf
              go_wp2
              go_ret
              refine ⟨HF5.out, .inl ⟨r, ?_, rfl, HX5.out⟩⟩
              have h := HY5.out
              rw [List.drop_eq_nil_of_le (by have := HLEN.out; omega), validTs] at h
              exact h.symm
    · have hL0 : L = 0 := by omega
      subst hL0
      have hneg : (0 : Int) - 1 < 0 := by omega
      have hqn : q = none := by have h := HQ.out; rw [validT] at h; exact h.symm
      go_wp2
      go_ret
      exact ⟨HF0.out.setCell (p := ⟨vb, 2, none⟩) (.inl rfl) _, .inr ⟨hqn, rfl, _, by have := Bk.set HBL.out 2 (.int .i64 (-1)); simpa [VB] using this⟩⟩
set_option maxHeartbeats 4000000 in
set_option maxRecDepth 100000 in
/-- typing.Valid. -/
theorem tvalid_any (hvars : rng vars) (t : Tr) (w : World) (v : List Value) (hr : TrR w D' t v) (hd : DaS w D dat A dl dc) :
    Calls Tryz.prog 42 #[.slice A dl dc, .agg v.toArray, .int .i64 vars] w (RetV (.bool (validT dat vars 200 t).isSome) w) := by
  obtain ⟨B, len, cap, rfl, _, _, _⟩ := hr.form
  obtain ⟨C, hC⟩ : ∃ C, C = (w.alloc (.cells #[.int .i64 t.k, .int .i64 t.m, .slice B len cap] 25)).alloc (.cells #[.slice A dl dc, .int .i64 vars, .int .i64 200] 119) := ⟨_, rfl⟩
  have hb0 : Below w.heap.size w C := by rw [hC]; exact ((Below.refl _ _).alloc (Nat.le_refl _) _).alloc (by simp) _
  have HBX : Hid (Bk C w.heap.size 25 #[.int .i64 t.k, .int .i64 t.m, .slice B len cap]) := by rw [hC]; exact (Bk.new _ _ _).alloc _
  have hbv : VB A dl dc vars (w.heap.size + 1) 200 C := by rw [hC]; exact bk_two _ _ _ _
  have key := valid_any hvars t.size t 200 (w.heap.size + 1) C _ (Nat.le_refl _) (Nat.le_refl _) (fun (h : w.heap.size + 1 < w.heap.size) => by omega) (fun (h : w.heap.size + 1 < w.heap.size) => by omega) ((hr.sub (D' := fun b => b < w.heap.size) fun b hb _ => hb).below hb0) ((hd.sub (D' := fun b => b < w.heap.size) fun b hb _ => hb).below hb0) hbv
  have HB0 := Lib.hid hb0
  have KEY := Lib.hid (show Calls Tryz.prog 73 #[.pointer (some ⟨w.heap.size + 1, 0, none⟩), .agg #[.int .i64 t.k, .int .i64 t.m, .slice B len cap]] C (VPost A dl dc vars (validT dat vars 200 t) (w.heap.size + 1) C) from key)
  clear key hbv hb0 hr hd
  show Calls Tryz.prog 42 #[.slice A dl dc, .agg #[.int .i64 t.k, .int .i64 t.m, .slice B len cap], .int .i64 vars] w _
  generalize validT dat vars 200 t = q at *
  generalize t.k = x0 at *
  generalize t.m = x1 at *
  go_enter Tryz.func42, Tryz.ntmps42
  go_upto_region 2 with (fail)
  rw [← hC]
  clear hC
  obtain ⟨hc0, _, _⟩ := HBX.out.facts
  go_wp2_with fail
  refine KEY.out.mono ?_
  rintro e w2 ⟨hf, hh⟩
  have hb2 := HB0.out.trans (hf.toBelow (n := w.heap.size) (fun x hx => by have h : x = w.heap.size + 1 := hx; omega) HB0.out.size)
  have HB2 := Lib.hid hb2
  clear hf hb2
  rcases hh with ⟨r, rfl, rfl, _⟩ | ⟨rfl, rfl, _⟩
  · go_wp2
    go_ret
    exact ⟨rfl, HB2.out⟩
  · go_wp2
    go_ret
    exact ⟨rfl, HB2.out⟩
end
end Go.Proofs.YtdbiedpdibjdlaaGreat

