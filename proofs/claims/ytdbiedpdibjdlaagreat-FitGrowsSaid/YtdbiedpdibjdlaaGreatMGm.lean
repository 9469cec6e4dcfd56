/-
  mentions: does a type mention a data type?
-/
import Derived.Test.YtdbiedpdibjdlaaGreatMGg
namespace Go.Proofs.YtdbiedpdibjdlaaGreat
open Go.RowKit AC
set_option linter.unusedVariables false
set_option linter.unusedSimpArgs false

mutual
/-- Does a type mention data type d (5)? -/
def ment (d : Int) : Tr → Bool
  | .n k m l => (decide (k = 5) && decide (m = d)) || ments d l
def ments (d : Int) : List Tr → Bool
  | [] => false
  | t :: l => ment d t || ments d l
end
theorem ment_eq (d : Int) (t : Tr) : ment d t = ((decide (t.k = 5) && decide (t.m = d)) || ments d t.kids) := by cases t; rw [ment]; rfl
theorem ments_get {d : Int} : ∀ {l : List Tr} {i : Nat} (hi : i < l.length), ment d l[i] = true → ments d l = true
  | t :: l, 0, _, h => by rw [ments]; simp at h; simp [h]
  | t :: l, i + 1, hi, h => by
    have := ments_get (l := l) (i := i) (by simpa using hi) (by simpa using h)
    rw [ments, this]
    simp
theorem ments_no {d : Int} : ∀ {l : List Tr}, (∀ (i : Nat) (h : i < l.length), ment d l[i] = false) → ments d l = false
  | [], _ => by rw [ments]
  | t :: l, h => by
    have h0 := h 0 (by simp)
    have h1 := ments_no (l := l) fun i hi => h (i + 1) (Nat.succ_lt_succ hi)
    simp at h0
    rw [ments, h0, h1]
    rfl
def MentOk (n : Nat) : Prop := ∀ (D : Nat → Prop) (t : Tr) (d : Int) (w : World) (v : List Value), t.size ≤ n → TrR w D t v → Calls Tryz.prog 108 #[.agg v.toArray, .int .i64 d] w (RetV (.bool (ment d t)) w)
set_option maxHeartbeats 4000000 in
set_option maxRecDepth 100000 in
theorem ment1_any {n : Nat} (ih : MentOk n) (D : Nat → Prop) (t : Tr) (d : Int) (b2 : Nat) (w : World) (v : List Value) (hn : t.size ≤ n) (hr : TrR w D t v) (h2 : Bk w b2 3 #[.int .i64 d]) :
    Calls Tryz.prog 125 #[.agg v.toArray, .pointer (some ⟨b2, 0, none⟩)] w (RetV (.bool (ment d t)) w) := by
  obtain ⟨A, len, cap, rfl, _, _, _⟩ := hr.form
  have hlt2 := h2.lt
  obtain ⟨C, hC⟩ : ∃ C, C = w.alloc (.cells #[.int .i64 t.k, .int .i64 t.m, .slice A len cap] 25) := ⟨_, rfl⟩
  have HB0 : Hid (Below w.heap.size w C) := by rw [hC]; exact (Below.refl _ _).alloc (Nat.le_refl _) _
  have HBX : Hid (Bk C w.heap.size 25 #[.int .i64 t.k, .int .i64 t.m, .slice A len cap]) := by rw [hC]; exact Bk.new _ _ _
  have key := ih D t d C _ hn (hr.below HB0.out)
  have h2c := h2.below HB0.out hlt2
  show Calls Tryz.prog 125 #[.agg #[.int .i64 t.k, .int .i64 t.m, .slice A len cap], .pointer (some ⟨b2, 0, none⟩)] w _
  obtain ⟨q, hq⟩ : ∃ q, ment d t = q := ⟨_, rfl⟩
  rw [hq] at key ⊢
  have KEY := Lib.hid (show Calls Tryz.prog 108 #[.agg #[.int .i64 t.k, .int .i64 t.m, .slice A len cap], .int .i64 d] C (RetV (.bool q) C) from key)
  clear key hr h2 ih hq
  obtain ⟨x0, hx0⟩ : ∃ x, t.k = x := ⟨_, rfl⟩
  obtain ⟨x1, hx1⟩ : ∃ x, t.m = x := ⟨_, rfl⟩
  rw [hx0, hx1] at HBX KEY ⊢
  rw [hx0, hx1] at hC
  clear hx0 hx1
  go_enter Tryz.func125, Tryz.ntmps125
  go_upto_region 1 with (fail)
  rw [← hC]
  clear hC
  obtain ⟨hc0, _, _⟩ := HBX.out.facts
  obtain ⟨hc2, _, _⟩ := h2c.facts
  go_wp2_with fail
  refine KEY.out.mono ?_
  rintro e w2 ⟨rfl, hb⟩
  have HB := Lib.hid (HB0.out.trans (hb.mono HB0.out.size))
  clear hb
  go_wp2
  go_ret
  exact ⟨rfl, HB.out⟩
set_option maxHeartbeats 4000000 in
set_option maxRecDepth 100000 in
theorem ment_any : ∀ (n : Nat), MentOk n
  | 0 => fun D t d w v h _ => absurd t.size_pos (by omega)
  | n + 1 => fun D t d w v hn hr => by
    have IH := Lib.hid (ment_any n)
    obtain ⟨A, len, cap, rfl, hs, _, _⟩ := hr.form
    have hsz := Tr.size_eq t
    rw [ment_eq]
    generalize t.kids = l at hs hsz ⊢
    have HN : Hid (∀ (i : Nat) (h : i < l.length), l[i].size ≤ n) := fun i h => by have := sizes_get h; omega
    have HS := Lib.hid hs
    have hlen : len = l.length := hs.1
    have HLEN := Lib.hid hlen
    clear hs hr hsz hlen
    obtain ⟨x0, hx0⟩ : ∃ x, t.k = x := ⟨_, rfl⟩
    obtain ⟨x1, hx1⟩ : ∃ x, t.m = x := ⟨_, rfl⟩
    rw [hx0, hx1]
    clear hx0 hx1
    obtain ⟨C, hC⟩ : ∃ C, C = (w.alloc (.cells #[.int .i64 x0, .int .i64 x1, .slice A len cap] 25)).alloc (.cells #[.int .i64 d] 3) := ⟨_, rfl⟩
    have HB0 : Hid (Below w.heap.size w C) := by rw [hC]; exact ((Below.refl _ _).alloc (Nat.le_refl _) _).alloc (by simp) _
    have HBX : Hid (Bk C w.heap.size 25 #[.int .i64 x0, .int .i64 x1, .slice A len cap]) := by rw [hC]; exact (Bk.new _ _ _).alloc _
    have HBY : Hid (Bk C (w.heap.size + 1) 3 #[.int .i64 d]) := by rw [hC]; exact bk_two _ _ _ _
    show Calls Tryz.prog 108 #[.agg #[.int .i64 x0, .int .i64 x1, .slice A len cap], .int .i64 d] w _
    obtain ⟨q, hq⟩ : ∃ q, ((decide (x0 = 5) && decide (x1 = d)) || ments d l) = q := ⟨_, rfl⟩
    rw [hq]
    have HQ := Lib.hid hq
    clear hq
    have key := containsT_any D l A len cap 125 #[] #[.pointer (some ⟨w.heap.size + 1, 0, none⟩)]
      (fun i w' => (∀ (j : Nat) (h : j < l.length), j < i → ment d l[j] = false) ∧ Below C.heap.size C w')
      (fun w' => ments d l = true ∧ Below C.heap.size C w')
      (fun i w' h => (HS.out.below HB0.out).below h.2)
      ⟨enters_of Tryz.func125 (by kernel_rfl) rfl, fun i hi w' v ⟨h1, h2⟩ hr => by
        have := ment1_any IH.out D l[i] d (w.heap.size + 1) w' v (HN.out i hi) hr (HBY.out.below h2 HBY.out.lt)
        refine Calls.mono (by simpa using this) ?_
        rintro e w2 ⟨rfl, hb⟩
        cases hq : ment d l[i] with
        | true => exact .inl ⟨rfl, ments_get hi hq, h2.trans (hb.mono h2.size)⟩
        | false =>
          refine .inr ⟨rfl, fun j h hj => ?_, h2.trans (hb.mono h2.size)⟩
          rcases Nat.lt_or_ge j i with h5 | h5
          · exact h1 j h h5
          · obtain rfl : j = i := by omega
            exact hq⟩ C ⟨fun j _ h => absurd h (by omega), Below.refl _ _⟩
    have KEY := Lib.hid key
    clear key
    go_enter Tryz.func108, Tryz.ntmps108
    go_upto_region 1 with (fail)
    rw [← hC]
    clear hC
    obtain ⟨hc0, _, _⟩ := HBX.out.facts
    obtain ⟨hc1, _, _⟩ := HBY.out.facts
    by_cases h : x0 = 5 ∧ x1 = d
    · obtain ⟨rfl, rfl⟩ := h
      have eq : q = true := by rw [← HQ.out]; simp
      go_wp2
      go_ret
      exact ⟨rfl, HB0.out⟩
    · have hno : (decide (x0 = 5) && decide (x1 = d)) = false := by
        rw [Bool.and_eq_false_iff]
        rcases Classical.em (x0 = 5) with h1 | h1
        · exact .inr (decide_eq_false fun h2 => h ⟨h1, h2⟩)
        · exact .inl (decide_eq_false h1)
      have eq : q = ments d l := by rw [← HQ.out, hno, Bool.false_or]
      have EQ := Lib.hid eq
      clear eq
      have fin : ∀ (e : Ending) (w2 : World), CPost len (fun i w' => (∀ (j : Nat) (h : j < l.length), j < i → ment d l[j] = false) ∧ Below C.heap.size C w') (fun w' => ments d l = true ∧ Below C.heap.size C w') e w2 → e = .returned (.bool (ments d l)) ∧ Below w.heap.size w w2 := by
        rintro e w2 (⟨rfl, h1, h2⟩ | ⟨rfl, h1, h2⟩)
        · exact ⟨by rw [h1], HB0.out.trans (h2.mono HB0.out.size)⟩
        · exact ⟨by rw [ments_no fun i hi => h1 i hi (by have := HLEN.out; omega)], HB0.out.trans (h2.mono HB0.out.size)⟩
      have FIN := Lib.hid fin
      clear fin
      by_cases h5 : x0 = 5
      · have h6 : ¬ x1 = d := fun e => h ⟨h5, e⟩
        have hb6 : (x1 == d) = false := by rw [beq_eq_false_iff_ne]; exact h6
        subst h5
        clear h hno
        go_wp2_with fail
        refine KEY.out.mono ?_
        intro e w2 hq
        obtain ⟨rfl, hb⟩ := FIN.out e w2 hq
        have HB := Lib.hid hb
        clear hb hq
        go_wp2
        go_ret
        exact ⟨by rw [EQ.out]; rfl, HB.out⟩
      · have hb5 : (x0 == 5) = false := by rw [beq_eq_false_iff_ne]; exact h5
        clear h hno
        go_wp2_with fail
        refine KEY.out.mono ?_
        intro e w2 hq
        obtain ⟨rfl, hb⟩ := FIN.out e w2 hq
        have HB := Lib.hid hb
        clear hb hq
        go_wp2
        go_ret
        exact ⟨by rw [EQ.out]; rfl, HB.out⟩
end Go.Proofs.YtdbiedpdibjdlaaGreat

