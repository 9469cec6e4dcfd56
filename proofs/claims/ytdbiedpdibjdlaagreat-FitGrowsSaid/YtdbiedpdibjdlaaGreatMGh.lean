/-
  few: a value has at most so many nodes.
-/
import Derived.Test.YtdbiedpdibjdlaaGreatMGg
import Derived.Test.YtdbiedpdibjdlaaGreatMHj
import Derived.Test.YtdbiedpdibjdlaaGreatMGn
import Derived.Test.YtdbiedpdibjdlaaGreatMHk
namespace Go.Proofs.YtdbiedpdibjdlaaGreat
open Go.RowKit AC
set_option linter.unusedVariables false
set_option linter.unusedSimpArgs false

/-- What few leaves: whether there were s nodes left, and what is left. -/
def FewPost (s L bl : Nat) (w : World) (e : Ending) (w' : World) : Prop :=
  (e = .returned (.bool true) ∧ s ≤ L ∧ Bk w' bl 3 #[.int .i64 ((L - s : Nat) : Int)] ∧ Fw (· = bl) w w') ∨ (e = .returned (.bool false) ∧ L < s ∧ (∃ x : Int, Bk w' bl 3 #[.int .i64 x]) ∧ Fw (· = bl) w w')
def FewOk (D : Nat → Prop) (n : Nat) : Prop := ∀ (t : Tr) (L bl : Nat) (w : World) (v : List Value), t.size ≤ n → L ≤ 5000 → ¬ D bl → TrR w D t v → Bk w bl 3 #[.int .i64 (L : Int)] →
  Calls Tryz.prog 21 #[.agg v.toArray, .pointer (some ⟨bl, 0, none⟩)] w (FewPost t.size L bl w)

set_option maxHeartbeats 4000000 in
set_option maxRecDepth 100000 in
theorem few1_any {D : Nat → Prop} {n : Nat} (ih : FewOk D n) (t : Tr) (L bl b2 : Nat) (w : World) (v : List Value) (hn : t.size ≤ n) (hL : L ≤ 5000) (hD : ¬ D bl) (hr : TrR w D t v) (hb : Bk w bl 3 #[.int .i64 (L : Int)]) (h2 : Bk w b2 66 #[.pointer (some ⟨bl, 0, none⟩)]) :
    Calls Tryz.prog 44 #[.agg v.toArray, .pointer (some ⟨b2, 0, none⟩)] w (fun e w2 => (e = .returned (.bool true) ∧ L < t.size ∧ Fw (· = bl) w w2 ∧ ∃ x : Int, Bk w2 bl 3 #[.int .i64 x]) ∨ (e = .returned (.bool false) ∧ t.size ≤ L ∧ Bk w2 bl 3 #[.int .i64 ((L - t.size : Nat) : Int)] ∧ Fw (· = bl) w w2)) := by
  obtain ⟨A, len, cap, rfl, _, _, _⟩ := hr.form
  obtain ⟨x0, hx0⟩ : ∃ x, t.k = x := ⟨_, rfl⟩
  obtain ⟨x1, hx1⟩ : ∃ x, t.m = x := ⟨_, rfl⟩
  have hlt := hb.lt
  have hlt2 := h2.lt
  obtain ⟨C, hC⟩ : ∃ C, C = w.alloc (.cells #[.int .i64 t.k, .int .i64 t.m, .slice A len cap] 28) := ⟨_, rfl⟩
  have HB0 : Hid (Below w.heap.size w C) := by rw [hC]; exact (Below.refl _ _).alloc (Nat.le_refl _) _
  have HF0 : Hid (Fw (· = bl) w C) := by rw [hC]; exact (Fw.refl _ _).alloc _
  have HBX : Hid (Bk C w.heap.size 28 #[.int .i64 t.k, .int .i64 t.m, .slice A len cap]) := by rw [hC]; exact Bk.new _ _ _
  have key := ih t L bl C _ hn hL hD (hr.below HB0.out) (hb.below HB0.out hlt)
  have h2c := h2.below HB0.out hlt2
  have KEY := Lib.hid (show Calls Tryz.prog 21 #[.agg #[.int .i64 t.k, .int .i64 t.m, .slice A len cap], .pointer (some ⟨bl, 0, none⟩)] C (FewPost t.size L bl C) from key)
  show Calls Tryz.prog 44 #[.agg #[.int .i64 t.k, .int .i64 t.m, .slice A len cap], .pointer (some ⟨b2, 0, none⟩)] w _
  clear key hr hb h2 ih
  rw [hx0, hx1] at HBX KEY ⊢
  rw [hx0, hx1] at hC
  clear hx0 hx1
  go_enter Tryz.func44, Tryz.ntmps44
  go_upto_region 1 with (fail)
  rw [← hC]
  clear hC
  obtain ⟨hc0, _, _⟩ := HBX.out.facts
  obtain ⟨hc2, _, _⟩ := h2c.facts
  go_wp2_with fail
  refine KEY.out.mono ?_
  rintro e w2 (⟨rfl, hs, hb, hf⟩ | ⟨rfl, hs, hb, hf⟩)
  · have HF := Lib.hid (HF0.out.trans hf)
    have HBB := Lib.hid hb
    clear hf hb
    go_wp2
    go_ret
    exact .inr ⟨rfl, hs, HBB.out, HF.out⟩
  · have HF := Lib.hid (HF0.out.trans hf)
    have HBB := Lib.hid hb
    clear hf hb
    go_wp2
    go_ret
    exact .inl ⟨rfl, hs, HF.out, HBB.out⟩

set_option maxHeartbeats 4000000 in
set_option maxRecDepth 100000 in
theorem few_any (D : Nat → Prop) : ∀ (n : Nat), FewOk D n
  | 0 => fun t L bl w v h _ _ _ _ => absurd t.size_pos (by omega)
  | n + 1 => fun t L bl w v hn hL hD hr hb => by
    have IH := Lib.hid (few_any D n)
    obtain ⟨A, len, cap, rfl, hs, _, _⟩ := hr.form
    have hsz := Tr.size_eq t
    generalize t.kids = l at hs hsz
    have hlen : len = l.length := hs.1
    have HLEN := Lib.hid hlen
    have HSZ := Lib.hid hsz
    have hlt := hb.lt
    have HS := Lib.hid hs
    have HB := Lib.hid hb
    clear hs hlen hr hsz hb
    obtain ⟨x0, hx0⟩ : ∃ x, t.k = x := ⟨_, rfl⟩
    obtain ⟨x1, hx1⟩ : ∃ x, t.m = x := ⟨_, rfl⟩
    rw [hx0, hx1]
    clear hx0 hx1
    obtain ⟨C, hC⟩ : ∃ C, C = (w.alloc (.cells #[.int .i64 x0, .int .i64 x1, .slice A len cap] 28)).alloc (.cells #[.pointer (some ⟨bl, 0, none⟩)] 66) := ⟨_, rfl⟩
    have HB0 : Hid (Below w.heap.size w C) := by rw [hC]; exact ((Below.refl _ _).alloc (Nat.le_refl _) _).alloc (by simp) _
    have HF0 : Hid (Fw (· = bl) w C) := by rw [hC]; exact ((Fw.refl _ _).alloc _).alloc _
    have HBX : Hid (Bk C w.heap.size 28 #[.int .i64 x0, .int .i64 x1, .slice A len cap]) := by rw [hC]; exact (Bk.new _ _ _).alloc _
    have HBY : Hid (Bk C (w.heap.size + 1) 66 #[.pointer (some ⟨bl, 0, none⟩)]) := by rw [hC]; exact bk_two _ _ _ _
    have HBL := Lib.hid (HB.out.below HB0.out hlt)
    show Calls Tryz.prog 21 #[.agg #[.int .i64 x0, .int .i64 x1, .slice A len cap], .pointer (some ⟨bl, 0, none⟩)] w _
    go_enter Tryz.func21, Tryz.ntmps21
    go_upto_region 1 with (fail)
    rw [← hC]
    clear hC
    obtain ⟨hc0, _, _⟩ := HBX.out.facts
    obtain ⟨hc1, _, _⟩ := HBY.out.facts
    obtain ⟨hc2, hfz, _⟩ := HBL.out.facts
    by_cases hL1 : 1 ≤ L
    · obtain ⟨W1, hW1⟩ : ∃ W1, W1 = C.setCell ⟨bl, 0, none⟩ (.int .i64 ((L : Int) - 1)) := ⟨_, rfl⟩
      have HF1 : Hid (Fw (· = bl) w W1) := by rw [hW1]; exact HF0.out.setCell (p := ⟨bl, 0, none⟩) (.inl rfl) _
      have HL1 : Hid (Bk W1 bl 3 #[.int .i64 ((L - 1 : Nat) : Int)]) := by
        rw [hW1]
        have := HBL.out.set 0 (.int .i64 ((L : Int) - 1))
        rw [show ((L - 1 : Nat) : Int) = (L : Int) - 1 from by omega]
        exact this
      have HY1 : Hid (Bk W1 (w.heap.size + 1) 66 #[.pointer (some ⟨bl, 0, none⟩)]) := by rw [hW1]; exact HBY.out.far (by show w.heap.size + 1 ≠ bl; omega) _
      have key := containsV_any D l A len cap 44 #[] #[.pointer (some ⟨w.heap.size + 1, 0, none⟩)]
        (fun i w' => sizes (l.take i) ≤ L - 1 ∧ Bk w' bl 3 #[.int .i64 ((L - 1 - sizes (l.take i) : Nat) : Int)] ∧ Bk w' (w.heap.size + 1) 66 #[.pointer (some ⟨bl, 0, none⟩)] ∧ Fw (· = bl) w w')
        (fun w' => (∃ x : Int, Bk w' bl 3 #[.int .i64 x]) ∧ Fw (· = bl) w w' ∧ L < t.size)
        (fun i w' h => HS.out.keep (Keeps.fw h.2.2.2 fun b hb e => hD (by rw [← e]; exact hb)))
        ⟨enters_of Tryz.func44 (by kernel_rfl) rfl, fun i hi w' v ⟨h1, h2, h3, h4⟩ hr => by
          have htk := sizes_take hi
          have hgs := sizes_get hi
          have htk2 := sizes_take_le l (i + 1)
          have hsz := HSZ.out
          have := few1_any IH.out l[i] (L - 1 - sizes (l.take i)) bl (w.heap.size + 1) w' v (by omega) (by omega) hD hr h2 h3
          refine Calls.mono (by simpa using this) ?_
          rintro e w2 (⟨rfl, hs, hf, hx⟩ | ⟨rfl, hs, hb, hf⟩)
          · exact .inl ⟨rfl, hx, h4.trans hf, by omega⟩
          · refine .inr ⟨rfl, by omega, ?_, Bk.fw h3 hf (by show ¬ (w.heap.size + 1 = bl); omega), h4.trans hf⟩
            rw [show L - 1 - sizes (l.take (i + 1)) = L - 1 - sizes (l.take i) - l[i].size from by omega]
            exact hb⟩ W1 ⟨by simp [sizes], by simpa [sizes] using HL1.out, HY1.out, HF1.out⟩
      have KEY := Lib.hid key
      clear key
      have hneg : ¬ (L : Int) - 1 < 0 := by omega
      go_wp2_with fail
      rw [← hW1]
      refine KEY.out.mono ?_
      rintro e w2 (⟨rfl, hx, hf, hlt2⟩ | ⟨rfl, hs, hb, _, hf⟩)
      · have HF := Lib.hid hf
        have HX := Lib.hid hx
        clear hf hx hW1
        go_wp2
        go_ret
        exact .inr ⟨rfl, hlt2, HX.out, HF.out⟩
      · have HF := Lib.hid hf
        have HX := Lib.hid hb
        have HSL := Lib.hid hs
        clear hf hb hs hW1
        go_wp2
        go_ret
        have e1 : l.take len = l := by rw [HLEN.out, List.take_length]
        have h1 := HSL.out
        have h2 := HX.out
        rw [e1] at h1 h2
        refine .inl ⟨rfl, by have := HSZ.out; omega, ?_, HF.out⟩
        rw [show L - t.size = L - 1 - sizes l from by have := HSZ.out; omega]
        exact h2
    · have hL0 : L = 0 := by omega
      have hneg : (L : Int) - 1 < 0 := by omega
      have hts := t.size_pos
      go_wp2
      go_ret
      exact .inr ⟨rfl, by omega, ⟨_, HBL.out.set 0 _⟩, HF0.out.setCell (p := ⟨bl, 0, none⟩) (.inl rfl) _⟩
end Go.Proofs.YtdbiedpdibjdlaaGreat

/-
  value.HasType.
-/
namespace Go.Proofs.YtdbiedpdibjdlaaGreat
open Go.RowKit AC
set_option linter.unusedVariables false
set_option linter.unusedSimpArgs false
noncomputable def hasTypeB (dat : List DaD) (v t : Tr) : Bool := knownB dat t && (decide (v.size ≤ 5000) && hasT dat v t)
set_option maxHeartbeats 4000000 in
set_option maxRecDepth 100000 in
theorem hasType_any {D D' DD : Nat → Prop} {dat : List DaD} {A : Option Addr} {dl dc : Nat} (v t : Tr) (w : World) (cv ct : List Value) (hv : TrR w D v cv) (htr : TrR w D' t ct) (hd : DaS w DD dat A dl dc) :
    Calls Tryz.prog 7 #[.slice A dl dc, .agg cv.toArray, .agg ct.toArray] w (RetV (.bool (hasTypeB dat v t)) w) := by
  obtain ⟨VA, vl, vc, rfl, _, _, _⟩ := hv.form
  obtain ⟨TA, tl, tc, rfl, _, _, _⟩ := htr.form
  unfold hasTypeB
  obtain ⟨C, hC⟩ : ∃ C, C = (((w.alloc (.cells #[.int .i64 v.k, .int .i64 v.m, .slice VA vl vc] 28)).alloc (.cells #[.int .i64 t.k, .int .i64 t.m, .slice TA tl tc] 25)).alloc (.cells #[.int .i64 5000] 3)) := ⟨_, rfl⟩
  have HB0 : Hid (Below w.heap.size w C) := by rw [hC]; exact (((Below.refl _ _).alloc (Nat.le_refl _) _).alloc (by simp) _).alloc (by simp; omega) _
  have HX0 : Hid (Bk C w.heap.size 28 #[.int .i64 v.k, .int .i64 v.m, .slice VA vl vc]) := by
    rw [hC]
    exact (((Bk.new _ _ _).alloc _).alloc _)
  have HX1 : Hid (Bk C (w.heap.size + 1) 25 #[.int .i64 t.k, .int .i64 t.m, .slice TA tl tc]) := by
    rw [hC]
    exact ((bk_two _ _ _ _).alloc _)
  have HX2 : Hid (Bk C (w.heap.size + 2) 3 #[.int .i64 5000]) := by
    rw [hC]
    exact bk_three _ _ _ _ _
  have K0 := Lib.hid (show Calls Tryz.prog 20 #[.slice A dl dc, .agg #[.int .i64 t.k, .int .i64 t.m, .slice TA tl tc]] C _ from known_any t C _ (htr.below HB0.out) (hd.below HB0.out))
  have K1 : Hid (∀ x, Below w.heap.size w x → Bk x (w.heap.size + 2) 3 #[.int .i64 5000] → Calls Tryz.prog 21 #[.agg #[.int .i64 v.k, .int .i64 v.m, .slice VA vl vc], .pointer (some ⟨w.heap.size + 2, 0, none⟩)] x (FewPost v.size 5000 (w.heap.size + 2) x)) :=
    fun x hx hb => few_any (fun b => b < w.heap.size) v.size v 5000 (w.heap.size + 2) x _ (Nat.le_refl _) (Nat.le_refl _) (fun h => by have h' : w.heap.size + 2 < w.heap.size := h; omega) ((hv.sub fun b hb _ => hb).below hx) hb
  have K2 : Hid (knownB dat t = true → ∀ x, Below w.heap.size w x → Calls Tryz.prog 22 #[.slice A dl dc, .agg #[.int .i64 v.k, .int .i64 v.m, .slice VA vl vc], .agg #[.int .i64 t.k, .int .i64 t.m, .slice TA tl tc]] x (RetV (.bool (hasT dat v t)) x)) :=
    fun h x hx => by
      unfold knownB at h
      rw [Bool.and_eq_true] at h
      exact has_any (dataOk_ok h.1).2 v.size D D' DD A dl dc v t x _ _ (Nat.le_refl _) (TOk.valid h.2) (hv.below hx) (htr.below hx) (hd.below hx)
  clear hv htr hd
  show Calls Tryz.prog 7 #[.slice A dl dc, .agg #[.int .i64 v.k, .int .i64 v.m, .slice VA vl vc], .agg #[.int .i64 t.k, .int .i64 t.m, .slice TA tl tc]] w _
  generalize knownB dat t = q at *
  generalize hasT dat v t = r at *
  generalize v.k = y0 at *
  generalize v.m = y1 at *
  generalize t.k = x0 at *
  generalize t.m = x1 at *
  obtain ⟨sz, hsz⟩ : ∃ sz, v.size = sz := ⟨_, rfl⟩
  rw [hsz] at K1 ⊢
  clear hsz
  go_enter Tryz.func7, Tryz.ntmps7
  go_upto_region 2 with (fail)
  rw [← hC]
  clear hC
  obtain ⟨hx0, _, _⟩ := HX0.out.facts
  obtain ⟨hx1, _, _⟩ := HX1.out.facts
  go_wp2_with fail
  refine K0.out.mono ?_
  rintro e w1 ⟨rfl, hb⟩
  have HB1 := Lib.hid (HB0.out.trans (hb.mono HB0.out.size))
  have HY0 := Lib.hid (HX0.out.below hb HX0.out.lt)
  have HY1 := Lib.hid (HX1.out.below hb HX1.out.lt)
  have HY2 := Lib.hid (HX2.out.below hb HX2.out.lt)
  clear hb hx0 hx1
  cases q with
  | false =>
    go_wp2
    go_ret
    exact ⟨rfl, HB1.out⟩
  | true =>
    obtain ⟨hx0, _, _⟩ := HY0.out.facts
    obtain ⟨hx1, _, _⟩ := HY1.out.facts
    have hlt1 := HY0.out.lt
    have hlt2 := HY1.out.lt
    go_wp2_with fail
    refine (K1.out _ HB1.out HY2.out).mono ?_
    rintro e w2 (⟨rfl, hs, _, hf⟩ | ⟨rfl, hs, _, hf⟩)
    · have HS := Lib.hid (show decide (sz ≤ 5000) = true from decide_eq_true hs)
      have HB2 := Lib.hid (HB1.out.trans (hf.toBelow (n := w.heap.size) (fun x hx => by have h : x = w.heap.size + 2 := hx; omega) HB1.out.size))
      have HZ0 := Lib.hid (Bk.fw HY0.out hf (by show ¬ w.heap.size = w.heap.size + 2; omega))
      have HZ1 := Lib.hid (Bk.fw HY1.out hf (by show ¬ w.heap.size + 1 = w.heap.size + 2; omega))
      clear hf hx0 hx1 hlt1 hlt2 hs
      obtain ⟨hx0, _, _⟩ := HZ0.out.facts
      obtain ⟨hx1, _, _⟩ := HZ1.out.facts
      have KK := Lib.hid (K2.out (by first | rfl | trivial) _ HB2.out)
      go_wp2_with fail
      refine KK.out.mono ?_
      rintro e w3 ⟨rfl, hb⟩
      have HB3 := Lib.hid (HB2.out.trans (hb.mono HB2.out.size))
      clear hb hx0 hx1
      go_wp2
      go_ret
      exact ⟨by rw [HS.out]; rfl, HB3.out⟩
    · have HS := Lib.hid (show decide (sz ≤ 5000) = false from decide_eq_false (by omega))
      have HB2 := Lib.hid (HB1.out.trans (hf.toBelow (n := w.heap.size) (fun x hx => by have h : x = w.heap.size + 2 := hx; omega) HB1.out.size))
      clear hf hx0 hx1 hlt1 hlt2 hs
      go_wp2
      go_ret
      exact ⟨by rw [HS.out]; rfl, HB2.out⟩
end Go.Proofs.YtdbiedpdibjdlaaGreat

