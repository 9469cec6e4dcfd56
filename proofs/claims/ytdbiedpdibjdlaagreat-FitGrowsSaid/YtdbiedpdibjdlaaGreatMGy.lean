/-
  substSize.
-/
import Derived.Test.YtdbiedpdibjdlaaGreatMGc
namespace Go.Proofs.YtdbiedpdibjdlaaGreat
open Go.RowKit AC
set_option linter.unusedVariables false
set_option linter.unusedSimpArgs false

/-- A row of sizes in memory. -/
def NsR (w : World) (D : Nat → Prop) (ss : List Nat) (A : Option Addr) (len : Nat) : Prop :=
  len = ss.length ∧ (0 < len → ∃ b off, A = some ⟨b, off, none⟩ ∧ D b ∧ b < w.heap.size ∧ ∀ i, i < len → w.cell? ⟨b, off + i, none⟩ = some (.int .i64 (ss.getD i 0 : Nat)))
theorem NsR.keep {w w' : World} {D : Nat → Prop} (hk : Keeps D w w') {ss : List Nat} {A : Option Addr} {len : Nat} (h : NsR w D ss A len) : NsR w' D ss A len := by
  obtain ⟨h1, h2⟩ := h
  refine ⟨h1, fun hp => ?_⟩
  obtain ⟨b, off, hA, hD, hb, hL⟩ := h2 hp
  exact ⟨b, off, hA, hD, Nat.lt_of_lt_of_le hb hk.1, fun i hi => (World.cell?_of_block (w := w) (hk.2 b hb hD)).trans (hL i hi)⟩
theorem NsR.below {w w' : World} {D : Nat → Prop} {ss : List Nat} {A : Option Addr} {len : Nat} (h : NsR w D ss A len) (hb : Below w.heap.size w w') : NsR w' D ss A len := h.keep (Keeps.of hb)
mutual
theorem subSize_le {ss : List Nat} {B : Nat} (hB : ∀ i, ss.getD i 0 ≤ B) : ∀ t : Tr, subSize ss t ≤ 200 * t.size + B
  | .n k m l => by
    rw [subSize, Tr.size]
    split
    · have := hB m.toNat; omega
    · have := subSizes_le hB l 1 (by omega)
      omega
theorem subSizes_le {ss : List Nat} {B : Nat} (hB : ∀ i, ss.getD i 0 ≤ B) : ∀ (l : List Tr) (n : Nat), n ≤ 200 → subSizes ss n l ≤ 200 + 200 * sizes l + B
  | [], n, hn => by rw [subSizes]; omega
  | t :: l, n, hn => by
    have h1 := subSize_le hB t
    rw [subSizes, sizes]
    split
    · omega
    · have := subSizes_le hB l (n + subSize ss t) (by omega)
      omega
end
set_option maxHeartbeats 4000000 in
set_option maxRecDepth 100000 in
theorem substSize_any {D D' : Nat → Prop} {ss : List Nat} {Z : Option Addr} {zl zc : Nat} (hzc : zl ≤ zc) (hz : zc ≤ maxLen) (hB : ∀ i, ss.getD i 0 ≤ 1000000000) : ∀ (n : Nat) (t : Tr) (w : World) (v : List Value), t.size ≤ n → t.size ≤ 1000000000 → TrR w D t v → NsR w D' ss Z zl →
    Calls Tryz.prog 39 #[.agg v.toArray, .slice Z zl zc] w (fun e w' => e = .returned (.int .i64 (subSize ss t : Int)) ∧ Below w.heap.size w w')
  | 0, t, w, v, h, _, _, _ => absurd t.size_pos (by omega)
  | n + 1, t, w, v, hn, hmax, hr, hz0 => by
    have HIH := Lib.hid (substSize_any (D := D) (D' := D') (ss := ss) (Z := Z) hzc hz hB n)
    obtain ⟨A, len, cap, rfl, hs, hk1, hm1⟩ := hr.form
    have hsz := Tr.size_eq t
    have hq : subSize ss t = if (t.k == 4 && decide (0 ≤ t.m) && decide (t.m < ss.length)) then ss.getD t.m.toNat 0 else subSizes ss 1 t.kids := by
      cases t; rw [subSize]; rfl
    obtain ⟨q, hqq⟩ : ∃ q, subSize ss t = q := ⟨_, rfl⟩
    rw [hqq] at hq ⊢
    clear hqq
    generalize t.kids = l at hs hsz hq
    have HS := Lib.hid hs
    have hlen : len = l.length := hs.1
    have hl2 := sizes_len l
    have hcap : cap ≤ maxLen := hs.2.2.1
    have hlc := hs.2.1
    have hl3 : len ≤ sizes l := by omega
    have HLEN := Lib.hid hlen
    have HSZ := Lib.hid hsz
    have hsl : sizes l ≤ 1000000000 := by omega
    unfold maxLen at hcap hz
    have HZ := Lib.hid hz0
    have hzl : zl = ss.length := hz0.1
    rw [← hzl] at hq
    have HZL := Lib.hid hzl
    have HBB := Lib.hid hB
    clear hs hr hlen hsz hz0 hzl hB
    unfold rng at hk1 hm1
    generalize t.k = x0 at *
    generalize t.m = x1 at *
    obtain ⟨C, hC⟩ : ∃ C, C = w.alloc (.cells #[.int .i64 x0, .int .i64 x1, .slice A len cap] 25) := ⟨_, rfl⟩
    have HB0 : Hid (Below w.heap.size w C) := by rw [hC]; exact (Below.refl _ _).alloc (Nat.le_refl _) _
    have HBX : Hid (Bk C w.heap.size 25 #[.int .i64 x0, .int .i64 x1, .slice A len cap]) := by rw [hC]; exact Bk.new _ _ _
    show Calls Tryz.prog 39 #[.agg #[.int .i64 x0, .int .i64 x1, .slice A len cap], .slice Z zl zc] w _
    go_enter Tryz.func39, Tryz.ntmps39
    go_upto_region 1 with (fail)
    rw [← hC]
    clear hC
    obtain ⟨hc0, hc1, _⟩ := HBX.out.facts
    by_cases hk : x0 = 4 ∧ 0 ≤ x1 ∧ x1 < zl
    · obtain ⟨rfl, hx1, hx2⟩ := hk
      have hq2 : q = ss.getD x1.toNat 0 := by rw [hq]; simp [hx1, hx2]
      clear hq
      have HQ := Lib.hid hq2
      clear hq2
      obtain ⟨i, rfl⟩ : ∃ i : Nat, x1 = i := ⟨x1.toNat, by omega⟩
      obtain ⟨b, off, rfl, hD, hb, hcell⟩ := (HZ.out.below HB0.out).2 (by omega)
      have hci := hcell i (by omega)
      clear hcell
      obtain ⟨y, hy⟩ : ∃ y, ss.getD i 0 = y := ⟨_, rfl⟩
      rw [hy] at hci
      have HY := Lib.hid hy
      clear hy
      go_wp2
      go_ret
      have e : q = y := by
        have h := HQ.out
        rw [Int.toNat_natCast, HY.out] at h
        exact h
      exact ⟨by rw [e]; rfl, HB0.out⟩
    · have hq2 : q = subSizes ss 1 l := by
        rw [hq, if_neg]
        intro h
        simp at h
        exact hk ⟨h.1.1, h.1.2, h.2⟩
      have HQ := Lib.hid hq2
      clear hq hq2
      have h3 : x0 ≠ 4 ∨ (x0 = 4 ∧ ¬ 0 ≤ x1) ∨ (x0 = 4 ∧ 0 ≤ x1 ∧ ¬ x1 < zl) := by omega
      clear hk
      rcases h3 with h1 | ⟨h1, h2⟩ | ⟨h1, h2, h3⟩
      all_goals
        go_wp2
        go_loopw [5, 31] (fun nv iv wr => ∃ i m : Nat, i ≤ len ∧ iv = .int .i64 i ∧ nv = .int .i64 (m : Int) ∧ m ≤ 200 ∧ Hid (subSizes ss m (l.drop i) = q) ∧ Hid (Below C.heap.size C wr)) (fun _ iv _ => len - (intOf iv).toNat)
        case atStart => exact ⟨0, 1, by omega, rfl, rfl, by omega, HQ.out.symm, Below.refl _ _⟩
        case round =>
          obtain ⟨i, m, hi, rfl, rfl, hm200, HM, HB⟩ := hrel
          have HBW := Lib.hid (HB0.out.trans (HB.out.mono HB0.out.size))
          by_cases hlt : i < len
          · have hil : i < l.length := by have := HLEN.out; omega
            have hM := HM.out
            rw [List.drop_eq_getElem_cons hil, subSizes] at hM
            obtain ⟨b, off, A', len', cap', rfl, hb, e0, e1, e2, hrk⟩ := (HS.out.below HBW.out).get (i := i) hil
            have hgs := sizes_get hil
            have hsub := subSize_le HBB.out l[i]
            have key := HIH.out l[i] (wr.alloc (.cells #[.int .i64 l[i].k, .int .i64 l[i].m, .slice A' len' cap'] 25)) _ (by have := HSZ.out; omega) (by omega) (hrk.below ((Below.refl _ _).alloc (Nat.le_refl _) _)) (HZ.out.below (HBW.out.alloc HBW.out.size _))
            have KEY := Lib.hid key
            clear key hrk
            obtain ⟨r, hr⟩ : ∃ r, subSize ss l[i] = r := ⟨_, rfl⟩
            rw [hr] at KEY hM hsub
            have HM2 := Lib.hid hM
            have hr2 : r ≤ 400000000000 := by omega
            clear hr hM hsub
            generalize l[i].k = y0 at *
            generalize l[i].m = y1 at *
            go_wp2_with fail
            refine KEY.out.mono ?_
            rintro e w2 ⟨rfl, hb2⟩
            have HB2 := Lib.hid ((HB.out.alloc HB.out.size (.cells #[.int .i64 y0, .int .i64 y1, .slice A' len' cap'] 25)).trans (hb2.mono (by have := HB.out.size; simp; omega)))
            clear hb2
            by_cases hbig : 200 < m + r
            · have hbi : (200 : Int) < (m : Int) + (r : Int) := by omega
              go_wp2
              go_ret
              have e : q = m + r := by
                have := HM2.out
                rw [if_pos hbig] at this
                exact this.symm
              exact ⟨by rw [e]; go_num, HB0.out.trans (HB2.out.mono HB0.out.size)⟩
            · have hbi : ¬ (200 : Int) < (m : Int) + (r : Int) := by omega
              go_wp2
              go_roundw
              case rel => exact ⟨i + 1, m + r, by omega, by go_num, by go_num, by omega, by have := HM2.out; rw [if_neg hbig] at this; exact this, HB2⟩
              case measure => simp [intOf]; omega
          · obtain rfl : i = len := by omega
            go_wp2
            go_ret
            have e : m = q := by
              have := HM.out
              rw [List.drop_eq_nil_of_le (by have := HLEN.out; omega), subSizes] at this
              exact this
            exact ⟨by rw [e]; rfl, HBW.out⟩
end Go.Proofs.YtdbiedpdibjdlaaGreat

/-
  Nodes of a value, Size of a type.
-/
namespace Go.Proofs.YtdbiedpdibjdlaaGreat
open Go.RowKit AC
set_option linter.unusedVariables false
set_option linter.unusedSimpArgs false

set_option maxHeartbeats 4000000 in
set_option maxRecDepth 100000 in
theorem nodes_any (D : Nat → Prop) : ∀ (n : Nat) (t : Tr) (w : World) (v : List Value), t.size ≤ n → t.size ≤ 1000000000 → TrR w D t v →
    Calls Tryz.prog 18 #[.agg v.toArray] w (fun e w' => e = .returned (.int .i64 (t.size : Int)) ∧ Below w.heap.size w w')
  | 0, t, w, v, h, _, _ => absurd t.size_pos (by omega)
  | n + 1, t, w, v, hn, hmax, hr => by
    have HIH := Lib.hid (nodes_any D n)
    obtain ⟨A, len, cap, rfl, hs, _, _⟩ := hr.form
    have hsz := Tr.size_eq t
    generalize t.kids = l at hs hsz
    have HS := Lib.hid hs
    have hlen : len = l.length := hs.1
    have hl2 := sizes_len l
    have hcap : cap ≤ maxLen := hs.2.2.1
    have hlc := hs.2.1
    have hl3 : len ≤ sizes l := by omega
    have HLEN := Lib.hid hlen
    have HSZ := Lib.hid hsz
    have hsl : sizes l ≤ 1000000000 := by omega
    unfold maxLen at hcap
    clear hs hr hlen hsz
    obtain ⟨C, hC⟩ : ∃ C, C = w.alloc (.cells #[.int .i64 t.k, .int .i64 t.m, .slice A len cap] 28) := ⟨_, rfl⟩
    have HB0 : Hid (Below w.heap.size w C) := by rw [hC]; exact (Below.refl _ _).alloc (Nat.le_refl _) _
    have HBX : Hid (Bk C w.heap.size 28 #[.int .i64 t.k, .int .i64 t.m, .slice A len cap]) := by rw [hC]; exact Bk.new _ _ _
    show Calls Tryz.prog 18 #[.agg #[.int .i64 t.k, .int .i64 t.m, .slice A len cap]] w _
    go_enter Tryz.func18, Tryz.ntmps18
    go_upto_region 1 with (fail)
    rw [← hC]
    clear hC
    obtain ⟨hc0, _, _⟩ := HBX.out.facts
    go_wp2
    go_loopw [3, 9] (fun nv iv wr => ∃ i : Nat, i ≤ len ∧ iv = .int .i64 i ∧ nv = .int .i64 ((1 + sizes (l.take i) : Nat) : Int) ∧ Hid (Below C.heap.size C wr)) (fun _ iv _ => len - (intOf iv).toNat)
    case atStart => exact ⟨0, by omega, rfl, by simp [sizes], Below.refl _ _⟩
    case round =>
      obtain ⟨i, hi, rfl, rfl, HB⟩ := hrel
      have HBW := Lib.hid (HB0.out.trans (HB.out.mono HB0.out.size))
      have htk := sizes_take_le l i
      by_cases hlt : i < len
      · obtain ⟨b, off, A', len', cap', rfl, hb, e0, e1, e2, hrk⟩ := (HS.out.below HBW.out).get (i := i) (by have := HLEN.out; omega)
        have hil : i < l.length := by have := HLEN.out; omega
        have hgs := sizes_get hil
        have htk2 := sizes_take hil
        have htk3 := sizes_take_le l (i + 1)
        have key := HIH.out l[i] (wr.alloc (.cells #[.int .i64 l[i].k, .int .i64 l[i].m, .slice A' len' cap'] 28)) _ (by have := HSZ.out; omega) (by omega) (hrk.below ((Below.refl _ _).alloc (Nat.le_refl _) _))
        have KEY := Lib.hid key
        clear key hrk
        obtain ⟨q, hq⟩ : ∃ q, l[i].size = q := ⟨_, rfl⟩
        generalize l[i].k = x0 at *
        generalize l[i].m = x1 at *
        go_wp2_with fail
        refine KEY.out.mono ?_
        rintro e w2 ⟨rfl, hb2⟩
        have HB2 := Lib.hid ((HB.out.alloc HB.out.size (.cells #[.int .i64 x0, .int .i64 x1, .slice A' len' cap'] 28)).trans (hb2.mono (by have := HB.out.size; simp; omega)))
        clear hb2
        go_wp2
        go_roundw
        case rel => exact ⟨i + 1, by omega, by go_num, by rw [htk2]; go_num, HB2⟩
        case measure => simp [intOf]; omega
      · obtain rfl : i = len := by omega
        go_wp2
        go_ret
        refine ⟨?_, HBW.out⟩
        rw [HSZ.out, show l.take i = l from by rw [HLEN.out, List.take_length]]
        rfl
set_option maxHeartbeats 4000000 in
set_option maxRecDepth 100000 in
theorem size_any (D : Nat → Prop) : ∀ (n : Nat) (t : Tr) (w : World) (v : List Value), t.size ≤ n → t.size ≤ 1000000000 → TrR w D t v →
    Calls Tryz.prog 38 #[.agg v.toArray] w (fun e w' => e = .returned (.int .i64 (t.size : Int)) ∧ Below w.heap.size w w')
  | 0, t, w, v, h, _, _ => absurd t.size_pos (by omega)
  | n + 1, t, w, v, hn, hmax, hr => by
    have HIH := Lib.hid (size_any D n)
    obtain ⟨A, len, cap, rfl, hs, _, _⟩ := hr.form
    have hsz := Tr.size_eq t
    generalize t.kids = l at hs hsz
    have HS := Lib.hid hs
    have hlen : len = l.length := hs.1
    have hl2 := sizes_len l
    have hcap : cap ≤ maxLen := hs.2.2.1
    have hlc := hs.2.1
    have hl3 : len ≤ sizes l := by omega
    have HLEN := Lib.hid hlen
    have HSZ := Lib.hid hsz
    have hsl : sizes l ≤ 1000000000 := by omega
    unfold maxLen at hcap
    clear hs hr hlen hsz
    obtain ⟨C, hC⟩ : ∃ C, C = w.alloc (.cells #[.int .i64 t.k, .int .i64 t.m, .slice A len cap] 25) := ⟨_, rfl⟩
    have HB0 : Hid (Below w.heap.size w C) := by rw [hC]; exact (Below.refl _ _).alloc (Nat.le_refl _) _
    have HBX : Hid (Bk C w.heap.size 25 #[.int .i64 t.k, .int .i64 t.m, .slice A len cap]) := by rw [hC]; exact Bk.new _ _ _
    show Calls Tryz.prog 38 #[.agg #[.int .i64 t.k, .int .i64 t.m, .slice A len cap]] w _
    go_enter Tryz.func38, Tryz.ntmps38
    go_upto_region 1 with (fail)
    rw [← hC]
    clear hC
    obtain ⟨hc0, _, _⟩ := HBX.out.facts
    go_wp2
    go_loopw [3, 9] (fun nv iv wr => ∃ i : Nat, i ≤ len ∧ iv = .int .i64 i ∧ nv = .int .i64 ((1 + sizes (l.take i) : Nat) : Int) ∧ Hid (Below C.heap.size C wr)) (fun _ iv _ => len - (intOf iv).toNat)
    case atStart => exact ⟨0, by omega, rfl, by simp [sizes], Below.refl _ _⟩
    case round =>
      obtain ⟨i, hi, rfl, rfl, HB⟩ := hrel
      have HBW := Lib.hid (HB0.out.trans (HB.out.mono HB0.out.size))
      have htk := sizes_take_le l i
      by_cases hlt : i < len
      · obtain ⟨b, off, A', len', cap', rfl, hb, e0, e1, e2, hrk⟩ := (HS.out.below HBW.out).get (i := i) (by have := HLEN.out; omega)
        have hil : i < l.length := by have := HLEN.out; omega
        have hgs := sizes_get hil
        have htk2 := sizes_take hil
        have htk3 := sizes_take_le l (i + 1)
        have key := HIH.out l[i] (wr.alloc (.cells #[.int .i64 l[i].k, .int .i64 l[i].m, .slice A' len' cap'] 25)) _ (by have := HSZ.out; omega) (by omega) (hrk.below ((Below.refl _ _).alloc (Nat.le_refl _) _))
        have KEY := Lib.hid key
        clear key hrk
        obtain ⟨q, hq⟩ : ∃ q, l[i].size = q := ⟨_, rfl⟩
        generalize l[i].k = x0 at *
        generalize l[i].m = x1 at *
        go_wp2_with fail
        refine KEY.out.mono ?_
        rintro e w2 ⟨rfl, hb2⟩
        have HB2 := Lib.hid ((HB.out.alloc HB.out.size (.cells #[.int .i64 x0, .int .i64 x1, .slice A' len' cap'] 25)).trans (hb2.mono (by have := HB.out.size; simp; omega)))
        clear hb2
        go_wp2
        go_roundw
        case rel => exact ⟨i + 1, by omega, by go_num, by rw [htk2]; go_num, HB2⟩
        case measure => simp [intOf]; omega
      · obtain rfl : i = len := by omega
        go_wp2
        go_ret
        refine ⟨?_, HBW.out⟩
        rw [HSZ.out, show l.take i = l from by rw [HLEN.out, List.take_length]]
        rfl
end Go.Proofs.YtdbiedpdibjdlaaGreat

/-
  Data types in memory.
-/
namespace Go.Proofs.YtdbiedpdibjdlaaGreat
open Go.RowKit AC
set_option linter.unusedVariables false
set_option linter.unusedSimpArgs false

/-- A constructor's cells: its name, the slice of its arguments' types. -/
def CoR (w : World) (D : Nat → Prop) (c : CoD) (v : List Value) : Prop := ∃ (s : ByteArray) (A : Option Addr) (len cap : Nat), v = [.string s, .slice A len cap] ∧ s.data.toList = c.name ∧ TrS w D c.args A len cap
/-- A slice of constructors. -/
def CoS (w : World) (D : Nat → Prop) (l : List CoD) (A : Option Addr) (len cap : Nat) : Prop :=
  len = l.length ∧ len ≤ cap ∧ cap ≤ maxLen ∧ (0 < len → ∃ b off, A = some ⟨b, off, none⟩ ∧ D b ∧ b < w.heap.size ∧ ∀ (i : Nat) (h : i < l.length), ∃ v, CellsA w b (off + i * 2) v ∧ CoR w D l[i] v)
/-- A data type's cells: name, number of parameters, the slice of its constructors. -/
def DaR (w : World) (D : Nat → Prop) (d : DaD) (v : List Value) : Prop := ∃ (s : ByteArray) (A : Option Addr) (len cap : Nat), v = [.string s, .int .i64 d.vars, .slice A len cap] ∧ s.data.toList = d.name ∧ rng d.vars ∧ CoS w D d.cons A len cap
/-- A slice of data types. -/
def DaS (w : World) (D : Nat → Prop) (l : List DaD) (A : Option Addr) (len cap : Nat) : Prop :=
  len = l.length ∧ len ≤ cap ∧ cap ≤ maxLen ∧ (0 < len → ∃ b off, A = some ⟨b, off, none⟩ ∧ D b ∧ b < w.heap.size ∧ ∀ (i : Nat) (h : i < l.length), ∃ v, CellsA w b (off + i * 3) v ∧ DaR w D l[i] v)
section
variable {w w' : World} {D D' : Nat → Prop} {A : Option Addr} {len cap : Nat}
theorem CellsA.keep (hk : Keeps D w w') {b off : Nat} {u : List Value} (hb : b < w.heap.size) (hD : D b) (h : CellsA w b off u) : CellsA w' b off u := fun j x hx => (World.cell?_of_block (w := w) (hk.2 b hb hD)).trans (h j x hx)
theorem CoR.keep (hk : Keeps D w w') {c : CoD} {v : List Value} (h : CoR w D c v) : CoR w' D c v := by
  obtain ⟨s, A, len, cap, h1, h2, h3⟩ := h
  exact ⟨s, A, len, cap, h1, h2, h3.keep hk⟩
theorem CoS.keep (hk : Keeps D w w') {l : List CoD} (h : CoS w D l A len cap) : CoS w' D l A len cap := by
  obtain ⟨h1, h2, h3, h4⟩ := h
  refine ⟨h1, h2, h3, fun hp => ?_⟩
  obtain ⟨b, off, hA, hD, hb, hL⟩ := h4 hp
  refine ⟨b, off, hA, hD, Nat.lt_of_lt_of_le hb hk.1, fun i hi => ?_⟩
  obtain ⟨v, h5, h6⟩ := hL i hi
  exact ⟨v, h5.keep hk hb hD, h6.keep hk⟩
theorem DaR.keep (hk : Keeps D w w') {d : DaD} {v : List Value} (h : DaR w D d v) : DaR w' D d v := by
  obtain ⟨s, A, len, cap, h1, h2, h3, h4⟩ := h
  exact ⟨s, A, len, cap, h1, h2, h3, h4.keep hk⟩
theorem DaS.keep (hk : Keeps D w w') {l : List DaD} (h : DaS w D l A len cap) : DaS w' D l A len cap := by
  obtain ⟨h1, h2, h3, h4⟩ := h
  refine ⟨h1, h2, h3, fun hp => ?_⟩
  obtain ⟨b, off, hA, hD, hb, hL⟩ := h4 hp
  refine ⟨b, off, hA, hD, Nat.lt_of_lt_of_le hb hk.1, fun i hi => ?_⟩
  obtain ⟨v, h5, h6⟩ := hL i hi
  exact ⟨v, h5.keep hk hb hD, h6.keep hk⟩
theorem CoS.below {l : List CoD} (h : CoS w D l A len cap) (hb : Below w.heap.size w w') : CoS w' D l A len cap := h.keep (Keeps.of hb)
theorem DaS.below {l : List DaD} (h : DaS w D l A len cap) (hb : Below w.heap.size w w') : DaS w' D l A len cap := h.keep (Keeps.of hb)
/-- Data type i of a slice: its three cells. -/
theorem DaS.get {l : List DaD} {i : Nat} (h : DaS w D l A len cap) (hi : i < l.length) : ∃ b off s A' len' cap', A = some ⟨b, off, none⟩ ∧ b < w.heap.size ∧ w.cell? ⟨b, off + i * 3, none⟩ = some (.string s) ∧ w.cell? ⟨b, off + i * 3 + 1, none⟩ = some (.int .i64 l[i].vars) ∧ w.cell? ⟨b, off + i * 3 + 2, none⟩ = some (.slice A' len' cap') ∧
    s.data.toList = l[i].name ∧ rng l[i].vars ∧ CoS w D l[i].cons A' len' cap' := by
  obtain ⟨hlen, _, _, h4⟩ := h
  obtain ⟨b, off, rfl, hD, hb, hL⟩ := h4 (by omega)
  obtain ⟨v, hc, s, A', len', cap', rfl, h1, h2, h3⟩ := hL i hi
  exact ⟨b, off, s, A', len', cap', rfl, hb, hc 0 _ rfl, hc 1 _ rfl, hc 2 _ rfl, h1, h2, h3⟩
/-- Constructor i of a slice: its two cells. -/
theorem CoS.get {l : List CoD} {i : Nat} (h : CoS w D l A len cap) (hi : i < l.length) : ∃ b off s A' len' cap', A = some ⟨b, off, none⟩ ∧ b < w.heap.size ∧ w.cell? ⟨b, off + i * 2, none⟩ = some (.string s) ∧ w.cell? ⟨b, off + i * 2 + 1, none⟩ = some (.slice A' len' cap') ∧
    s.data.toList = l[i].name ∧ TrS w D l[i].args A' len' cap' := by
  obtain ⟨hlen, _, _, h4⟩ := h
  obtain ⟨b, off, rfl, hD, hb, hL⟩ := h4 (by omega)
  obtain ⟨v, hc, s, A', len', cap', rfl, h1, h2⟩ := hL i hi
  exact ⟨b, off, s, A', len', cap', rfl, hb, hc 0 _ rfl, hc 1 _ rfl, h1, h2⟩
/-- The first data types of a slice. -/
theorem DaS.take {l : List DaD} (h : DaS w D l A len cap) {n : Nat} (hn : n ≤ l.length) : DaS w D (l.take n) A n cap := by
  obtain ⟨h1, h2, h3, h4⟩ := h
  refine ⟨by rw [List.length_take]; omega, by omega, h3, fun hp => ?_⟩
  obtain ⟨b, off, hA, hD, hb, hL⟩ := h4 (by omega)
  refine ⟨b, off, hA, hD, hb, fun i hi => ?_⟩
  have hi2 : i < l.length := by rw [List.length_take] at hi; omega
  obtain ⟨v, h5, h6⟩ := hL i hi2
  exact ⟨v, h5, by rw [List.getElem_take]; exact h6⟩
end
end Go.Proofs.YtdbiedpdibjdlaaGreat

