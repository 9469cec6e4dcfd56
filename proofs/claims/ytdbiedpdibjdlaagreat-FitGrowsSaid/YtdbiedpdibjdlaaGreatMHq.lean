/-
  FOR ALL DATA TYPES, TYPES, CONSTRUCTORS, PAYLOADS, ENDS AND NUMBERS OF STEPS the law FitGrows returns true and leaves its arguments as they were.
  Conditions: none.
-/
import Derived.Test.YtdbiedpdibjdlaaGreatMGy
import Derived.Test.YtdbiedpdibjdlaaGreatMGc
import Derived.Test.YtdbiedpdibjdlaaGreatRows
import Derived.Deep.Slices
import Derived.Deep.Strs
import Derived.ProofKit
import Derived.OpenShut
import Derived.Test.YtdbiedpdibjdlaaGreatMHs
import Derived.WalkKit
import Derived.ShutString
import Derived.ChangeOld
import Derived.Below
/-
  Arguments that are trees and data types, read out of memory.
-/
namespace Go.Proofs.YtdbiedpdibjdlaaGreat
open Go.RowKit AC Go.ChangeShapes Go.WideShapes Go.Deep
set_option linter.unusedVariables false
set_option linter.unusedSimpArgs false
theorem cell_ltH {w : World} {a : Addr} {v : Value} (h : w.cell? a = some v) : a.block < w.heap.size := by
  rcases Nat.lt_or_ge a.block w.heap.size with h1 | h1
  · exact h1
  · unfold World.cell? at h
    rw [Array.getElem?_eq_none h1] at h
    simp at h
/-- Elements that are there, each for itself, as one list. -/
theorem list_of {α : Type} {n : Nat} {P : Nat → α → Prop} (h : ∀ i, i < n → ∃ t, P i t) : ∃ l : List α, l.length = n ∧ ∀ (i : Nat) (hi : i < l.length), P i l[i] := by
  induction n with
  | zero => exact ⟨[], rfl, fun i hi => absurd hi (by simp)⟩
  | succ n ih =>
    obtain ⟨l, hl, hp⟩ := ih fun i hi => h i (by omega)
    obtain ⟨t, ht⟩ := h n (by omega)
    refine ⟨l ++ [t], by simp [hl], fun i hi => ?_⟩
    rw [List.length_append, List.length_singleton] at hi
    rcases Nat.lt_or_ge i l.length with h1 | h1
    · rw [List.getElem_append_left h1]; exact hp i h1
    · obtain rfl : i = l.length := by omega
      rw [List.getElem_append_right (Nat.le_refl _)]
      simp only [Nat.sub_self, List.getElem_cons_zero]
      rw [hl]
      exact ht
section
variable {H : Type} {enc : TypeId × Value → H} {W : World} {base : Nat} {spare : Nat → Bool} {held : Bool}
theorem slice_key {t e : TypeId} {F sz : Nat} {cs : List Value} {x : DataW H × List MemPlace} (hu : Tryz.prog.underlying t = some (.slice e)) (hce : Tryz.prog.cellsOf e = sz) (hpos : 0 < sz) (hx : DataW.trod enc Tryz.prog W base spare held F t cs = some x) :
    ∃ A len cap n, n < F ∧ cs = [.slice A len cap] ∧ len ≤ cap ∧ cap ≤ maxLen ∧ (0 < len → ∃ b off, A = some ⟨b, off, none⟩ ∧ b < W.heap.size ∧ ∀ i, i < len → ∃ u y, u.length = sz ∧ CellsA W b (off + i * sz) u ∧ DataW.trod enc Tryz.prog W base spare held n e u = some y) := by
  have hF : 0 < F := by
    rcases Nat.eq_zero_or_pos F with h | h
    · subst h; simp [DataW.trod] at hx
    · exact h
  rcases DataW.trod_slice hu hx with ⟨rfl, _⟩ | ⟨a, len, cap, elems, rest, n, rfl, rfl, _, hb, hl, hm, hlen, hel, _, _⟩
  · exact ⟨none, 0, 0, 0, hF, rfl, Nat.le_refl _, Nat.zero_le _, fun h => absurd h (by omega)⟩
  · refine ⟨some a, len, cap, n, by omega, rfl, hl, hm, fun h0 => ?_⟩
    rw [hce] at hel
    have key : ∀ i, i < len → ∃ u y, u.length = sz ∧ (∀ j, j < sz → W.cell? ((a.add (i * sz)).add j) = u[j]?) ∧ DataW.trod enc Tryz.prog W base spare held n e u = some y := by
      intro i hi
      have h1 := hel i hi
      rw [List.getElem?_eq_getElem (by omega)] at h1
      obtain ⟨u, hu1, hu2⟩ := Option.bind_eq_some_iff.1 h1
      obtain ⟨q1, q2, q3⟩ := World.cells?_some hu1
      exact ⟨u, _, q2, q3, hu2⟩
    obtain ⟨u0, y0, hl0, hc0, _⟩ := key 0 h0
    have h1 := hc0 0 hpos
    rw [List.getElem?_eq_getElem (by omega)] at h1
    have hs : a.spot = none := by simpa [Addr.add] using World.cell?_spot h1
    obtain ⟨b, o, spot⟩ := a
    simp only at hs
    subst hs
    refine ⟨b, o, rfl, by have := cell_ltH h1; simpa [Addr.add] using this, fun i hi => ?_⟩
    obtain ⟨u, y, hl2, hc2, hr2⟩ := key i hi
    refine ⟨u, y, hl2, fun j z hz => ?_, hr2⟩
    have hj : j < sz := by rw [← hl2]; exact (List.getElem?_eq_some_iff.1 hz).1
    have := hc2 j hj
    rw [hz] at this
    rw [Addr.add_lit, Addr.add_lit] at this
    exact this
theorem trs_of {w : World} {D : Nat → Prop} {A : Option Addr} {len cap : Nat} (hl : len ≤ cap) (hm : cap ≤ maxLen) (h : 0 < len → ∃ b off, A = some ⟨b, off, none⟩ ∧ D b ∧ b < w.heap.size ∧ ∀ i, i < len → ∃ u t, CellsA w b (off + i * 3) u ∧ TrR w D t u) : ∃ l, TrS w D l A len cap := by
  rcases Nat.eq_zero_or_pos len with h0 | h0
  · subst h0
    exact ⟨[], rfl, hl, hm, fun h => absurd h (by omega)⟩
  · obtain ⟨b, off, hA, hD, hb, hel⟩ := h h0
    obtain ⟨l, hll, hp⟩ := list_of (n := len) (P := fun i t => ∃ u, CellsA w b (off + i * 3) u ∧ TrR w D t u) fun i hi => by
      obtain ⟨u, t, h1, h2⟩ := hel i hi
      exact ⟨t, u, h1, h2⟩
    exact ⟨l, hll.symm, hl, hm, fun _ => ⟨b, off, hA, hD, hb, TrL.of fun i hi => hp i hi⟩⟩
theorem i64_rng {k : IntKind} {n : Int} (h : (Lit.int k n).wf = true) (hk : k = .i64) : rng n := by
  subst hk
  unfold rng
  have := bounds_i64 h
  omega
set_option maxRecDepth 100000 in
theorem open_typ : ∀ (N F : Nat), F ≤ N → ∀ (cs : List Value) (x : DataW H × List MemPlace), DataW.trod enc Tryz.prog W base spare held F 25 cs = some x → ∃ t, TrR W (fun _ => True) t cs
  | 0, F, hF, cs, x, hx => by
    obtain rfl : F = 0 := by omega
    simp [DataW.trod] at hx
  | N + 1, F, hF, cs, x, hx => by
    obtain ⟨xs, n, rfl, _, hl, hlen, hf⟩ := DataW.trod_struct Tryz.underlying25 hx
    rw [show Tryz.prog.cellsOf 25 = 3 by kernel_rfl] at hl
    match xs, hlen, cs, hl with
    | [y0, y1, y2], _, [c0, c1, c2], _ =>
      have e0 := hf 0 _ rfl
      have e1 := hf 1 _ rfl
      have e2 := hf 2 _ rfl
      simp only [show Tryz.prog.cellsOf 3 = 1 by kernel_rfl, show Tryz.prog.cellsOf 23 = 1 by kernel_rfl, List.drop_zero, List.take_succ_cons, List.take_zero, List.drop_succ_cons, List.getElem?_cons_zero, List.getElem?_cons_succ] at e0 e1 e2
      obtain ⟨k, e3, _, hk⟩ := DataW.trod_int Tryz.underlying3 e0
      obtain ⟨m, e4, _, hm⟩ := DataW.trod_int Tryz.underlying3 e1
      obtain ⟨A, len, cap, n', hn', e5, h1, h2, h3⟩ := slice_key Tryz.underlying23 (sz := 3) (by kernel_rfl) (by decide) e2
      injection e3 with e3 _
      injection e4 with e4 _
      injection e5 with e5 _
      subst e3
      subst e4
      subst e5
      obtain ⟨l, hS⟩ := trs_of (D := fun _ => True) h1 h2 fun h0 => by
        obtain ⟨b, off, hA, hb, hel⟩ := h3 h0
        refine ⟨b, off, hA, trivial, hb, fun i hi => ?_⟩
        obtain ⟨u, y, _, hc, hy⟩ := hel i hi
        obtain ⟨t, ht⟩ := open_typ N n' (by omega) u y hy
        exact ⟨u, t, hc, ht⟩
      refine ⟨.n k m l, ?_⟩
      rw [TrR]
      exact ⟨i64_rng hk rfl, i64_rng hm rfl, A, len, cap, rfl, hS⟩
set_option maxRecDepth 100000 in
theorem open_val : ∀ (N F : Nat), F ≤ N → ∀ (cs : List Value) (x : DataW H × List MemPlace), DataW.trod enc Tryz.prog W base spare held F 28 cs = some x → ∃ t, TrR W (fun _ => True) t cs
  | 0, F, hF, cs, x, hx => by
    obtain rfl : F = 0 := by omega
    simp [DataW.trod] at hx
  | N + 1, F, hF, cs, x, hx => by
    obtain ⟨xs, n, rfl, _, hl, hlen, hf⟩ := DataW.trod_struct Tryz.underlying28 hx
    rw [show Tryz.prog.cellsOf 28 = 3 by kernel_rfl] at hl
    match xs, hlen, cs, hl with
    | [y0, y1, y2], _, [c0, c1, c2], _ =>
      have e0 := hf 0 _ rfl
      have e1 := hf 1 _ rfl
      have e2 := hf 2 _ rfl
      simp only [show Tryz.prog.cellsOf 3 = 1 by kernel_rfl, show Tryz.prog.cellsOf 2 = 1 by kernel_rfl, show Tryz.prog.cellsOf 26 = 1 by kernel_rfl, List.drop_zero, List.take_succ_cons, List.take_zero, List.drop_succ_cons, List.getElem?_cons_zero, List.getElem?_cons_succ] at e0 e1 e2
      obtain ⟨k, e3, _, hk⟩ := DataW.trod_int Tryz.underlying3 e0
      obtain ⟨m, e4, _, hm⟩ := DataW.trod_int Tryz.underlying2 e1
      obtain ⟨A, len, cap, n', hn', e5, h1, h2, h3⟩ := slice_key Tryz.underlying26 (sz := 3) (by kernel_rfl) (by decide) e2
      injection e3 with e3 _
      injection e4 with e4 _
      injection e5 with e5 _
      subst e3
      subst e4
      subst e5
      obtain ⟨l, hS⟩ := trs_of (D := fun _ => True) h1 h2 fun h0 => by
        obtain ⟨b, off, hA, hb, hel⟩ := h3 h0
        refine ⟨b, off, hA, trivial, hb, fun i hi => ?_⟩
        obtain ⟨u, y, _, hc, hy⟩ := hel i hi
        obtain ⟨t, ht⟩ := open_val N n' (by omega) u y hy
        exact ⟨u, t, hc, ht⟩
      refine ⟨.n k m l, ?_⟩
      rw [TrR]
      exact ⟨i64_rng hk rfl, i64_rng hm rfl, A, len, cap, rfl, hS⟩
theorem open_typs {F : Nat} {cs : List Value} {x : DataW H × List MemPlace} (hx : DataW.trod enc Tryz.prog W base spare held F 23 cs = some x) : ∃ A len cap l, cs = [.slice A len cap] ∧ TrS W (fun _ => True) l A len cap := by
  obtain ⟨A, len, cap, n', hn', e5, h1, h2, h3⟩ := slice_key Tryz.underlying23 (sz := 3) (by kernel_rfl) (by decide) hx
  obtain ⟨l, hS⟩ := trs_of (D := fun _ => True) h1 h2 fun h0 => by
    obtain ⟨b, off, hA, hb, hel⟩ := h3 h0
    refine ⟨b, off, hA, trivial, hb, fun i hi => ?_⟩
    obtain ⟨u, y, _, hc, hy⟩ := hel i hi
    obtain ⟨t, ht⟩ := open_typ n' n' (Nat.le_refl _) u y hy
    exact ⟨u, t, hc, ht⟩
  exact ⟨A, len, cap, l, e5, hS⟩
theorem open_vals {F : Nat} {cs : List Value} {x : DataW H × List MemPlace} (hx : DataW.trod enc Tryz.prog W base spare held F 26 cs = some x) : ∃ A len cap l, cs = [.slice A len cap] ∧ TrS W (fun _ => True) l A len cap := by
  obtain ⟨A, len, cap, n', hn', e5, h1, h2, h3⟩ := slice_key Tryz.underlying26 (sz := 3) (by kernel_rfl) (by decide) hx
  obtain ⟨l, hS⟩ := trs_of (D := fun _ => True) h1 h2 fun h0 => by
    obtain ⟨b, off, hA, hb, hel⟩ := h3 h0
    refine ⟨b, off, hA, trivial, hb, fun i hi => ?_⟩
    obtain ⟨u, y, _, hc, hy⟩ := hel i hi
    obtain ⟨t, ht⟩ := open_val n' n' (Nat.le_refl _) u y hy
    exact ⟨u, t, hc, ht⟩
  exact ⟨A, len, cap, l, e5, hS⟩
set_option maxRecDepth 100000 in
theorem open_con {F : Nat} {cs : List Value} {x : DataW H × List MemPlace} (hx : DataW.trod enc Tryz.prog W base spare held F 87 cs = some x) : ∃ c, CoR W (fun _ => True) c cs := by
  obtain ⟨xs, n, rfl, _, hl, hlen, hf⟩ := DataW.trod_struct Tryz.underlying87 hx
  rw [show Tryz.prog.cellsOf 87 = 2 by kernel_rfl] at hl
  match xs, hlen, cs, hl with
  | [y0, y1], _, [c0, c1], _ =>
    have e0 := hf 0 _ rfl
    have e1 := hf 1 _ rfl
    simp only [show Tryz.prog.cellsOf 9 = 1 by kernel_rfl, show Tryz.prog.cellsOf 23 = 1 by kernel_rfl, List.drop_zero, List.take_succ_cons, List.take_zero, List.drop_succ_cons, List.getElem?_cons_zero, List.getElem?_cons_succ] at e0 e1
    obtain ⟨s, e3, _, _⟩ := DataW.trod_string Tryz.underlying9 e0
    obtain ⟨A, len, cap, l, e4, hS⟩ := open_typs e1
    injection e3 with e3 _
    injection e4 with e4 _
    subst e3
    subst e4
    exact ⟨⟨s.data.toList, l⟩, s, A, len, cap, rfl, rfl, hS⟩
set_option maxRecDepth 100000 in
theorem open_data {F : Nat} {cs : List Value} {x : DataW H × List MemPlace} (hx : DataW.trod enc Tryz.prog W base spare held F 56 cs = some x) : ∃ d, DaR W (fun _ => True) d cs := by
  obtain ⟨xs, n, rfl, _, hl, hlen, hf⟩ := DataW.trod_struct Tryz.underlying56 hx
  rw [show Tryz.prog.cellsOf 56 = 3 by kernel_rfl] at hl
  match xs, hlen, cs, hl with
  | [y0, y1, y2], _, [c0, c1, c2], _ =>
    have e0 := hf 0 _ rfl
    have e1 := hf 1 _ rfl
    have e2 := hf 2 _ rfl
    simp only [show Tryz.prog.cellsOf 9 = 1 by kernel_rfl, show Tryz.prog.cellsOf 3 = 1 by kernel_rfl, show Tryz.prog.cellsOf 54 = 1 by kernel_rfl, List.drop_zero, List.take_succ_cons, List.take_zero, List.drop_succ_cons, List.getElem?_cons_zero, List.getElem?_cons_succ] at e0 e1 e2
    obtain ⟨s, e3, _, _⟩ := DataW.trod_string Tryz.underlying9 e0
    obtain ⟨m, e4, _, hm⟩ := DataW.trod_int Tryz.underlying3 e1
    obtain ⟨A, len, cap, n', hn', e5, h1, h2, h3⟩ := slice_key Tryz.underlying54 (sz := 2) (by kernel_rfl) (by decide) e2
    injection e3 with e3 _
    injection e4 with e4 _
    injection e5 with e5 _
    subst e3
    subst e4
    subst e5
    have hS : ∃ l, CoS W (fun _ => True) l A len cap := by
      rcases Nat.eq_zero_or_pos len with h0 | h0
      · subst h0
        exact ⟨[], rfl, h1, h2, fun h => absurd h (by omega)⟩
      · obtain ⟨b, off, hA, hb, hel⟩ := h3 h0
        obtain ⟨l, hll, hp⟩ := list_of (n := len) (P := fun i c => ∃ u, CellsA W b (off + i * 2) u ∧ CoR W (fun _ => True) c u) fun i hi => by
          obtain ⟨u, y, _, hc, hy⟩ := hel i hi
          obtain ⟨c, hc2⟩ := open_con hy
          exact ⟨c, u, hc, hc2⟩
        exact ⟨l, hll.symm, h1, h2, fun _ => ⟨b, off, hA, trivial, hb, hp⟩⟩
    obtain ⟨l, hS⟩ := hS
    exact ⟨⟨s.data.toList, m, l⟩, s, A, len, cap, rfl, rfl, i64_rng hm rfl, hS⟩
theorem open_datas {F : Nat} {cs : List Value} {x : DataW H × List MemPlace} (hx : DataW.trod enc Tryz.prog W base spare held F 22 cs = some x) : ∃ A len cap l, cs = [.slice A len cap] ∧ DaS W (fun _ => True) l A len cap := by
  obtain ⟨A, len, cap, n', hn', e5, h1, h2, h3⟩ := slice_key Tryz.underlying22 (sz := 3) (by kernel_rfl) (by decide) hx
  rcases Nat.eq_zero_or_pos len with h0 | h0
  · subst h0
    exact ⟨A, 0, cap, [], e5, rfl, h1, h2, fun h => absurd h (by omega)⟩
  · obtain ⟨b, off, hA, hb, hel⟩ := h3 h0
    obtain ⟨l, hll, hp⟩ := list_of (n := len) (P := fun i c => ∃ u, CellsA W b (off + i * 3) u ∧ DaR W (fun _ => True) c u) fun i hi => by
      obtain ⟨u, y, _, hc, hy⟩ := hel i hi
      obtain ⟨c, hc2⟩ := open_data hy
      exact ⟨c, u, hc, hc2⟩
    exact ⟨A, len, cap, l, e5, hll.symm, h1, h2, fun _ => ⟨b, off, hA, trivial, hb, hp⟩⟩
end
end Go.Proofs.YtdbiedpdibjdlaaGreat

namespace Go.Proofs.YtdbiedpdibjdlaaGreat
open Go.RowKit AC
theorem grows_arr {DD Dt Dp De : Nat → Prop} {dat : List DaD} {A PA : Option Addr} {dl dc pl pc : Nat} (t : Tr) (c : Int) (hc : rng c) (ps : List Tr) (ev : Tr) (a b : Int) (ha : 0 ≤ a ∧ a ≤ 255) (hb : 0 ≤ b ∧ b ≤ 255) (w : World) (ct ce : Array Value) (htr : TrR w Dt t ct.toList) (hev : TrR w De ev ce.toList) (hps : TrS w Dp ps PA pl pc) (hd : DaS w DD dat A dl dc) :
    Calls Tryz.prog 3 #[.slice A dl dc, .agg ct, .int .i64 c, .slice PA pl pc, .agg ce, .int .u8 a, .int .u8 b] w (RetV (.bool true) w) := by
  obtain ⟨n, rfl⟩ : ∃ n : Nat, a = n := ⟨a.toNat, by omega⟩
  obtain ⟨m, rfl⟩ : ∃ m : Nat, b = m := ⟨b.toNat, by omega⟩
  exact grows_any t c hc ps ev n m (by omega) (by omega) w ct.toList ce.toList htr hev hps hd
end Go.Proofs.YtdbiedpdibjdlaaGreat
namespace Go.Proofs.YtdbiedpdibjdlaaGreat.fitGrowsDone
open Go.ChangeShapes Go.WideShapes Go.ChangeAt Go.RowKit AC
open Go.ChangeMaps (open_string shut_string)
set_option linter.unusedVariables false
set_option linter.unusedSimpArgs false

theorem own : ownKnob Tryz.prog.godebug = none := by kernel_rfl
theorem laidOut : laidOutB Tryz.prog = true := by kernel_rfl

set_option maxRecDepth 100000 in
theorem lifted (os : Os) (started : os.Started) (H : Type) (enc : TypeId × Value → H) :
    ReturnsInHanded {} Tryz.checked os 3 .any (Rows.fitGrowsSpec.pre6 enc Tryz.prog Tryz.f3 Rows.fitGrowsRow.domain false) (Rows.fitGrowsSpec.post enc Tryz.prog Tryz.f3 false true false false) := by
  refine returnsInHanded_of_change (C := Tryz.checked) own started (by kernel_rfl) Tryz.func3
    (ChangeSpec.witness6 (enc := enc) (C := Tryz.checked) false ⟨#[], #[.slice none 0 0, .agg #[.int .i64 0, .int .i64 0, .slice none 0 0], .int .i64 0, .slice none 0 0, .agg #[.int .i64 0, .int .i64 0, .slice none 0 0], .int .u8 0, .int .u8 0], []⟩ 8 (by kernel_rfl) (by kernel_rfl) (by kernel_rfl) (by kernel_rfl)) ?_
  intro W base args ds gs before hval0 hW hcnd _
  have hval : ∀ (j : Nat) t v, Tryz.f3.params[j]? = some t → args[j]? = some v → Value.okWide Tryz.prog W .any base t v := hval0
  have hW' := hW
  obtain ⟨p, q, hA0, hV, rfl, hfz, hnd⟩ := hW
  have hA : DataW.TrodAll enc Tryz.prog W 0 (fun _ => true) true Tryz.f3.params.toList args.toList ds p := hA0
  rw [Tryz.params3] at hA hval
  obtain ⟨v0, vs0, d0, ds0, p0, q0, hargs, rfl, rfl, h0, r0⟩ := trodAll_cons hA
  obtain ⟨v1, vs1, d1, ds1, p1, q1, rfl, rfl, rfl, h1, r1⟩ := trodAll_cons r0
  obtain ⟨v2, vs2, d2, ds2, p2, q2, rfl, rfl, rfl, h2, r2⟩ := trodAll_cons r1
  obtain ⟨v3, vs3, d3, ds3, p3, q3, rfl, rfl, rfl, h3, r3⟩ := trodAll_cons r2
  obtain ⟨v4, vs4, d4, ds4, p4, q4, rfl, rfl, rfl, h4, r4⟩ := trodAll_cons r3
  obtain ⟨v5, vs5, d5, ds5, p5, q5, rfl, rfl, rfl, h5, r5⟩ := trodAll_cons r4
  obtain ⟨v6, vs6, d6, ds6, p6, q6, rfl, rfl, rfl, h6, r6⟩ := trodAll_cons r5
  obtain ⟨rfl, rfl, rfl⟩ := trodAll_nil r6
  obtain rfl : args = #[v0, v1, v2, v3, v4, v5, v6] := by cases args; simp_all
  obtain ⟨rfl, rfl⟩ := trodVars_none hV
  have lt : ∀ {t v d p}, DataW.Trod enc Tryz.prog W 0 (fun _ => true) true t v d p → ∀ x ∈ p, x.block < W.heap.size := fun h => by obtain ⟨m, hm⟩ := h; exact DataW.trod_lt m _ _ _ hm
  obtain ⟨A0, n0, c0, rfl⟩ := okWide_slice Tryz.underlying22 (hval 0 22 v0 rfl rfl)
  obtain ⟨cs1, rfl, _⟩ := okWide_struct Tryz.underlying25 (hval 1 25 v1 rfl rfl)
  obtain ⟨a2, rfl, rfl, rfl, w2⟩ := open_int Tryz.underlying3 (hval 2 3 v2 rfl rfl) h2
  obtain ⟨A3, n3, c3, rfl⟩ := okWide_slice Tryz.underlying26 (hval 3 26 v3 rfl rfl)
  obtain ⟨cs4, rfl, _⟩ := okWide_struct Tryz.underlying28 (hval 4 28 v4 rfl rfl)
  obtain ⟨a5, rfl, rfl, rfl, w5⟩ := open_int Tryz.underlying5 (hval 5 5 v5 rfl rfl) h5
  obtain ⟨a6, rfl, rfl, rfl, w6⟩ := open_int Tryz.underlying5 (hval 6 5 v6 rfl rfl) h6
  have o0 : ∃ l, DaS W (fun _ => True) l A0 n0 c0 := by
    obtain ⟨f, hf⟩ := h0
    obtain ⟨A, len, cap, l, e, hl⟩ := open_datas hf
    simp [Value.cells] at e
    obtain ⟨rfl, rfl, rfl⟩ := e
    exact ⟨l, hl⟩
  have o1 : ∃ t, TrR W (fun _ => True) t cs1.toList := by
    obtain ⟨f, hf⟩ := h1
    exact open_typ f f (Nat.le_refl _) _ _ hf
  have o3 : ∃ l, TrS W (fun _ => True) l A3 n3 c3 := by
    obtain ⟨f, hf⟩ := h3
    obtain ⟨A, len, cap, l, e, hl⟩ := open_vals hf
    simp [Value.cells] at e
    obtain ⟨rfl, rfl, rfl⟩ := e
    exact ⟨l, hl⟩
  have o4 : ∃ t, TrR W (fun _ => True) t cs4.toList := by
    obtain ⟨f, hf⟩ := h4
    exact open_val f f (Nat.le_refl _) _ _ hf
  obtain ⟨dat, hdat⟩ := o0
  obtain ⟨t, ht⟩ := o1
  obtain ⟨ps, hps⟩ := o3
  obtain ⟨ev, hev⟩ := o4
  have b5 := bounds_u8 w5
  have b6 := bounds_u8 w6
  clear hA0 hval0
  refine (grows_arr t a2 (i64_rng w2 rfl) ps ev a5 a6 b5 b6 W cs1 cs4 ht hev hps hdat).mono fun e W' ⟨he, bel⟩ => ?_
  subst he
  exact ⟨_, rfl, _, _, _, [], _, [], hW', trodAll_mk1 (shut_bool Tryz.underlying4 _),
    (trodAll_cons_mk (Below.trod laidOut (by kernel_rfl) (of_decide_eq_true (by kernel_rfl)) h0 bel (lt h0)) (trodAll_cons_mk (Below.trod laidOut (by kernel_rfl) (of_decide_eq_true (by kernel_rfl)) h1 bel (lt h1)) (trodAll_cons_mk (shut_int Tryz.underlying3 w2)
      (trodAll_cons_mk (Below.trod laidOut (by kernel_rfl) (of_decide_eq_true (by kernel_rfl)) h3 bel (lt h3)) (trodAll_cons_mk (Below.trod laidOut (by kernel_rfl) (of_decide_eq_true (by kernel_rfl)) h4 bel (lt h4)) (trodAll_cons_mk (shut_int Tryz.underlying5 w5) (trodAll_cons_mk (shut_int Tryz.underlying5 w6) trodAll_mk0))))))), rfl, bel.frame _, fun h => by cases h⟩

theorem over : Rows.fitGrowsRow.holds Tryz.pinned (OpenSpec.ofChange Rows.fitGrowsSpec) :=
  OpenClaim.holds_of_wide 3 Tryz.f3 rfl rfl rfl rfl rfl rfl rfl ⟨rfl, rfl, rfl, rfl, rfl⟩ rfl rfl rfl rfl rfl (by kernel_rfl) Tryz.func3 (by kernel_rfl)
    (of_decide_eq_true (by kernel_rfl)) (by unfold Func.isWrapper; first | (rw [if_pos (by decide +kernel)]; kernel_rfl) | (rw [if_neg (by decide +kernel)]; exact ⟨rfl, rfl⟩))
    (fun os started H enc _ => lifted os started H enc)

theorem proved : Rows.FitGrowsSaid := over
end Go.Proofs.YtdbiedpdibjdlaaGreat.fitGrowsDone

namespace Go.Proofs.YtdbiedpdibjdlaaGreat
theorem fitGrows_holds : Rows.FitGrowsSaid := fitGrowsDone.proved
#print axioms fitGrows_holds
end Go.Proofs.YtdbiedpdibjdlaaGreat

