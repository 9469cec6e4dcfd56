/-
  An argument that is a list of rational numbers, read out of memory.
-/
import Derived.Test.YtpbdkkoanedimaaGreatDoorHWalkN
import Derived.Test.YtpbdkkoanedimaaGreatDoorRows
import Derived.Deep.Slices
import Derived.Deep.Strs
import Derived.ProofKit
import Derived.OpenShut
import Derived.Test.YtpbdkkoanedimaaGreatDoorHCRep
import Derived.Test.YtpbdkkoanedimaaGreatDoorHCRa
namespace Go.Proofs.YtpbdkkoanedimaaGreatDoor
open Go.RowKit AC Go.ChangeShapes Go.WideShapes Go.Deep
set_option linter.unusedVariables false
set_option linter.unusedSimpArgs false
theorem cells_bool : Tryz.prog.cellsOf 4 = 1 := by kernel_rfl
theorem cells_u32s : Tryz.prog.cellsOf 58 = 1 := by kernel_rfl
theorem cells_u32 : Tryz.prog.cellsOf 202 = 1 := by kernel_rfl
theorem cells_rat : Tryz.prog.cellsOf 60 = 3 := by kernel_rfl
theorem cell_lt {w : World} {a : Addr} {v : Value} (h : w.cell? a = some v) : a.block < w.heap.size := by
 rcases Nat.lt_or_ge a.block w.heap.size with h1 | h1
 ·exact h1
 ·unfold World.cell? at h
  rw [Array.getElem?_eq_none h1] at h
  simp at h
section
variable {H : Type} {enc : TypeId × Value → H} {W : World} {base : Nat} {spare : Nat → Bool} {held : Bool}
theorem open_limbs {n : Nat} {cs : List Value} {x : DataW H × List MemPlace} (h : DataW.trod enc Tryz.prog W base spare held n 58 cs = some x) :
    ∃ A k c f, cs = [.slice A k c] ∧ k ≤ maxLen ∧ Limbs W 0 (.slice A k c) k f := by
  rcases open_ints Tryz.underlying58 Tryz.underlying202 cells_u32 h with ⟨rfl, _⟩ | ⟨a, len, cap, zs, rfl, _, hl, hm, hz, _, hcell, hwz⟩
  · exact ⟨none, 0, 0, fun _ => 0, rfl, Nat.zero_le _, Limbs.nil _ _ _⟩
  · have hlz : len ≤ zs.length := by rw [hz]; split <;> omega
    have hb : ∀ i, i < zs.length → 0 ≤ zs.getD i 0 ∧ zs.getD i 0 ≤ 4294967295 := by
      intro i hi
      refine bounds_u32 (hwz _ ?_)
      rw [List.getD_eq_getElem?_getD, List.getElem?_eq_getElem hi]
      exact List.getElem_mem hi
    refine ⟨some a, len, cap, fun i => (zs.getD i 0).toNat, rfl, by omega, fun i hi => ?_, _, _, rfl, hl, hm, fun h0 => ?_⟩
    · have := hb i (by omega)
      show (zs.getD i 0).toNat < 4294967296
      omega
    · have h1 := hcell 0 (by omega)
      have hs : a.spot = none := by simpa [Addr.add] using World.cell?_spot h1
      obtain ⟨b, off, spot⟩ := a
      simp only at hs
      subst hs
      refine ⟨b, off, rfl, Nat.zero_le _, cell_lt h1, fun i hi => ?_⟩
      have h2 := hcell i (by omega)
      rw [Addr.add_lit] at h2
      rw [h2]
      have := hb i (by omega)
      simp only [Option.some.injEq, Value.int.injEq, true_and]
      omega
end
open Go.RowKit AC Go.ChangeShapes Go.WideShapes Go.Deep
def Fit : Nat → Shape → TypeId → List Field → Nat → Prop
  | _, .int, t, _, _ => Tryz.prog.underlying t = some (.int .i64)
  | _, .bool, t, _, _ => Tryz.prog.underlying t = some .bool
  | _, .rat, _, _, _ => False
  | _, .big, t, _, _ => t = 60
  | F, .no _, _, _, _ => F = 0
  | _, .fin, _, fs, _ => fs = []
  | F, .list s, t, _, _ => ∃ e, Tryz.prog.underlying t = some (.slice e) ∧ Tryz.prog.cellsOf e = s.sz ∧ s.one = true ∧ 0 < s.sz ∧ Fit (F - 1) s e [] 0
  | F, .st f, t, _, _ => ∃ fs, Tryz.prog.underlying t = some (.struct fs) ∧ Tryz.prog.cellsOf t = f.sz ∧ f.one = false ∧ Fit (F - 1) f 0 fs.toList 0
  | F, .and s f, _, fs, off => ∃ fd rest, fs = fd :: rest ∧ fd.offset = off ∧ Tryz.prog.cellsOf fd.type = s.sz ∧ s.one = true ∧ f.one = false ∧ Fit F s fd.type [] 0 ∧ Fit F f 0 rest (off + s.sz)
theorem Rep.list_of {w : World} {D : Nat → Prop} {s : Shape} {A : Option Addr} {k c : Nat} (hkc : k ≤ c) (hc : c ≤ maxLen) (h : 0 < k → ∃ b off, A = some ⟨b, off, none⟩ ∧ D b ∧ b < w.heap.size ∧ ∀ i, i < k → ∃ u tx, CellsAt w b (off + i * s.sz) u ∧ Rep w D s u [tx]) : ∃ t, Rep w D (.list s) [.slice A k c] [t] := by
 rcases Nat.eq_zero_or_pos k with h0 | h0
 ·subst h0
  exact ⟨_, A, 0, c, fun _ => [], fun _ => [], rfl, hkc, hc, rfl, fun h => absurd h (by omega), fun i hi => absurd hi (by omega)⟩
 ·obtain ⟨b, off, hA, hD, hlt, hel⟩ := h h0
  have hch : ∃ (us : Nat → List Value) (tx : Nat → List UInt8), ∀ i, i < k → CellsAt w b (off + i * s.sz) (us i) ∧ Rep w D s (us i) [tx i] := by
   refine ⟨fun i => if hi : i < k then (hel i hi).choose else [], fun i => if hi : i < k then (hel i hi).choose_spec.choose else [], fun i hi => ?_⟩
   simp only [hi, dif_pos]
   exact (hel i hi).choose_spec.choose_spec
  obtain ⟨us, tx, hut⟩ := hch
  exact ⟨par tx k, A, k, c, us, tx, rfl, hkc, hc, rfl, fun _ => ⟨b, off, hA, hD, hlt, fun i hi => (hut i hi).1⟩, fun i hi => (hut i hi).2⟩
section
variable {H : Type} {enc : TypeId × Value → H} {W : World} {base : Nat} {spare : Nat → Bool} {held : Bool}
theorem open_limbsD {n : Nat} {cs : List Value} {x : DataW H × List MemPlace} (h : DataW.trod enc Tryz.prog W base spare held n 58 cs = some x) :
 ∃ A k c f, cs = [.slice A k c] ∧ LimbsD W (fun _ => True) (.slice A k c) k f := by
 obtain ⟨A, k, c, f, rfl, _, hL⟩ := open_limbs h
 exact ⟨A, k, c, f, rfl, Limbs.inD hL fun _ _ _ => trivial⟩
set_option maxRecDepth 100000 in
theorem open_big {n : Nat} {cs : List Value} {x : DataW H × List MemPlace} (h : DataW.trod enc Tryz.prog W base spare held n 60 cs = some x) :
 ∃ t, Rep W (fun _ => True) .big cs [t] := by
 obtain ⟨y0, y1, y2, m, _, hl, h0, h1, h2⟩ := trod_struct3 Tryz.underlying60 h
 rw [cells_rat] at hl
 match cs, hl with
 | [c0, c1, c2], _ =>
  have e0 := h0
  have e1 := h1
  have e2 := h2
  simp only [cells_bool, cells_u32s, List.drop_zero, List.take_succ_cons, List.take_zero, List.drop_succ_cons] at e0 e1 e2
  obtain ⟨s, e3, _⟩ := DataW.trod_bool Tryz.underlying4 e0
  obtain ⟨A, k, c, f, e4, hL⟩ := open_limbsD e1
  obtain ⟨A', k', c', f', e5, hL'⟩ := open_limbsD e2
  injection e3 with e3 _
  injection e4 with e4 _
  injection e5 with e5 _
  subst e3
  subst e4
  subst e5
  exact ⟨_, _, ⟨s, k, k', f, f', _, _, rfl, hL, hL', rfl⟩, rfl⟩
set_option maxRecDepth 100000 in
theorem open_shape : ∀ (s : Shape) (F : Nat) (t : TypeId) (fs : List Field) (off : Nat) (cs : List Value), Fit F s t fs off →
 (s.one = true → ∀ x, DataW.trod enc Tryz.prog W base spare held F t cs = some x → ∃ tx, Rep W (fun _ => True) s cs [tx]) ∧
 (s.one = false → (∀ f, f ∈ fs → ∃ y, DataW.trod enc Tryz.prog W base spare held F f.type ((cs.drop f.offset).take (Tryz.prog.cellsOf f.type)) = some y) → cs.length = off + s.sz → ∃ tr, Rep W (fun _ => True) s (cs.drop off) tr)
 | .int, F, t, fs, off, cs, hF => by
  refine ⟨fun _ x hx => ?_, fun h => by cases h⟩
  obtain ⟨n, rfl, _, hw⟩ := DataW.trod_int hF hx
  have := bounds_i64 hw
  exact ⟨_, n, rfl, by omega, by omega, rfl⟩
 | .bool, F, t, fs, off, cs, hF => by
  refine ⟨fun _ x hx => ?_, fun h => by cases h⟩
  obtain ⟨b, rfl, _⟩ := DataW.trod_bool hF hx
  exact ⟨_, b, rfl, rfl⟩
 | .rat, F, t, fs, off, cs, hF => False.elim hF
 | .big, F, t, fs, off, cs, hF => by
  refine ⟨fun _ x hx => ?_, fun h => by cases h⟩
  have hF' : t = 60 := hF
  subst hF'
  exact open_big hx
 | .no s, F, t, fs, off, cs, hF => by
  have hF' : F = 0 := hF
  subst hF'
  exact ⟨fun _ x hx => by simp [DataW.trod] at hx, fun h => by cases h⟩
 | .fin, F, t, fs, off, cs, hF => by
  refine ⟨fun h => (by cases h), fun _ _ hl => ⟨[], ?_, rfl⟩⟩
  have : cs.length = off := by simpa [Shape.sz] using hl
  exact List.drop_eq_nil_of_le (by omega)
 | .list s, F, t, fs, off, cs, hF => by
  refine ⟨fun _ x hx => ?_, fun h => by cases h⟩
  obtain ⟨e, hu, hce, hone, hpos, hFs⟩ := hF
  rcases DataW.trod_slice hu hx with ⟨rfl, _⟩ | ⟨a, len, cap, elems, rest, n, rfl, rfl, _, hb, hl, hm, hlen, hel, _, _⟩
  ·exact Rep.list_of (Nat.le_refl _) (Nat.zero_le _) fun h => absurd h (by omega)
  ·refine Rep.list_of hl hm fun h0 => ?_
   rw [hce] at hel
   have key : ∀ i, i < len → ∃ u tx, base ≤ (a.add (i * s.sz)).block ∧ u.length = s.sz ∧ (∀ j, j < s.sz → W.cell? ((a.add (i * s.sz)).add j) = u[j]?) ∧ Rep W (fun _ => True) s u [tx] := by
    intro i hi
    have h1 := hel i hi
    rw [List.getElem?_eq_getElem (by omega)] at h1
    obtain ⟨u, hu1, hu2⟩ := Option.bind_eq_some_iff.1 h1
    obtain ⟨q1, q2, q3⟩ := World.cells?_some hu1
    obtain ⟨tx, htx⟩ := (open_shape s n e [] 0 u hFs).1 hone _ hu2
    exact ⟨u, tx, q1, q2, q3, htx⟩
   obtain ⟨u0, tx0, _, hl0, hc0, hr0⟩ := key 0 h0
   have h1 := hc0 0 hpos
   rw [List.getElem?_eq_getElem (by omega)] at h1
   have hs : a.spot = none := by simpa [Addr.add] using World.cell?_spot h1
   obtain ⟨b, o, spot⟩ := a
   simp only at hs
   subst hs
   refine ⟨b, o, rfl, trivial, by have := cell_in h1; simpa [Addr.add] using this, fun i hi => ?_⟩
   obtain ⟨u, tx, _, hl2, hc2, hr2⟩ := key i hi
   refine ⟨u, tx, fun j y hy => ?_, hr2⟩
   have hj : j < s.sz := by rw [← hl2]; exact (List.getElem?_eq_some_iff.1 hy).1
   have := hc2 j hj
   rw [hy] at this
   rw [Addr.add_lit, Addr.add_lit] at this
   exact this
 | .st f, F, t, fs, off, cs, hF => by
  refine ⟨fun _ x hx => ?_, fun h => by cases h⟩
  obtain ⟨fs', hu, hce, hfo, hFf⟩ := hF
  obtain ⟨xs, n, rfl, _, hl, hxl, hf⟩ := DataW.trod_struct hu hx
  rw [hce] at hl
  obtain ⟨tr, htr⟩ := (open_shape f n 0 fs'.toList 0 cs hFf).2 hfo (fun fd hfd => by
   obtain ⟨i, hi, hfi⟩ := List.mem_iff_getElem.1 hfd
   have h1 := hf i fd (by rw [← hfi]; simp at hi; simp [hi])
   rw [List.getElem?_eq_getElem (by rw [hxl]; simpa using hi)] at h1
   exact ⟨_, h1⟩) (by omega)
  rw [List.drop_zero] at htr
  exact ⟨_, tr, rfl, htr⟩
 | .and s f, F, t, fs, off, cs, hF => by
  refine ⟨fun h => (by cases h), fun _ hall hl => ?_⟩
  obtain ⟨fd, rest, rfl, ho, hce, hone, hfo, hFs, hFf⟩ := hF
  obtain ⟨y, hy⟩ := hall fd (List.mem_cons_self)
  rw [ho, hce] at hy
  obtain ⟨tx, htx⟩ := (open_shape s F fd.type [] 0 _ hFs).1 hone _ hy
  obtain ⟨tr, htr⟩ := (open_shape f F 0 rest (off + s.sz) cs hFf).2 hfo (fun g hg => hall g (List.mem_cons_of_mem _ hg)) (by rw [hl]; simp [Shape.sz]; omega)
  refine ⟨tx :: tr, _, _, tx, tr, ?_, rfl, htx, htr⟩
  rw [← List.drop_drop, List.take_append_drop]
end
theorem szB_term {N : Nat} : Shape.sz (termB N) = 5 := by
 show Shape.sz .big + (Shape.sz (monoS N) + (0)) = _
 rw [sz_mono]
 rfl
theorem szB_use {N : Nat} : Shape.sz (useB N) = 6 := by
 show Shape.sz .int + (Shape.sz .big + (Shape.sz (monoS N) + (0))) = _
 rw [sz_mono]
 rfl
theorem szB_part {N : Nat} : Shape.sz (useB N) = 6 := by
 show Shape.sz .int + (Shape.sz .big + (Shape.sz (monoS N) + (0))) = _
 rw [sz_mono]
 rfl
theorem szB_target {N : Nat} : Shape.sz (targetB N) = 3 := by
 show Shape.sz .int + (Shape.sz (.list (useB N)) + (Shape.sz (.list (termB N)) + (0))) = _
 rfl
theorem szB_axiomUse {N : Nat} : Shape.sz (axuB N) = 13 := by
 show Shape.sz axS + (Shape.sz .big + (Shape.sz (monoS N) + (Shape.sz (.list .big) + (Shape.sz (.list .big) + (0))))) = _
 rw [sz_axiom, sz_mono]
 rfl
theorem szB_node {N : Nat} : Shape.sz (nodeB N) = 11 := by
 show Shape.sz .int + (Shape.sz .int + (Shape.sz .bool + (Shape.sz (.list (termB N)) + (Shape.sz (.list (termB N)) + (Shape.sz (.list (targetB N)) + (Shape.sz (.list (useB N)) + (Shape.sz (.list (termB N)) + (Shape.sz (.list .int) + (Shape.sz (.list .big) + (Shape.sz (.list (.list (axuB N))) + (0))))))))))) = _
 rfl
theorem szB_cert {N : Nat} : Shape.sz (certB N) = 9 := by
 show Shape.sz .bool + (Shape.sz metricS + (Shape.sz (.list relationS) + (Shape.sz (flowS N) + (Shape.sz (.list (nodeB N)) + (Shape.sz (.list claimS) + (0)))))) = _
 rw [sz_metric, sz_flow]
 rfl
set_option maxRecDepth 10000 in
theorem fit_linTerm (F : Nat) : Fit F linTermS 195 [] 0 := by
 refine ⟨_, Tryz.underlying195, (show _ = 2 by kernel_rfl).trans sz_linTerm.symm, rfl, ?_⟩
 refine ⟨_, _, rfl, (by first | rfl | simp [Shape.sz, sz_lin, sz_metric, sz_typ, sz_flow, sz_index, sz_mono, sz_axiom]), by kernel_rfl, rfl, rfl, Tryz.underlying3, ?_⟩
 refine ⟨_, _, rfl, (by first | rfl | simp [Shape.sz, sz_lin, sz_metric, sz_typ, sz_flow, sz_index, sz_mono, sz_axiom]), by kernel_rfl, rfl, rfl, Tryz.underlying2, ?_⟩
 rfl
set_option maxRecDepth 10000 in
theorem fit_lin (F : Nat) : Fit F linS 130 [] 0 := by
 refine ⟨_, Tryz.underlying130, (show _ = 2 by kernel_rfl).trans sz_lin.symm, rfl, ?_⟩
 refine ⟨_, _, rfl, (by first | rfl | simp [Shape.sz, sz_lin, sz_metric, sz_typ, sz_flow, sz_index, sz_mono, sz_axiom]), by kernel_rfl, rfl, rfl, Tryz.underlying2, ?_⟩
 refine ⟨_, _, rfl, (by first | rfl | simp [Shape.sz, sz_lin, sz_metric, sz_typ, sz_flow, sz_index, sz_mono, sz_axiom]), by kernel_rfl, rfl, rfl, ⟨_, Tryz.underlying128, (show _ = 2 by kernel_rfl).trans sz_linTerm.symm, rfl, by rw [sz_linTerm]; decide, (fit_linTerm ((F - 1) - 1))⟩, ?_⟩
 rfl
set_option maxRecDepth 10000 in
theorem fit_relation (F : Nat) : Fit F relationS 87 [] 0 := by
 refine ⟨_, Tryz.underlying87, (show _ = 2 by kernel_rfl).trans sz_relation.symm, rfl, ?_⟩
 refine ⟨_, _, rfl, (by first | rfl | simp [Shape.sz, sz_lin, sz_metric, sz_typ, sz_flow, sz_index, sz_mono, sz_axiom]), by kernel_rfl, rfl, rfl, ⟨_, Tryz.underlying85, (show _ = 2 by kernel_rfl).trans sz_lin.symm, rfl, by rw [sz_lin]; decide, (fit_lin ((F - 1) - 1))⟩, ?_⟩
 refine ⟨_, _, rfl, (by first | rfl | simp [Shape.sz, sz_lin, sz_metric, sz_typ, sz_flow, sz_index, sz_mono, sz_axiom]), by kernel_rfl, rfl, rfl, ⟨_, Tryz.underlying85, (show _ = 2 by kernel_rfl).trans sz_lin.symm, rfl, by rw [sz_lin]; decide, (fit_lin ((F - 1) - 1))⟩, ?_⟩
 rfl
set_option maxRecDepth 10000 in
theorem fit_metric (F : Nat) : Fit F metricS 24 [] 0 := by
 refine ⟨_, Tryz.underlying24, (show _ = 2 by kernel_rfl).trans sz_metric.symm, rfl, ?_⟩
 refine ⟨_, _, rfl, (by first | rfl | simp [Shape.sz, sz_lin, sz_metric, sz_typ, sz_flow, sz_index, sz_mono, sz_axiom]), by kernel_rfl, rfl, rfl, ⟨_, Tryz.underlying22, by kernel_rfl, rfl, by decide, Tryz.underlying2⟩, ?_⟩
 refine ⟨_, _, rfl, (by first | rfl | simp [Shape.sz, sz_lin, sz_metric, sz_typ, sz_flow, sz_index, sz_mono, sz_axiom]), by kernel_rfl, rfl, rfl, ⟨_, Tryz.underlying22, by kernel_rfl, rfl, by decide, Tryz.underlying2⟩, ?_⟩
 rfl
set_option maxRecDepth 10000 in
theorem fit_typ : ∀ (N F : Nat) (h : F ≤ N), Fit F (typS N) 92 [] 0
 | 0, F, h => (show F = 0 by omega)
 | N + 1, F, h => by
  refine ⟨_, Tryz.underlying92, (show _ = 3 by kernel_rfl).trans (sz_typ (n := N + 1)).symm, rfl, ?_⟩
  refine ⟨_, _, rfl, (by first | rfl | simp [Shape.sz, sz_lin, sz_metric, sz_typ, sz_flow, sz_index, sz_mono, sz_axiom]), by kernel_rfl, rfl, rfl, Tryz.underlying3, ?_⟩
  refine ⟨_, _, rfl, (by first | rfl | simp [Shape.sz, sz_lin, sz_metric, sz_typ, sz_flow, sz_index, sz_mono, sz_axiom]), by kernel_rfl, rfl, rfl, Tryz.underlying3, ?_⟩
  refine ⟨_, _, rfl, (by first | rfl | simp [Shape.sz, sz_lin, sz_metric, sz_typ, sz_flow, sz_index, sz_mono, sz_axiom]), by kernel_rfl, rfl, rfl, ⟨_, Tryz.underlying90, (show _ = 3 by kernel_rfl).trans sz_typ.symm, one_typ, by rw [sz_typ]; decide, (fit_typ N ((F - 1) - 1) (by omega))⟩, ?_⟩
  rfl
set_option maxRecDepth 10000 in
theorem fit_store (N F : Nat) (h : F ≤ N) : Fit F (storeS N) 94 [] 0 := by
 refine ⟨_, Tryz.underlying94, (show _ = 4 by kernel_rfl).trans (sz_store (n := N)).symm, rfl, ?_⟩
 refine ⟨_, _, rfl, (by first | rfl | simp [Shape.sz, sz_lin, sz_metric, sz_typ, sz_flow, sz_index, sz_mono, sz_axiom]), (show _ = 3 by kernel_rfl).trans sz_typ.symm, one_typ, rfl, (fit_typ N (F - 1) (by omega)), ?_⟩
 refine ⟨_, _, rfl, (by first | rfl | simp [Shape.sz, sz_lin, sz_metric, sz_typ, sz_flow, sz_index, sz_mono, sz_axiom]), by kernel_rfl, rfl, rfl, ⟨_, Tryz.underlying51, by kernel_rfl, rfl, by decide, Tryz.underlying3⟩, ?_⟩
 rfl
set_option maxRecDepth 10000 in
theorem fit_flow (N F : Nat) (h : F ≤ N) : Fit F (flowS N) 29 [] 0 := by
 refine ⟨_, Tryz.underlying29, (show _ = 3 by kernel_rfl).trans (sz_flow (n := N)).symm, rfl, ?_⟩
 refine ⟨_, _, rfl, (by first | rfl | simp [Shape.sz, sz_lin, sz_metric, sz_typ, sz_flow, sz_index, sz_mono, sz_axiom]), by kernel_rfl, rfl, rfl, ⟨_, Tryz.underlying26, by kernel_rfl, rfl, Nat.zero_lt_one, ⟨_, Tryz.underlying51, by kernel_rfl, rfl, by decide, Tryz.underlying3⟩⟩, ?_⟩
 refine ⟨_, _, rfl, (by first | rfl | simp [Shape.sz, sz_lin, sz_metric, sz_typ, sz_flow, sz_index, sz_mono, sz_axiom]), by kernel_rfl, rfl, rfl, ⟨_, Tryz.underlying26, by kernel_rfl, rfl, Nat.zero_lt_one, ⟨_, Tryz.underlying51, by kernel_rfl, rfl, by decide, Tryz.underlying3⟩⟩, ?_⟩
 refine ⟨_, _, rfl, (by first | rfl | simp [Shape.sz, sz_lin, sz_metric, sz_typ, sz_flow, sz_index, sz_mono, sz_axiom]), by kernel_rfl, rfl, rfl, ⟨_, Tryz.underlying27, (show _ = 4 by kernel_rfl).trans sz_store.symm, rfl, by rw [sz_store]; decide, (fit_store N ((F - 1) - 1) (by omega))⟩, ?_⟩
 rfl
set_option maxRecDepth 10000 in
theorem fit_index : ∀ (N F : Nat) (h : F ≤ N), Fit F (indexS N) 125 [] 0
 | 0, F, h => (show F = 0 by omega)
 | N + 1, F, h => by
  refine ⟨_, Tryz.underlying125, (show _ = 2 by kernel_rfl).trans (sz_index (n := N + 1)).symm, rfl, ?_⟩
  refine ⟨_, _, rfl, (by first | rfl | simp [Shape.sz, sz_lin, sz_metric, sz_typ, sz_flow, sz_index, sz_mono, sz_axiom]), by kernel_rfl, rfl, rfl, Tryz.underlying3, ?_⟩
  refine ⟨_, _, rfl, (by first | rfl | simp [Shape.sz, sz_lin, sz_metric, sz_typ, sz_flow, sz_index, sz_mono, sz_axiom]), by kernel_rfl, rfl, rfl, ⟨_, Tryz.underlying123, (show _ = 2 by kernel_rfl).trans sz_index.symm, one_index, by rw [sz_index]; decide, (fit_index N ((F - 1) - 1) (by omega))⟩, ?_⟩
  rfl
set_option maxRecDepth 10000 in
theorem fit_factor (N F : Nat) (h : F ≤ N) : Fit F (factorS N) 127 [] 0 := by
 refine ⟨_, Tryz.underlying127, (show _ = 3 by kernel_rfl).trans (sz_factor (n := N)).symm, rfl, ?_⟩
 refine ⟨_, _, rfl, (by first | rfl | simp [Shape.sz, sz_lin, sz_metric, sz_typ, sz_flow, sz_index, sz_mono, sz_axiom]), by kernel_rfl, rfl, rfl, Tryz.underlying3, ?_⟩
 refine ⟨_, _, rfl, (by first | rfl | simp [Shape.sz, sz_lin, sz_metric, sz_typ, sz_flow, sz_index, sz_mono, sz_axiom]), (show _ = 2 by kernel_rfl).trans sz_index.symm, one_index, rfl, (fit_index N (F - 1) (by omega)), ?_⟩
 rfl
set_option maxRecDepth 10000 in
theorem fit_atom (F : Nat) : Fit F atomS 132 [] 0 := by
 refine ⟨_, Tryz.underlying132, (show _ = 3 by kernel_rfl).trans sz_atom.symm, rfl, ?_⟩
 refine ⟨_, _, rfl, (by first | rfl | simp [Shape.sz, sz_lin, sz_metric, sz_typ, sz_flow, sz_index, sz_mono, sz_axiom]), (show _ = 2 by kernel_rfl).trans sz_lin.symm, rfl, rfl, (fit_lin (F - 1)), ?_⟩
 refine ⟨_, _, rfl, (by first | rfl | simp [Shape.sz, sz_lin, sz_metric, sz_typ, sz_flow, sz_index, sz_mono, sz_axiom]), by kernel_rfl, rfl, rfl, Tryz.underlying3, ?_⟩
 rfl
set_option maxRecDepth 10000 in
theorem fit_mono (N F : Nat) (h : F ≤ N) : Fit F (monoS N) 64 [] 0 := by
 refine ⟨_, Tryz.underlying64, (show _ = 2 by kernel_rfl).trans (sz_mono (n := N)).symm, rfl, ?_⟩
 refine ⟨_, _, rfl, (by first | rfl | simp [Shape.sz, sz_lin, sz_metric, sz_typ, sz_flow, sz_index, sz_mono, sz_axiom]), by kernel_rfl, rfl, rfl, ⟨_, Tryz.underlying61, (show _ = 3 by kernel_rfl).trans sz_factor.symm, rfl, by rw [sz_factor]; decide, (fit_factor N ((F - 1) - 1) (by omega))⟩, ?_⟩
 refine ⟨_, _, rfl, (by first | rfl | simp [Shape.sz, sz_lin, sz_metric, sz_typ, sz_flow, sz_index, sz_mono, sz_axiom]), by kernel_rfl, rfl, rfl, ⟨_, Tryz.underlying62, (show _ = 3 by kernel_rfl).trans sz_atom.symm, rfl, by rw [sz_atom]; decide, (fit_atom ((F - 1) - 1))⟩, ?_⟩
 rfl
set_option maxRecDepth 10000 in
theorem fit_term (N F : Nat) (h : F ≤ N) : Fit F (termB N) 121 [] 0 := by
 refine ⟨_, Tryz.underlying121, (show _ = 5 by kernel_rfl).trans (szB_term (N := N)).symm, rfl, ?_⟩
 refine ⟨_, _, rfl, (by first | rfl | simp [Shape.sz, sz_lin, sz_metric, sz_typ, sz_flow, sz_index, sz_mono, sz_axiom]), by kernel_rfl, rfl, rfl, rfl, ?_⟩
 refine ⟨_, _, rfl, (by first | rfl | simp [Shape.sz, sz_lin, sz_metric, sz_typ, sz_flow, sz_index, sz_mono, sz_axiom]), (show _ = 2 by kernel_rfl).trans sz_mono.symm, rfl, rfl, (fit_mono N (F - 1) (by omega)), ?_⟩
 rfl
set_option maxRecDepth 10000 in
theorem fit_use (N F : Nat) (h : F ≤ N) : Fit F (useB N) 73 [] 0 := by
 refine ⟨_, Tryz.underlying73, (show _ = 6 by kernel_rfl).trans (szB_use (N := N)).symm, rfl, ?_⟩
 refine ⟨_, _, rfl, (by first | rfl | simp [Shape.sz, sz_lin, sz_metric, sz_typ, sz_flow, sz_index, sz_mono, sz_axiom]), by kernel_rfl, rfl, rfl, Tryz.underlying3, ?_⟩
 refine ⟨_, _, rfl, (by first | rfl | simp [Shape.sz, sz_lin, sz_metric, sz_typ, sz_flow, sz_index, sz_mono, sz_axiom]), by kernel_rfl, rfl, rfl, rfl, ?_⟩
 refine ⟨_, _, rfl, (by first | rfl | simp [Shape.sz, sz_lin, sz_metric, sz_typ, sz_flow, sz_index, sz_mono, sz_axiom]), (show _ = 2 by kernel_rfl).trans sz_mono.symm, rfl, rfl, (fit_mono N (F - 1) (by omega)), ?_⟩
 rfl
set_option maxRecDepth 10000 in
theorem fit_part (N F : Nat) (h : F ≤ N) : Fit F (useB N) 66 [] 0 := by
 refine ⟨_, Tryz.underlying66, (show _ = 6 by kernel_rfl).trans (szB_part (N := N)).symm, rfl, ?_⟩
 refine ⟨_, _, rfl, (by first | rfl | simp [Shape.sz, sz_lin, sz_metric, sz_typ, sz_flow, sz_index, sz_mono, sz_axiom]), by kernel_rfl, rfl, rfl, Tryz.underlying3, ?_⟩
 refine ⟨_, _, rfl, (by first | rfl | simp [Shape.sz, sz_lin, sz_metric, sz_typ, sz_flow, sz_index, sz_mono, sz_axiom]), by kernel_rfl, rfl, rfl, rfl, ?_⟩
 refine ⟨_, _, rfl, (by first | rfl | simp [Shape.sz, sz_lin, sz_metric, sz_typ, sz_flow, sz_index, sz_mono, sz_axiom]), (show _ = 2 by kernel_rfl).trans sz_mono.symm, rfl, rfl, (fit_mono N (F - 1) (by omega)), ?_⟩
 rfl
set_option maxRecDepth 10000 in
theorem fit_target (N F : Nat) (h : F ≤ N) : Fit F (targetB N) 71 [] 0 := by
 refine ⟨_, Tryz.underlying71, (show _ = 3 by kernel_rfl).trans (szB_target (N := N)).symm, rfl, ?_⟩
 refine ⟨_, _, rfl, (by first | rfl | simp [Shape.sz, sz_lin, sz_metric, sz_typ, sz_flow, sz_index, sz_mono, sz_axiom]), by kernel_rfl, rfl, rfl, Tryz.underlying3, ?_⟩
 refine ⟨_, _, rfl, (by first | rfl | simp [Shape.sz, sz_lin, sz_metric, sz_typ, sz_flow, sz_index, sz_mono, sz_axiom]), by kernel_rfl, rfl, rfl, ⟨_, Tryz.underlying69, (show _ = 6 by kernel_rfl).trans szB_use.symm, rfl, by rw [szB_use]; decide, (fit_use N ((F - 1) - 1) (by omega))⟩, ?_⟩
 refine ⟨_, _, rfl, (by first | rfl | simp [Shape.sz, sz_lin, sz_metric, sz_typ, sz_flow, sz_index, sz_mono, sz_axiom]), by kernel_rfl, rfl, rfl, ⟨_, Tryz.underlying48, (show _ = 5 by kernel_rfl).trans szB_term.symm, rfl, by rw [szB_term]; decide, (fit_term N ((F - 1) - 1) (by omega))⟩, ?_⟩
 rfl
set_option maxRecDepth 10000 in
theorem fit_axiom (F : Nat) : Fit F axS 134 [] 0 := by
 refine ⟨_, Tryz.underlying134, (show _ = 6 by kernel_rfl).trans sz_axiom.symm, rfl, ?_⟩
 refine ⟨_, _, rfl, (by first | rfl | simp [Shape.sz, sz_lin, sz_metric, sz_typ, sz_flow, sz_index, sz_mono, sz_axiom]), by kernel_rfl, rfl, rfl, Tryz.underlying3, ?_⟩
 refine ⟨_, _, rfl, (by first | rfl | simp [Shape.sz, sz_lin, sz_metric, sz_typ, sz_flow, sz_index, sz_mono, sz_axiom]), (show _ = 2 by kernel_rfl).trans sz_lin.symm, rfl, rfl, (fit_lin (F - 1)), ?_⟩
 refine ⟨_, _, rfl, (by first | rfl | simp [Shape.sz, sz_lin, sz_metric, sz_typ, sz_flow, sz_index, sz_mono, sz_axiom]), (show _ = 2 by kernel_rfl).trans sz_lin.symm, rfl, rfl, (fit_lin (F - 1)), ?_⟩
 refine ⟨_, _, rfl, (by first | rfl | simp [Shape.sz, sz_lin, sz_metric, sz_typ, sz_flow, sz_index, sz_mono, sz_axiom]), by kernel_rfl, rfl, rfl, Tryz.underlying3, ?_⟩
 rfl
set_option maxRecDepth 10000 in
theorem fit_axiomUse (N F : Nat) (h : F ≤ N) : Fit F (axuB N) 136 [] 0 := by
 refine ⟨_, Tryz.underlying136, (show _ = 13 by kernel_rfl).trans (szB_axiomUse (N := N)).symm, rfl, ?_⟩
 refine ⟨_, _, rfl, (by first | rfl | simp [Shape.sz, sz_lin, sz_metric, sz_typ, sz_flow, sz_index, sz_mono, sz_axiom]), (show _ = 6 by kernel_rfl).trans sz_axiom.symm, rfl, rfl, (fit_axiom (F - 1)), ?_⟩
 refine ⟨_, _, rfl, (by first | rfl | simp [Shape.sz, sz_lin, sz_metric, sz_typ, sz_flow, sz_index, sz_mono, sz_axiom]), by kernel_rfl, rfl, rfl, rfl, ?_⟩
 refine ⟨_, _, rfl, (by first | rfl | simp [Shape.sz, sz_lin, sz_metric, sz_typ, sz_flow, sz_index, sz_mono, sz_axiom]), (show _ = 2 by kernel_rfl).trans sz_mono.symm, rfl, rfl, (fit_mono N (F - 1) (by omega)), ?_⟩
 refine ⟨_, _, rfl, (by first | rfl | simp [Shape.sz, sz_lin, sz_metric, sz_typ, sz_flow, sz_index, sz_mono, sz_axiom]), by kernel_rfl, rfl, rfl, ⟨_, Tryz.underlying52, by kernel_rfl, rfl, by decide, rfl⟩, ?_⟩
 refine ⟨_, _, rfl, (by first | rfl | simp [Shape.sz, sz_lin, sz_metric, sz_typ, sz_flow, sz_index, sz_mono, sz_axiom]), by kernel_rfl, rfl, rfl, ⟨_, Tryz.underlying52, by kernel_rfl, rfl, by decide, rfl⟩, ?_⟩
 rfl
set_option maxRecDepth 10000 in
theorem fit_node (N F : Nat) (h : F ≤ N) : Fit F (nodeB N) 55 [] 0 := by
 refine ⟨_, Tryz.underlying55, (show _ = 11 by kernel_rfl).trans (szB_node (N := N)).symm, rfl, ?_⟩
 refine ⟨_, _, rfl, (by first | rfl | simp [Shape.sz, sz_lin, sz_metric, sz_typ, sz_flow, sz_index, sz_mono, sz_axiom]), by kernel_rfl, rfl, rfl, Tryz.underlying3, ?_⟩
 refine ⟨_, _, rfl, (by first | rfl | simp [Shape.sz, sz_lin, sz_metric, sz_typ, sz_flow, sz_index, sz_mono, sz_axiom]), by kernel_rfl, rfl, rfl, Tryz.underlying3, ?_⟩
 refine ⟨_, _, rfl, (by first | rfl | simp [Shape.sz, sz_lin, sz_metric, sz_typ, sz_flow, sz_index, sz_mono, sz_axiom]), by kernel_rfl, rfl, rfl, Tryz.underlying4, ?_⟩
 refine ⟨_, _, rfl, (by first | rfl | simp [Shape.sz, sz_lin, sz_metric, sz_typ, sz_flow, sz_index, sz_mono, sz_axiom]), by kernel_rfl, rfl, rfl, ⟨_, Tryz.underlying48, (show _ = 5 by kernel_rfl).trans szB_term.symm, rfl, by rw [szB_term]; decide, (fit_term N ((F - 1) - 1) (by omega))⟩, ?_⟩
 refine ⟨_, _, rfl, (by first | rfl | simp [Shape.sz, sz_lin, sz_metric, sz_typ, sz_flow, sz_index, sz_mono, sz_axiom]), by kernel_rfl, rfl, rfl, ⟨_, Tryz.underlying48, (show _ = 5 by kernel_rfl).trans szB_term.symm, rfl, by rw [szB_term]; decide, (fit_term N ((F - 1) - 1) (by omega))⟩, ?_⟩
 refine ⟨_, _, rfl, (by first | rfl | simp [Shape.sz, sz_lin, sz_metric, sz_typ, sz_flow, sz_index, sz_mono, sz_axiom]), by kernel_rfl, rfl, rfl, ⟨_, Tryz.underlying49, (show _ = 3 by kernel_rfl).trans szB_target.symm, rfl, by rw [szB_target]; decide, (fit_target N ((F - 1) - 1) (by omega))⟩, ?_⟩
 refine ⟨_, _, rfl, (by first | rfl | simp [Shape.sz, sz_lin, sz_metric, sz_typ, sz_flow, sz_index, sz_mono, sz_axiom]), by kernel_rfl, rfl, rfl, ⟨_, Tryz.underlying50, (show _ = 6 by kernel_rfl).trans szB_part.symm, rfl, by rw [szB_part]; decide, (fit_part N ((F - 1) - 1) (by omega))⟩, ?_⟩
 refine ⟨_, _, rfl, (by first | rfl | simp [Shape.sz, sz_lin, sz_metric, sz_typ, sz_flow, sz_index, sz_mono, sz_axiom]), by kernel_rfl, rfl, rfl, ⟨_, Tryz.underlying48, (show _ = 5 by kernel_rfl).trans szB_term.symm, rfl, by rw [szB_term]; decide, (fit_term N ((F - 1) - 1) (by omega))⟩, ?_⟩
 refine ⟨_, _, rfl, (by first | rfl | simp [Shape.sz, sz_lin, sz_metric, sz_typ, sz_flow, sz_index, sz_mono, sz_axiom]), by kernel_rfl, rfl, rfl, ⟨_, Tryz.underlying51, by kernel_rfl, rfl, by decide, Tryz.underlying3⟩, ?_⟩
 refine ⟨_, _, rfl, (by first | rfl | simp [Shape.sz, sz_lin, sz_metric, sz_typ, sz_flow, sz_index, sz_mono, sz_axiom]), by kernel_rfl, rfl, rfl, ⟨_, Tryz.underlying52, by kernel_rfl, rfl, by decide, rfl⟩, ?_⟩
 refine ⟨_, _, rfl, (by first | rfl | simp [Shape.sz, sz_lin, sz_metric, sz_typ, sz_flow, sz_index, sz_mono, sz_axiom]), by kernel_rfl, rfl, rfl, ⟨_, Tryz.underlying53, by kernel_rfl, rfl, Nat.zero_lt_one, ⟨_, Tryz.underlying74, (show _ = 13 by kernel_rfl).trans szB_axiomUse.symm, rfl, by rw [szB_axiomUse]; decide, (fit_axiomUse N (((F - 1) - 1) - 1) (by omega))⟩⟩, ?_⟩
 rfl
set_option maxRecDepth 10000 in
theorem fit_claim (F : Nat) : Fit F claimS 99 [] 0 := by
 refine ⟨_, Tryz.underlying99, (show _ = 2 by kernel_rfl).trans sz_claim.symm, rfl, ?_⟩
 refine ⟨_, _, rfl, (by first | rfl | simp [Shape.sz, sz_lin, sz_metric, sz_typ, sz_flow, sz_index, sz_mono, sz_axiom]), by kernel_rfl, rfl, rfl, Tryz.underlying3, ?_⟩
 refine ⟨_, _, rfl, (by first | rfl | simp [Shape.sz, sz_lin, sz_metric, sz_typ, sz_flow, sz_index, sz_mono, sz_axiom]), by kernel_rfl, rfl, rfl, Tryz.underlying3, ?_⟩
 rfl
set_option maxRecDepth 10000 in
theorem fit_cert (N F : Nat) (h : F ≤ N) : Fit F (certB N) 33 [] 0 := by
 refine ⟨_, Tryz.underlying33, (show _ = 9 by kernel_rfl).trans (szB_cert (N := N)).symm, rfl, ?_⟩
 refine ⟨_, _, rfl, (by first | rfl | simp [Shape.sz, sz_lin, sz_metric, sz_typ, sz_flow, sz_index, sz_mono, sz_axiom]), by kernel_rfl, rfl, rfl, Tryz.underlying4, ?_⟩
 refine ⟨_, _, rfl, (by first | rfl | simp [Shape.sz, sz_lin, sz_metric, sz_typ, sz_flow, sz_index, sz_mono, sz_axiom]), (show _ = 2 by kernel_rfl).trans sz_metric.symm, rfl, rfl, (fit_metric (F - 1)), ?_⟩
 refine ⟨_, _, rfl, (by first | rfl | simp [Shape.sz, sz_lin, sz_metric, sz_typ, sz_flow, sz_index, sz_mono, sz_axiom]), by kernel_rfl, rfl, rfl, ⟨_, Tryz.underlying25, (show _ = 2 by kernel_rfl).trans sz_relation.symm, rfl, by rw [sz_relation]; decide, (fit_relation ((F - 1) - 1))⟩, ?_⟩
 refine ⟨_, _, rfl, (by first | rfl | simp [Shape.sz, sz_lin, sz_metric, sz_typ, sz_flow, sz_index, sz_mono, sz_axiom]), (show _ = 3 by kernel_rfl).trans sz_flow.symm, rfl, rfl, (fit_flow N (F - 1) (by omega)), ?_⟩
 refine ⟨_, _, rfl, (by first | rfl | simp [Shape.sz, sz_lin, sz_metric, sz_typ, sz_flow, sz_index, sz_mono, sz_axiom]), by kernel_rfl, rfl, rfl, ⟨_, Tryz.underlying30, (show _ = 11 by kernel_rfl).trans szB_node.symm, rfl, by rw [szB_node]; decide, (fit_node N ((F - 1) - 1) (by omega))⟩, ?_⟩
 refine ⟨_, _, rfl, (by first | rfl | simp [Shape.sz, sz_lin, sz_metric, sz_typ, sz_flow, sz_index, sz_mono, sz_axiom]), by kernel_rfl, rfl, rfl, ⟨_, Tryz.underlying31, (show _ = 2 by kernel_rfl).trans sz_claim.symm, rfl, by rw [sz_claim]; decide, (fit_claim ((F - 1) - 1))⟩, ?_⟩
 rfl
theorem open_cert {H : Type} {enc : TypeId × Value → H} {W : World} {base : Nat} {spare : Nat → Bool} {held : Bool} {v : Value} {d : DataW H} {p : List MemPlace} (h : DataW.Trod enc Tryz.prog W base spare held 33 v d p) :
    ∃ N t, Rep W (fun _ => True) (certB N) v.cells.toList [t] := by
  obtain ⟨N, hN⟩ := h
  obtain ⟨t, ht⟩ := (open_shape (certB N) N 33 [] 0 _ (fit_cert N N (Nat.le_refl _))).1 rfl _ hN
  exact ⟨N, t, ht⟩
end Go.Proofs.YtpbdkkoanedimaaGreatDoor
