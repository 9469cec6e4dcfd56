/-
  The parts of a core program that hold nothing are valid.
-/
import Derived.Test.YtdbiedpdibjdlaaGreatMGg
import Derived.Laws.MakeOwn
import Derived.Test.YtdbiedpdibjdlaaGreatMGuard
import Derived.Test.YtdbiedpdibjdlaaGreatMHf
namespace Go.Proofs.YtdbiedpdibjdlaaGreat
open Go.RowKit AC
set_option linter.unusedVariables false
set_option linter.unusedSimpArgs false

/-- A core program that holds data types alone. -/
def core0 (A : Option Addr) (len cap : Nat) : Array Value := #[.slice A len cap, .slice none 0 0, .slice none 0 0, .slice none 0 0]
theorem TrS.nil (w : World) (D : Nat → Prop) : TrS w D [] none 0 0 := ⟨rfl, Nat.le_refl _, by unfold maxLen; omega, fun h => absurd h (by omega)⟩
theorem mk0 (t e : TypeId) (ht : Tryz.prog.underlying t = some (.slice e)) (sz by_ : Nat) (hinfo : (Tryz.prog.info? e).map (fun i => (i.size, i.bytes, i.zero.map fun z => z.cells.size)) = some (sz, by_, some sz)) (w : World) :
    (Instr.makeSlice t (.int .i64 0) (.int .i64 0)).run Tryz.prog w = .ok (.slice (some ⟨w.heap.size, 0, none⟩) 0 0) (w.alloc (.cells #[] e)) := by
  obtain ⟨i, hi, hzz⟩ := Option.map_eq_some_iff.1 hinfo
  simp only [Prod.mk.injEq] at hzz
  obtain ⟨_, _, hzero⟩ := hzz
  obtain ⟨z, hz0, _⟩ := Option.map_eq_some_iff.1 hzero
  have := run_make w t e i z ht hi hz0 .i64 .i64 0 0 (by omega) (by omega) (by omega) (by omega)
  rw [show (0 : Int).toNat * i.size = 0 from by simp, Array.eq_empty_of_size_eq_zero (size_madeCells z.cells 0)] at this
  exact this
set_option maxHeartbeats 4000000 in
set_option maxRecDepth 100000 in
theorem validTree0 (A : Option Addr) (len cap : Nat) (w : World) : Calls Tryz.prog 69 #[.agg (core0 A len cap)] w (RetV (.bool true) w) := by
  unfold core0
  have hmk := mk0 83 4 Tryz.underlying83 1 1 (by kernel_rfl)
  go_enter Tryz.func69, Tryz.ntmps69
  go_wp2_with fail
  refine wp_loop_once ?_
  go_wp2_with fail
  refine wp_loop_once ?_
  go_wp2
  go_ret
  refine ⟨rfl, ?_⟩
  repeat first | exact Below.refl _ _ | refine Below.alloc ?_ (by first | (simp; done) | (simp; omega)) _ | refine Below.setCell ?_ (by first | (simp; done) | (simp; omega)) _
set_option maxHeartbeats 4000000 in
set_option maxRecDepth 100000 in
theorem validBinders0 (A : Option Addr) (len cap : Nat) (w : World) : Calls Tryz.prog 70 #[.agg (core0 A len cap)] w (RetV (.bool true) w) := by
  unfold core0
  have hmk := mk0 83 4 Tryz.underlying83 1 1 (by kernel_rfl)
  go_enter Tryz.func70, Tryz.ntmps70
  go_wp2_with fail
  refine wp_loop_once ?_
  go_wp2_with fail
  refine wp_loop_once ?_
  go_wp2
  go_ret
  refine ⟨rfl, ?_⟩
  repeat first | exact Below.refl _ _ | refine Below.alloc ?_ (by first | (simp; done) | (simp; omega)) _ | refine Below.setCell ?_ (by first | (simp; done) | (simp; omega)) _
set_option maxHeartbeats 4000000 in
set_option maxRecDepth 100000 in
theorem validScopes0 (A : Option Addr) (len cap : Nat) (w : World) : Calls Tryz.prog 71 #[.agg (core0 A len cap)] w (RetV (.bool true) w) := by
  unfold core0
  have hmk := mk0 83 4 Tryz.underlying83 1 1 (by kernel_rfl)
  go_enter Tryz.func71, Tryz.ntmps71
  go_wp2_with fail
  refine wp_loop_once ?_
  go_wp2
  go_ret
  refine ⟨rfl, ?_⟩
  repeat first | exact Below.refl _ _ | refine Below.alloc ?_ (by first | (simp; done) | (simp; omega)) _ | refine Below.setCell ?_ (by first | (simp; done) | (simp; omega)) _
set_option maxHeartbeats 4000000 in
set_option maxRecDepth 100000 in
theorem validCodes0 (A : Option Addr) (len cap : Nat) (w : World) : Calls Tryz.prog 68 #[.agg (core0 A len cap)] w (RetV (.bool true) w) := by
  unfold core0
  have hmp : ∀ w : World, (Instr.makeMap 134 none).run Tryz.prog w = .ok (.map (some w.heap.size)) (w.alloc (.map #[] 0)) := fun _ => rfl
  go_enter Tryz.func68, Tryz.ntmps68
  go_wp2_with fail
  refine wp_loop_once ?_
  go_wp2
  go_ret
  refine ⟨rfl, ?_⟩
  repeat first | exact Below.refl _ _ | refine Below.alloc ?_ (by first | (simp; done) | (simp; omega)) _ | refine Below.setCell ?_ (by first | (simp; done) | (simp; omega)) _
set_option maxHeartbeats 4000000 in
set_option maxRecDepth 100000 in
theorem validVars0 (A : Option Addr) (len cap : Nat) (w : World) : Calls Tryz.prog 67 #[.agg (core0 A len cap)] w (RetV (.bool true) w) := by
  unfold core0
  go_enter Tryz.func67, Tryz.ntmps67
  go_wp2_with fail
  refine (containsT_any (fun _ => True) [] none 0 0 95 #[] _ (fun _ w' => Below w.heap.size w w') (fun _ => False) (fun _ w' _ => TrS.nil w' _) ⟨enters_of Tryz.func95 (by kernel_rfl) rfl, fun i hi => absurd hi (by simp)⟩ _ ((Below.refl _ _).alloc (Nat.le_refl _) _)).mono ?_
  rintro e w2 (⟨rfl, hf⟩ | ⟨rfl, hb⟩)
  · exact hf.elim
  · have HB := Lib.hid hb
    clear hb
    go_wp2
    go_ret
    exact ⟨rfl, HB.out⟩
end Go.Proofs.YtdbiedpdibjdlaaGreat

/-
  The expressions of a core program that has none are valid (printed by gen_x.py).
-/
namespace Go.Proofs.YtdbiedpdibjdlaaGreat
open Go.RowKit AC
set_option linter.unusedVariables false
set_option linter.unusedSimpArgs false

set_option maxHeartbeats 4000000 in
set_option maxRecDepth 100000 in
theorem validExprs0 (A : Option Addr) (len cap : Nat) (w : World) : Calls Tryz.prog 72 #[.agg (core0 A len cap)] w (RetV (.bool true) w) := by
  unfold core0
  obtain ⟨C, hC⟩ : ∃ C, C = w.alloc (.cells #[.slice A len cap, .slice none 0 0, .slice none 0 0, .slice none 0 0] 94) := ⟨_, rfl⟩
  have HB0 : Hid (Below w.heap.size w C) := by rw [hC]; exact (Below.refl _ _).alloc (Nat.le_refl _) _
  have HBX : Hid (Bk C w.heap.size 94 #[.slice A len cap, .slice none 0 0, .slice none 0 0, .slice none 0 0]) := by rw [hC]; exact Bk.new _ _ _
  go_enter Tryz.func72, Tryz.ntmps72
  go_upto_region 1 with (fail)
  rw [← hC]
  clear hC
  refine wp_region_facts (by kernel_rfl) (by kernel_rfl) [8, 9, 10, 11, 12, 13, 14] 4 (by kernel_rfl) (fun io v x => match io with
    | 0 => v = .agg #[.slice A len cap, .slice none 0 0, .slice none 0 0, .slice none 0 0]
    | 1 => v = .pointer (some ⟨w.heap.size, 1, none⟩)
    | 2 => v = .slice none 0 0
    | 3 => v = .int .i64 0
    | 4 => ∃ n, v = .slice (some ⟨n, 0, none⟩) 0 0
    | 5 => ∃ n, v = .agg #[.slice A len cap, .slice none 0 0, .slice none 0 0, .slice none 0 0, .slice (some ⟨n, 0, none⟩) 0 0]
    | _ => ∃ b, v = .pointer (some ⟨b, 0, none⟩)) ?_ ?_ ?_
  · intro io v x x' hio h hb
    rcases io with _ | _ | _ | _ | _ | _ | io
    · exact h
    · exact h
    · exact h
    · exact h
    · exact h
    · exact h
    · exact h
  · intro io oo S x ho hio hbx hdep
    rcases io with _ | _ | _ | _ | _ | _ | _ | io
    · cases ho
      obtain ⟨hcx, _, _⟩ := (HBX.out.below hbx HBX.out.lt).facts
      refine opOk_plain rfl rfl fun KK hKK => ?_
      have HK := Lib.hid hKK
      clear hKK hdep hio
      simp only [putAll, Act.put, List.setIfInBounds_toArray, List.set_cons_succ, List.set_cons_zero, List.getD_cons_zero, List.getD_cons_succ, Nat.zero_add, Nat.reduceAdd] at HK ⊢
      go_wp2
      exact HK.out _ _ ⟨_, rfl, rfl, Below.refl _ _⟩
    · cases ho
      refine opOk_plain rfl rfl fun KK hKK => ?_
      have HK := Lib.hid hKK
      clear hKK hdep hio
      simp only [putAll, Act.put, List.setIfInBounds_toArray, List.set_cons_succ, List.set_cons_zero, List.getD_cons_zero, List.getD_cons_succ, Nat.zero_add, Nat.reduceAdd] at HK ⊢
      go_wp2
      exact HK.out _ _ ⟨_, rfl, rfl, Below.refl _ _⟩
    · cases ho
      have h1 : S 1 = .pointer (some ⟨w.heap.size, 1, none⟩) := hdep 1 (by kernel_rfl) (by decide)
      obtain ⟨hcx, _, _⟩ := (HBX.out.below hbx HBX.out.lt).facts
      refine opOk_plain rfl rfl fun KK hKK => ?_
      have HK := Lib.hid hKK
      clear hKK hdep hio
      simp only [putAll, Act.put, List.setIfInBounds_toArray, List.set_cons_succ, List.set_cons_zero, List.getD_cons_zero, List.getD_cons_succ, Nat.zero_add, Nat.reduceAdd] at HK ⊢
      generalize S 1 = t1 at *
      subst h1
      go_wp2
      exact HK.out _ _ ⟨_, rfl, rfl, Below.refl _ _⟩
    · cases ho
      have h2 : S 2 = .slice none 0 0 := hdep 2 (by kernel_rfl) (by decide)
      refine opOk_plain rfl rfl fun KK hKK => ?_
      have HK := Lib.hid hKK
      clear hKK hdep hio
      simp only [putAll, Act.put, List.setIfInBounds_toArray, List.set_cons_succ, List.set_cons_zero, List.getD_cons_zero, List.getD_cons_succ, Nat.zero_add, Nat.reduceAdd] at HK ⊢
      generalize S 2 = t2 at *
      subst h2
      go_wp2
      exact HK.out _ _ ⟨_, rfl, rfl, Below.refl _ _⟩
    · cases ho
      have h3 : S 3 = .int .i64 0 := hdep 3 (by kernel_rfl) (by decide)
      have hmk := mk0 57 3 Tryz.underlying57 1 8 (by kernel_rfl)
      refine opOk_plain rfl rfl fun KK hKK => ?_
      have HK := Lib.hid hKK
      clear hKK hdep hio
      simp only [putAll, Act.put, List.setIfInBounds_toArray, List.set_cons_succ, List.set_cons_zero, List.getD_cons_zero, List.getD_cons_succ, Nat.zero_add, Nat.reduceAdd] at HK ⊢
      generalize S 3 = t3 at *
      subst h3
      go_wp2
      exact HK.out _ _ ⟨_, rfl, ⟨_, rfl⟩, (Below.refl _ _).alloc (Nat.le_refl _) _⟩
    · cases ho
      have h0 : S 0 = .agg #[.slice A len cap, .slice none 0 0, .slice none 0 0, .slice none 0 0] := hdep 0 (by kernel_rfl) (by decide)
      have h4 : ∃ n, (S 4) = .slice (some ⟨n, 0, none⟩) 0 0 := hdep 4 (by kernel_rfl) (by decide)
      obtain ⟨n4, e4⟩ := h4
      refine opOk_plain rfl rfl fun KK hKK => ?_
      have HK := Lib.hid hKK
      clear hKK hdep hio
      simp only [putAll, Act.put, List.setIfInBounds_toArray, List.set_cons_succ, List.set_cons_zero, List.getD_cons_zero, List.getD_cons_succ, Nat.zero_add, Nat.reduceAdd] at HK ⊢
      generalize S 0 = t0 at *
      subst h0
      generalize S 4 = t4 at *
      subst e4
      go_wp2
      exact HK.out _ _ ⟨_, rfl, ⟨_, rfl⟩, Below.refl _ _⟩
    · cases ho
      have h5 : ∃ n, (S 5) = .agg #[.slice A len cap, .slice none 0 0, .slice none 0 0, .slice none 0 0, .slice (some ⟨n, 0, none⟩) 0 0] := hdep 5 (by kernel_rfl) (by decide)
      obtain ⟨n5, e5⟩ := h5
      refine opOk_plain rfl rfl fun KK hKK => ?_
      have HK := Lib.hid hKK
      clear hKK hdep hio
      simp only [putAll, Act.put, List.setIfInBounds_toArray, List.set_cons_succ, List.set_cons_zero, List.getD_cons_zero, List.getD_cons_succ, Nat.zero_add, Nat.reduceAdd] at HK ⊢
      generalize S 5 = t5 at *
      subst e5
      go_wp2
      exact HK.out _ _ ⟨_, rfl, ⟨_, rfl⟩, (Below.refl _ _).alloc (Nat.le_refl _) _⟩
    · exact absurd hio (by simp)
  · intro S x hbx hF
    have g0 : S 0 = .agg #[.slice A len cap, .slice none 0 0, .slice none 0 0, .slice none 0 0] := hF 0 (by decide)
    have g1 : S 1 = .pointer (some ⟨w.heap.size, 1, none⟩) := hF 1 (by decide)
    have g2 : S 2 = .slice none 0 0 := hF 2 (by decide)
    have g3 : S 3 = .int .i64 0 := hF 3 (by decide)
    have g4 : ∃ n, (S 4) = .slice (some ⟨n, 0, none⟩) 0 0 := hF 4 (by decide)
    have g5 : ∃ n, (S 5) = .agg #[.slice A len cap, .slice none 0 0, .slice none 0 0, .slice none 0 0, .slice (some ⟨n, 0, none⟩) 0 0] := hF 5 (by decide)
    have g6 : ∃ b, (S 6) = .pointer (some ⟨b, 0, none⟩) := hF 6 (by decide)
    clear hF
    simp only [putAll, Act.put, List.setIfInBounds_toArray, List.set_cons_succ, List.set_cons_zero, List.getD_cons_zero, List.getD_cons_succ, Nat.zero_add, Nat.reduceAdd, List.length_cons, List.length_nil, List.drop_succ_cons, List.drop_zero]
    generalize S 0 = t0 at *
    subst g0
    generalize S 1 = t1 at *
    subst g1
    generalize S 2 = t2 at *
    subst g2
    generalize S 3 = t3 at *
    subst g3
    generalize S 4 = t4 at *
    generalize S 5 = t5 at *
    generalize S 6 = t6 at *
    obtain ⟨n4, e4⟩ := g4
    subst e4
    obtain ⟨n5, e5⟩ := g5
    subst e5
    obtain ⟨b6, e6⟩ := g6
    subst e6
    obtain ⟨hcx, _, _⟩ := (HBX.out.below hbx HBX.out.lt).facts
    have HBW := Lib.hid (HB0.out.trans (hbx.mono HB0.out.size))
    clear hbx
    go_wp2_with fail
    refine wp_loop_once ?_
    go_wp2_with fail
    refine wp_loop_once ?_
    go_wp2
    go_ret
    exact ⟨rfl, HBW.out⟩
end Go.Proofs.YtdbiedpdibjdlaaGreat

/-
  core.Valid of a core program of data types alone, and known, sound: a type over valid data types.
-/
namespace Go.Proofs.YtdbiedpdibjdlaaGreat
open Go.RowKit AC
set_option linter.unusedVariables false
set_option linter.unusedSimpArgs false
set_option maxHeartbeats 8000000 in
set_option maxRecDepth 100000 in
theorem cvalid_any {D : Nat → Prop} {dat : List DaD} {A : Option Addr} {dl dc : Nat} (w : World) (hD : DaS w D dat A dl dc) :
    Calls Tryz.prog 41 #[.agg (core0 A dl dc)] w (RetV (.bool (dataOk dat)) w) := by
  have K1 := Lib.hid fun w => validVars0 A dl dc w
  have K2 := Lib.hid fun w => validCodes0 A dl dc w
  have K3 := Lib.hid fun w => validTree0 A dl dc w
  have K4 := Lib.hid fun w => validBinders0 A dl dc w
  have K5 := Lib.hid fun w => validScopes0 A dl dc w
  have K6 := Lib.hid fun w => validExprs0 A dl dc w
  unfold core0 at K1 K2 K3 K4 K5 K6 ⊢
  obtain ⟨C, hC⟩ : ∃ C, C = w.alloc (.cells #[.slice A dl dc, .slice none 0 0, .slice none 0 0, .slice none 0 0] 94) := ⟨_, rfl⟩
  have HB0 : Hid (Below w.heap.size w C) := by rw [hC]; exact (Below.refl _ _).alloc (Nat.le_refl _) _
  have HX0 : Hid (Bk C w.heap.size 94 #[.slice A dl dc, .slice none 0 0, .slice none 0 0, .slice none 0 0]) := by rw [hC]; exact Bk.new _ _ _
  have K0 := Lib.hid (validData_any C (hD.below HB0.out))
  clear hD
  generalize dataOk dat = q at *
  go_enter Tryz.func41, Tryz.ntmps41
  go_upto_region 1 with (fail)
  rw [← hC]
  clear hC
  obtain ⟨hx0, _, _⟩ := HX0.out.facts
  go_wp2_with fail
  refine K0.out.mono ?_
  rintro e w1 ⟨rfl, hb⟩
  have HB1 := Lib.hid (HB0.out.trans (hb.mono HB0.out.size))
  have HX1 := Lib.hid (HX0.out.below hb HX0.out.lt)
  clear hb hx0
  cases q with
  | false =>
    go_wp2
    go_ret
    exact ⟨rfl, HB1.out⟩
  | true =>
    obtain ⟨hx1, _, _⟩ := HX1.out.facts
    go_wp2_with fail
    refine (K1.out _).mono ?_
    rintro e w2 ⟨rfl, hb⟩
    have HB2 := Lib.hid (HB1.out.trans (hb.mono HB1.out.size))
    have HX2 := Lib.hid (HX1.out.below hb HX1.out.lt)
    clear hb hx1
    obtain ⟨hx2, _, _⟩ := HX2.out.facts
    go_wp2_with fail
    refine (K2.out _).mono ?_
    rintro e w3 ⟨rfl, hb⟩
    have HB3 := Lib.hid (HB2.out.trans (hb.mono HB2.out.size))
    have HX3 := Lib.hid (HX2.out.below hb HX2.out.lt)
    clear hb hx2
    obtain ⟨hx3, _, _⟩ := HX3.out.facts
    go_wp2_with fail
    refine (K3.out _).mono ?_
    rintro e w4 ⟨rfl, hb⟩
    have HB4 := Lib.hid (HB3.out.trans (hb.mono HB3.out.size))
    have HX4 := Lib.hid (HX3.out.below hb HX3.out.lt)
    clear hb hx3
    obtain ⟨hx4, _, _⟩ := HX4.out.facts
    go_wp2_with fail
    refine (K4.out _).mono ?_
    rintro e w5 ⟨rfl, hb⟩
    have HB5 := Lib.hid (HB4.out.trans (hb.mono HB4.out.size))
    have HX5 := Lib.hid (HX4.out.below hb HX4.out.lt)
    clear hb hx4
    obtain ⟨hx5, _, _⟩ := HX5.out.facts
    go_wp2_with fail
    refine (K5.out _).mono ?_
    rintro e w6 ⟨rfl, hb⟩
    have HB6 := Lib.hid (HB5.out.trans (hb.mono HB5.out.size))
    have HX6 := Lib.hid (HX5.out.below hb HX5.out.lt)
    clear hb hx5
    obtain ⟨hx6, _, _⟩ := HX6.out.facts
    go_wp2_with fail
    refine (K6.out _).mono ?_
    rintro e w7 ⟨rfl, hb⟩
    have HB7 := Lib.hid (HB6.out.trans (hb.mono HB6.out.size))
    clear hb hx6
    go_wp2
    go_ret
    exact ⟨rfl, HB7.out⟩
/-- Are the data types valid, and the type over them? -/
noncomputable def knownB (dat : List DaD) (t : Tr) : Bool := dataOk dat && (validT dat 0 200 t).isSome
set_option maxHeartbeats 8000000 in
set_option maxRecDepth 100000 in
theorem known_any {D D' : Nat → Prop} {dat : List DaD} {A : Option Addr} {dl dc : Nat} (t : Tr) (w : World) (v : List Value) (hr : TrR w D' t v) (hD : DaS w D dat A dl dc) :
    Calls Tryz.prog 20 #[.slice A dl dc, .agg v.toArray] w (RetV (.bool (knownB dat t)) w) := by
  obtain ⟨B, len, cap, rfl, _, _, _⟩ := hr.form
  unfold knownB
  obtain ⟨C, hC⟩ : ∃ C, C = w.alloc (.cells #[.int .i64 t.k, .int .i64 t.m, .slice B len cap] 25) := ⟨_, rfl⟩
  have HB0 : Hid (Below w.heap.size w C) := by rw [hC]; exact (Below.refl _ _).alloc (Nat.le_refl _) _
  have HX0 : Hid (Bk C w.heap.size 25 #[.int .i64 t.k, .int .i64 t.m, .slice B len cap]) := by rw [hC]; exact Bk.new _ _ _
  have K0 := Lib.hid (cvalid_any C (hD.below HB0.out))
  have K1 : Hid (∀ x, Below w.heap.size w x → Calls Tryz.prog 42 #[.slice A dl dc, .agg #[.int .i64 t.k, .int .i64 t.m, .slice B len cap], .int .i64 0] x (RetV (.bool (validT dat 0 200 t).isSome) x)) :=
    fun x hx => tvalid_any (by unfold rng; omega) t x _ (hr.below hx) (hD.below hx)
  clear hD hr
  unfold core0 at K0
  show Calls Tryz.prog 20 #[.slice A dl dc, .agg #[.int .i64 t.k, .int .i64 t.m, .slice B len cap]] w _
  generalize dataOk dat = q at *
  generalize (validT dat 0 200 t).isSome = r at *
  generalize t.k = x0 at *
  generalize t.m = x1 at *
  go_enter Tryz.func20, Tryz.ntmps20
  go_upto_region 1 with (fail)
  rw [← hC]
  clear hC
  obtain ⟨hx0, _, _⟩ := HX0.out.facts
  go_wp2_with fail
  refine K0.out.mono ?_
  rintro e w1 ⟨rfl, hb⟩
  have HB1 := Lib.hid (HB0.out.trans (hb.mono HB0.out.size))
  have HX1 := Lib.hid (HX0.out.below hb HX0.out.lt)
  clear hb hx0
  cases q with
  | false =>
    go_wp2
    go_ret
    exact ⟨rfl, HB1.out⟩
  | true =>
    obtain ⟨hx1, _, _⟩ := HX1.out.facts
    go_wp2_with fail
    refine (K1.out _ HB1.out).mono ?_
    rintro e w2 ⟨rfl, hb⟩
    have HB2 := Lib.hid (HB1.out.trans (hb.mono HB1.out.size))
    clear hb hx1
    go_wp2
    go_ret
    exact ⟨rfl, HB2.out⟩
set_option maxHeartbeats 8000000 in
set_option maxRecDepth 100000 in
theorem sound_any {D D' : Nat → Prop} {dat : List DaD} {A : Option Addr} {dl dc : Nat} (t : Tr) (w : World) (v : List Value) (hr : TrR w D' t v) (hD : DaS w D dat A dl dc) :
    Calls Tryz.prog 35 #[.slice A dl dc, .agg v.toArray] w (RetV (.bool (knownB dat t)) w) := by
  obtain ⟨B, len, cap, rfl, _, _, _⟩ := hr.form
  unfold knownB
  obtain ⟨C, hC⟩ : ∃ C, C = w.alloc (.cells #[.int .i64 t.k, .int .i64 t.m, .slice B len cap] 25) := ⟨_, rfl⟩
  have HB0 : Hid (Below w.heap.size w C) := by rw [hC]; exact (Below.refl _ _).alloc (Nat.le_refl _) _
  have HX0 : Hid (Bk C w.heap.size 25 #[.int .i64 t.k, .int .i64 t.m, .slice B len cap]) := by rw [hC]; exact Bk.new _ _ _
  have K0 := Lib.hid (cvalid_any C (hD.below HB0.out))
  have K1 : Hid (∀ x, Below w.heap.size w x → Calls Tryz.prog 42 #[.slice A dl dc, .agg #[.int .i64 t.k, .int .i64 t.m, .slice B len cap], .int .i64 0] x (RetV (.bool (validT dat 0 200 t).isSome) x)) :=
    fun x hx => tvalid_any (by unfold rng; omega) t x _ (hr.below hx) (hD.below hx)
  clear hD hr
  unfold core0 at K0
  show Calls Tryz.prog 35 #[.slice A dl dc, .agg #[.int .i64 t.k, .int .i64 t.m, .slice B len cap]] w _
  generalize dataOk dat = q at *
  generalize (validT dat 0 200 t).isSome = r at *
  generalize t.k = x0 at *
  generalize t.m = x1 at *
  go_enter Tryz.func35, Tryz.ntmps35
  go_upto_region 1 with (fail)
  rw [← hC]
  clear hC
  obtain ⟨hx0, _, _⟩ := HX0.out.facts
  go_wp2_with fail
  refine K0.out.mono ?_
  rintro e w1 ⟨rfl, hb⟩
  have HB1 := Lib.hid (HB0.out.trans (hb.mono HB0.out.size))
  have HX1 := Lib.hid (HX0.out.below hb HX0.out.lt)
  clear hb hx0
  cases q with
  | false =>
    go_wp2
    go_ret
    exact ⟨rfl, HB1.out⟩
  | true =>
    obtain ⟨hx1, _, _⟩ := HX1.out.facts
    go_wp2_with fail
    refine (K1.out _ HB1.out).mono ?_
    rintro e w2 ⟨rfl, hb⟩
    have HB2 := Lib.hid (HB1.out.trans (hb.mono HB1.out.size))
    clear hb hx1
    go_wp2
    go_ret
    exact ⟨rfl, HB2.out⟩
end Go.Proofs.YtdbiedpdibjdlaaGreat

