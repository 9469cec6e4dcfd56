/-
  Audits: from the row's hypotheses to what the walk wants of the package-level variables and of the arguments.
-/
import Derived.Test.YtgheaoaicbkaoaaGreatDoorRows
import Derived.Test.YtgheaoaicbkaoaaGreatDoorMAu
import Derived.Lib.LaidTab
import Derived.Shelf.Vars
import Derived.Stop.LaidErr
import Derived.Lib.SmallJoins
import Derived.LaidLaws
import Derived.LaidHandle
import Derived.SizedLaws
import Derived.HandedShaped
import Derived.Handed
import Derived.Lay
import Derived.RowKit
import Derived.ProofKit
import Derived.OpenShut
namespace Go.Proofs.YtgheaoaicbkaoaaGreatDoor
open Go.RowKit AC Go.ChangeShapes Go.WideShapes Go.Deep
set_option linter.unusedVariables false
set_option linter.unusedSimpArgs false

/-- What the law lists. -/
def laidL : List (String × DataW Unit) := [("math/bits.deBruijn32tab", Rows.laid_math_bits_deBruijn32tab), ("math/bits.deBruijn64tab", Rows.laid_math_bits_deBruijn64tab), ("internal/strconv.uint64pow10", Rows.laid_internal_strconv_uint64pow10), ("amortcost/eval.steps", Rows.laid_amortcost_eval_steps)]
def stepsZ : List Int := [0, 0, 0, 0, 1, 2, 3, 7, 4, 6, 5, 12, 9, 10, 8, 13, 14, 15, 16, 17, 18, 19, 20, 21, 22]
theorem gSt : Tryz.prog.globalNamed "amortcost/eval.steps" = some 0 := by kernel_rfl
theorem gStT : (Tryz.prog.globals[0]?).map (·.type) = some 272 := by kernel_rfl
theorem cInt : Tryz.prog.cellsOf 3 = 1 := by kernel_rfl
theorem cI64 : Tryz.prog.cellsOf 2 = 1 := by kernel_rfl
theorem cSt : Tryz.prog.cellsOf 272 = 25 := by kernel_rfl
theorem cPt : Tryz.prog.cellsOf 29 = 6 := by kernel_rfl
theorem gRow : (((begin Tryz.prog (fun _ _ => 0) default).world.heap[0]?).bind Obj.row?).map (·.2) = some 272 := by kernel_rfl
theorem gSize : Tryz.prog.globals.size = 4 := by kernel_rfl
theorem glA_of {W : World} (hL : laidMetH Tryz.prog laidL W) (hs : W.ShapedOpen Tryz.prog) : GlA W := by
  have h' : laidMet Tryz.prog laidL W := hL
  have h3 : laidMet Tryz.prog [("amortcost/eval.steps", Lib.tabData .i64 stepsZ)] W := h'.tail.tail.tail
  have h4 := Lib.tabIs_of_head gSt gStT Tryz.underlying272 Tryz.underlying3 cInt cSt h3
  obtain ⟨⟨zero, t⟩, h0, ht⟩ := Option.map_eq_some_iff.1 gRow
  have ht : t = 272 := ht
  subst ht
  obtain ⟨cs, hh, _⟩ := hs.1 0 zero 272 (by rw [gSize]; decide) h0
  unfold Lib.TabIs World.var? at h4
  rw [gSt] at h4
  simp only [Option.bind_some, hh, Option.some.injEq] at h4
  unfold GlA
  rw [hh, h4]
  rfl

section
variable {H : Type} {enc : TypeId × Value → H} {W : World} {base : Nat} {spare : Nat → Bool} {held : Bool}
set_option maxRecDepth 100000 in
/-- A point. -/
theorem open_point {n : Nat} {cs : List Value} {x : DataW H × List MemPlace} (h : DataW.trod enc Tryz.prog W base spare held n 29 cs = some x) :
    ∃ (nd kd ct : Int) (s : Bool) (An : Option Addr) (kn cn : Nat) (Ad : Option Addr) (km cm : Nat) (q : Rat), cs = [.int .i64 nd, .int .i64 kd, .int .i64 ct, .bool s, .slice An kn cn, .slice Ad km cm] ∧ (-9223372036854775808 ≤ ct ∧ ct ≤ 9223372036854775807) ∧ RatV W 0 (.agg #[.bool s, .slice An kn cn, .slice Ad km cm]) maxLen q := by
  obtain ⟨y0, y1, y2, y3, m, _, hl, h0, h1, h2, h3⟩ := Go.Joins.trod_struct4 Tryz.underlying29 h
  rw [cPt] at hl
  match cs, hl with
  | [c0, c1, c2, c3, c4, c5], _ =>
    have e0 := h0
    have e1 := h1
    have e2 := h2
    have e3 := h3
    simp only [cInt, cI64, cells_rat, List.drop_zero, List.take_succ_cons, List.take_zero, List.drop_succ_cons] at e0 e1 e2 e3
    obtain ⟨nd, f0, _, _⟩ := DataW.trod_int Tryz.underlying3 e0
    obtain ⟨kd, f1, _, _⟩ := DataW.trod_int Tryz.underlying3 e1
    obtain ⟨ct, f2, _, hct⟩ := DataW.trod_int Tryz.underlying2 e2
    obtain ⟨s, An, kn, cn, Ad, km, cm, q, f3, hq⟩ := open_rat e3
    injection f0 with f0 _
    injection f1 with f1 _
    injection f2 with f2 _
    injection f3 with f3 f4
    injection f4 with f4 f5
    injection f5 with f5 _
    subst f0
    subst f1
    subst f2
    subst f3
    subst f4
    subst f5
    exact ⟨nd, kd, ct, s, An, kn, cn, Ad, km, cm, q, rfl, bounds_i64 hct, hq⟩
set_option maxRecDepth 100000 in
/-- A list of them. -/
theorem open_points {v : Value} {d : DataW H} {p : List MemPlace} (h : DataW.Trod enc Tryz.prog W base spare held 22 v d p) (hv : ∃ A k c, v = .slice A k c) :
    ∃ (k : Nat) (nd kd ct : Nat → Int) (r : Nat → Rat), PtsV W 0 v k maxLen nd kd ct r := by
  obtain ⟨A, k, c, rfl⟩ := hv
  obtain ⟨fuel, hf⟩ := h
  rcases open_slice Tryz.underlying22 hf with ⟨hcs, _⟩ | ⟨a, len, cap, m, n, D, Pl, hcs, _, hl, hm, hmm, _, hel⟩
  · simp [Value.cells] at hcs
    obtain ⟨rfl, rfl, rfl⟩ := hcs
    exact ⟨0, fun _ => 0, fun _ => 0, fun _ => 0, fun _ => 0, none, 0, rfl, Nat.le_refl _, Nat.zero_le _, fun h => absurd h (by omega)⟩
  · simp [Value.cells] at hcs
    obtain ⟨rfl, rfl, rfl⟩ := hcs
    have hlm : k ≤ m := by rw [hmm]; split <;> omega
    have key : ∀ i, ∃ z : Int × Int × Int × Rat, i < k → ∃ (s : Bool) (An : Option Addr) (kn cn : Nat) (Ad : Option Addr) (km cm : Nat), W.cell? (a.add (i * 6)) = some (.int .i64 z.1) ∧ W.cell? (a.add (i * 6 + 1)) = some (.int .i64 z.2.1) ∧ W.cell? (a.add (i * 6 + 2)) = some (.int .i64 z.2.2.1) ∧ W.cell? (a.add (i * 6 + 3)) = some (.bool s) ∧ W.cell? (a.add (i * 6 + 4)) = some (.slice An kn cn) ∧ W.cell? (a.add (i * 6 + 5)) = some (.slice Ad km cm) ∧
        (-9223372036854775808 ≤ z.2.2.1 ∧ z.2.2.1 ≤ 9223372036854775807) ∧ RatV W 0 (.agg #[.bool s, .slice An kn cn, .slice Ad km cm]) maxLen z.2.2.2 := by
      intro i
      by_cases hi : i < k
      · obtain ⟨cs', hc, ht⟩ := hel i (by omega)
        obtain ⟨nd, kd, ct, s, An, kn, cn, Ad, km, cm, q, rfl, hct, hq⟩ := open_point ht
        rw [cPt] at hc
        obtain ⟨_, _, hat⟩ := World.cells?_some hc
        refine ⟨(nd, kd, ct, q), fun _ => ⟨s, An, kn, cn, Ad, km, cm, ?_, ?_, ?_, ?_, ?_, ?_, hct, hq⟩⟩
        · have := hat 0 (by omega); rw [Go.Deep.add_add] at this; exact this
        · have := hat 1 (by omega); rw [Go.Deep.add_add] at this; exact this
        · have := hat 2 (by omega); rw [Go.Deep.add_add] at this; exact this
        · have := hat 3 (by omega); rw [Go.Deep.add_add] at this; exact this
        · have := hat 4 (by omega); rw [Go.Deep.add_add] at this; exact this
        · have := hat 5 (by omega); rw [Go.Deep.add_add] at this; exact this
      · exact ⟨(0, 0, 0, 0), fun h => absurd h hi⟩
    obtain ⟨z, hz⟩ := Classical.axiomOfChoice key
    refine ⟨k, fun i => (z i).1, fun i => (z i).2.1, fun i => (z i).2.2.1, fun i => (z i).2.2.2, _, _, rfl, hl, hm, fun h0 => ?_⟩
    obtain ⟨s, _, _, _, _, _, _, h1, _⟩ := hz 0 h0
    have hs : a.spot = none := by simpa [Addr.add] using World.cell?_spot h1
    obtain ⟨b, off, spot⟩ := a
    simp only at hs
    subst hs
    refine ⟨b, off, rfl, Nat.zero_le _, by have := cell_lt h1; simpa [Addr.add] using this, fun i hi => ?_⟩
    obtain ⟨s, An, kn, cn, Ad, km, cm, h1, h2, h3, h4, h5, h6, h7, h8⟩ := hz i hi
    rw [Addr.add_lit] at h1 h2 h3 h4 h5 h6
    exact ⟨s, An, kn, cn, Ad, km, cm, h1, h2, h3, h4, h5, h6, h7, h8⟩
end

/-- The wrap, with what the row lists and with the world's shape. -/
theorem returnsIn_listed {H : Type} {enc : TypeId × Value → H} {a : Assume} {C : Checked} {os : Os} {f : FuncId} {fn : Func} {s : ChangeSpec} {conds : List PathCond} {apart fresh handsOn again : Bool} {X : World → Array Value → Prop}
    (hX : ∀ (w w' : World) (args : Array Value), w.heap = w'.heap → X w args → X w' args)
    (own : ownKnob C.prog.godebug = none) (started : os.Started) (noInit : C.prog.inits.idxOf? f = none) (hfn : C.prog.funcs[f]? = some fn)
    (witness : ∃ (w : World) (tape : Tape) (i : Input), w.os = os ∧ (w.forCall tape i).Shaped C.prog ∧ i.vars = [] ∧ Input.okWide C.prog (w.forCall tape i) .any w.heap.size f i ∧
      ((s.pre enc C.prog fn conds apart (w.forCall tape i).memory i.args ∧ X (w.forCall tape i).memory i.args) ∧ sizedMet enc C.prog fn (OpenSpec.ofChange s) apart (w.forCall tape i).memory i.args) ∧ a.holds C.prog (lone (Frame.enter C.prog f i.args .normal) [] (w.forCall tape i)))
    (contract : ∀ (W : World) (base : Nat) (args : Array Value) (ds gs : List (DataW H)) (before : List MemPlace),
      (∀ (j : Nat) t v, fn.params[j]? = some t → args[j]? = some v → Value.okWide C.prog W .any base t v) →
      DataW.Whole enc C.prog fn.params.toList s.vars apart W args.toList ds gs before →
      (DataW.weightsEach C.prog (fn.params.toList ++ s.plain.varTypes C.prog) (ds ++ gs)).all (· ≤ reachBytes) = true → X W args → W.ShapedOpen C.prog →
      Calls C.prog f args W fun e W' => ∃ v, e = .returned v ∧ s.post enc C.prog fn apart fresh handsOn again W args v W') :
    ReturnsInHanded a C os f .any (fun w args => (s.pre enc C.prog fn conds apart w args ∧ X w args) ∧ sizedMet enc C.prog fn (OpenSpec.ofChange s) apart w args) (s.post enc C.prog fn apart fresh handsOn again) := by
  refine returnsInHanded_of_calls own started noInit witness ?_
  intro w tape i _ hsh _ hok hpre _
  obtain ⟨_, _, _, fn', hfn', _, _, _, _, hval⟩ := hok
  have e : fn' = fn := Option.some.inj (hfn'.symm.trans hfn)
  subst e
  obtain ⟨⟨⟨ds, gs, before, hw, hc⟩, hx⟩, hz⟩ := hpre
  have hw' := DataW.Whole.of_heap (w' := w.forCall tape i) (by rfl) hw
  refine (contract (w.forCall tape i) w.heap.size i.args ds gs before hval hw' (hz.weights hw) (hX _ _ _ (by rfl) hx) hsh).mono fun e W' ⟨v, he, hp⟩ => ?_
  subst he
  exact ChangeSpec.post_blind hp

theorem own : ownKnob Tryz.prog.godebug = none := by kernel_rfl
theorem met (os : Os) (args : Array Value) : laidMetH Tryz.prog laidL ((World.laidAll Tryz.prog os laidL).forCall (fun _ _ => 0) ⟨#[], args, []⟩).memory :=
  laidMet_laidAll args (by kernel_rfl) (by kernel_rfl)
theorem laidOut : laidOutB Tryz.prog = true := by kernel_rfl
end Go.Proofs.YtgheaoaicbkaoaaGreatDoor

