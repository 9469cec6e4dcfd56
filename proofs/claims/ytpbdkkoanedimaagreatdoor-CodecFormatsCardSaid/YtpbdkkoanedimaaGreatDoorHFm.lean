/-
  From a row's hypotheses to what the walks want of the package-level variables; a world that fits.
-/
import Derived.Test.YtpbdkkoanedimaaGreatDoorRows
import Derived.Test.YtpbdkkoanedimaaGreatDoorHCRep
import Derived.Shelf.Vars
import Derived.Stop.LaidErr
import Derived.LaidLaws
import Derived.LaidHandle
import Derived.SizedLaws
import Derived.HandedShaped
import Derived.Handed
import Derived.Lay
import Derived.RowKit
import Derived.ProofKit
import Derived.OpenShut
import Derived.Test.YtpbdkkoanedimaaGreatDoorHKh
import Derived.Test.YtpbdkkoanedimaaGreatDoorHTg
import Derived.Test.YtpbdkkoanedimaaGreatDoorHTh
import Derived.Test.YtpbdkkoanedimaaGreatDoorHCAs
import Derived.Test.YtpbdkkoanedimaaGreatDoorCards
import Derived.Test.YtpbdkkoanedimaaGreatDoorTie
import Derived.Test.YtpbdkkoanedimaaGreatDoorHOpen
import Derived.SevenTiedAt
import Derived.ChangeMaps5
import Derived.ChangeOld
import Derived.ShutString
import Derived.Below
import Derived.Carry
import Derived.Test.YtpbdkkoanedimaaGreatDoorHFormatsE
namespace Go.Proofs.YtpbdkkoanedimaaGreatDoor
open Go.Lib (hid)
open Go.RowKit AC
set_option linter.unusedVariables false
set_option linter.unusedSimpArgs false
def laidL : List (String × DataW Unit) := [("math/bits.deBruijn32tab", Rows.laid_math_bits_deBruijn32tab), ("math/bits.deBruijn64tab", Rows.laid_math_bits_deBruijn64tab), ("internal/strconv.uint64pow10", Rows.laid_internal_strconv_uint64pow10), ("strconv.ErrRange", Rows.laid_strconv_ErrRange), ("strconv.ErrSyntax", Rows.laid_strconv_ErrSyntax)]
theorem gPow : Tryz.prog.globalNamed "internal/strconv.uint64pow10" = some 1 := by kernel_rfl
theorem gPowT : (Tryz.prog.globals[1]?).map (·.type) = some 323 := by kernel_rfl
theorem gER : Tryz.prog.globalNamed "strconv.ErrRange" = some 3 := by kernel_rfl
theorem gERT : (Tryz.prog.globals[3]?).map (·.type) = some 225 := by kernel_rfl
theorem gES : Tryz.prog.globalNamed "strconv.ErrSyntax" = some 2 := by kernel_rfl
theorem gEST : (Tryz.prog.globals[2]?).map (·.type) = some 225 := by kernel_rfl
theorem cEs : Tryz.prog.cellsOf 349 = 1 := by kernel_rfl
theorem cStr : Tryz.prog.cellsOf 9 = 1 := by kernel_rfl
theorem cU64 : Tryz.prog.cellsOf 201 = 1 := by kernel_rfl
theorem cTab : Tryz.prog.cellsOf 323 = 20 := by kernel_rfl
theorem star : "*" ++ "errors.errorString" = "*errors.errorString" := by decide
theorem rowEs (u : TypeId) (h : Tryz.prog.typeName? 3 u = some "*errors.errorString") : u = 347 :=
 typeName_ptr_named (nm := "errors.errorString") (by rw [star]; kernel_rfl) (by kernel_rfl) (by decide) u (by rw [star]; exact h)
theorem gMax : ((begin Tryz.prog (fun _ _ => 0) default).world.heap[0]?).bind Obj.row? = some (#[.int .i64 0], 3) := by kernel_rfl
theorem gLast : (((begin Tryz.prog (fun _ _ => 0) default).world.heap[GN - 1]?).bind Obj.row?).isSome = true := by kernel_rfl
theorem gl_of {W : World} (hL : laidMetH Tryz.prog laidL W) (hs : W.ShapedOpen Tryz.prog) : Gl W := by
 have h' : laidMet Tryz.prog laidL W := hL
 have h3 := h'.tail.tail
 have h4 := h3.tail
 have h5 := h4.tail
 refine ⟨Lib.tabIs_of_head gPow gPowT Tryz.underlying323 Tryz.underlying201 cU64 cTab h3, ?_, ?_, ?_, ?_⟩
 ·obtain ⟨a, s, hv, _⟩ := laid_sentinel h5 gES gEST Tryz.underlying225 rowEs Tryz.underlying347 Tryz.underlying349 rfl rfl Tryz.underlying9 cEs cStr
  exact ⟨_, _, hv⟩
 ·obtain ⟨a, s, hv, _⟩ := laid_sentinel h4 gER gERT Tryz.underlying225 rowEs Tryz.underlying347 Tryz.underlying349 rfl rfl Tryz.underlying9 cEs cStr
  exact ⟨_, _, hv⟩
 ·exact cell_of_shapedOpen_int hs (by rw [GN_eq]; decide) gMax rfl (by kernel_rfl) (by kernel_rfl) Tryz.underlying3
 ·obtain ⟨⟨zero, t⟩, h0⟩ := Option.isSome_iff_exists.1 gLast
  obtain ⟨cs, hh, _⟩ := hs.1 (GN - 1) zero t (by rw [GN_eq]; decide) h0
  have := (Array.getElem?_eq_some_iff.1 hh).1
  have : 0 < GN := by decide
  omega
theorem returnsIn_listed {H : Type} {enc : TypeId × Value → H} {a : Assume} {C : Checked} {os : Os} {f : FuncId} {fn : Func} {s : ChangeSpec} {conds : List PathCond} {apart fresh handsOn again : Bool} {X : World → Array Value → Prop}
    (hX : ∀ (w w' : World) (args : Array Value), w.heap = w'.heap → X w args → X w' args)
    (own : ownKnob C.prog.godebug = none) (started : os.Started) (noInit : C.prog.inits.idxOf? f = none) (hfn : C.prog.funcs[f]? = some fn)
    (witness : ∃ (w : World) (tape : Tape) (i : Input), w.os = os ∧ (w.forCall tape i).Shaped C.prog ∧ i.vars = [] ∧ Input.okWide C.prog (w.forCall tape i) .any w.heap.size f i ∧
      ((s.pre enc C.prog fn conds apart (w.forCall tape i).memory i.args ∧ X (w.forCall tape i).memory i.args) ∧ sizedMet enc C.prog fn (OpenSpec.ofChange s) apart (w.forCall tape i).memory i.args) ∧ a.holds C.prog (lone (Frame.enter C.prog f i.args .normal) [] (w.forCall tape i)))
    (contract : ∀ (W : World) (base : Nat) (args : Array Value) (ds gs : List (DataW H)) (before : List MemPlace),
      (∀ (j : Nat) t v, fn.params[j]? = some t → args[j]? = some v → Value.okWide C.prog W .any base t v) →
      DataW.Whole enc C.prog fn.params.toList s.vars apart W args.toList ds gs before →
      (DataW.weightsEach C.prog (fn.params.toList ++ s.plain.varTypes C.prog) (ds ++ gs)).all (· ≤ reachBytes) = true → X W args → W.ShapedOpen C.prog →
      Calls C.prog f args W fun e W' => ∃ v, e = .returned v ∧ s.post enc C.prog fn apart fresh handsOn again W args v W') :
    ReturnsInHanded a C os f .any (fun w args => (s.pre enc C.prog fn conds apart w args ∧ X w args) ∧ sizedMet enc C.prog fn (OpenSpec.ofChange s) apart w args) (s.post enc C.prog fn apart fresh handsOn again) := by
  refine returnsInHanded_of_calls own started noInit witness ?_
  intro w tape i _ hsh _ hok hpre _
  obtain ⟨_, _, _, fn', hfn', _, _, _, _, hval⟩ := hok
  have e : fn' = fn := Option.some.inj (hfn'.symm.trans hfn)
  subst e
  obtain ⟨⟨⟨ds, gs, before, hw, hc⟩, hx⟩, hz⟩ := hpre
  have hw' := DataW.Whole.of_heap (w' := w.forCall tape i) (by rfl) hw
  refine (contract (w.forCall tape i) w.heap.size i.args ds gs before hval hw' (hz.weights hw) (hX _ _ _ (by rfl) hx) hsh).mono fun e W' ⟨v, he, hp⟩ => ?_
  subst he
  exact ChangeSpec.post_blind hp
theorem own : ownKnob Tryz.prog.godebug = none := by kernel_rfl
theorem met (os : Os) (args : Array Value) : laidMetH Tryz.prog laidL ((World.laidAll Tryz.prog os laidL).forCall (fun _ _ => 0) ⟨#[], args, []⟩).memory :=
 laidMet_laidAll args (by kernel_rfl) (by kernel_rfl)
theorem t_Format (n : Nat) (w : World) (D : Nat → Prop) (v : List Value) (t : List UInt8) (hrep : Rep w D (certS n) v [t]) (hl : t.length ≤ MX) : Calls Tryz.prog 9 #[.agg v.toArray] w (CFPost t w) := t_FormatH n (t_node n) w D v t hrep hl
theorem ty_certB {n : Nat} {v : List Value} (h : Ty (certB n) v) : ∃ z0b z1A z1k z1c z2A z2k z2c z3A z3k z3c z4A z4k z4c z5A z5k z5c z6A z6k z6c z7A z7k z7c z8A z8k z8c, v = [.bool z0b, .slice z1A z1k z1c, .slice z2A z2k z2c, .slice z3A z3k z3c, .slice z4A z4k z4c, .slice z5A z5k z5c, .slice z6A z6k z6c, .slice z7A z7k z7c, .slice z8A z8k z8c] := by
 obtain ⟨l0, _, rfl, h0, l1, _, rfl, h1, l2, _, rfl, h2, l3, _, rfl, h3, l4, _, rfl, h4, l5, _, rfl, h5, rfl⟩ := h
 obtain ⟨z0b, rfl⟩ := ty_bool h0
 obtain ⟨z1A, z1k, z1c, z2A, z2k, z2c, rfl⟩ := ty_metric h1
 obtain ⟨z3A, z3k, z3c, rfl⟩ := ty_list h2
 obtain ⟨z4A, z4k, z4c, z5A, z5k, z5c, z6A, z6k, z6c, rfl⟩ := ty_flow h3
 obtain ⟨z7A, z7k, z7c, rfl⟩ := ty_list h4
 obtain ⟨z8A, z8k, z8c, rfl⟩ := ty_list h5
 exact ⟨z0b, z1A, z1k, z1c, z2A, z2k, z2c, z3A, z3k, z3c, z4A, z4k, z4c, z5A, z5k, z5c, z6A, z6k, z6c, z7A, z7k, z7c, z8A, z8k, z8c, rfl⟩
set_option maxHeartbeats 8000000 in
set_option maxRecDepth 100000 in
theorem formats_any (n : Nat) (w : World) (D : Nat → Prop) (v : List Value) (t : List UInt8) (hrep : Rep w D (certB n) v [t]) (hg : Gl w) :
 Calls Tryz.prog 3 #[.agg v.toArray] w (YesPost w) := by
 obtain ⟨z0b, z1A, z1k, z1c, z2A, z2k, z2c, z3A, z3k, z3c, z4A, z4k, z4c, z5A, z5k, z5c, z6A, z6k, z6c, z7A, z7k, z7c, z8A, z8k, z8c, rfl⟩ := ty_certB hrep.ty
 have HR := hid hrep
 have HG := hid hg
 clear hrep hg
 show Calls Tryz.prog 3 #[.agg #[.bool z0b, .slice z1A z1k z1c, .slice z2A z2k z2c, .slice z3A z3k z3c, .slice z4A z4k z4c, .slice z5A z5k z5c, .slice z6A z6k z6c, .slice z7A z7k z7c, .slice z8A z8k z8c]] w _
 go_enter Tryz.func3, Tryz.ntmps3
 go_upto_region 1 with (fail)
 obtain ⟨C, hC⟩ : ∃ C, C = w.alloc (.cells #[.bool z0b, .slice z1A z1k z1c, .slice z2A z2k z2c, .slice z3A z3k z3c, .slice z4A z4k z4c, .slice z5A z5k z5c, .slice z6A z6k z6c, .slice z7A z7k z7c, .slice z8A z8k z8c] 33) := ⟨_, rfl⟩
 have HB0 : Hid (Below w.heap.size w C) := by rw [hC]; exact (Below.refl _ _).alloc (Nat.le_refl _) _
 have HBX : Hid (Bk C w.heap.size 33 #[.bool z0b, .slice z1A z1k z1c, .slice z2A z2k z2c, .slice z3A z3k z3c, .slice z4A z4k z4c, .slice z5A z5k z5c, .slice z6A z6k z6c, .slice z7A z7k z7c, .slice z8A z8k z8c]) := by rw [hC]; exact Bk.new _ _ _
 have HG0 := hid (HG.out.below HB0.out)
 rw [← hC]
 clear hC
 go_wp2_with fail
 refine (csane_any _ HG0.out).mono ?_
 rintro e w1 ⟨rfl, hb1⟩
 have HB1 := hid (HB0.out.trans (hb1.mono HB0.out.size))
 have a0 := hid (HBX.out.below hb1 HBX.out.lt)
 obtain ⟨hc1, _, _⟩ := a0.out.facts
 have HG1 := hid (HG.out.below HB1.out)
 clear hb1
 go_wp2_with fail
 refine (show Calls _ _ #[.agg #[.bool z0b, .slice z1A z1k z1c, .slice z2A z2k z2c, .slice z3A z3k z3c, .slice z4A z4k z4c, .slice z5A z5k z5c, .slice z6A z6k z6c, .slice z7A z7k z7c, .slice z8A z8k z8c]] _ _ from kept_any n w _ D [.bool z0b, .slice z1A z1k z1c, .slice z2A z2k z2c, .slice z3A z3k z3c, .slice z4A z4k z4c, .slice z5A z5k z5c, .slice z6A z6k z6c, .slice z7A z7k z7c, .slice z8A z8k z8c] t HR.out HB1.out).mono ?_
 rintro e w2 ⟨bb, rfl, hT, hb2⟩
 have HB2 := hid (HB1.out.trans (hb2.mono HB1.out.size))
 have a1 := hid (a0.out.below hb2 a0.out.lt)
 obtain ⟨hc2, _, _⟩ := a1.out.facts
 have HG2 := hid (HG.out.below HB2.out)
 clear hb2 hc1
 cases bb with
 | false =>
  clear hT
  go_wp2
  go_ret
  exact ⟨rfl, HB2.out⟩
 | true =>
  have HT := hid (hT rfl)
  clear hT
  obtain ⟨X, hX⟩ : ∃ X : ByteArray, (⟨(if t.length ≤ 262144 then t else []).toArray⟩ : ByteArray) = X := ⟨_, rfl⟩
  obtain ⟨Y, hY⟩ : ∃ Y : Int, (if t.length ≤ 262144 then (0 : Int) else 9) = Y := ⟨_, rfl⟩
  have HX := hid hX
  have HY := hid hY
  clear hX hY
  go_wp2_with fail
  refine (show Calls _ _ #[.agg #[.bool z0b, .slice z1A z1k z1c, .slice z2A z2k z2c, .slice z3A z3k z3c, .slice z4A z4k z4c, .slice z5A z5k z5c, .slice z6A z6k z6c, .slice z7A z7k z7c, .slice z8A z8k z8c]] _ _ from formatC_any n _ D [.bool z0b, .slice z1A z1k z1c, .slice z2A z2k z2c, .slice z3A z3k z3c, .slice z4A z4k z4c, .slice z5A z5k z5c, .slice z6A z6k z6c, .slice z7A z7k z7c, .slice z8A z8k z8c] t (HT.out.1.below HB2.out) HG2.out).mono ?_
  rintro e w3 ⟨rfl, hb3⟩
  rw [HX.out, HY.out]
  have HB3 := hid (HB2.out.trans (hb3.mono HB2.out.size))
  have a2 := hid (a1.out.below hb3 a1.out.lt)
  obtain ⟨hc3, _, _⟩ := a2.out.facts
  clear hb3 hc2
  go_wp2_with fail
  refine (show Calls _ _ #[.agg #[.bool z0b, .slice z1A z1k z1c, .slice z2A z2k z2c, .slice z3A z3k z3c, .slice z4A z4k z4c, .slice z5A z5k z5c, .slice z6A z6k z6c, .slice z7A z7k z7c, .slice z8A z8k z8c]] _ _ from t_Format n _ D [.bool z0b, .slice z1A z1k z1c, .slice z2A z2k z2c, .slice z3A z3k z3c, .slice z4A z4k z4c, .slice z5A z5k z5c, .slice z6A z6k z6c, .slice z7A z7k z7c, .slice z8A z8k z8c] t (HT.out.1.below HB3.out) HT.out.2).mono ?_
  rintro e w4 ⟨rfl, hb4⟩
  rw [HX.out, HY.out]
  have HB4 := hid (HB3.out.trans (hb4.mono HB3.out.size))
  clear hb4 hc3
  go_wp2
  go_ret
  exact ⟨rfl, HB4.out⟩
theorem formats_arr (n : Nat) (w : World) (D : Nat → Prop) (cs : Array Value) (t : List UInt8) (hrep : Rep w D (certB n) cs.toList [t]) (hg : Gl w) :
 Calls Tryz.prog 3 #[.agg cs] w (YesPost w) := by
 have := formats_any n w D cs.toList t hrep hg
 simpa using this
end Go.Proofs.YtpbdkkoanedimaaGreatDoor
/-
  The text of every certificate of few parts is the one that the reference writes, or both say that it is too long: the law CodecFormats returns true for every certificate and leaves its argument as it was.
  Conditions: the listed package-level variables hold what the program's text lays (the card ties them).
-/
namespace Go.Proofs.YtpbdkkoanedimaaGreatDoor.codecFormatsDone
open Go.ChangeShapes Go.WideShapes Go.ChangeAt Go.RowKit AC
open Go.ChangeMaps (open_string shut_string)
set_option linter.unusedVariables false
set_option linter.unusedSimpArgs false
set_option maxRecDepth 100000 in
theorem lifted (os : Os) (started : os.Started) (H : Type) (enc : TypeId × Value → H) :
 ReturnsInHanded {} Tryz.checked os 3 .any (fun w args => (Rows.codecFormatsSpec.pre enc Tryz.prog Tryz.f3 [] false w args ∧ laidMetH Tryz.prog laidL w) ∧ sizedMet enc Tryz.prog Tryz.f3 (OpenSpec.ofChange Rows.codecFormatsSpec) false w args)
  (Rows.codecFormatsSpec.post enc Tryz.prog Tryz.f3 false true false false) := by
 refine returnsIn_listed (C := Tryz.checked) (X := fun w _ => laidMetH Tryz.prog laidL w) (fun _ _ _ hh h => h.of_heap hh) own started (by kernel_rfl) Tryz.func3
  (ChangeSpec.witness_at (enc := enc) (C := Tryz.checked) (os := os) (X := fun w _ => laidMetH Tryz.prog laidL w) false (World.laidAll Tryz.prog os laidL) #[.agg #[.bool false, .slice none 0 0, .slice none 0 0, .slice none 0 0, .slice none 0 0, .slice none 0 0, .slice none 0 0, .slice none 0 0, .slice none 0 0]] 8 (World.laidAll_os _ _ _) (by kernel_rfl) (by kernel_rfl) (by kernel_rfl) (by kernel_rfl) (by kernel_rfl) (met os _)) ?_
 intro W base args ds gs before hval0 hW hsz hL hsh
 have hval : ∀ (j : Nat) t v, Tryz.f3.params[j]? = some t → args[j]? = some v → Value.okWide Tryz.prog W .any base t v := hval0
 have hW' := hW
 obtain ⟨p, q, hA0, hV, rfl, _, _⟩ := hW
 have hA : DataW.TrodAll enc Tryz.prog W 0 (fun _ => true) true Tryz.f3.params.toList args.toList ds p := hA0
 rw [Tryz.params3] at hA hval
 obtain ⟨v0, d0, rfl, rfl, h0⟩ := trodAll_one hA
 obtain ⟨rfl, rfl⟩ := trodVars_none hV
 obtain ⟨cs, rfl, _⟩ := okWide_struct Tryz.underlying33 (hval 0 33 v0 rfl rfl)
 have k0 := h0
 have lt0 : ∀ x ∈ p, x.block < W.heap.size := by obtain ⟨m, hm⟩ := k0; exact DataW.trod_lt m _ _ _ hm
 obtain ⟨N, t, hrep⟩ := open_cert h0
 have hcs : (Value.agg cs).cells.toList = cs.toList := rfl
 rw [hcs] at hrep
 simp only [List.append_nil] at hW'
 have hgl := gl_of hL hsh
 clear hA0 hval0
 refine (formats_arr N W _ cs t hrep hgl).mono fun e W' ⟨he, bel⟩ => ?_
 subst he
 exact ⟨_, rfl, _, _, _, [], _, [], hW', trodAll_mk1 (shut_bool Tryz.underlying4 _), (trodAll_mk1 (Below.trod (show laidOutB Tryz.prog = true by kernel_rfl) (by kernel_rfl) (of_decide_eq_true (by kernel_rfl)) k0 bel lt0)), rfl, bel.frame _, fun h => by cases h⟩
end Go.Proofs.YtpbdkkoanedimaaGreatDoor.codecFormatsDone
/-
  The text of every certificate of few parts is the one that the reference writes, or both say that it is too long: the law CodecFormats returns true for every certificate and leaves its argument as it was.
  Conditions: the listed package-level variables hold what the program's text lays (the card ties them).
-/
namespace Go.Proofs.YtpbdkkoanedimaaGreatDoor.codecFormatsDone
open Go.ChangeShapes Go.WideShapes Go.ChangeAt Go.RowKit AC
open Go.ChangeMaps (open_string shut_string)
set_option linter.unusedVariables false
set_option linter.unusedSimpArgs false
theorem over : Rows.codecFormatsRow.holds Tryz.pinned (OpenSpec.ofChange Rows.codecFormatsSpec) :=
 OpenClaim.holds_of_wide 3 Tryz.f3 rfl rfl rfl rfl rfl rfl rfl ⟨rfl, rfl, rfl, rfl, rfl⟩ rfl rfl rfl rfl rfl (by kernel_rfl) Tryz.func3 closed
  (of_decide_eq_true (by kernel_rfl)) (by unfold Func.isWrapper; first | (rw [if_pos (by decide +kernel)]; kernel_rfl) | (rw [if_neg (by decide +kernel)]; exact ⟨rfl, rfl⟩))
  (fun os started H enc _ => lifted os started H enc)
end Go.Proofs.YtpbdkkoanedimaaGreatDoor.codecFormatsDone
