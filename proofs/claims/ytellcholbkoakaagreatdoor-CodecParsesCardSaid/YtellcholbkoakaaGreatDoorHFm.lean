/-
  From a row's hypotheses to what the walks want of the package-level variables; a world that fits.
-/
import Derived.Test.YtellcholbkoakaaGreatDoorRows
import Derived.Test.YtellcholbkoakaaGreatDoorHCRep
import Derived.Shelf.Vars
import Derived.Stop.LaidErr
import Derived.LaidLaws
import Derived.LaidHandle
import Derived.SizedLaws
import Derived.HandedShaped
import Derived.Handed
import Derived.Lay
import Derived.RowKit
import Derived.ProofKit
import Derived.OpenShut
namespace Go.Proofs.YtellcholbkoakaaGreatDoor
open Go.RowKit AC
set_option linter.unusedVariables false
set_option linter.unusedSimpArgs false
def laidL : List (String × DataW Unit) := [("math/bits.deBruijn32tab", Rows.laid_math_bits_deBruijn32tab), ("math/bits.deBruijn64tab", Rows.laid_math_bits_deBruijn64tab), ("internal/strconv.uint64pow10", Rows.laid_internal_strconv_uint64pow10), ("strconv.ErrRange", Rows.laid_strconv_ErrRange), ("strconv.ErrSyntax", Rows.laid_strconv_ErrSyntax)]

theorem gPow:Tryz.prog.globalNamed "internal/strconv.uint64pow10" = some 3:=by kernel_rfl
theorem gPowT:(Tryz.prog.globals[3]?).map (·.type)=some 328:=by kernel_rfl
theorem gER:Tryz.prog.globalNamed "strconv.ErrRange" = some 2:=by kernel_rfl
theorem gERT:(Tryz.prog.globals[2]?).map (·.type)=some 238:=by kernel_rfl
theorem gES:Tryz.prog.globalNamed "strconv.ErrSyntax" = some 1:=by kernel_rfl
theorem gEST:(Tryz.prog.globals[1]?).map (·.type)=some 238:=by kernel_rfl
theorem cEs:Tryz.prog.cellsOf 344=1:=by kernel_rfl
theorem cStr:Tryz.prog.cellsOf 9=1:=by kernel_rfl
theorem cU64:Tryz.prog.cellsOf 233=1:=by kernel_rfl
theorem cTab:Tryz.prog.cellsOf 328=20:=by kernel_rfl
theorem star : "*" ++ "errors.errorString" = "*errors.errorString" :=by decide
theorem rowEs(u:TypeId)(h:Tryz.prog.typeName? 3 u=some "*errors.errorString"):u=342:=
 typeName_ptr_named (nm:= "errors.errorString") (by rw[star];kernel_rfl) (by kernel_rfl) (by decide) u (by rw[star];exact h)
theorem gMax:((begin Tryz.prog (fun _ _=>0) default).world.heap[0]?).bind Obj.row? = some (#[.int .i64 0],3):=by kernel_rfl
theorem gLast:(((begin Tryz.prog (fun _ _=>0) default).world.heap[GN-1]?).bind Obj.row?).isSome=true:=by kernel_rfl
theorem gl_of{W:World}(hL:laidMetH Tryz.prog laidL W)(hs:W.ShapedOpen Tryz.prog):Gl W:=by
 have h':laidMet Tryz.prog laidL W:=hL;have h3:=h'.tail.tail;have h4:=h3.tail;have h5:=h4.tail;refine⟨Lib.tabIs_of_head gPow gPowT Tryz.underlying328 Tryz.underlying233 cU64 cTab h3,?_,?_,?_,?_⟩
 ·obtain⟨a,s,hv,_⟩:=laid_sentinel h5 gES gEST Tryz.underlying238 rowEs Tryz.underlying342 Tryz.underlying344 rfl rfl Tryz.underlying9 cEs cStr
  exact⟨_,_,hv⟩
 ·obtain⟨a,s,hv,_⟩:=laid_sentinel h4 gER gERT Tryz.underlying238 rowEs Tryz.underlying342 Tryz.underlying344 rfl rfl Tryz.underlying9 cEs cStr
  exact⟨_,_,hv⟩
 ·exact cell_of_shapedOpen_int hs (by rw[GN_eq];decide) gMax rfl (by kernel_rfl) (by kernel_rfl) Tryz.underlying3
 ·obtain⟨⟨zero,t⟩,h0⟩:=Option.isSome_iff_exists.1 gLast
  obtain⟨cs,hh,_⟩:=hs.1 (GN-1) zero t (by rw[GN_eq];decide) h0
  have:=(Array.getElem?_eq_some_iff.1 hh).1;have:0<GN:=by decide
  omega
theorem returnsIn_listed {H : Type} {enc : TypeId × Value → H} {a : Assume} {C : Checked} {os : Os} {f : FuncId} {fn : Func} {s : ChangeSpec} {conds : List PathCond} {apart fresh handsOn again : Bool} {X : World → Array Value → Prop}
    (hX : ∀ (w w' : World) (args : Array Value), w.heap = w'.heap → X w args → X w' args)
    (own : ownKnob C.prog.godebug = none) (started : os.Started) (noInit : C.prog.inits.idxOf? f = none) (hfn : C.prog.funcs[f]? = some fn)
    (witness : ∃ (w : World) (tape : Tape) (i : Input), w.os = os ∧ (w.forCall tape i).Shaped C.prog ∧ i.vars = [] ∧ Input.okWide C.prog (w.forCall tape i) .any w.heap.size f i ∧
      ((s.pre enc C.prog fn conds apart (w.forCall tape i).memory i.args ∧ X (w.forCall tape i).memory i.args) ∧ sizedMet enc C.prog fn (OpenSpec.ofChange s) apart (w.forCall tape i).memory i.args) ∧ a.holds C.prog (lone (Frame.enter C.prog f i.args .normal) [] (w.forCall tape i)))
    (contract : ∀ (W : World) (base : Nat) (args : Array Value) (ds gs : List (DataW H)) (before : List MemPlace),
      (∀ (j : Nat) t v, fn.params[j]? = some t → args[j]? = some v → Value.okWide C.prog W .any base t v) →
      DataW.Whole enc C.prog fn.params.toList s.vars apart W args.toList ds gs before →
      (DataW.weightsEach C.prog (fn.params.toList ++ s.plain.varTypes C.prog) (ds ++ gs)).all (· ≤ reachBytes) = true → X W args → W.ShapedOpen C.prog →
      Calls C.prog f args W fun e W' => ∃ v, e = .returned v ∧ s.post enc C.prog fn apart fresh handsOn again W args v W') :
    ReturnsInHanded a C os f .any (fun w args => (s.pre enc C.prog fn conds apart w args ∧ X w args) ∧ sizedMet enc C.prog fn (OpenSpec.ofChange s) apart w args) (s.post enc C.prog fn apart fresh handsOn again) := by
  refine returnsInHanded_of_calls own started noInit witness ?_
  intro w tape i _ hsh _ hok hpre _
  obtain ⟨_, _, _, fn', hfn', _, _, _, _, hval⟩ := hok
  have e : fn' = fn := Option.some.inj (hfn'.symm.trans hfn)
  subst e
  obtain ⟨⟨⟨ds, gs, before, hw, hc⟩, hx⟩, hz⟩ := hpre
  have hw' := DataW.Whole.of_heap (w' := w.forCall tape i) (by rfl) hw
  refine (contract (w.forCall tape i) w.heap.size i.args ds gs before hval hw' (hz.weights hw) (hX _ _ _ (by rfl) hx) hsh).mono fun e W' ⟨v, he, hp⟩ => ?_
  subst he
  exact ChangeSpec.post_blind hp

theorem own:ownKnob Tryz.prog.godebug=none:=by kernel_rfl
theorem met(os:Os)(args:Array Value):laidMetH Tryz.prog laidL ((World.laidAll Tryz.prog os laidL).forCall (fun _ _=>0) ⟨#[],args,[]⟩).memory:=
 laidMet_laidAll args (by kernel_rfl) (by kernel_rfl)
end Go.Proofs.YtellcholbkoakaaGreatDoor
