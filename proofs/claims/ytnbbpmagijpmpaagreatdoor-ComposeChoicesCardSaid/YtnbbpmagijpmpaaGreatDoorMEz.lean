/-
  Choices: from the row's hypotheses to what the walk wants of the package-level variables.
-/
import Derived.Test.YtnbbpmagijpmpaaGreatDoorRows
import Derived.Test.YtnbbpmagijpmpaaGreatDoorMRat
import Derived.Shelf.Vars
import Derived.Stop.LaidErr
import Derived.Lib.SmallJoins
import Derived.LaidLaws
import Derived.LaidHandle
import Derived.SizedLaws
import Derived.HandedShaped
import Derived.Handed
import Derived.Lay
import Derived.RowKit
import Derived.ProofKit
import Derived.OpenShut
set_option linter.unusedVariables false
set_option linter.unusedSimpArgs false
namespace Go.Proofs.YtnbbpmagijpmpaaGreatDoor
open Go.RowKit AC Go.ChangeShapes Go.WideShapes Go.Deep
def vB8:List (String×DataW Unit):=[("math/bits.deBruijn32tab",Rows.laid_math_bits_deBruijn32tab),("math/bits.deBruijn64tab",Rows.laid_math_bits_deBruijn64tab),("internal/strconv.uint64pow10",Rows.laid_internal_strconv_uint64pow10)]
theorem uJz:Tryz.prog.globalNamed "internal/strconv.uint64pow10" = some 0:=by kernel_rfl
theorem uIb:(Tryz.prog.globals[0]?).map (·.type)=some 351:=by kernel_rfl
theorem uJ0:Tryz.prog.cellsOf 134=1:=by kernel_rfl
theorem uJ1:Tryz.prog.cellsOf 351=20:=by kernel_rfl
theorem uIc:(((begin Tryz.prog (fun _ _=>0) default).world.heap[GP-1]?).bind Obj.row?).isSome=true:=by kernel_rfl
theorem uId{W:World}(hL:laidMetH Tryz.prog vB8 W)(hs:W.ShapedOpen Tryz.prog):Gp W:=by
 have h':laidMet Tryz.prog vB8 W:=hL;have h3:=h'.tail.tail;refine⟨Lib.tabIs_of_head uJz uIb Tryz.underlying351 Tryz.underlying134 uJ0 uJ1 h3,?_⟩;obtain⟨⟨zero,t⟩,h0⟩:=Option.isSome_iff_exists.1 uIc;obtain⟨cs,hh,_⟩:=hs.1 (GP-1) zero t (by rw[uF8];decide) h0
 have:=(au.1 hh).1;have:0<GP:=by decide
 omega
theorem uhk{H:Type}{enc:TypeId×Value->H}{a:Assume}{C:Checked}{os:Os}{f:FuncId}{fn:Func}{s:ChangeSpec}{a4:List PathCond}{a1 a5 a6 a3:Bool}{X:World->Array Value->Prop}
 (hX:∀(w w':World) (args:Array Value),w.heap=w'.heap->X w args->X w' args)
 (own:ownKnob C.prog.godebug=none) (b7:os.Started) (b6:C.prog.inits.idxOf? f=none) (a9:C.prog.funcs[f]? = some fn)
 (b8:∃(w:World) (a0:Tape) (i:Input),w.os=os/\(w.forCall a0 i).Shaped C.prog/\i.vars=[]/\Input.okWide C.prog (w.forCall a0 i) .any w.heap.size f i /\
  ((s.pre enc C.prog fn a4 a1 (w.forCall a0 i).memory i.args/\X (w.forCall a0 i).memory i.args)/\sizedMet enc C.prog fn (OpenSpec.ofChange s) a1 (w.forCall a0 i).memory i.args)/\a.holds C.prog (lone (Frame.enter C.prog f i.args .normal) [] (w.forCall a0 i)))
 (a7:∀(W:World) (base:Nat) (args:Array Value) (ds gs:List (DataW H)) (a2:List MemPlace),
  (∀(j:Nat) t v,fn.params[j]? = some t->args[j]? = some v->Value.okWide C.prog W .any base t v) ->
  DataW.Whole enc C.prog fn.params.toList s.vars a1 W args.toList ds gs a2 ->
  (DataW.weightsEach C.prog (fn.params.toList++s.plain.varTypes C.prog) (ds++gs)).all (· <= reachBytes)=true->X W args->W.ShapedOpen C.prog ->
  Calls C.prog f args W fun e W'=>∃v,e = .returned v/\s.post enc C.prog fn a1 a5 a6 a3 W args v W') :
 ReturnsInHanded a C os f .any (fun w args=>(s.pre enc C.prog fn a4 a1 w args/\X w args)/\sizedMet enc C.prog fn (OpenSpec.ofChange s) a1 w args) (s.post enc C.prog fn a1 a5 a6 a3):=by
 refine returnsInHanded_of_calls own b7 b6 b8 ?_;intro w a0 i _ b3 _ b1 b2 _;obtain⟨_,_,_,a8,b0,_,_,_,_,b4⟩:=b1;have e:a8=fn:=Option.some.inj (b0.symm.trans a9);subst e;obtain⟨⟨⟨ds,gs,a2,hw,hc⟩,hx⟩,hz⟩:=b2;have b5:=DataW.Whole.of_heap (w':=w.forCall a0 i) (by rfl) hw
 refine(a7 (w.forCall a0 i) w.heap.size i.args ds gs a2 b4 b5 (hz.weights hw) (hX _ _ _ (by rfl) hx) b3).mono fun e W' ⟨v,he,hp⟩=>?_
 subst he;exact ChangeSpec.post_blind hp
theorem own:ownKnob Tryz.prog.godebug=none:=by kernel_rfl
theorem met(os:Os)(args:Array Value):laidMetH Tryz.prog vB8 ((World.laidAll Tryz.prog os vB8).forCall (fun _ _=>0) ⟨#[],args,[]⟩).memory:=
 laidMet_laidAll args (by kernel_rfl) (by kernel_rfl)
theorem laidOut:laidOutB Tryz.prog=true:=by kernel_rfl
end Go.Proofs.YtnbbpmagijpmpaaGreatDoor
