/-
  The law's sanity check, by reflection.
-/
import Derived.Test.YtgheaoaicbkaoaaGreatDoorMAq
import Derived.KernelRfl
namespace Go.Proofs.YtgheaoaicbkaoaaGreatDoor
open Go.RowKit AC
set_option maxRecDepth 1000000
def stepsV : List Value := [.int .i64 0, .int .i64 0, .int .i64 0, .int .i64 0, .int .i64 1, .int .i64 2, .int .i64 3, .int .i64 7, .int .i64 4, .int .i64 6, .int .i64 5, .int .i64 12, .int .i64 9, .int .i64 10, .int .i64 8, .int .i64 13, .int .i64 14, .int .i64 15, .int .i64 16, .int .i64 17, .int .i64 18, .int .i64 19, .int .i64 20, .int .i64 21, .int .i64 22]
def memA : Ev.Tr := .node (some (.row stepsV 272 true 0 false [])) .nil .nil
theorem saneA_eval : Ev.callK Tryz.prog extA (Ev.codeK Tryz.prog extA 100000) ⟨1000, memA⟩ 4 [] (fun v _ => match v with | .bool b => b | _ => false) = true := by kernel_rfl
end Go.Proofs.YtgheaoaicbkaoaaGreatDoor

