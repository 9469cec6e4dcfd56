/-
  The law's sanity check, by reflection.
-/
import Derived.Test.YtnbbpmagijpmpaaGreatDoorMYh
namespace Go.Proofs.YtnbbpmagijpmpaaGreatDoor
open Go.RowKit AC
set_option maxRecDepth 1000000
def uJd:Ev.unv:=fun _=>none
theorem uyr:Ev.uAj Tryz.prog uJd (Ev.uAq Tryz.prog uJd 100000) ⟨1000,.nil⟩ 4 [] (fun v _=>match v with | .bool b=>b|_=>false)=true:=by kernel_rfl
end Go.Proofs.YtnbbpmagijpmpaaGreatDoor
