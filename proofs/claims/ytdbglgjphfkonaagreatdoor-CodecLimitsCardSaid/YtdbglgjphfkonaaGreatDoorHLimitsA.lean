/-
  How long a text may be: the law CodecLimits returns true for every two numbers.
  Conditions: the listed package-level variables hold what the program's text lays (the card ties them).
-/
import Derived.Test.YtdbglgjphfkonaaGreatDoorCards
import Derived.Test.YtdbglgjphfkonaaGreatDoorTie
import Derived.Test.YtdbglgjphfkonaaGreatDoorHCOp
import Derived.Test.YtdbglgjphfkonaaGreatDoorHCTd
import Derived.SevenTiedAt
import Derived.ChangeMaps5
import Derived.ChangeOld
import Derived.ShutString
import Derived.Below
import Derived.Carry
namespace Go.Proofs.YtdbglgjphfkonaaGreatDoor.codecLimitsDone
open Go.ChangeShapes Go.WideShapes Go.ChangeAt Go.RowKit AC
open Go.ChangeMaps (open_string shut_string)
set_option linter.unusedVariables false
set_option linter.unusedSimpArgs false

set_option maxRecDepth 100000 in
theorem lifted (os : Os) (started : os.Started) (H : Type) (enc : TypeId × Value → H) :
    ReturnsInHanded {} Tryz.checked os 4 .any (fun w args => (Rows.codecLimitsSpec.pre enc Tryz.prog Tryz.f4 [] false w args ∧ laidMetH Tryz.prog laidL w) ∧ sizedMet enc Tryz.prog Tryz.f4 (OpenSpec.ofChange Rows.codecLimitsSpec) false w args)
      (Rows.codecLimitsSpec.post enc Tryz.prog Tryz.f4 false true false false) := by
  refine returnsIn_listed (C := Tryz.checked) (X := fun w _ => laidMetH Tryz.prog laidL w) (fun _ _ _ hh h => h.of_heap hh) own started (by kernel_rfl) Tryz.func4
    (ChangeSpec.witness_at (enc := enc) (C := Tryz.checked) (os := os) (X := fun w _ => laidMetH Tryz.prog laidL w) false (World.laidAll Tryz.prog os laidL) #[.int .u8 0, .int .u16 0] 8 (World.laidAll_os _ _ _) (by kernel_rfl) (by kernel_rfl) (by kernel_rfl) (by kernel_rfl) (by kernel_rfl) (met os _)) ?_
  intro W base args ds gs before hval0 hW hsz hL hsh
  have hval : ∀ (j : Nat) t v, Tryz.f4.params[j]? = some t → args[j]? = some v → Value.okWide Tryz.prog W .any base t v := hval0
  have hW' := hW
  obtain ⟨p, q, hA0, hV, rfl, _, _⟩ := hW
  have hA : DataW.TrodAll enc Tryz.prog W 0 (fun _ => true) true Tryz.f4.params.toList args.toList ds p := hA0
  rw [Tryz.params4] at hA hval
  obtain ⟨v0, v1, d0, d1, p0, p1, rfl, rfl, rfl, h0, h1⟩ := trodAll_two hA
  obtain ⟨rfl, rfl⟩ := trodVars_none hV
  obtain ⟨a, rfl, rfl, rfl, wa⟩ := open_int Tryz.underlying5 (hval 0 5 v0 rfl rfl) h0
  obtain ⟨b, rfl, rfl, rfl, wb⟩ := open_int Tryz.underlying41 (hval 1 41 v1 rfl rfl) h1
  have bda := bounds_u8 wa
  have bdb : 0 ≤ b ∧ b ≤ 65535 := by have e1 : IntKind.u16.min = 0 := rfl; have e2 : IntKind.u16.max = 65535 := rfl; simp [Lit.wf, e1, e2] at wb; omega
  simp only [List.append_nil] at hW'
  have hgl := gl_of hL hsh
  clear hA0 hval0
  refine (limits_any W a b bda.1 bda.2 bdb.1 bdb.2 hgl).mono fun e W' ⟨he, bel⟩ => ?_
  subst he
  exact ⟨_, rfl, _, _, _, [], _, [], hW', trodAll_mk1 (shut_bool Tryz.underlying4 _), (trodAll_mk2 (shut_int Tryz.underlying5 wa) (shut_int Tryz.underlying41 wb)), rfl, bel.frame _, fun h => by cases h⟩

end Go.Proofs.YtdbglgjphfkonaaGreatDoor.codecLimitsDone

