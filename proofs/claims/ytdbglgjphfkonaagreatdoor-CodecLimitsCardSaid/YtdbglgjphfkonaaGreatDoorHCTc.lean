/-
  The law's own check; CodecFaithful.
-/
import Derived.Test.YtdbglgjphfkonaaGreatDoorHCAs
import Derived.Test.YtdbglgjphfkonaaGreatDoorHCRep
namespace Go.Proofs.YtdbglgjphfkonaaGreatDoor
open Go.RowKit AC
set_option linter.unusedVariables false
set_option linter.unusedSimpArgs false

theorem zcert_eq : zcert.toArray = #[.bool false, .slice none 0 0, .slice none 0 0, .slice none 0 0, .slice none 0 0, .slice none 0 0, .slice none 0 0, .slice none 0 0, .slice none 0 0] := rfl
def YesPost (w : World) (e : Ending) (w' : World) : Prop := e = .returned (.bool true) ∧ Below w.heap.size w w'

set_option maxHeartbeats 8000000 in
set_option maxRecDepth 100000 in
theorem csane_any (w : World) (hg : Gl w) : Calls Tryz.prog 5 #[] w (YesPost w) := by
  have HG := Lib.hid hg
  clear hg
  have HC := Lib.hid (formatC_any 0 w (fun _ => True) _ _ (rep_cert w (fun _ => True) 0 _ _ (rep_nil _ _ _)) HG.out)
  go_enter Tryz.func5, Tryz.ntmps5
  go_wp2_with fail
  refine HC.out.mono ?_
  rintro e w1 ⟨rfl, hb1⟩
  have e1 : (⟨(if (certTxt [40, 41]).length ≤ 262144 then certTxt [40, 41] else []).toArray⟩ : ByteArray) = ⟨#[40, 48, 32, 40, 40, 41, 32, 40, 41, 41, 32, 40, 41, 32, 40, 40, 41, 32, 40, 41, 32, 40, 41, 41, 32, 40, 41, 32, 40, 41, 41]⟩ := by decide
  have e2 : (if (certTxt [40, 41]).length ≤ 262144 then (0 : Int) else 9) = 0 := by decide
  rw [e1, e2]
  have HB1 := Lib.hid hb1
  have HG1 := Lib.hid (HG.out.below hb1)
  clear e1 e2 hb1
  go_wp2_with fail
  refine (parseC_any _ _ HG1.out).mono ?_
  intro e w2 hp
  have e3 : (⟨#[40, 48, 32, 40, 40, 41, 32, 40, 41, 41, 32, 40, 41, 32, 40, 40, 41, 32, 40, 41, 32, 40, 41, 41, 32, 40, 41, 32, 40, 41, 41]⟩ : ByteArray).data.toList = certTxt [40, 41] := by decide
  rw [e3] at hp
  clear e3
  rcases hp with ⟨h1, _⟩ | ⟨_, h1, _⟩ | ⟨_, _, v, rfl, hrep, hb2⟩
  · exact absurd h1 (by decide)
  · exact absurd rd_zero h1
  obtain ⟨z0b, z10A, z10k, z10c, z11A, z11k, z11c, z2A, z2k, z2c, z30A, z30k, z30c, z31A, z31k, z31c, z32A, z32k, z32c, z4A, z4k, z4c, z5A, z5k, z5c, rfl⟩ := ty_cert hrep.ty
  have HB2 := Lib.hid (HB1.out.trans (hb2.mono HB1.out.size))
  have HG2 := Lib.hid (HG1.out.below hb2)
  clear hrep hb2
  go_wp2_with fail
  refine (parseC_any _ _ (HG2.out.alloc _)).mono ?_
  intro e w3 hp
  have e3 : ((⟨#[40, 48, 32, 40, 40, 41, 32, 40, 41, 41, 32, 40, 41, 32, 40, 40, 41, 32, 40, 41, 32, 40, 41, 41, 32, 40, 41, 32, 40, 41, 41]⟩ : ByteArray) ++ (⟨#[32]⟩ : ByteArray)).data.toList = certTxt [40, 41] ++ [32] := by decide
  rw [e3] at hp
  clear e3
  rcases hp with ⟨h1, _⟩ | ⟨_, _, rfl, hb3⟩ | ⟨_, h1, _⟩
  · exact absurd h1 (by decide)
  rotate_left
  · exact absurd (rd_zero_more.symm.trans h1) (by decide)
  have HB3 := Lib.hid ((HB2.out.alloc HB2.out.size (.cells #[.bool z0b, .slice z10A z10k z10c, .slice z11A z11k z11c, .slice z2A z2k z2c, .slice z30A z30k z30c, .slice z31A z31k z31c, .slice z32A z32k z32c, .slice z4A z4k z4c, .slice z5A z5k z5c] 34)).trans (hb3.mono (by have := HB2.out.size; simp; omega)))
  clear hb3
  rw [zcert_eq]
  go_wp2
  go_ret
  exact ⟨rfl, HB3.out.alloc HB3.out.size _⟩

set_option maxHeartbeats 8000000 in
set_option maxRecDepth 100000 in
theorem faithful_any (w : World) (s : ByteArray) (hs : s.size ≤ 9223372036854775807) (hg : Gl w) : Calls Tryz.prog 3 #[.string s] w (YesPost w) := by
  have HG := Lib.hid hg
  clear hg
  have hll : s.data.toList.length = s.size := by simp
  have HLL := Lib.hid hll
  clear hll
  go_enter Tryz.func3, Tryz.ntmps3
  go_wp2_with fail
  refine (csane_any _ HG.out).mono ?_
  rintro e w1 ⟨rfl, hb1⟩
  have HB1 := Lib.hid hb1
  have HG1 := Lib.hid (HG.out.below hb1)
  clear hb1
  by_cases h3 : 3000 < s.size
  · have hd : decide ((3000 : Int) < (s.size : Int)) = true := by simp; omega
    go_wp2
    go_ret
    exact ⟨rfl, HB1.out⟩
  · have hd : decide ((3000 : Int) < (s.size : Int)) = false := by simp; omega
    go_wp2_with fail
    refine (parseC_any _ s HG1.out).mono ?_
    intro e w2 hp
    rcases hp with ⟨h1, _⟩ | ⟨_, _, rfl, hb2⟩ | ⟨_, _, v, rfl, hrep, hb2⟩
    · exact absurd h1 (by rw [HLL.out]; omega)
    · have HB2 := Lib.hid (HB1.out.trans (hb2.mono HB1.out.size))
      clear hb2
      rw [zcert_eq]
      go_wp2
      go_ret
      exact ⟨rfl, HB2.out.alloc HB2.out.size _⟩
    · obtain ⟨z0b, z10A, z10k, z10c, z11A, z11k, z11c, z2A, z2k, z2c, z30A, z30k, z30c, z31A, z31k, z31c, z32A, z32k, z32c, z4A, z4k, z4c, z5A, z5k, z5c, rfl⟩ := ty_cert hrep.ty
      have HB2 := Lib.hid (HB1.out.trans (hb2.mono HB1.out.size))
      have HG2 := Lib.hid (HG1.out.below hb2)
      have HR := Lib.hid hrep
      clear hrep hb2
      go_wp2_with fail
      refine (formatC_any NN _ _ _ s.data.toList (HR.out.below ((Below.refl _ _).alloc (Nat.le_refl _) _)) (HG2.out.alloc _)).mono ?_
      rintro e w3 ⟨rfl, hb3⟩
      have HB3 := Lib.hid ((HB2.out.alloc HB2.out.size (.cells #[.bool z0b, .slice z10A z10k z10c, .slice z11A z11k z11c, .slice z2A z2k z2c, .slice z30A z30k z30c, .slice z31A z31k z31c, .slice z32A z32k z32c, .slice z4A z4k z4c, .slice z5A z5k z5c] 34)).trans (hb3.mono (by have := HB2.out.size; simp; omega)))
      clear hb3
      have e1 : (⟨(if s.data.toList.length ≤ 262144 then s.data.toList else []).toArray⟩ : ByteArray) = s := by rw [if_pos (by rw [HLL.out]; omega)]
      have e2 : (if s.data.toList.length ≤ 262144 then (0 : Int) else 9) = 0 := if_pos (by rw [HLL.out]; omega)
      rw [e1, e2]
      clear e1 e2
      go_wp2
      go_ret
      exact ⟨rfl, HB3.out⟩

end Go.Proofs.YtdbglgjphfkonaaGreatDoor

