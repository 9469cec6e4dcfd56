/-
  slices.IndexFunc and ContainsFunc over trees (printed by gen_g.py).
-/
import Derived.Test.YtdbiedpdibjdlaaGreatMGc
namespace Go.Proofs.YtdbiedpdibjdlaaGreat
open Go.RowKit AC
set_option linter.unusedVariables false
set_option linter.unusedSimpArgs false

/-- What a search leaves: the place of an element that is found, or -1. -/
def IPost (len : Nat) (Inv : Nat → World → Prop) (Fin : World → Prop) (e : Ending) (w' : World) : Prop :=
  (∃ i : Nat, i < len ∧ e = .returned (.int .i64 (i : Int)) ∧ Fin w') ∨ (e = .returned (.int .i64 (-1)) ∧ Inv len w')
/-- Is there such an element? -/
def CPost (len : Nat) (Inv : Nat → World → Prop) (Fin : World → Prop) (e : Ending) (w' : World) : Prop :=
  (e = .returned (.bool true) ∧ Fin w') ∨ (e = .returned (.bool false) ∧ Inv len w')
/-- What a search asks of the function that looks at an element. -/
def Looks (D : Nat → Prop) (l : List Tr) (g : FuncId) (fi ca : Array Value) (Inv : Nat → World → Prop) (Fin : World → Prop) : Prop :=
  Enters Tryz.prog g ∧ ∀ (i : Nat) (h : i < l.length) (w : World) (v : List Value), Inv i w → TrR w D l[i] v → Calls Tryz.prog g (fi ++ #[.agg v.toArray] ++ ca) w (fun e w2 => (e = .returned (.bool true) ∧ Fin w2) ∨ (e = .returned (.bool false) ∧ Inv (i + 1) w2))

set_option maxHeartbeats 4000000 in
set_option maxRecDepth 100000 in
theorem indexV_any (D : Nat → Prop) (l : List Tr) (A : Option Addr) (len cap : Nat) (g : FuncId) (fi ca : Array Value) (Inv : Nat → World → Prop) (Fin : World → Prop) (hk : ∀ i w, Inv i w → TrS w D l A len cap) (hg : Looks D l g fi ca Inv Fin) (w : World) (h0 : Inv 0 w) :
    Calls Tryz.prog 74 #[.slice A len cap, .func (.func g) fi ca] w (IPost len Inv Fin) := by
  obtain ⟨he, hst⟩ := hg
  unfold Enters at he
  have hs := hk 0 w h0
  have hlen : len = l.length := hs.1
  have hcap : cap ≤ maxLen := hs.2.2.1
  have hlc := hs.2.1
  have HLEN := Lib.hid hlen
  have HK := Lib.hid hk
  have HST := Lib.hid hst
  have H0 := Lib.hid h0
  unfold maxLen at hcap
  clear hs hlen hk hst h0
  go_enter Tryz.func74, Tryz.ntmps74
  go_wp2
  go_loopw [8] (fun iv wr => ∃ i : Nat, i ≤ len ∧ iv = .int .i64 i ∧ Hid (Inv i wr)) (fun iv _ => len - (intOf iv).toNat)
  case atStart => exact ⟨0, by omega, rfl, H0⟩
  case round =>
    obtain ⟨i, hi, rfl, HI⟩ := hrel
    by_cases hlt : i < len
    · have hil : i < l.length := by have := HLEN.out; omega
      obtain ⟨b, off, A', len', cap', rfl, hb, e0, e1, e2, hrk⟩ := (HK.out i _ HI.out).get (i := i) hil
      have key := HST.out i hil wr _ HI.out hrk
      generalize l[i].k = x0 at *
      generalize l[i].m = x1 at *
      have KEY := Lib.hid (show Calls Tryz.prog g (fi ++ #[.agg #[.int .i64 x0, .int .i64 x1, .slice A' len' cap']] ++ ca) _ _ from key)
      clear key hrk
      go_wp2_with fail
      refine KEY.out.mono ?_
      rintro e w2 (⟨rfl, hf⟩ | ⟨rfl, hI⟩)
      · have HF := Lib.hid hf
        clear hf
        go_wp2
        go_ret
        exact .inl ⟨i, hlt, rfl, HF.out⟩
      · have HI2 := Lib.hid hI
        clear hI
        go_wp2
        go_roundw
        case rel => exact ⟨i + 1, by omega, by go_num, HI2⟩
        case measure => simp [intOf]; omega
    · obtain rfl : i = len := by omega
      go_wp2
      go_ret
      exact .inr ⟨rfl, HI.out⟩
set_option maxHeartbeats 4000000 in
set_option maxRecDepth 100000 in
theorem containsV_any (D : Nat → Prop) (l : List Tr) (A : Option Addr) (len cap : Nat) (g : FuncId) (fi ca : Array Value) (Inv : Nat → World → Prop) (Fin : World → Prop) (hk : ∀ i w, Inv i w → TrS w D l A len cap) (hg : Looks D l g fi ca Inv Fin) (w : World) (h0 : Inv 0 w) :
    Calls Tryz.prog 43 #[.slice A len cap, .func (.func g) fi ca] w (CPost len Inv Fin) := by
  have KEY := Lib.hid (indexV_any D l A len cap g fi ca Inv Fin hk hg w h0)
  clear hk hg h0
  go_enter Tryz.func43, Tryz.ntmps43
  go_wp2_with fail
  refine KEY.out.mono ?_
  rintro e w2 (⟨i, _, rfl, hf⟩ | ⟨rfl, hI⟩)
  · have HF := Lib.hid hf
    clear hf
    have hi : (0 : Int) ≤ (i : Int) := by omega
    go_wp2
    go_ret
    exact .inl ⟨rfl, HF.out⟩
  · have HI2 := Lib.hid hI
    clear hI
    go_wp2
    go_ret
    exact .inr ⟨rfl, HI2.out⟩

set_option maxHeartbeats 4000000 in
set_option maxRecDepth 100000 in
theorem indexT_any (D : Nat → Prop) (l : List Tr) (A : Option Addr) (len cap : Nat) (g : FuncId) (fi ca : Array Value) (Inv : Nat → World → Prop) (Fin : World → Prop) (hk : ∀ i w, Inv i w → TrS w D l A len cap) (hg : Looks D l g fi ca Inv Fin) (w : World) (h0 : Inv 0 w) :
    Calls Tryz.prog 109 #[.slice A len cap, .func (.func g) fi ca] w (IPost len Inv Fin) := by
  obtain ⟨he, hst⟩ := hg
  unfold Enters at he
  have hs := hk 0 w h0
  have hlen : len = l.length := hs.1
  have hcap : cap ≤ maxLen := hs.2.2.1
  have hlc := hs.2.1
  have HLEN := Lib.hid hlen
  have HK := Lib.hid hk
  have HST := Lib.hid hst
  have H0 := Lib.hid h0
  unfold maxLen at hcap
  clear hs hlen hk hst h0
  go_enter Tryz.func109, Tryz.ntmps109
  go_wp2
  go_loopw [8] (fun iv wr => ∃ i : Nat, i ≤ len ∧ iv = .int .i64 i ∧ Hid (Inv i wr)) (fun iv _ => len - (intOf iv).toNat)
  case atStart => exact ⟨0, by omega, rfl, H0⟩
  case round =>
    obtain ⟨i, hi, rfl, HI⟩ := hrel
    by_cases hlt : i < len
    · have hil : i < l.length := by have := HLEN.out; omega
      obtain ⟨b, off, A', len', cap', rfl, hb, e0, e1, e2, hrk⟩ := (HK.out i _ HI.out).get (i := i) hil
      have key := HST.out i hil wr _ HI.out hrk
      generalize l[i].k = x0 at *
      generalize l[i].m = x1 at *
      have KEY := Lib.hid (show Calls Tryz.prog g (fi ++ #[.agg #[.int .i64 x0, .int .i64 x1, .slice A' len' cap']] ++ ca) _ _ from key)
      clear key hrk
      go_wp2_with fail
      refine KEY.out.mono ?_
      rintro e w2 (⟨rfl, hf⟩ | ⟨rfl, hI⟩)
      · have HF := Lib.hid hf
        clear hf
        go_wp2
        go_ret
        exact .inl ⟨i, hlt, rfl, HF.out⟩
      · have HI2 := Lib.hid hI
        clear hI
        go_wp2
        go_roundw
        case rel => exact ⟨i + 1, by omega, by go_num, HI2⟩
        case measure => simp [intOf]; omega
    · obtain rfl : i = len := by omega
      go_wp2
      go_ret
      exact .inr ⟨rfl, HI.out⟩
set_option maxHeartbeats 4000000 in
set_option maxRecDepth 100000 in
theorem containsT_any (D : Nat → Prop) (l : List Tr) (A : Option Addr) (len cap : Nat) (g : FuncId) (fi ca : Array Value) (Inv : Nat → World → Prop) (Fin : World → Prop) (hk : ∀ i w, Inv i w → TrS w D l A len cap) (hg : Looks D l g fi ca Inv Fin) (w : World) (h0 : Inv 0 w) :
    Calls Tryz.prog 94 #[.slice A len cap, .func (.func g) fi ca] w (CPost len Inv Fin) := by
  have KEY := Lib.hid (indexT_any D l A len cap g fi ca Inv Fin hk hg w h0)
  clear hk hg h0
  go_enter Tryz.func94, Tryz.ntmps94
  go_wp2_with fail
  refine KEY.out.mono ?_
  rintro e w2 (⟨i, _, rfl, hf⟩ | ⟨rfl, hI⟩)
  · have HF := Lib.hid hf
    clear hf
    have hi : (0 : Int) ≤ (i : Int) := by omega
    go_wp2
    go_ret
    exact .inl ⟨rfl, HF.out⟩
  · have HI2 := Lib.hid hI
    clear hI
    go_wp2
    go_ret
    exact .inr ⟨rfl, HI2.out⟩

end Go.Proofs.YtdbiedpdibjdlaaGreat

/-
  Compare of equal values.
-/
namespace Go.Proofs.YtdbiedpdibjdlaaGreat
open Go.RowKit AC
set_option linter.unusedVariables false
set_option linter.unusedSimpArgs false

/-- A value comes back, and nothing that was there is written. -/
def RetV (v : Value) (w : World) (e : Ending) (w' : World) : Prop := e = .returned v ∧ Below w.heap.size w w'
theorem nanI_any (x : Int) (w : World) : Calls Tryz.prog 47 #[.int .i64 x] w (RetV (.bool false) w) := by
  go_enter Tryz.func47, Tryz.ntmps47
  go_wp2
  go_ret
  exact ⟨by simp, Below.refl _ _⟩
theorem nanL_any (x : Int) (w : World) : Calls Tryz.prog 48 #[.int .i64 x] w (RetV (.bool false) w) := by
  go_enter Tryz.func48, Tryz.ntmps48
  go_wp2
  go_ret
  exact ⟨by simp, Below.refl _ _⟩
theorem cmpI_any (x : Int) (w : World) : Calls Tryz.prog 24 #[.int .i64 x, .int .i64 x] w (RetV (.int .i64 0) w) := by
  go_enter Tryz.func24, Tryz.ntmps24
  go_wp2_with fail
  refine (nanI_any x _).mono ?_
  rintro e w1 ⟨rfl, hb1⟩
  have HB1 := Lib.hid hb1
  clear hb1
  go_wp2_with fail
  refine (nanI_any x _).mono ?_
  rintro e w2 ⟨rfl, hb2⟩
  have HB2 := Lib.hid (HB1.out.trans (hb2.mono HB1.out.size))
  clear hb2
  go_wp2
  go_ret
  exact ⟨rfl, HB2.out⟩
theorem cmpL_any (x : Int) (w : World) : Calls Tryz.prog 25 #[.int .i64 x, .int .i64 x] w (RetV (.int .i64 0) w) := by
  go_enter Tryz.func25, Tryz.ntmps25
  go_wp2_with fail
  refine (nanL_any x _).mono ?_
  rintro e w1 ⟨rfl, hb1⟩
  have HB1 := Lib.hid hb1
  clear hb1
  go_wp2_with fail
  refine (nanL_any x _).mono ?_
  rintro e w2 ⟨rfl, hb2⟩
  have HB2 := Lib.hid (HB1.out.trans (hb2.mono HB1.out.size))
  clear hb2
  go_wp2
  go_ret
  exact ⟨rfl, HB2.out⟩
set_option maxHeartbeats 1000000 in
theorem or3_any (b T : Nat) (w : World) (h : Bk w b T #[.int .i64 0, .int .i64 0, .int .i64 0]) : Calls Tryz.prog 23 #[.slice (some ⟨b, 0, none⟩) 3 3] w (RetV (.int .i64 0) w) := by
  obtain ⟨hc, _, _⟩ := h.facts
  have c0 := hc 0
  have c1 := hc 1
  have c2 := hc 2
  simp only [List.getElem?_toArray, List.getElem?_cons_zero, List.getElem?_cons_succ] at c0 c1 c2
  clear hc h
  go_enter Tryz.func23, Tryz.ntmps23
  go_wp2
  go_loopw [8] (fun iv wr => ∃ i : Nat, i ≤ 3 ∧ iv = .int .i64 i ∧ wr = w) (fun iv _ => 3 - (intOf iv).toNat)
  case atStart => exact ⟨0, by omega, rfl, rfl⟩
  case round =>
    obtain ⟨i, hi, rfl, rfl⟩ := hrel
    rcases i with _ | _ | _ | i
    · go_wp2
      go_roundw
      case rel => exact ⟨1, by omega, by go_num, trivial⟩
      case measure => simp [intOf]
    · go_wp2
      go_roundw
      case rel => exact ⟨2, by omega, by go_num, trivial⟩
      case measure => simp [intOf]
    · go_wp2
      go_roundw
      case rel => exact ⟨3, by omega, by go_num, trivial⟩
      case measure => simp [intOf]
    · obtain rfl : i = 0 := by omega
      go_wp2
      go_ret
      exact ⟨rfl, Below.refl _ _⟩
end Go.Proofs.YtdbiedpdibjdlaaGreat

