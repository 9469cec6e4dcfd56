/-
  The writer: what lists and structs want; the fields of a struct.
-/
import Derived.Test.YtdbglgjphfkonaaGreatDoorHCWa
import Derived.Test.YtdbglgjphfkonaaGreatDoorHCRep
import Derived.Test.YtdbglgjphfkonaaGreatDoorHCRa
import Derived.LoopTactic
import Derived.Shelf.Abstract
import Derived.Laws.EntriesVeiled
namespace Go.Proofs.YtdbglgjphfkonaaGreatDoor
open Go.RowKit AC
set_option linter.unusedVariables false
set_option linter.unusedSimpArgs false

/-- Function g writes values of a shape. -/
def Writes (g : FuncId) (s : Shape) : Prop :=
  ∀ (w : World) (bw : Nat) (o : Option (List UInt8)) (v : List Value) (t : List UInt8), Wst w bw o → Rep w (· < bw) s v [t] → Calls Tryz.prog g #[.pointer (some ⟨bw, 0, none⟩), valOf s v] w (WRet bw w (put o t))
/-- What a list wants of the function that writes its elements. -/
def ElW (g : FuncId) (fi ca : Array Value) (s : Shape) (bw : Nat) (w : World) : Prop :=
  Enters Tryz.prog g ∧ ∀ (W : World) (o : Option (List UInt8)) (v : List Value) (t : List UInt8), Wfr bw w W → Wst W bw o → Rep W (· < bw) s v [t] → Calls Tryz.prog g (fi ++ #[valOf s v] ++ ca) W (WRet bw W (put o t))
theorem ElW.meth {g : FuncId} {s : Shape} (he : Enters Tryz.prog g) (h : Writes g s) (bw : Nat) (w : World) : ElW g #[.pointer (some ⟨bw, 0, none⟩)] #[] s bw w :=
  ⟨he, fun W o v t _ hw hr => by simpa using h W bw o v t hw hr⟩
theorem Rep.wfr {w w' : World} {bw : Nat} {s : Shape} {v : List Value} {ts : List (List UInt8)} (h : Rep w (· < bw) s v ts) (f : Wfr bw w w') : Rep w' (· < bw) s v ts :=
  Rep.keep (fun b hb _ => ⟨f.1.block b hb, hb⟩) h
theorem Rep.allocW {w : World} {D : Nat → Prop} {s : Shape} {v : List Value} {ts : List (List UInt8)} (h : Rep w D s v ts) (x : Obj) : Rep (w.alloc x) D s v ts := h.below ((Below.refl _ _).alloc (Nat.le_refl _) x)
theorem Reps.allocW {w : World} {D : Nat → Prop} {ss : List Shape} {vs : List (List Value)} {ts : Nat → List UInt8} {n : Nat} (h : Reps w D ss vs ts n) (x : Obj) : Reps (w.alloc x) D ss vs ts n := fun i s v hi e1 e2 => (h i s v hi e1 e2).allocW x
theorem Wfr.allocs {bw : Nat} {a b : World} (h : Wfr bw a b) (hb : bw < b.heap.size) (o : Obj) : Wfr bw a (b.alloc o) := h.alloc (by omega) o

/-- A list is being written: k elements are. -/
def LInv (o : Option (List UInt8)) (tx : Nat → List UInt8) (bw : Nat) (w : World) (k : Nat) (wr : World) : Prop := Wst wr bw (listed o tx k) ∧ Wfr bw w wr
section
variable {o : Option (List UInt8)} {tx : Nat → List UInt8} {bw k n : Nat} {w wr w1 w2 w3 : World}
theorem LInv.start (h : Wst w1 bw (put o [40])) (f : Wfr bw w w1) : LInv o tx bw w 0 w1 := ⟨h, f⟩
theorem LInv.full (h : LInv o tx bw w k wr) (hk : k ≤ n) (hf : listed o tx k = none) (f : Wfr bw wr w1) (h1 : Wst w1 bw none) : WRet bw w (put o (par tx n)) (.returned (.tuple #[])) w1 := by
  refine ⟨rfl, ?_, h.2.trans f⟩
  rw [listed_full o tx hk hf]
  exact h1
theorem LInv.first (h : LInv o tx bw w 0 wr) (f : Wfr bw wr w1) (h1 : Wst w1 bw (put (listed o tx 0) (tx 0))) : LInv o tx bw w 1 w1 := by
  rw [listed_first] at h1
  exact ⟨h1, h.2.trans f⟩
theorem LInv.next (h : LInv o tx bw w k wr) (hk : 0 < k) (f : Wfr bw wr w1) (h1 : Wst w1 bw (put (put (listed o tx k) [32]) (tx k))) : LInv o tx bw w (k + 1) w1 := by
  rw [listed_next _ _ hk] at h1
  exact ⟨h1, h.2.trans f⟩
theorem LInv.last (h : LInv o tx bw w k wr) (f : Wfr bw wr w1) (h1 : Wst w1 bw (put (listed o tx k) [41])) : WRet bw w (put o (par tx k)) (.returned (.tuple #[])) w1 := by
  rw [listed_end] at h1
  exact ⟨rfl, h1, h.2.trans f⟩
end

/-- Function k writes a field at off of the struct that it captures. -/
def CloW (k : FuncId) (s : Shape) (T : TypeId) (off : Nat) : Prop :=
  Enters Tryz.prog k ∧ ∀ (w : World) (bw bv bt : Nat) (o : Option (List UInt8)) (cs : Array Value) (v : List Value) (t : List UInt8), Wst w bw o → Bk w bv 48 #[.pointer (some ⟨bw, 0, none⟩)] → Bk w bt T cs → bv ≠ bw → bt ≠ bw →
    (∀ j x, v[j]? = some x → cs[off + j]? = some x) → Rep w (· < bw) s v [t] → Calls Tryz.prog k #[.pointer (some ⟨bv, 0, none⟩), .pointer (some ⟨bt, 0, none⟩)] w (WRet bw w (put o t))

theorem Tys.flat_at : ∀ {ss : List Shape} {vs : List (List Value)}, Tys ss vs → ∀ {i : Nat} {v : List Value}, vs[i]? = some v → ∀ j x, v[j]? = some x → vs.flatten[offs ss i + j]? = some x
  | s :: l, _, ⟨u, r, rfl, h1, h2⟩, 0, v, e, j, x, hx => by
    simp at e; subst e
    have hj := (List.getElem?_eq_some_iff.1 hx).1
    simp only [offs, List.take_zero, List.map_nil, List.sum_nil, Nat.zero_add, List.flatten_cons]
    rw [List.getElem?_append_left hj]
    exact hx
  | s :: l, _, ⟨u, r, rfl, h1, h2⟩, i + 1, v, e, j, x, hx => by
    have := Tys.flat_at h2 (by simpa using e) j x hx
    have hu := h1.len
    have ho : offs (s :: l) (i + 1) = s.sz + offs l i := by simp [offs]
    rw [ho, List.flatten_cons, List.getElem?_append_right (by omega), hu, show s.sz + offs l i + j - s.sz = offs l i + j by omega]
    exact this
  | [], _, h, i, v, e, _, _, _ => by cases h; simp at e

set_option maxHeartbeats 1000000 in
theorem fields1_any (w : World) (g : FuncId) (bv bt bw : Nat) (o : Option (List UInt8)) (t : List UInt8) (he : Enters Tryz.prog g) (h : Calls Tryz.prog g #[.pointer (some ⟨bv, 0, none⟩), .pointer (some ⟨bt, 0, none⟩)] w (WRet bw w (put o t))) :
    Calls Tryz.prog 86 #[.func (.func g) #[] #[.pointer (some ⟨bv, 0, none⟩), .pointer (some ⟨bt, 0, none⟩)]] w (WRet bw w (put o t)) := by
  unfold Enters at he
  have H := Lib.hid h
  clear h
  go_enter Tryz.func86, Tryz.ntmps86
  go_wp2_with fail
  refine H.out.mono ?_
  rintro e w1 ⟨rfl, hp⟩
  go_wp2
  go_end0
  exact ⟨rfl, hp⟩

set_option maxHeartbeats 2000000 in
theorem listf_any (ss : List Shape) (ks : List FuncId) (T : TypeId) (hT : T ≠ 5) (hl : ks.length = ss.length) (hn : ss.length ≤ 100) (hclo : ∀ i k s, ks[i]? = some k → ss[i]? = some s → CloW k s T (offs ss i))
    (w : World) (bw bv bt bl : Nat) (o : Option (List UInt8)) (vs : List (List Value)) (ts : Nat → List UInt8) (h : Wst w bw o) (h0 : 0 < ss.length)
    (hv : Bk w bv 48 #[.pointer (some ⟨bw, 0, none⟩)]) (ht : Bk w bt T vs.flatten.toArray) (hvs : Tys ss vs) (hrep : Reps w (· < bw) ss vs ts ss.length) (hbl : Bk w bl 1 (clos ks bv bt)) (d1 : bt ≠ bw) (d2 : bv ≠ bw) (d4 : bl ≠ bw) :
    Calls Tryz.prog 85 #[.pointer (some ⟨bw, 0, none⟩), .slice (some ⟨bl, 0, none⟩) ss.length ss.length, .func (.func 86) #[] #[]] w (WRet bw w (put o (par ts ss.length))) := by
  have HW := Lib.hid h
  have hbw := h.lt
  have HV := Lib.hid hv
  have HT := Lib.hid ht
  have HB := Lib.hid hbl
  have HS := Lib.hid hvs
  have HK := Lib.hid hl
  have HC := Lib.hid hclo
  have HR := Lib.hid hrep
  clear h hv ht hbl hvs hl hclo hrep
  obtain ⟨n, hN⟩ : ∃ n, ss.length = n := ⟨_, rfl⟩
  rw [hN] at h0 hn ⊢
  have HN := Lib.hid hN
  clear hN
  go_enter Tryz.func85, Tryz.ntmps85
  go_wp2_with fail
  refine (text_any _ bw o ⟨#[40]⟩ HW.out (by decide)).mono ?_
  rintro e w1 ⟨rfl, hr1, hf1⟩
  have I0 := Lib.hid (LInv.start (tx := ts) hr1 hf1)
  clear hr1 hf1
  go_wp2
  go_loopw [12] (fun iv wr => ∃ (k : Nat), k ≤ n ∧ iv = .int .i64 k ∧ Hid (LInv o ts bw w k wr)) (fun iv _ => n - (intOf iv).toNat)
  case atStart => exact ⟨0, by omega, rfl, I0⟩
  case round =>
    obtain ⟨k, hk, rfl, hI⟩ := hrel
    clear I0
    have c2 := hI.out.1.cell
    by_cases hlt : k < n
    · have hks : k < ss.length := by rw [HN.out]; exact hlt
      obtain ⟨s, hs⟩ : ∃ s, ss[k]? = some s := ⟨_, List.getElem?_eq_getElem hks⟩
      obtain ⟨g, hg⟩ : ∃ g, ks[k]? = some g := ⟨_, List.getElem?_eq_getElem (by rw [HK.out]; exact hks)⟩
      obtain ⟨v, hv⟩ : ∃ v, vs[k]? = some v := ⟨_, List.getElem?_eq_getElem (by rw [HS.out.len]; exact hks)⟩
      obtain ⟨he, hclo⟩ := HC.out k g s hg hs
      have hrk := HR.out k s v hks hs hv
      have hcs := HS.out.flat_at hv
      have hbl' : Bk wr bl 1 (clos ks bv bt) := hI.out.2.2 _ _ _ d4 (by decide) HB.out
      have hbv' := hI.out.2.2 _ _ _ d2 (by decide) HV.out
      have hbt' := hI.out.2.2 _ _ _ d1 hT HT.out
      have cb := hbl'.cell k
      rw [clos_at hg] at cb
      have HE := Lib.hid he
      have HCL := Lib.hid hclo
      have HBV := Lib.hid hbv'
      have HBT := Lib.hid hbt'
      have HRK := Lib.hid (hrk.wfr hI.out.2)
      have HCS := Lib.hid hcs
      clear he hclo hbv' hbt' hrk hcs hbl' hs hg hv
      cases hf : listed o ts k with
      | none =>
        rw [hf] at c2
        have HF := Lib.hid hf
        clear hf
        go_wp2
        go_end0
        exact hI.out.full (n := n) (by omega) HF.out (Wfr.refl _ _) (by have := hI.out.1; rw [HF.out] at this; exact this)
      | some l =>
        rw [hf] at c2
        have HF := Lib.hid hf
        clear hf
        by_cases hk0 : k = 0
        · subst hk0
          go_wp2_with fail
          refine (fields1_any _ g bv bt bw _ (ts 0) HE.out (HCL.out _ bw bv bt _ _ v (ts 0) hI.out.1 HBV.out HBT.out d2 d1 (fun j x hx => by rw [List.getElem?_toArray]; exact HCS.out j x hx) HRK.out)).mono ?_
          rintro e w2 ⟨rfl, hw2, hf2⟩
          have HI2 := Lib.hid (hI.out.first hf2 hw2)
          clear hw2 hf2
          go_wp2
          go_roundw
          case rel => exact ⟨1, by omega, by go_num, HI2⟩
          case measure => simp [intOf]; omega
        · have hkp : decide (0 < (k : Int)) = true := by simp; omega
          go_wp2_with fail
          refine (text_any _ bw (listed o ts k) ⟨#[32]⟩ hI.out.1 (by decide)).mono ?_
          rintro e w2 ⟨rfl, hw2, hf2⟩
          have HW2 := Lib.hid hw2
          have HF2 := Lib.hid hf2
          clear hw2 hf2
          go_wp2_with fail
          refine (fields1_any _ g bv bt bw _ (ts k) HE.out (HCL.out _ bw bv bt _ _ v (ts k) HW2.out (HF2.out.2 _ _ _ d2 (by decide) HBV.out) (HF2.out.2 _ _ _ d1 hT HBT.out) d2 d1 (fun j x hx => by rw [List.getElem?_toArray]; exact HCS.out j x hx) (HRK.out.wfr HF2.out))).mono ?_
          rintro e w3 ⟨rfl, hw3, hf3⟩
          have HI2 := Lib.hid (hI.out.next (by omega) (HF2.out.trans hf3) hw3)
          clear hw3 hf3
          go_wp2
          go_roundw
          case rel => exact ⟨k + 1, by omega, by go_num, HI2⟩
          case measure => simp [intOf]; omega
    · obtain rfl : k = n := by omega
      go_wp2_with fail
      refine (text_any _ bw (listed o ts k) ⟨#[41]⟩ hI.out.1 (by decide)).mono ?_
      rintro e w2 ⟨rfl, hr2, hf2⟩
      go_wp2
      go_end0
      exact hI.out.last hf2 hr2

set_option maxHeartbeats 1000000 in
theorem wfields_any (ss : List Shape) (ks : List FuncId) (T : TypeId) (hT : T ≠ 5) (hl : ks.length = ss.length) (hn : ss.length ≤ 100) (hclo : ∀ i k s, ks[i]? = some k → ss[i]? = some s → CloW k s T (offs ss i))
    (w : World) (bw bv bt bl : Nat) (o : Option (List UInt8)) (vs : List (List Value)) (ts : Nat → List UInt8) (h : Wst w bw o) (h0 : 0 < ss.length)
    (hv : Bk w bv 48 #[.pointer (some ⟨bw, 0, none⟩)]) (ht : Bk w bt T vs.flatten.toArray) (hvs : Tys ss vs) (hrep : Reps w (· < bw) ss vs ts ss.length) (hbl : Bk w bl 1 (clos ks bv bt)) (d1 : bt ≠ bw) (d2 : bv ≠ bw) (d4 : bl ≠ bw) :
    Calls Tryz.prog 27 #[.pointer (some ⟨bw, 0, none⟩), .slice (some ⟨bl, 0, none⟩) ss.length ss.length] w (WRet bw w (put o (par ts ss.length))) := by
  have H := Lib.hid (listf_any ss ks T hT hl hn hclo w bw bv bt bl o vs ts h h0 hv ht hvs hrep hbl d1 d2 d4)
  clear h hv ht hbl hvs hl hclo hrep
  go_enter Tryz.func27, Tryz.ntmps27
  go_wp2_with fail
  refine H.out.mono ?_
  rintro e w1 ⟨rfl, hp⟩
  go_wp2
  go_end0
  exact ⟨rfl, hp⟩

end Go.Proofs.YtdbglgjphfkonaaGreatDoor

