/-
  The writer: its builder, its text.
-/
import Derived.Test.YtdbglgjphfkonaaGreatDoorHCRep
import Derived.WalkKit
import Derived.WalkSpells
import Derived.WalkLawsBesides
import Derived.RegionTactic
import Derived.ChangeAlike
import Derived.BigRegion
import Derived.Lib.Builder
import Derived.Lib.AppendStr
import Derived.Lib.UnsafeStr
import Derived.Laws.Externs
import Derived.Lib.Hide
namespace Go.Proofs.YtdbglgjphfkonaaGreatDoor
open Go.RowKit AC
set_option linter.unusedVariables false
set_option linter.unusedSimpArgs false

theorem info_u8 : (Tryz.prog.info? 5).map (fun i => (i.zero, i.size, i.bytes)) = some (some (.int .u8 0), 1, 1) := by kernel_rfl
theorem info_bld : (Tryz.prog.info? 51).map (fun i => i.size) = some 2 := by kernel_rfl
theorem lies_bld : liesAt Tryz.prog Tryz.prog.depth 53 (3 / Tryz.prog.cellsOf 53) 0 51 1 = true := by kernel_rfl

/-- Block bw is a writer: it has the bytes l, and is full or not. -/
def Bst (w : World) (bw : Nat) (l : List UInt8) (full : Bool) : Prop :=
  ∃ p v, Bk w bw 53 #[p, v, .bool full] ∧ (p = .pointer none ∨ p = .pointer (some ⟨bw, 0, none⟩)) ∧ w.ownsRow (bw + 1) 5 1 v l.length (Lib.byteCells l)
/-- What a call of the writer leaves as it was. -/
def Wfr (bw : Nat) (w w' : World) : Prop :=
  Below bw w w' ∧ ∀ (b : Nat) (cs : Array Value) (T : TypeId), b ≠ bw → T ≠ 5 → Bk w b T cs → Bk w' b T cs

theorem Wfr.refl (bw : Nat) (w : World) : Wfr bw w w := ⟨Below.refl _ _, fun _ _ _ _ _ h => h⟩
theorem Wfr.trans {bw : Nat} {a b c : World} (h : Wfr bw a b) (k : Wfr bw b c) : Wfr bw a c :=
  ⟨h.1.trans k.1, fun b cs T hb hT h' => k.2 b cs T hb hT (h.2 b cs T hb hT h')⟩
theorem Wfr.drew {bw : Nat} {a b : World} (h : Wfr bw a b) : Wfr bw a b.drew := ⟨h.1.drew, fun b cs T hb hT h' => h.2 b cs T hb hT h'⟩
theorem Wfr.alloc {bw : Nat} {a b : World} (h : Wfr bw a b) (hb : bw ≤ b.heap.size) (o : Obj) : Wfr bw a (b.alloc o) := by
  refine ⟨h.1.alloc hb o, fun k cs T hk hT h' => ?_⟩
  have h1 := h.2 k cs T hk hT h'
  exact (Below.heap_alloc b o k h1.lt).trans h1
theorem Wfr.below {bw : Nat} {a b c : World} (h : Wfr bw a b) (k : Below b.heap.size b c) (hb : bw ≤ b.heap.size) : Wfr bw a c :=
  ⟨h.1.trans (k.mono hb), fun b' cs T hb' hT h' => by
    have h1 := h.2 b' cs T hb' hT h'
    exact (k.block b' h1.lt).trans h1⟩
theorem Wfr.setCell {bw : Nat} {a b : World} (h : Wfr bw a b) (i : Nat) (u : Value) : Wfr bw a (b.setCell ⟨bw, i, none⟩ u) := by
  refine ⟨h.1.setCell (Nat.le_refl _) u, fun k cs T hk hT h' => ?_⟩
  exact (Below.heap_setCell b ⟨bw, i, none⟩ u k hk).trans (h.2 k cs T hk hT h')
theorem Wfr.grown {bw : Nat} {a b c : World} (h : Wfr bw a b) (hb : bw ≤ b.heap.size) {v : Value} {n : Nat} {xs : List Value} (hown : b.ownsRow (bw + 1) 5 1 v n xs) (hg : b.grownBy c v.ownBlock) : Wfr bw a c := by
  refine ⟨h.1.grown hg hb fun g hgv => ?_, fun k cs T hk hT h' => ?_⟩
  · have := (hown.lt g hgv).1; omega
  · have h1 := h.2 k cs T hk hT h'
    exact (hg.block k h1.lt (fun e => Lib.ownBlock_ne hown h1 hT e.symm)).trans h1

theorem Bk.set {w : World} {b : Nat} {t : TypeId} {cs : Array Value} (h : Bk w b t cs) (i : Nat) (u : Value) : Bk (w.setCell ⟨b, i, none⟩ u) b t (cs.setIfInBounds i u) := by
  unfold Bk at *
  simp [World.setCell, Array.getElem?_modify, h]
theorem own_setCell {w : World} {base n b i : Nat} {v u : Value} {xs : List Value} {T : TypeId} {cs : Array Value} (h : w.ownsRow base 5 1 v n xs) (hb : Bk w b T cs) (hT : T ≠ 5) : (w.setCell ⟨b, i, none⟩ u).ownsRow base 5 1 v n xs :=
  h.kept (row := some b) ⟨rfl, rfl, rfl, by simp [World.setCell], fun k _ hk => Below.heap_setCell _ _ _ _ (fun e => hk (by simp [e]))⟩ (Or.inr (Lib.ownBlock_ne h hb hT))

theorem Bst.lt {w : World} {bw : Nat} {l : List UInt8} {full : Bool} (h : Bst w bw l full) : bw < w.heap.size := by
  obtain ⟨p, v, h1, _⟩ := h; exact h1.lt

set_option maxHeartbeats 1000000 in
set_option maxRecDepth 100000 in
theorem copyCheck_any (w : World) (bw : Nat) (l : List UInt8) (full : Bool) (h : Bst w bw l full) :
    Calls Tryz.prog 216 #[.pointer (some ⟨bw, 0, none⟩)] w fun e w' => e = .returned (.tuple #[]) ∧ Wfr bw w w' ∧ ∃ v, Bk w' bw 53 #[.pointer (some ⟨bw, 0, none⟩), v, .bool full] ∧ w'.ownsRow (bw + 1) 5 1 v l.length (Lib.byteCells l) := by
  obtain ⟨p, v, hk, hp, hown⟩ := h
  obtain ⟨j, hj, hjs⟩ := Option.map_eq_some_iff.1 info_bld
  have c0 := hk.cell 0
  have f0 := hk.frozen 0
  have hsh : w.shape? bw = some (53, 3) := by unfold Bk at hk; simp [World.shape?, hk]
  simp only [List.getElem?_toArray, List.getElem?_cons_zero] at c0
  rcases hp with rfl | rfl
  · have HK := Lib.hid hk
    have HO := Lib.hid hown
    clear hk hown
    go_enter Tryz.func216, Tryz.ntmps216
    go_wp2
    rw [Lib.run_to_unsafe w ⟨bw, 0, none⟩ Tryz.underlying49 Tryz.underlying242 hj (by rw [hjs]; decide) hsh (Nat.zero_lt_succ 2)]
    simp only [Result.andThen]
    rw [Oper.upon_value]
    go_wp2
    rw [run_callFunc_extern Tryz.func257 (by kernel_rfl) (by kernel_rfl) (by kernel_rfl) (e := Extern.AbiNoEscape.same) (by kernel_rfl)]
    rw [Lib.run_noEscape]
    simp only [Result.andThen]
    rw [Oper.upon_value]
    go_wp2
    rw [Lib.run_from_unsafe w ⟨bw, 0, none⟩ Tryz.underlying242 Tryz.underlying49 hj hsh lies_bld]
    simp only [Result.andThen]
    rw [Oper.upon_value]
    go_wp2
    go_end0
    exact ⟨rfl, (Wfr.refl _ _).setCell _ _, v, HK.out.set 0 _, own_setCell HO.out HK.out (by decide)⟩
  · have HK := Lib.hid hk
    have HO := Lib.hid hown
    clear hk hown
    go_enter Tryz.func216, Tryz.ntmps216
    go_wp2
    rw [Lib.run_neq_ptr_same w _ Tryz.underlying49 hj]
    go_wp2
    go_end0
    exact ⟨rfl, Wfr.refl _ _, v, HK.out, HO.out⟩

theorem own_form {w : World} {base : Nat} {e : TypeId} {v : Value} {n : Nat} {xs : List Value} (hown : w.ownsRow base e 1 v n xs) : ∃ ao cap, v = .slice ao n cap := by
  rcases hown.2 with ⟨hv, h0⟩ | ⟨g, cap, cur, hv, _⟩
  · exact ⟨none, 0, by rw [hv, h0]⟩
  · exact ⟨_, _, hv⟩

set_option maxHeartbeats 1000000 in
theorem bLen_any (w : World) (bw : Nat) (l : List UInt8) (full : Bool) (h : Bst w bw l full) :
    Calls Tryz.prog 157 #[.pointer (some ⟨bw, 0, none⟩)] w fun e w' => e = .returned (.int .i64 l.length) ∧ w = w' := by
  obtain ⟨p, v, hk, hp, hown⟩ := h
  obtain ⟨ao, cap, rfl⟩ := own_form hown
  have c1 := hk.cell 1
  simp only [List.getElem?_toArray, List.getElem?_cons_zero, List.getElem?_cons_succ] at c1
  clear hk hp hown
  go_enter Tryz.func157, Tryz.ntmps157
  go_wp2
  go_ret
  exact ⟨rfl, rfl⟩

set_option maxHeartbeats 1000000 in
theorem writeString_any (w : World) (bw : Nat) (l : List UInt8) (full : Bool) (s : ByteArray) (h : Bst w bw l full) (hlen : l.length + s.size ≤ 262144) :
    Calls Tryz.prog 158 #[.pointer (some ⟨bw, 0, none⟩), .string s] w fun e w' => e = .returned (.tuple #[.int .i64 s.size, .nilIface]) ∧ Wfr bw w w' ∧ Bst w' bw (l ++ s.data.toList) full := by
  obtain ⟨i0, hi, hz0, hz1, hz2⟩ := info_parts info_u8
  have hlt := h.lt
  have H := Lib.hid h
  clear h
  go_enter Tryz.func158, Tryz.ntmps158
  go_wp2_with fail
  refine (copyCheck_any _ bw l full H.out).mono ?_
  rintro e w1 ⟨rfl, hfr, v, hk, hown⟩
  have c1 := hk.cell 1
  simp only [List.getElem?_toArray, List.getElem?_cons_zero, List.getElem?_cons_succ] at c1
  have hw1 := hk.lt
  have HF := Lib.hid hfr
  have HK := Lib.hid hk
  clear hfr hk
  go_wp2_with (at_builtin; refine Lib.wpList_append_own_string _ rfl _ _ 42 9 rfl (bw + 1) 5 i0 Tryz.underlying42 Tryz.underlying9 hi hz0 hz1 hz2 _ _ _ rfl hown s rfl ?c3 ?c4 ?c5 ?_)
  case c3 => unfold maxLen; omega
  case c4 => omega
  case c5 => omega
  intro v' w2 hown' hgrow _
  have hk2 : Bk w2 bw 53 #[.pointer (some ⟨bw, 0, none⟩), v, .bool full] := (hgrow.block bw hw1 (fun e => Lib.ownBlock_ne hown HK.out (by decide) e.symm)).trans HK.out
  have d1 := hk2.cell 1
  simp only [List.getElem?_toArray, List.getElem?_cons_zero, List.getElem?_cons_succ] at d1
  have f1 := hk2.frozen 1
  obtain ⟨ao, cap, rfl⟩ := own_form hown'
  have HK2 := Lib.hid hk2
  have HO := Lib.hid hown'
  have HG := Lib.hid (HF.out.grown (by omega) hown hgrow)
  clear hk2 hown' hgrow hown c1
  go_wp2
  go_ret2
  refine ⟨rfl, HG.out.setCell _ _, _, _, HK2.out.set 1 _, .inr rfl, ?_⟩
  have h3 := own_setCell (i := 1) (u := .slice ao (l.length + s.size) cap) HO.out HK2.out (by decide)
  rw [Lib.strCells_eq, ← Lib.byteCells_append] at h3
  have h4 : (l ++ s.data.toList).length = l.length + s.size := by simp
  rw [h4]
  exact h3

end Go.Proofs.YtdbglgjphfkonaaGreatDoor

/-
  The writer: String, text.
-/
namespace Go.Proofs.YtdbglgjphfkonaaGreatDoor
open Go.RowKit AC
set_option linter.unusedVariables false
set_option linter.unusedSimpArgs false

theorem cells_u8 : Tryz.prog.cellsOf 5 = 1 := by kernel_rfl

set_option maxHeartbeats 1000000 in
set_option maxRecDepth 100000 in
theorem bString_any (w : World) (bw : Nat) (l : List UInt8) (full : Bool) (h : Bst w bw l full) (h0 : l ≠ []) (hl : l.length ≤ 262144) :
    Calls Tryz.prog 10 #[.pointer (some ⟨bw, 0, none⟩)] w fun e w' => e = .returned (.string ⟨l.toArray⟩) ∧ Below bw w w' := by
  obtain ⟨p, v, hk, hp, hown⟩ := h
  have hl0 : l.length ≠ 0 := by simpa using h0
  obtain ⟨g, cap, cur, rfl, hbg, hg, hnc, hcm, hcs, htake⟩ : ∃ g cap cur, v = .slice (some ⟨g, 0, none⟩) l.length cap ∧ bw + 1 ≤ g ∧ w.heap[g]? = some (.cells cur 5 (0, 0)) ∧ l.length ≤ cap ∧ cap ≤ maxLen ∧ cur.size = cap * 1 ∧ cur.toList.take (l.length * 1) = Lib.byteCells l := by
    rcases hown.2 with ⟨_, hz⟩ | ⟨g, cap, cur, hv, r⟩
    · exact absurd hz hl0
    · exact ⟨g, cap, cur, hv, r⟩
  have c1 := hk.drew.cell 1
  simp only [List.getElem?_toArray, List.getElem?_cons_zero, List.getElem?_cons_succ] at c1
  have hSD : (Builtin.unsafeSliceData_ #[42] 87 #[.slice (some ⟨g, 0, none⟩) l.length cap]).run Tryz.prog w.drew = .ok (.pointer (some ⟨g, 0, none⟩)) w.drew :=
    Lib.run_unsafeSliceData_row _ _ _ _ _ _ (by omega)
  have hUS : (Builtin.unsafeString_ #[87, 3] 9 #[.pointer (some ⟨g, 0, none⟩), .int .i64 l.length]).run Tryz.prog w.drew = .ok (.string ⟨l.toArray⟩) (w.drew.freeze ⟨g, 0, none⟩ l.length) := by
    refine Lib.run_unsafeString_row w.drew 87 3 9 5 Tryz.underlying87 cells_u8 g cur.size (by have hg' : w.drew.heap[g]? = some (.cells cur 5 (0, 0)) := hg; simp [World.shape?, hg']) l h0 (by omega) (by omega) ?_
    intro j x hx
    have := hown.cells (g := g) rfl j (.int .u8 x.toNat) (by simp [Lib.byteCells, hx])
    exact this
  clear hk hown hg htake hp
  go_enter Tryz.func10, Tryz.ntmps10
  go_wp2
  go_region
  all_goals (go_wp2; go_ret; exact ⟨rfl, Lib.below_freeze (Below.drew (Below.refl bw w)) (p := ⟨g, 0, none⟩) (Nat.le_of_succ_le hbg) _⟩)

/-- Block bw is a writer with the text o; none: it is full. -/
def Wst (w : World) (bw : Nat) (o : Option (List UInt8)) : Prop :=
  (match o with
  | none => ∃ l, Bst w bw l true
  | some l => Bst w bw l false ∧ l.length ≤ 262144) ∧ Gl w ∧ GN ≤ bw
/-- What a call of the writer leaves. -/
def WRet (bw : Nat) (w : World) (o : Option (List UInt8)) (e : Ending) (w' : World) : Prop :=
  e = .returned (.tuple #[]) ∧ Wst w' bw o ∧ Wfr bw w w'
theorem Wst.lt {w : World} {bw : Nat} {o : Option (List UInt8)} (h : Wst w bw o) : bw < w.heap.size := by
  cases o with
  | none => obtain ⟨⟨l, h⟩, _⟩ := h; exact h.lt
  | some l => exact h.1.1.lt
theorem Bst.fill {w : World} {bw : Nat} {l : List UInt8} {full : Bool} (h : Bst w bw l full) : Bst (w.setCell ⟨bw, 2, none⟩ (.bool true)) bw l true := by
  obtain ⟨p, v, hk, hp, hown⟩ := h
  exact ⟨p, v, hk.set 2 _, hp, own_setCell hown hk (by decide)⟩
/-- Whether it is full. -/
def isFull (o : Option (List UInt8)) : Bool := o.isNone
theorem Wst.cell {w : World} {bw : Nat} {o : Option (List UInt8)} (h : Wst w bw o) : w.cell? ⟨bw, 2, none⟩ = some (.bool (isFull o)) := by
  cases o with
  | none => obtain ⟨⟨l, p, v, hk, _⟩, _⟩ := h; exact hk.cell 2
  | some l => obtain ⟨⟨⟨p, v, hk, _⟩, _⟩, _⟩ := h; exact hk.cell 2
theorem Wst.short {w : World} {bw : Nat} {l : List UInt8} (h : Wst w bw (some l)) : l.length ≤ 262144 := h.1.2
theorem Gl.wfr {w w' : World} {bw : Nat} (h : Gl w) (f : Wfr bw w w') (hb : GN ≤ bw) : Gl w' := h.keep (fun k hk => f.1.block k (by omega)) f.1.size
theorem Bst.below {w w' : World} {bw : Nat} {l : List UInt8} {full : Bool} (h : Bst w bw l full) (hb : Below w.heap.size w w') : Bst w' bw l full := by
  obtain ⟨p, v, hk, hp, hown⟩ := h
  exact ⟨p, v, hk.below hb hk.lt, hp, hown.kept (row := none) (World.grownBy.ofBelow hb none) (by cases v.ownBlock <;> simp)⟩
theorem Wst.below {w w' : World} {bw : Nat} {o : Option (List UInt8)} (h : Wst w bw o) (hb : Below w.heap.size w w') : Wst w' bw o := by
  cases o with
  | none => obtain ⟨⟨l, h⟩, h2, h3⟩ := h; exact ⟨⟨l, h.below hb⟩, h2.below hb, h3⟩
  | some l => obtain ⟨⟨h, h1⟩, h2, h3⟩ := h; exact ⟨⟨h.below hb, h1⟩, h2.below hb, h3⟩
theorem Wst.alloc {w : World} {bw : Nat} {o : Option (List UInt8)} (h : Wst w bw o) (x : Obj) : Wst (w.alloc x) bw o := h.below ((Below.refl _ _).alloc (Nat.le_refl _) x)

set_option maxHeartbeats 2000000 in
theorem text_any (w : World) (bw : Nat) (o : Option (List UInt8)) (s : ByteArray) (h : Wst w bw o) (hs : s.size ≤ 1000000000) :
    Calls Tryz.prog 87 #[.pointer (some ⟨bw, 0, none⟩), .string s] w (WRet bw w (put o s.data.toList)) := by
  have hlt := h.lt
  cases o with
  | none =>
    obtain ⟨⟨l, h⟩, hgl, hgn⟩ := h
    have HGL := Lib.hid hgl
    clear hgl
    have c2 : w.cell? ⟨bw, 2, none⟩ = some (.bool true) := by obtain ⟨p, v, hk, _⟩ := h; exact hk.cell 2
    have f2 : w.frozen? ⟨bw, 2, none⟩ = false := by obtain ⟨p, v, hk, _⟩ := h; exact hk.frozen 2
    have H := Lib.hid h
    clear h
    go_enter Tryz.func87, Tryz.ntmps87
    go_wp2
    go_end0
    exact ⟨rfl, ⟨⟨l, H.out.fill⟩, HGL.out.set hgn _ _, hgn⟩, (Wfr.refl _ _).setCell _ _⟩
  | some l =>
    obtain ⟨⟨h, hl⟩, hgl, hgn⟩ := h
    have HGL := Lib.hid hgl
    clear hgl
    have c2 : w.cell? ⟨bw, 2, none⟩ = some (.bool false) := by obtain ⟨p, v, hk, _⟩ := h; exact hk.cell 2
    have f2 : w.frozen? ⟨bw, 2, none⟩ = false := by obtain ⟨p, v, hk, _⟩ := h; exact hk.frozen 2
    have H := Lib.hid h
    have hsz : s.data.toList.length = s.size := by simp
    have HS := Lib.hid hsz
    clear h hsz
    by_cases hfit : l.length + s.size ≤ 262144
    · have hd : decide ((262144 : Int) < (l.length : Int) + (s.size : Int)) = false := by simp; omega
      go_enter Tryz.func87, Tryz.ntmps87
      go_wp2_with fail
      refine (bLen_any _ bw l false H.out).mono ?_
      rintro e w1 ⟨rfl, rfl⟩
      go_wp2_with fail
      refine (writeString_any _ bw l false s H.out hfit).mono ?_
      rintro e w1 ⟨rfl, hfr, hb⟩
      go_wp2
      go_end0
      refine ⟨rfl, ?_, hfr⟩
      rw [put_some (by rw [HS.out]; exact hfit)]
      exact ⟨⟨hb, by rw [List.length_append, HS.out]; exact hfit⟩, HGL.out.wfr hfr hgn, hgn⟩
    · have hd : decide ((262144 : Int) < (l.length : Int) + (s.size : Int)) = true := by simp; omega
      go_enter Tryz.func87, Tryz.ntmps87
      go_wp2_with fail
      refine (bLen_any _ bw l false H.out).mono ?_
      rintro e w1 ⟨rfl, rfl⟩
      go_wp2
      go_end0
      refine ⟨rfl, ?_, (Wfr.refl _ _).setCell _ _⟩
      rw [put_full (by rw [HS.out]; exact hfit)]
      exact ⟨⟨l, H.out.fill⟩, HGL.out.set hgn _ _, hgn⟩

end Go.Proofs.YtdbglgjphfkonaaGreatDoor

/-
  A strings.Builder in a block of its own (the texts of the writer's builder, turned).
-/
namespace Go.Proofs.YtdbglgjphfkonaaGreatDoor
open Go.RowKit AC
set_option linter.unusedVariables false
set_option linter.unusedSimpArgs false

theorem lies_dbl : liesAt Tryz.prog Tryz.prog.depth 51 (2 / Tryz.prog.cellsOf 51) 0 51 1 = true := by kernel_rfl
/-- Block bw is a builder: it has the bytes l. -/
def Dst (w : World) (bw : Nat) (l : List UInt8) : Prop :=
  ∃ p v, Bk w bw 51 #[p, v] ∧ (p = .pointer none ∨ p = .pointer (some ⟨bw, 0, none⟩)) ∧ w.ownsRow (bw + 1) 5 1 v l.length (Lib.byteCells l)
theorem Dst.lt {w : World} {bw : Nat} {l : List UInt8} (h : Dst w bw l) : bw < w.heap.size := by
  obtain ⟨p, v, h1, _⟩ := h; exact h1.lt
theorem Dst.below {w w' : World} {bw : Nat} {l : List UInt8} (h : Dst w bw l) (hb : Below w.heap.size w w') : Dst w' bw l := by
  obtain ⟨p, v, hk, hp, hown⟩ := h
  exact ⟨p, v, hk.below hb hk.lt, hp, hown.kept (row := none) (World.grownBy.ofBelow hb none) (by cases v.ownBlock <;> simp)⟩

set_option maxHeartbeats 1000000 in
set_option maxRecDepth 100000 in
theorem dcopy_any (w : World) (bw : Nat) (l : List UInt8) (h : Dst w bw l) :
    Calls Tryz.prog 216 #[.pointer (some ⟨bw, 0, none⟩)] w fun e w' => e = .returned (.tuple #[]) ∧ Wfr bw w w' ∧ ∃ v, Bk w' bw 51 #[.pointer (some ⟨bw, 0, none⟩), v] ∧ w'.ownsRow (bw + 1) 5 1 v l.length (Lib.byteCells l) := by
  obtain ⟨p, v, hk, hp, hown⟩ := h
  obtain ⟨j, hj, hjs⟩ := Option.map_eq_some_iff.1 info_bld
  have c0 := hk.cell 0
  have f0 := hk.frozen 0
  have hsh : w.shape? bw = some (51, 2) := by unfold Bk at hk; simp [World.shape?, hk]
  simp only [List.getElem?_toArray, List.getElem?_cons_zero] at c0
  rcases hp with rfl | rfl
  · have HK := Lib.hid hk
    have HO := Lib.hid hown
    clear hk hown
    go_enter Tryz.func216, Tryz.ntmps216
    go_wp2
    rw [Lib.run_to_unsafe w ⟨bw, 0, none⟩ Tryz.underlying49 Tryz.underlying242 hj (by rw [hjs]; decide) hsh (Nat.zero_lt_succ 1)]
    simp only [Result.andThen]
    rw [Oper.upon_value]
    go_wp2
    rw [run_callFunc_extern Tryz.func257 (by kernel_rfl) (by kernel_rfl) (by kernel_rfl) (e := Extern.AbiNoEscape.same) (by kernel_rfl)]
    rw [Lib.run_noEscape]
    simp only [Result.andThen]
    rw [Oper.upon_value]
    go_wp2
    rw [Lib.run_from_unsafe w ⟨bw, 0, none⟩ Tryz.underlying242 Tryz.underlying49 hj hsh lies_dbl]
    simp only [Result.andThen]
    rw [Oper.upon_value]
    go_wp2
    go_end0
    exact ⟨rfl, (Wfr.refl _ _).setCell _ _, v, HK.out.set 0 _, own_setCell HO.out HK.out (by decide)⟩
  · have HK := Lib.hid hk
    have HO := Lib.hid hown
    clear hk hown
    go_enter Tryz.func216, Tryz.ntmps216
    go_wp2
    rw [Lib.run_neq_ptr_same w _ Tryz.underlying49 hj]
    go_wp2
    go_end0
    exact ⟨rfl, Wfr.refl _ _, v, HK.out, HO.out⟩

set_option maxHeartbeats 1000000 in
theorem dwrite_any (w : World) (bw : Nat) (l : List UInt8) (s : ByteArray) (h : Dst w bw l) (hlen : l.length + s.size ≤ 262144) :
    Calls Tryz.prog 158 #[.pointer (some ⟨bw, 0, none⟩), .string s] w fun e w' => e = .returned (.tuple #[.int .i64 s.size, .nilIface]) ∧ Wfr bw w w' ∧ Dst w' bw (l ++ s.data.toList) := by
  obtain ⟨i0, hi, hz0, hz1, hz2⟩ := info_parts info_u8
  have hlt := h.lt
  have H := Lib.hid h
  clear h
  go_enter Tryz.func158, Tryz.ntmps158
  go_wp2_with fail
  refine (dcopy_any _ bw l H.out).mono ?_
  rintro e w1 ⟨rfl, hfr, v, hk, hown⟩
  have c1 := hk.cell 1
  simp only [List.getElem?_toArray, List.getElem?_cons_zero, List.getElem?_cons_succ] at c1
  have hw1 := hk.lt
  have HF := Lib.hid hfr
  have HK := Lib.hid hk
  clear hfr hk
  go_wp2_with (at_builtin; refine Lib.wpList_append_own_string _ rfl _ _ 42 9 rfl (bw + 1) 5 i0 Tryz.underlying42 Tryz.underlying9 hi hz0 hz1 hz2 _ _ _ rfl hown s rfl ?c3 ?c4 ?c5 ?_)
  case c3 => unfold maxLen; omega
  case c4 => omega
  case c5 => omega
  intro v' w2 hown' hgrow _
  have hk2 : Bk w2 bw 51 #[.pointer (some ⟨bw, 0, none⟩), v] := (hgrow.block bw hw1 (fun e => Lib.ownBlock_ne hown HK.out (by decide) e.symm)).trans HK.out
  have d1 := hk2.cell 1
  simp only [List.getElem?_toArray, List.getElem?_cons_zero, List.getElem?_cons_succ] at d1
  have f1 := hk2.frozen 1
  obtain ⟨ao, cap, rfl⟩ := own_form hown'
  have HK2 := Lib.hid hk2
  have HO := Lib.hid hown'
  have HG := Lib.hid (HF.out.grown (by omega) hown hgrow)
  clear hk2 hown' hgrow hown c1
  go_wp2
  go_ret2
  refine ⟨rfl, HG.out.setCell _ _, _, _, HK2.out.set 1 _, .inr rfl, ?_⟩
  have h3 := own_setCell (i := 1) (u := .slice ao (l.length + s.size) cap) HO.out HK2.out (by decide)
  rw [Lib.strCells_eq, ← Lib.byteCells_append] at h3
  have h4 : (l ++ s.data.toList).length = l.length + s.size := by simp
  rw [h4]
  exact h3

set_option maxHeartbeats 1000000 in
set_option maxRecDepth 100000 in
theorem dstring_any (w : World) (bw : Nat) (l : List UInt8) (h : Dst w bw l) (h0 : l ≠ []) (hl : l.length ≤ 262144) :
    Calls Tryz.prog 10 #[.pointer (some ⟨bw, 0, none⟩)] w fun e w' => e = .returned (.string ⟨l.toArray⟩) ∧ Below bw w w' := by
  obtain ⟨p, v, hk, hp, hown⟩ := h
  have hl0 : l.length ≠ 0 := by simpa using h0
  obtain ⟨g, cap, cur, rfl, hbg, hg, hnc, hcm, hcs, htake⟩ : ∃ g cap cur, v = .slice (some ⟨g, 0, none⟩) l.length cap ∧ bw + 1 ≤ g ∧ w.heap[g]? = some (.cells cur 5 (0, 0)) ∧ l.length ≤ cap ∧ cap ≤ maxLen ∧ cur.size = cap * 1 ∧ cur.toList.take (l.length * 1) = Lib.byteCells l := by
    rcases hown.2 with ⟨_, hz⟩ | ⟨g, cap, cur, hv, r⟩
    · exact absurd hz hl0
    · exact ⟨g, cap, cur, hv, r⟩
  have c1 := hk.drew.cell 1
  simp only [List.getElem?_toArray, List.getElem?_cons_zero, List.getElem?_cons_succ] at c1
  have hSD : (Builtin.unsafeSliceData_ #[42] 87 #[.slice (some ⟨g, 0, none⟩) l.length cap]).run Tryz.prog w.drew = .ok (.pointer (some ⟨g, 0, none⟩)) w.drew :=
    Lib.run_unsafeSliceData_row _ _ _ _ _ _ (by omega)
  have hUS : (Builtin.unsafeString_ #[87, 3] 9 #[.pointer (some ⟨g, 0, none⟩), .int .i64 l.length]).run Tryz.prog w.drew = .ok (.string ⟨l.toArray⟩) (w.drew.freeze ⟨g, 0, none⟩ l.length) := by
    refine Lib.run_unsafeString_row w.drew 87 3 9 5 Tryz.underlying87 cells_u8 g cur.size (by have hg' : w.drew.heap[g]? = some (.cells cur 5 (0, 0)) := hg; simp [World.shape?, hg']) l h0 (by omega) (by omega) ?_
    intro j x hx
    have := hown.cells (g := g) rfl j (.int .u8 x.toNat) (by simp [Lib.byteCells, hx])
    exact this
  clear hk hown hg htake hp
  go_enter Tryz.func10, Tryz.ntmps10
  go_wp2
  go_region
  all_goals (go_wp2; go_ret; exact ⟨rfl, Lib.below_freeze (Below.drew (Below.refl bw w)) (p := ⟨g, 0, none⟩) (Nat.le_of_succ_le hbg) _⟩)

end Go.Proofs.YtdbglgjphfkonaaGreatDoor

