/-
  Trees (types and values), data types, and what the program's functions reckon of them: plain.
-/
import Derived.Test.YtgheaoaicbkaoaaGreatDoorMNum
import Derived.Test.YtgheaoaicbkaoaaGreatDoorMWalkA
import Derived.Test.YtgheaoaicbkaoaaGreatDoorMMemB
import Derived.LoopTactic
import Derived.Shelf.Abstract
import Derived.Laws.EntriesVeiled
import Derived.ChangeAlike
import Derived.RegionTactic
import Derived.Outline
import Derived.BigRegion
import Derived.Deep.Cut
import Derived.Handy
namespace AC
set_option linter.unusedVariables false
set_option linter.unusedSimpArgs false

/-- A type or a value: kind, number, and what is below. -/
inductive Tr where
  | n (k m : Int) (kids : List Tr)
def Tr.k : Tr → Int | .n k _ _ => k
def Tr.m : Tr → Int | .n _ m _ => m
def Tr.kids : Tr → List Tr | .n _ _ l => l

mutual
def Tr.size : Tr → Nat | .n _ _ l => 1 + sizes l
def sizes : List Tr → Nat | [] => 0 | t :: l => t.size + sizes l
end
theorem Tr.size_pos (t : Tr) : 0 < t.size := by cases t; rw [Tr.size]; omega

/-- A constructor: its name and the types of its arguments; a data type: its name, how many parameters, its constructors. -/
structure CoD where
  name : List UInt8
  args : List Tr
structure DaD where
  name : List UInt8
  vars : Int
  cons : List CoD

/-! ### Subst -/
mutual
def copy : Tr → Tr | .n k m l => .n k m (copies l)
def copies : List Tr → List Tr | [] => [] | t :: l => copy t :: copies l
end
mutual
theorem copy_eq : ∀ t, copy t = t | .n k m l => by rw [copy, copies_eq l]
theorem copies_eq : ∀ l, copies l = l | [] => rfl | t :: l => by rw [copies, copy_eq t, copies_eq l]
end
/-- A type with others in the place of its variables (4: a variable). -/
def Tr.isVar (t : Tr) (n : Nat) : Bool := t.k == 4 && decide (0 ≤ t.m) && decide (t.m < n)
mutual
def subst (asx : List Tr) : Tr → Tr
  | .n k m l => if (k == 4 && decide (0 ≤ m) && decide (m < asx.length)) then asx.getD m.toNat (.n 0 0 []) else .n k m (substs asx l)
def substs (asx : List Tr) : List Tr → List Tr
  | [] => []
  | t :: l => subst asx t :: substs asx l
end
mutual
/-- The number of nodes behind Subst, or some number above 200. -/
def subSize (ss : List Nat) : Tr → Nat
  | .n k m l => if (k == 4 && decide (0 ≤ m) && decide (m < ss.length)) then ss.getD m.toNat 0 else subSizes ss 1 l
def subSizes (ss : List Nat) (n : Nat) : List Tr → Nat
  | [] => n
  | t :: l => if 200 < n + subSize ss t then n + subSize ss t else subSizes ss (n + subSize ss t) l
end
/-- The argument types of constructor c of a data type (5). -/
def fieldsD (D : List DaD) (t : Tr) (c : Int) : Option (List Tr) :=
  if t.k = 5 ∧ 0 ≤ t.m ∧ t.m < D.length then
    match D[t.m.toNat]? with
    | none => none
    | some d =>
      if (t.kids.length : Int) = d.vars ∧ 0 ≤ c ∧ c < d.cons.length then
        match d.cons[c.toNat]? with
        | none => none
        | some e => if e.args.all (fun a => decide (subSize (t.kids.map Tr.size) a ≤ 200)) then some (e.args.map (subst t.kids)) else none
      else none
  else none

/-! ### Valid types -/
/-- How many arguments a type may have: least and greatest; none: no valid head. -/
def headD (D : List DaD) (vars k m : Int) : Option (Int × Int) :=
  if k = 1 ∨ k = 2 ∨ k = 3 then (if m = 0 then some (0, 0) else none)
  else if k = 4 then (if 0 ≤ m ∧ m < vars then some (0, 0) else none)
  else if k = 5 then (if 0 ≤ m ∧ m < D.length then (D[m.toNat]?).map fun d => (d.vars, d.vars) else none)
  else if k = 6 then (if m = 0 then some (2, 6) else none)
  else if k = 7 ∨ k = 8 then (if m = 0 then some (1, 1) else none)
  else if k = 9 then (if m = 0 then some (1, 7) else none)
  else none
mutual
/-- What is left of the nodes behind a valid type; none: not valid. -/
def validT (D : List DaD) (vars : Int) (left : Nat) : Tr → Option Nat
  | .n k m l =>
    match left with
    | 0 => none
    | left + 1 =>
      match headD D vars k m with
      | none => none
      | some (lo, hi) => if lo ≤ l.length ∧ (l.length : Int) ≤ hi then validTs D vars left l else none
def validTs (D : List DaD) (vars : Int) (left : Nat) : List Tr → Option Nat
  | [] => some left
  | t :: l => match validT D vars left t with
    | none => none
    | some r => validTs D vars r l
end

/-! ### Values of a type -/
mutual
def hasT (D : List DaD) : Tr → Tr → Bool
  | .n k m l, t =>
    if t.k = 1 then k == 3 && decide (-1099511627776 ≤ m) && decide (m ≤ 1099511627776) && l.isEmpty
    else if t.k = 2 then k == 2 && (m == 0 || m == 1) && l.isEmpty
    else if t.k = 3 then k == 1 && m == 0 && l.isEmpty
    else if t.k = 6 then k == 4 && m == 0 && hasAll D l t.kids
    else if t.k = 5 then
      if k = 5 ∧ 0 ≤ m ∧ m < 8 then
        match fieldsD D t m with
        | none => false
        | some fs => hasAll D l fs
      else false
    else if t.k = 7 then k == 6 && m == 0 && decide (l.length ≤ 4096) && hasEach D l (t.kids.getD 0 (.n 0 0 []))
    else if t.k = 8 then k == 7 && m == 0 && hasAll D l t.kids
    else if t.k = 9 then k == 8 && decide (0 ≤ m) && decide (m < 64) && l.isEmpty
    else false
def hasAll (D : List DaD) : List Tr → List Tr → Bool
  | [], [] => true
  | v :: l, t :: ts => hasT D v t && hasAll D l ts
  | _, _ => false
def hasEach (D : List DaD) : List Tr → Tr → Bool
  | [], _ => true
  | v :: l, t => hasT D v t && hasEach D l t
end

end AC

/-
  A chain of more steps is a chain on a chain, and has the type: plain.
-/
namespace AC
set_option linter.unusedVariables false
set_option linter.unusedSimpArgs false

/-- The fields of a constructor: the value at the recursive places (true), the payload at the others. -/
def buildK : List Bool → List Tr → Tr → List Tr
  | [], _, _ => []
  | true :: fl, ps, v => v :: buildK fl ps v
  | false :: fl, ps, v => ps.getD 0 (.n 0 0 []) :: buildK fl (ps.drop 1) v
/-- n steps on a value. -/
def chainV (fl : List Bool) (con : Int) (ps : List Tr) : Nat → Tr → Tr
  | 0, v => v
  | n + 1, v => .n 5 con (buildK fl ps (chainV fl con ps n v))
theorem chainV_add (fl : List Bool) (con : Int) (ps : List Tr) (n m : Nat) (v : Tr) : chainV fl con ps m (chainV fl con ps n v) = chainV fl con ps (n + m) v := by
  induction m with
  | zero => rfl
  | succ m ih => rw [chainV, ih]; rfl
/-- The payload has the types of the places that are not recursive. -/
def payOk (D : List DaD) : List Bool → List Tr → List Tr → Bool
  | [], [], [] => true
  | true :: fl, ps, _ :: fs => payOk D fl ps fs
  | false :: fl, p :: ps, f :: fs => hasT D p f && payOk D fl ps fs
  | _, _, _ => false
/-- The recursive places have the type itself. -/
def recOk (t : Tr) : List Bool → List Tr → Prop
  | [], [] => True
  | true :: fl, f :: fs => f = t ∧ recOk t fl fs
  | false :: fl, _ :: fs => recOk t fl fs
  | _, _ => False
theorem hasAll_build (D : List DaD) (t v : Tr) (hv : hasT D v t = true) : ∀ (fl : List Bool) (ps fs : List Tr), payOk D fl ps fs = true → recOk t fl fs → hasAll D (buildK fl ps v) fs = true
  | [], ps, fs, hp, hr => by
    cases fs with
    | nil => cases ps with
      | nil => rfl
      | cons p ps => simp [payOk] at hp
    | cons f fs => cases hr
  | true :: fl, ps, fs, hp, hr => by
    cases fs with
    | nil => cases hr
    | cons f fs =>
      obtain ⟨rfl, hr⟩ := hr
      rw [payOk] at hp
      rw [buildK, hasAll, hv, hasAll_build D f v hv fl ps fs hp hr]
      rfl
  | false :: fl, ps, fs, hp, hr => by
    cases fs with
    | nil => cases hr
    | cons f fs =>
      cases ps with
      | nil => simp [payOk] at hp
      | cons p ps =>
        rw [payOk, Bool.and_eq_true] at hp
        rw [buildK, hasAll, List.getD_cons_zero, hp.1, List.drop_succ_cons, List.drop_zero, hasAll_build D t v hv fl ps fs hp.2 hr]
        rfl
theorem hasT_chain (D : List DaD) (t : Tr) (con : Int) (fl : List Bool) (ps fs : List Tr) (ht : t.k = 5) (h0 : 0 ≤ con) (h8 : con < 8) (hf : fieldsD D t con = some fs) (hp : payOk D fl ps fs = true) (hr : recOk t fl fs) :
    ∀ (n : Nat) (v : Tr), hasT D v t = true → hasT D (chainV fl con ps n v) t = true
  | 0, v, hv => hv
  | n + 1, v, hv => by
    have ih := hasT_chain D t con fl ps fs ht h0 h8 hf hp hr n v hv
    rw [chainV, hasT, ht]
    simp only [show ¬ (5 : Int) = 1 from by decide, show ¬ (5 : Int) = 2 from by decide, show ¬ (5 : Int) = 3 from by decide, show ¬ (5 : Int) = 6 from by decide, if_false, if_true]
    rw [if_pos ⟨trivial, h0, h8⟩, hf]
    exact hasAll_build D t _ ih fl ps fs hp hr
/-- The sum of the payload's nodes, and one. -/
def stepN : List Tr → Nat
  | [] => 1
  | p :: ps => stepN ps + p.size
theorem sizes_build (v : Tr) : ∀ (fl : List Bool) (ps : List Tr), fl.count true = 1 → fl.count false = ps.length → sizes (buildK fl ps v) + 1 = v.size + stepN ps
  | fl, ps, h1, h2 => by
    have key : ∀ (fl : List Bool) (ps : List Tr), fl.count false = ps.length → sizes (buildK fl ps v) + 1 = fl.count true * v.size + stepN ps := by
      intro fl
      induction fl with
      | nil => intro ps h; cases ps with
        | nil => simp [buildK, sizes, stepN]
        | cons p ps => simp at h
      | cons b fl ih =>
        intro ps h
        cases b with
        | true =>
          have := ih ps (by simpa using h)
          rw [buildK, sizes, List.count_cons_self, Nat.succ_mul]
          omega
        | false =>
          cases ps with
          | nil => simp at h
          | cons p ps =>
            have := ih ps (by simpa using h)
            rw [buildK, sizes, stepN, List.getD_cons_zero, List.drop_succ_cons, List.drop_zero, List.count_cons_of_ne (by decide)]
            omega
    rw [key fl ps h2, h1, Nat.one_mul]
theorem size_chain (fl : List Bool) (con : Int) (ps : List Tr) (h1 : fl.count true = 1) (h2 : fl.count false = ps.length) : ∀ (n : Nat) (v : Tr), (chainV fl con ps n v).size = v.size + n * stepN ps
  | 0, v => by simp [chainV]
  | n + 1, v => by
    have ih := size_chain fl con ps h1 h2 n v
    have := sizes_build (chainV fl con ps n v) fl ps h1 h2
    rw [chainV, Tr.size, Nat.succ_mul]
    omega

/-- Is an argument of constructor of data type d (with so many parameters) recursive? -/
def varsFrom : Int → List Tr → Bool
  | _, [] => true
  | i, a :: l => a.k == 4 && a.m == i && a.kids.isEmpty && varsFrom (i + 1) l
def recD (d vars : Int) (a : Tr) : Bool := a.k == 5 && a.m == d && decide ((a.kids.length : Int) = vars) && varsFrom 0 a.kids
theorem substs_vars (asx : List Tr) : ∀ (l : List Tr) (i : Nat), i + l.length = asx.length → varsFrom i l = true → substs asx l = asx.drop i
  | [], i, h, _ => by rw [substs, List.drop_eq_nil_of_le (by simp at h; omega)]
  | a :: l, i, h, hv => by
    obtain ⟨k, m, kids⟩ := a
    simp only [varsFrom, Tr.k, Tr.m, Tr.kids, Bool.and_eq_true, beq_iff_eq] at hv
    obtain ⟨⟨⟨rfl, rfl⟩, _⟩, hl⟩ := hv
    have hi : i < asx.length := by simp at h; omega
    have ih := substs_vars asx l (i + 1) (by simp at h; omega) (by simpa using hl)
    have c : ((4 : Int) == 4 && decide (0 ≤ (i : Int)) && decide ((i : Int) < asx.length)) = true := by simp; omega
    rw [substs, subst, if_pos c, ih, List.drop_eq_getElem_cons hi]
    simp [List.getD, List.getElem?_eq_getElem hi]
/-- A recursive argument becomes the type itself. -/
theorem subst_rec {t a : Tr} {d vars : Int} (ht : t.k = 5) (hm : t.m = d) (hl : (t.kids.length : Int) = vars) (h : recD d vars a = true) : subst t.kids a = t := by
  obtain ⟨k, m, l⟩ := a
  obtain ⟨tk, tm, ts⟩ := t
  simp only [Tr.k, Tr.m, Tr.kids] at *
  subst ht hm hl
  simp only [recD, Tr.k, Tr.m, Tr.kids, Bool.and_eq_true, beq_iff_eq, decide_eq_true_eq] at h
  obtain ⟨⟨⟨rfl, rfl⟩, h3⟩, h4⟩ := h
  have c : ((5 : Int) == 4 && decide (0 ≤ m) && decide (m < ts.length)) = false := by simp
  rw [subst, if_neg (by rw [c]; decide), substs_vars ts l 0 (by have h5 := of_decide_eq_true h3; omega) h4, List.drop_zero]
end AC

/-
  Trees in memory.
-/
namespace Go.Proofs.YtgheaoaicbkaoaaGreatDoor
open Go.RowKit AC
set_option linter.unusedVariables false
set_option linter.unusedSimpArgs false

/-- From w to w' the call has made new blocks, and written to blocks of S alone. -/
structure Fw (S : Nat → Prop) (w w' : World) : Prop where
  os : w'.os = w.os
  tape : w'.tape = w.tape
  output : w'.output = w.output
  size : w.heap.size ≤ w'.heap.size
  block : ∀ k, k < w.heap.size → ¬ S k → w'.heap[k]? = w.heap[k]?
section
variable {S S' : Nat → Prop} {a b c w w' : World}
theorem Fw.refl (S : Nat → Prop) (w : World) : Fw S w w := ⟨rfl, rfl, rfl, Nat.le_refl _, fun _ _ _ => rfl⟩
theorem Fw.then (h : Fw S a b) (k : Fw S' b c) (hS : ∀ x, S' x → S x ∨ a.heap.size ≤ x) : Fw S a c :=
  ⟨k.os.trans h.os, k.tape.trans h.tape, k.output.trans h.output, Nat.le_trans h.size k.size, fun i hi hn =>
    (k.block i (Nat.lt_of_lt_of_le hi h.size) (fun e => by rcases hS i e with h1 | h1; exact hn h1; omega)).trans (h.block i hi hn)⟩
theorem Fw.trans (h : Fw S a b) (k : Fw S b c) : Fw S a c := h.then k fun _ h => .inl h
theorem Fw.alloc (h : Fw S a b) (o : Obj) : Fw S a (b.alloc o) :=
  h.then (S' := fun _ => False) ⟨rfl, rfl, rfl, by simp, fun k hk _ => Below.heap_alloc _ _ _ hk⟩ (fun _ h => h.elim)
theorem Fw.setCell (h : Fw S a b) {p : Addr} (hp : S p.block ∨ a.heap.size ≤ p.block) (u : Value) : Fw S a (b.setCell p u) :=
  h.then (S' := fun x => x = p.block) ⟨rfl, rfl, rfl, by simp [World.setCell], fun k _ hk => Below.heap_setCell _ _ _ _ hk⟩ (fun x hx => by rw [hx]; exact hp)
theorem Fw.below (h : Fw S a b) (k : Below b.heap.size b c) : Fw S a c :=
  h.then (S' := fun _ => False) ⟨k.os, k.tape, k.output, k.size, fun i hi _ => k.block i hi⟩ (fun _ h => h.elim)
theorem Fw.toBelow (h : Fw S a b) {n : Nat} (hS : ∀ x, S x → n ≤ x) (hn : n ≤ a.heap.size) : Below n a b :=
  ⟨h.os, h.tape, h.output, h.size, fun i hi => h.block i (by omega) fun e => by have := hS i e; omega⟩
theorem Bk.fw {i : Nat} {t : TypeId} {cs : Array Value} (h : Bk w i t cs) (f : Fw S w w') (hi : ¬ S i) : Bk w' i t cs := (f.block i h.lt hi).trans h
end

theorem bk_two (w : World) (t : TypeId) (cs : Array Value) (x : Obj) : Bk ((w.alloc x).alloc (.cells cs t)) (w.heap.size + 1) t cs := by
  have := Bk.new (w.alloc x) t cs
  simpa using this
def rng (n : Int) : Prop := -9223372036854775808 ≤ n ∧ n ≤ 9223372036854775807
/-- The cells of a block from a place on. -/
def CellsA (w : World) (b off : Nat) (u : List Value) : Prop := ∀ (j : Nat) (x : Value), u[j]? = some x → w.cell? ⟨b, off + j, none⟩ = some x
mutual
/-- A tree's cells: kind, number, the slice of what is below, in blocks of D. -/
def TrR (w : World) (D : Nat → Prop) : Tr → List Value → Prop
  | .n k m l, v => rng k ∧ rng m ∧ ∃ (A : Option Addr) (len cap : Nat), v = [.int .i64 k, .int .i64 m, .slice A len cap] ∧ len = l.length ∧ len ≤ cap ∧ cap ≤ maxLen ∧
      (0 < len → ∃ b off, A = some ⟨b, off, none⟩ ∧ D b ∧ b < w.heap.size ∧ TrL w D b l off)
def TrL (w : World) (D : Nat → Prop) (b : Nat) : List Tr → Nat → Prop
  | [], _ => True
  | t :: l, off => (∃ v, CellsA w b off v ∧ TrR w D t v) ∧ TrL w D b l (off + 3)
end
/-- A slice of trees. -/
def TrS (w : World) (D : Nat → Prop) (l : List Tr) (A : Option Addr) (len cap : Nat) : Prop :=
  len = l.length ∧ len ≤ cap ∧ cap ≤ maxLen ∧ (0 < len → ∃ b off, A = some ⟨b, off, none⟩ ∧ D b ∧ b < w.heap.size ∧ TrL w D b l off)
theorem TrR.form {w : World} {D : Nat → Prop} {t : Tr} {v : List Value} (h : TrR w D t v) : ∃ A len cap, v = [.int .i64 t.k, .int .i64 t.m, .slice A len cap] ∧ TrS w D t.kids A len cap ∧ rng t.k ∧ rng t.m := by
  cases t with
  | n k m l =>
    rw [TrR] at h
    obtain ⟨h1, h2, A, len, cap, rfl, h3⟩ := h
    exact ⟨A, len, cap, rfl, h3, h1, h2⟩
theorem TrL.get {w : World} {D : Nat → Prop} {b : Nat} : ∀ {l : List Tr} {off i : Nat} (hi : i < l.length), TrL w D b l off → ∃ v, CellsA w b (off + i * 3) v ∧ TrR w D l[i] v
  | t :: l, off, 0, hi, h => by
    rw [TrL] at h
    simpa using h.1
  | t :: l, off, i + 1, hi, h => by
    rw [TrL] at h
    obtain ⟨v, h1, h2⟩ := TrL.get (l := l) (off := off + 3) (i := i) (by simpa using hi) h.2
    exact ⟨v, by rw [show off + (i + 1) * 3 = off + 3 + i * 3 from by omega]; exact h1, by simpa using h2⟩
/-- Element i of a slice of trees: its three cells. -/
theorem TrS.get {w : World} {D : Nat → Prop} {l : List Tr} {A : Option Addr} {len cap i : Nat} (h : TrS w D l A len cap) (hi : i < l.length) :
    ∃ b off A' len' cap', A = some ⟨b, off, none⟩ ∧ b < w.heap.size ∧ w.cell? ⟨b, off + i * 3, none⟩ = some (.int .i64 l[i].k) ∧ w.cell? ⟨b, off + i * 3 + 1, none⟩ = some (.int .i64 l[i].m) ∧ w.cell? ⟨b, off + i * 3 + 2, none⟩ = some (.slice A' len' cap') ∧
      TrR w D l[i] [.int .i64 l[i].k, .int .i64 l[i].m, .slice A' len' cap'] := by
  obtain ⟨hlen, _, _, h4⟩ := h
  obtain ⟨b, off, rfl, hD, hb, hL⟩ := h4 (by omega)
  obtain ⟨v, hc, hr⟩ := hL.get hi
  obtain ⟨A', len', cap', rfl, _⟩ := hr.form
  exact ⟨b, off, A', len', cap', rfl, hb, hc 0 _ rfl, hc 1 _ rfl, hc 2 _ rfl, hr⟩
/-- What leaves the blocks of D as they were leaves the tree. -/
def Keeps (D : Nat → Prop) (w w' : World) : Prop := w.heap.size ≤ w'.heap.size ∧ ∀ b, b < w.heap.size → D b → w'.heap[b]? = w.heap[b]?
mutual
theorem TrR.keep {w w' : World} {D : Nat → Prop} (hk : Keeps D w w') : ∀ {t : Tr} {v : List Value}, TrR w D t v → TrR w' D t v
  | .n k m l, v, h => by
    rw [TrR] at h ⊢
    obtain ⟨h1, h2, A, len, cap, h3, h4, h5, h6, h7⟩ := h
    refine ⟨h1, h2, A, len, cap, h3, h4, h5, h6, fun hp => ?_⟩
    obtain ⟨b, off, hA, hD, hb, hL⟩ := h7 hp
    exact ⟨b, off, hA, hD, Nat.lt_of_lt_of_le hb hk.1, TrL.keep hk hb hD hL⟩
theorem TrL.keep {w w' : World} {D : Nat → Prop} (hk : Keeps D w w') {b : Nat} (hb : b < w.heap.size) (hD : D b) : ∀ {l : List Tr} {off : Nat}, TrL w D b l off → TrL w' D b l off
  | [], _, _ => by rw [TrL]; trivial
  | t :: l, off, h => by
    rw [TrL] at h ⊢
    obtain ⟨⟨v, h1, h2⟩, h3⟩ := h
    exact ⟨⟨v, fun j x hx => (World.cell?_of_block (w := w) (hk.2 b hb hD)).trans (h1 j x hx), TrR.keep hk h2⟩, TrL.keep hk hb hD h3⟩
end
theorem TrS.keep {w w' : World} {D : Nat → Prop} (hk : Keeps D w w') {l : List Tr} {A : Option Addr} {len cap : Nat} (h : TrS w D l A len cap) : TrS w' D l A len cap := by
  obtain ⟨h1, h2, h3, h4⟩ := h
  refine ⟨h1, h2, h3, fun hp => ?_⟩
  obtain ⟨b, off, hA, hD, hb, hL⟩ := h4 hp
  exact ⟨b, off, hA, hD, Nat.lt_of_lt_of_le hb hk.1, TrL.keep hk hb hD hL⟩
mutual
theorem TrR.sub {w : World} {D D' : Nat → Prop} (hd : ∀ b, b < w.heap.size → D b → D' b) : ∀ {t : Tr} {v : List Value}, TrR w D t v → TrR w D' t v
  | .n k m l, v, h => by
    rw [TrR] at h ⊢
    obtain ⟨h1, h2, A, len, cap, h3, h4, h5, h6, h7⟩ := h
    refine ⟨h1, h2, A, len, cap, h3, h4, h5, h6, fun hp => ?_⟩
    obtain ⟨b, off, hA, hD, hb, hL⟩ := h7 hp
    exact ⟨b, off, hA, hd b hb hD, hb, TrL.sub hd hL⟩
theorem TrL.sub {w : World} {D D' : Nat → Prop} (hd : ∀ b, b < w.heap.size → D b → D' b) {b : Nat} : ∀ {l : List Tr} {off : Nat}, TrL w D b l off → TrL w D' b l off
  | [], _, _ => by rw [TrL]; trivial
  | t :: l, off, h => by
    rw [TrL] at h ⊢
    obtain ⟨⟨v, h1, h2⟩, h3⟩ := h
    exact ⟨⟨v, h1, TrR.sub hd h2⟩, TrL.sub hd h3⟩
end
theorem TrS.sub {w : World} {D D' : Nat → Prop} (hd : ∀ b, b < w.heap.size → D b → D' b) {l : List Tr} {A : Option Addr} {len cap : Nat} (h : TrS w D l A len cap) : TrS w D' l A len cap := by
  obtain ⟨h1, h2, h3, h4⟩ := h
  refine ⟨h1, h2, h3, fun hp => ?_⟩
  obtain ⟨b, off, hA, hD, hb, hL⟩ := h4 hp
  exact ⟨b, off, hA, hd b hb hD, hb, TrL.sub hd hL⟩
/-- One element as a slice of its own. -/
theorem TrS.one {w : World} {D : Nat → Prop} {l : List Tr} {b off len cap i : Nat} (h : TrS w D l (some ⟨b, off, none⟩) len cap) (hi : i < l.length) : TrS w D [l[i]] (some ⟨b, off + i * 3, none⟩) 1 (cap - i) := by
  obtain ⟨h1, h2, h3, h4⟩ := h
  obtain ⟨b', off', hA, hD, hb, hL⟩ := h4 (by omega)
  injection hA with hA
  injection hA with e1 e2
  subst e1; subst e2
  obtain ⟨v, hc, hr⟩ := hL.get hi
  refine ⟨rfl, by omega, by omega, fun _ => ⟨b, off + i * 3, rfl, hD, hb, ?_⟩⟩
  rw [TrL, TrL]
  exact ⟨⟨v, hc, hr⟩, trivial⟩
theorem Keeps.of {w w' : World} (h : Below w.heap.size w w') {D : Nat → Prop} : Keeps D w w' := ⟨h.size, fun b hb _ => h.block b hb⟩
theorem Keeps.fw {S : Nat → Prop} {w w' : World} {D : Nat → Prop} (h : Fw S w w') (hd : ∀ b, D b → ¬ S b) : Keeps D w w' := ⟨h.size, fun b hb hD => h.block b hb (hd b hD)⟩
theorem TrR.below {w w' : World} {D : Nat → Prop} {t : Tr} {v : List Value} (h : TrR w D t v) (hb : Below w.heap.size w w') : TrR w' D t v := h.keep (Keeps.of hb)
theorem TrS.below {w w' : World} {D : Nat → Prop} {l : List Tr} {A : Option Addr} {len cap : Nat} (h : TrS w D l A len cap) (hb : Below w.heap.size w w') : TrS w' D l A len cap := h.keep (Keeps.of hb)
theorem sizes_get : ∀ {l : List Tr} {i : Nat} (hi : i < l.length), l[i].size ≤ sizes l
  | t :: l, 0, _ => by rw [sizes]; simp
  | t :: l, i + 1, hi => by
    have := sizes_get (l := l) (i := i) (by simpa using hi)
    rw [sizes]
    simp
    omega
theorem sizes_take : ∀ {l : List Tr} {i : Nat} (hi : i < l.length), sizes (l.take (i + 1)) = sizes (l.take i) + l[i].size
  | t :: l, 0, _ => by simp [sizes]
  | t :: l, i + 1, hi => by
    have := sizes_take (l := l) (i := i) (by simpa using hi)
    rw [List.take_succ_cons, List.take_succ_cons, sizes, sizes, this]
    simp
    omega
theorem sizes_take_le : ∀ (l : List Tr) (i : Nat), sizes (l.take i) ≤ sizes l
  | [], i => by simp
  | t :: l, 0 => by simp [sizes]
  | t :: l, i + 1 => by
    have := sizes_take_le l i
    rw [List.take_succ_cons, sizes, sizes]
    omega
theorem Tr.size_eq (t : Tr) : t.size = 1 + sizes t.kids := by cases t; rw [Tr.size]; rfl
theorem sizes_len : ∀ (l : List Tr), l.length ≤ sizes l
  | [] => by simp
  | t :: l => by
    have := sizes_len l
    have := t.size_pos
    rw [sizes, List.length_cons]
    omega

end Go.Proofs.YtgheaoaicbkaoaaGreatDoor

