/-
  Regions by reckoning: a table of symbolic values is reckoned from the operations; only calls and what cannot be reckoned are shown by hand.
-/
import Derived.Test.YtgheaoaicbkaoaaGreatDoorMVy
import Derived.Test.YtgheaoaicbkaoaaGreatDoorMGa
namespace Go.Proofs.YtgheaoaicbkaoaaGreatDoor
open Go Go.RowKit AC
set_option linter.unusedVariables false
set_option linter.unusedSimpArgs false

/-! ### Conditions -/
inductive BE where
  | t | f
  | x (i : Nat)
  | n (a : BE)
  | a (p q : BE)
  | o (p q : BE)
def BE.ev (s : List Bool) : BE → Bool
  | .t => true
  | .f => false
  | .x i => s.getD i false
  | .n p => !p.ev s
  | .a p q => p.ev s && q.ev s
  | .o p q => p.ev s || q.ev s
def BE.not : BE → BE
  | .t => .f
  | .f => .t
  | p => .n p
def BE.and : BE → BE → BE
  | .t, q => q
  | .f, _ => .f
  | p, .t => p
  | _, .f => .f
  | p, q => .a p q
def BE.or : BE → BE → BE
  | .f, q => q
  | .t, _ => .t
  | p, .f => p
  | _, .t => .t
  | p, q => .o p q
theorem BE.ev_not (s : List Bool) (p : BE) : p.not.ev s = !p.ev s := by cases p <;> simp [BE.not, BE.ev]
theorem BE.ev_and (s : List Bool) (p q : BE) : (p.and q).ev s = (p.ev s && q.ev s) := by cases p <;> cases q <;> simp [BE.and, BE.ev]
theorem BE.ev_or (s : List Bool) (p q : BE) : (p.or q).ev s = (p.ev s || q.ev s) := by cases p <;> cases q <;> simp [BE.or, BE.ev]
def alls : Nat → List (List Bool)
  | 0 => [[]]
  | n + 1 => (alls n).map (true :: ·) ++ (alls n).map (false :: ·)
theorem mem_alls : ∀ s : List Bool, s ∈ alls s.length
  | [] => by simp [alls]
  | b :: s => by
    have := mem_alls s
    rw [List.length_cons, alls, List.mem_append, List.mem_map, List.mem_map]
    cases b
    · exact .inr ⟨s, this, rfl⟩
    · exact .inl ⟨s, this, rfl⟩
/-- p says q, whatever the bits are. -/
def impB (n : Nat) (p : BE) : BE → Bool
  | .t => true
  | q => (alls n).all fun s => !p.ev s || q.ev s
theorem impB_ok {s : List Bool} {p q : BE} (h : impB s.length p q = true) (hp : p.ev s = true) : q.ev s = true := by
  have key : ((alls s.length).all fun s => !p.ev s || q.ev s) = true → q.ev s = true := fun h => by
    have := List.all_eq_true.1 h s (mem_alls s)
    rw [hp] at this
    simpa using this
  cases q <;> first | rfl | exact key h

/-! ### Symbolic values -/
inductive Sy where
  | v (x : Value)
  | b (e : BE)
  | p (k o : Nat)
  | s (k o n c : Nat)
  | f (k : Nat)
structure Sp where
  mem : List (Nat × Nat × List Value)
  bs : List Bool
  fs : List (Value → World → Prop)
  ext : List (Nat × Sy)
  hint : List (Nat × Sy)
def nth {α : Type} : List α → Nat → Option α
  | [], _ => none
  | x :: _, 0 => some x
  | _ :: l, k + 1 => nth l k
theorem nth_get {α : Type} : ∀ (l : List α) (k : Nat), nth l k = l[k]?
  | [], _ => rfl
  | _ :: _, 0 => rfl
  | _ :: l, k + 1 => by rw [nth, nth_get l k]; rfl
def assoc : List (Nat × Sy) → Nat → Option Sy
  | [], _ => none
  | (i, s) :: l, k => if i = k then some s else assoc l k
def idxOf : List Nat → Nat → Nat → Option Nat
  | [], _, _ => none
  | u :: l, t, k => if u = t then some k else idxOf l t (k + 1)
theorem idxOf_some : ∀ {l : List Nat} {t k j : Nat}, idxOf l t k = some j → k ≤ j ∧ l[j - k]? = some t
  | [], _, _, _, h => by cases h
  | u :: l, t, k, j, h => by
    rw [idxOf] at h
    split at h
    · next hu => injection h with h; subst h; subst hu; simp
    · have := idxOf_some h
      refine ⟨by omega, ?_⟩
      rw [show j - k = (j - (k + 1)) + 1 from by omega, List.getElem?_cons_succ]
      exact this.2
theorem idxOf_none : ∀ {l : List Nat} {t k : Nat}, idxOf l t k = none → t ∉ l
  | [], _, _, _ => by simp
  | u :: l, t, k, h => by
    rw [idxOf] at h
    split at h
    · cases h
    · next hu =>
      rw [List.mem_cons]
      rintro (rfl | h2)
      · exact hu rfl
      · exact idxOf_none h h2
def Sp.blk (E : Sp) (k : Nat) : Nat × Nat := match nth E.mem k with
  | some z => (z.1, z.2.1)
  | none => (0, 0)
def Sp.sat (E : Sp) : Sy → Value → World → Prop
  | .v y, v, _ => v = y
  | .b e, v, _ => v = .bool (e.ev E.bs)
  | .p k o, v, _ => v = .pointer (some ⟨(E.blk k).1, (E.blk k).2 + o, none⟩)
  | .s k o n c, v, _ => v = .slice (some ⟨(E.blk k).1, (E.blk k).2 + o, none⟩) n c
  | .f k, v, x => match nth E.fs k with
    | some P => P v x
    | none => True
def Sp.den (E : Sp) : Sy → Value
  | .v y => y
  | .b e => .bool (e.ev E.bs)
  | .p k o => .pointer (some ⟨(E.blk k).1, (E.blk k).2 + o, none⟩)
  | .s k o n c => .slice (some ⟨(E.blk k).1, (E.blk k).2 + o, none⟩) n c
  | .f _ => undef
def isF : Sy → Bool
  | .f _ => true
  | _ => false
theorem Sp.sat_den {E : Sp} {s : Sy} (h : isF s = false) {v : Value} (hv : v = E.den s) (x : World) : E.sat s v x := by
  cases s <;> first | exact hv | cases h
def Sp.satC (E : Sp) (z : BE × Sy) (v : Value) (x : World) : Prop := if z.1.ev E.bs = true then E.sat z.2 v x else v = undef
def asB : Sy → Option BE
  | .b e => some e
  | .v (.bool true) => some .t
  | .v (.bool false) => some .f
  | _ => none
theorem asB_ok {E : Sp} {s : Sy} {e : BE} (h : asB s = some e) {v : Value} {x : World} (hs : E.sat s v x) : v = .bool (e.ev E.bs) := by
  unfold asB at h
  split at h
  · injection h with h; subst h; exact hs
  · injection h with h; subst h; exact hs
  · injection h with h; subst h; exact hs
  · cases h
/-- The value of an operand: acc are the values of what stands ahead, the last one first; m is the mask of what must be done. -/
def opnd (E : Sp) (slots : List Nat) (acc : List (BE × Sy)) (i m : Nat) : Operand → Option (BE × Sy)
  | .const v => some (.t, .v v)
  | .global g => some (.t, .v (.pointer (some ⟨g, 0, none⟩)))
  | .func f => some (.t, .v (.func (.func f) #[] #[]))
  | .tmp t => match idxOf slots t 0 with
    | some j => if m.testBit j && decide (j < i) then nth acc (i - 1 - j) else none
    | none => match assoc E.ext t with
      | some s => some (.t, s)
      | none => none
def getS (n : Nat) (C : BE) : Option (BE × Sy) → Option Sy
  | some (c, s) => if impB n C c then some s else none
  | none => none
def cmpS (op : BinOp) : Option Sy → Option Sy → Option Sy
  | some (.v (.int k m)), some (.v (.int k' n)) => if k = k' then match cmpBo op m n with
    | some true => some (.b .t)
    | some false => some (.b .f)
    | none => none
    else none
  | _, _ => none
def pickB (e : BE) : Option BE → Option BE → Option Sy
  | some p, some q => some (.b ((e.and p).or (e.not.and q)))
  | _, _ => none
/-- What an operation gives under the condition C. -/
def auto (P : Program) (E : Sp) (n : Nat) (ev : Operand → Option (BE × Sy)) (C : BE) : Op → Option Sy
  | .move x => getS n C (ev x)
  | .assign x => getS n C (ev x)
  | .nilCheck x => match getS n C (ev x) with
    | some (.p k o) => some (.p k o)
    | some (.v (.pointer (some p))) => some (.v (.pointer (some p)))
    | _ => none
  | .fieldAddr T x f => match getS n C (ev x) with
    | some (.p k o) => match fieldOff P T f with
      | some d => some (.p k (o + d))
      | none => none
    | _ => none
  | .load T x => match getS n C (ev x) with
    | some (.p k o) => match nth E.mem k with
      | some (_, _, cs) => if scalarB P T then (match nth cs o with | some y => some (.v y) | none => none) else match rowLenB P T with
        | some r => if o + r ≤ cs.length then some (.v (.agg ((cs.drop o).take r).toArray)) else none
        | none => none
      | none => none
    | _ => none
  | .unOp .not T x => match getS n C (ev x) with
    | some s => match asB s with
      | some e => some (.b e.not)
      | none => none
    | none => none
  | .pick c x y => match getS n C (ev c) with
    | some s => match asB s with
      | some .t => getS n C (ev x)
      | some .f => getS n C (ev y)
      | some e => pickB e (match getS n (C.and e) (ev x) with | some u => asB u | none => none) (match getS n (C.and e.not) (ev y) with | some u => asB u | none => none)
      | none => none
    | none => none
  | .binOp op T x y U => cmpS op (getS n C (ev x)) (getS n C (ev y))
  | .indexAddr T x ix => match getS n C (ev x), getS n C (ev ix) with
    | some (.s k o l c), some (.v (.int _ (.ofNat m))) => match elemSize P T with
      | some sz => if m < l then some (.p k (o + m * sz)) else none
      | none => none
    | _, _ => none
  | .call { callee := .builtin .len, args := ⟨[x]⟩, argTypes := ⟨[T]⟩ } => match getS n C (ev x) with
    | some (.v (.slice _ l _)) => if (elemSize P T).isSome then some (.v (.int .i64 l)) else none
    | some (.s _ _ l _) => if (elemSize P T).isSome then some (.v (.int .i64 l)) else none
    | _ => none
  | _ => none
/-- The condition of an operation. -/
def condG (acc : List (BE × Sy)) (i m : Nat) : Option (Nat × Bool) → Option BE
  | none => some .t
  | some (j, want) => if m.testBit j && decide (j < i) then match nth acc (i - 1 - j) with
    | some (c, s) => match asB s with
      | some e => some (c.and (if want then e else e.not))
      | none => (match c with | .f => some .f | _ => none)
    | none => none
    else none
def symI (P : Program) (E : Sp) (slots : List Nat) (acc : List (BE × Sy)) (i m : Nat) (o : Oper) : Option (BE × Sy) := match condG acc i m o.guard with
  | none => none
  | some .f => some (.f, .v undef)
  | some C => match assoc E.hint i with
    | some s => some (C, s)
    | none => match auto P E E.bs.length (opnd E slots acc i m) C o.op with
      | some s => some (C, s)
      | none => none
def symGo (P : Program) (E : Sp) (slots : List Nat) : List Oper → List Nat → Nat → List (BE × Sy) → Option (List (BE × Sy))
  | o :: r, m :: ms, i, acc => match symI P E slots acc i m o with
    | some z => symGo P E slots r ms (i + 1) (z :: acc)
    | none => none
  | _, _, _, acc => some acc
/-- The table, the last value first. -/
def symTab (P : Program) (E : Sp) (ops : Array Oper) (slots : List Nat) : Option (List (BE × Sy)) := symGo P E slots (ops.toList.take slots.length) (befs ops).toList 0 []
/-- What memory holds. -/
def MemAt (x : World) : List (Nat × Nat × List Value) → Prop
  | [] => True
  | z :: l => CellsA x z.1 z.2.1 z.2.2 ∧ MemAt x l
theorem MemAt.get {x : World} : ∀ {l : List (Nat × Nat × List Value)} {k : Nat} {z : Nat × Nat × List Value}, MemAt x l → nth l k = some z → CellsA x z.1 z.2.1 z.2.2
  | [], _, _, _, h => by cases h
  | _ :: _, 0, _, hm, h => by injection h with h; subst h; exact hm.1
  | _ :: l, k + 1, z, hm, h => MemAt.get (l := l) hm.2 h
theorem bk_cells {w : World} {b : Nat} {t : TypeId} {cs : Array Value} (h : Bk w b t cs) : CellsA w b 0 cs.toList := fun j x hx => (cell_of_row _ _ (0 + j) _ _ _ h).trans (by simpa using hx)
theorem cells1 {w : World} {b o : Nat} {x0 : Value} (h0 : w.cell? ⟨b, o, none⟩ = some x0) : CellsA w b o [x0] := by
  intro j u hu
  rcases j with _ | j
  · cases hu; exact h0
  · simp at hu
theorem cells2 {w : World} {b o : Nat} {x0 x1 : Value} (h0 : w.cell? ⟨b, o, none⟩ = some x0) (h1 : w.cell? ⟨b, o + 1, none⟩ = some x1) : CellsA w b o [x0, x1] := by
  intro j u hu
  rcases j with _ | _ | j
  · cases hu; exact h0
  · cases hu; exact h1
  · simp at hu
theorem cells3 {w : World} {b o : Nat} {x0 x1 x2 : Value} (h0 : w.cell? ⟨b, o, none⟩ = some x0) (h1 : w.cell? ⟨b, o + 1, none⟩ = some x1) (h2 : w.cell? ⟨b, o + 2, none⟩ = some x2) : CellsA w b o [x0, x1, x2] := by
  intro j u hu
  rcases j with _ | _ | _ | j
  · cases hu; exact h0
  · cases hu; exact h1
  · cases hu; exact h2
  · simp at hu
theorem CellsA.sure {w w' : World} {b o : Nat} {u : List Value} (h : CellsA w b o u) (hb : Below w.heap.size w w') (hl : b < w.heap.size) : CellsA w' b o u := fun j x hx => (World.cell?_of_block (w := w) (hb.block b hl)).trans (h j x hx)
theorem getS_ok {n : Nat} {C : BE} {z : Option (BE × Sy)} {s : Sy} (h : getS n C z = some s) : ∃ c, z = some (c, s) ∧ impB n C c = true := by
  unfold getS at h
  split at h
  · next c s' =>
    split at h
    · next hi => injection h with h; subst h; exact ⟨c, rfl, hi⟩
    · cases h
  · cases h
section
variable {P : Program} {ops : Array Oper} {Q : Exit → Act → World → Prop} {E : Sp} {C : BE} {i : Nat} {o : Oper} {I : Act → World → Prop} {a : Act} {w : World} {ev : Operand → Option (BE × Sy)}
/-- What auto says is so. -/
theorem auto_ok (hop : ∀ x c s, ev x = some (c, s) → c.ev E.bs = true → E.sat s (a.eval x) w) (hm : MemAt w E.mem) (ho : ops[i]? = some o) (hw : Region.wanted o (yielded ops a.tmps) = true) (hC : C.ev E.bs = true) {op : Op} (hoo : o.op = op) {s : Sy} (h : auto P E E.bs.length ev C op = some s)
    (hI : ∀ v, E.sat s v w → I (a.put o.dst v) w) : opOk P ops Q i I a w := by
  have get : ∀ {x : Operand} {s : Sy}, getS E.bs.length C (ev x) = some s → E.sat s (a.eval x) w := fun {x s} h => by
    obtain ⟨c, h1, h2⟩ := getS_ok h
    exact hop x c s h1 (impB_ok h2 hC)
  have get2 : ∀ {e : BE} {x : Operand} {s : Sy}, e.ev E.bs = true → getS E.bs.length (C.and e) (ev x) = some s → E.sat s (a.eval x) w := fun {e x s} he h => by
    obtain ⟨c, h1, h2⟩ := getS_ok h
    exact hop x c s h1 (impB_ok h2 (by rw [BE.ev_and, hC, he]; rfl))
  unfold auto at h
  split at h
  · exact ok_move ho hw _ hoo rfl (hI _ (get h))
  · exact ok_assign ho hw _ hoo rfl (hI _ (get h))
  · split at h
    · next k o' hg => injection h with h; subst h; exact ok_nil ho hw _ hoo _ (get hg) (hI _ rfl)
    · next p hg => injection h with h; subst h; exact ok_nil ho hw _ hoo _ (get hg) (hI _ rfl)
    · cases h
  · split at h
    · next k o' hg =>
      split at h
      · next d hd => injection h with h; subst h; exact ok_field ho hw _ _ _ d hoo _ _ (get hg) hd (hI _ (by show _ = _; rw [Nat.add_assoc]))
      · cases h
    · cases h
  · split at h
    · next k o' hg =>
      split at h
      · next b base cs hk =>
        have hcs := hm.get hk
        have hb : E.blk k = (b, base) := by unfold Sp.blk; rw [hk]
        have hp := get hg
        have hp : a.eval _ = .pointer (some ⟨(E.blk k).1, (E.blk k).2 + o', none⟩) := hp
        rw [hb] at hp
        split at h
        · next hs =>
          split at h
          · next y hy =>
            injection h with h
            subst h
            rw [nth_get] at hy
            exact ok_load1 ho hw _ _ hoo _ hp hs (hcs o' y hy) (hI _ rfl)
          · cases h
        · split at h
          · next r hr =>
            split at h
            · next hlen =>
              injection h with h
              subst h
              have hl : ((cs.drop o').take r).length = r := by rw [List.length_take, List.length_drop]; omega
              refine ok_loadN ho hw _ _ hoo b _ hp ((cs.drop o').take r) (by rw [hl]; exact hr) ?_ (hI _ rfl)
              intro j v hv
              have hj : j < r := by
                rcases Nat.lt_or_ge j r with h1 | h1
                · exact h1
                · rw [List.getElem?_eq_none (by omega)] at hv; cases hv
              have e : cs[o' + j]? = some v := by
                rw [List.getElem?_take, if_pos hj, List.getElem?_drop] at hv
                exact hv
              have := hcs (o' + j) v e
              rw [← Nat.add_assoc] at this
              exact this
            · cases h
          · cases h
      · cases h
    · cases h
  · split at h
    · next s' hg =>
      split at h
      · next e he => injection h with h; subst h; exact ok_not ho hw _ _ hoo _ (asB_ok he (get hg)) (hI _ (by show _ = _; rw [BE.ev_not]))
      · cases h
    · cases h
  · split at h
    · next s' hg =>
      split at h
      · next he => exact ok_pick ho hw _ _ _ hoo true (asB_ok he (get hg)) rfl (hI _ (get h))
      · next he => exact ok_pick ho hw _ _ _ hoo false (asB_ok he (get hg)) rfl (hI _ (get h))
      · next e _ _ he =>
        have hc := asB_ok he (get hg)
        unfold pickB at h
        split at h
        · next p q hp hq =>
          injection h with h
          subst h
          refine ok_pick ho hw _ _ _ hoo _ hc rfl (hI _ ?_)
          show _ = _
          rw [BE.ev_or, BE.ev_and, BE.ev_and, BE.ev_not]
          cases hv : e.ev E.bs with
          | true =>
            split at hp
            · next u hu => rw [if_pos rfl, asB_ok hp (get2 hv hu)]; simp
            · cases hp
          | false =>
            split at hq
            · next u hu => rw [if_neg (by decide), asB_ok hq (get2 (by rw [BE.ev_not, hv]; rfl) hu)]; simp
            · cases hq
        · cases h
      · cases h
    · cases h
  · unfold cmpS at h
    split at h
    · next k m k' n hx hy =>
      split at h
      · next hk =>
        subst hk
        split at h
        · next hc => injection h with h; subst h; exact ok_cmp ho hw _ _ _ _ _ hoo _ _ _ (get hx) (get hy) _ hc (hI _ rfl)
        · next hc => injection h with h; subst h; exact ok_cmp ho hw _ _ _ _ _ hoo _ _ _ (get hx) (get hy) _ hc (hI _ rfl)
        · cases h
      · cases h
    · cases h
  · split at h
    · next k o' l c kd m hx hy =>
      split at h
      · next sz hsz =>
        split at h
        · next hlt => injection h with h; subst h; exact ok_index ho hw _ _ _ hoo _ _ _ _ (get hx) kd m (get hy) sz hsz hlt (hI _ (by show _ = _; rw [Nat.add_assoc]))
        · cases h
      · cases h
    · cases h
  · split at h
    · next hg =>
      split at h
      · next hs => injection h with h; subst h; exact ok_len ho hw _ _ hoo _ _ _ (get hg) hs (hI _ rfl)
      · cases h
    · next hg =>
      split at h
      · next hs => injection h with h; subst h; exact ok_len ho hw _ _ hoo _ _ _ (get hg) hs (hI _ rfl)
      · cases h
    · cases h
  · cases h
end
/-! ### The table -/
theorem symGo_len {P : Program} {E : Sp} {slots : List Nat} : ∀ {l : List Oper} {ms : List Nat} {i : Nat} {acc T : List (BE × Sy)}, symGo P E slots l ms i acc = some T → l.length ≤ ms.length → T.length = acc.length + l.length
  | [], _, _, _, _, h, _ => by unfold symGo at h; injection h with h; subst h; simp
  | _ :: _, [], _, _, _, _, hl => by simp at hl
  | o :: r, m :: ms, i, acc, T, h, hl => by
    unfold symGo at h
    split at h
    · have := symGo_len h (by simpa using hl)
      rw [this]; simp; omega
    · cases h
theorem symGo_tail {P : Program} {E : Sp} {slots : List Nat} : ∀ {l : List Oper} {ms : List Nat} {i : Nat} {acc T : List (BE × Sy)}, symGo P E slots l ms i acc = some T → ∃ r, T = r ++ acc
  | [], _, _, _, _, h => by unfold symGo at h; injection h with h; exact ⟨[], by simp [h]⟩
  | _ :: _, [], _, _, _, h => by unfold symGo at h; injection h with h; exact ⟨[], by simp [h]⟩
  | o :: r, m :: ms, i, acc, T, h => by
    unfold symGo at h
    split at h
    · next z hz =>
      obtain ⟨r', hr⟩ := symGo_tail h
      exact ⟨r' ++ [z], by rw [hr]; simp⟩
    · cases h
/-- Entry i of the table is what operation i gives over the entries ahead of it. -/
theorem symGo_at {P : Program} {E : Sp} {slots : List Nat} : ∀ {l : List Oper} {ms : List Nat} {i : Nat} {acc T : List (BE × Sy)}, symGo P E slots l ms i acc = some T → acc.length = i → l.length ≤ ms.length → ∀ k (hk : k < l.length), ∃ z acc', symI P E slots acc' (i + k) (ms.getD k 0) l[k] = some z ∧ acc'.length = i + k ∧ (∃ r, T = r ++ z :: acc')
  | [], _, _, _, _, _, _, _, k, hk => absurd hk (by simp)
  | _ :: _, [], _, _, _, _, _, hl, _, _ => by simp at hl
  | o :: r, m :: ms, i, acc, T, h, ha, hl, k, hk => by
    unfold symGo at h
    split at h
    · next z hz =>
      rcases k with _ | k
      · exact ⟨z, acc, by simpa using hz, by simpa using ha, symGo_tail h⟩
      · obtain ⟨z', acc', h1, h2, h3⟩ := symGo_at h (by simp [ha]) (by simpa using hl) k (by simpa using hk)
        refine ⟨z', acc', ?_, by omega, h3⟩
        rw [show i + (k + 1) = i + 1 + k from by omega]
        simpa using h1
    · cases h
/-- Entry j of a table that is written the last one first. -/
def ent (T : List (BE × Sy)) (n j : Nat) : Option (BE × Sy) := if j < n then nth T (n - 1 - j) else none
theorem ent_acc {T r acc : List (BE × Sy)} {z : BE × Sy} {n i j : Nat} (hT : T = r ++ z :: acc) (hn : T.length = n) (hi : acc.length = i) (hj : j < i) : nth acc (i - 1 - j) = ent T n j := by
  have hl : n = r.length + 1 + i := by rw [← hn, hT]; simp; omega
  unfold ent
  rw [if_pos (by omega), nth_get, nth_get, hT, List.getElem?_append_right (by omega), show n - 1 - j - r.length = (i - 1 - j) + 1 from by omega, List.getElem?_cons_succ]
theorem ent_self {T r acc : List (BE × Sy)} {z : BE × Sy} {n i : Nat} (hT : T = r ++ z :: acc) (hn : T.length = n) (hi : acc.length = i) : ent T n i = some z := by
  have hl : n = r.length + 1 + i := by rw [← hn, hT]; simp; omega
  unfold ent
  rw [if_pos (by omega), nth_get, hT, List.getElem?_append_right (by omega), show n - 1 - i - r.length = 0 from by omega]
  rfl
/-- Entry i of the table of a region, or nothing. -/
def Sp.tab (E : Sp) (P : Program) (ops : Array Oper) (slots : List Nat) (j : Nat) : Option (BE × Sy) := match symTab P E ops slots with
  | some T => ent T slots.length j
  | none => none
def Sp.fact (E : Sp) (P : Program) (ops : Array Oper) (slots : List Nat) (j : Nat) (v : Value) (x : World) : Prop := match E.tab P ops slots j with
  | some z => E.satC z v x
  | none => False
/-- What several entries say. -/
def Sp.says (E : Sp) (S : Nat → Value) (x : World) : List (Nat × Sy) → Prop
  | [] => True
  | z :: l => E.sat z.2 (S z.1) x ∧ E.says S x l
theorem Sp.says_of {E : Sp} {P : Program} {ops : Array Oper} {slots : List Nat} {S : Nat → Value} {x : World} (h : ∀ j, j < slots.length → E.fact P ops slots j (S j) x) : ∀ {l : List (Nat × Sy)}, (l.map fun z => E.tab P ops slots z.1) = (l.map fun z => some (.t, z.2)) → E.says S x l
  | [], _ => trivial
  | z :: l, he => by
    simp only [List.map_cons, List.cons.injEq] at he
    refine ⟨?_, Sp.says_of h he.2⟩
    have hj : z.1 < slots.length := by
      rcases Nat.lt_or_ge z.1 slots.length with h1 | h1
      · exact h1
      · exfalso
        have e := he.1
        unfold Sp.tab at e
        split at e
        · unfold ent at e; rw [if_neg (by omega)] at e; cases e
        · cases e
    have := h z.1 hj
    unfold Sp.fact at this
    rw [he.1] at this
    exact this
/-- Facts that stay. -/
def stays : List (Value → World → Prop) → Prop
  | [] => True
  | R :: l => (∀ v x x', R v x → Below x.heap.size x x' → R v x') ∧ stays l
theorem stays_get : ∀ {l : List (Value → World → Prop)} {k : Nat} {R : Value → World → Prop}, stays l → nth l k = some R → ∀ v x x', R v x → Below x.heap.size x x' → R v x'
  | [], _, _, _, h => by cases h
  | _ :: _, 0, _, hm, h => by injection h with h; subst h; exact hm.1
  | _ :: l, k + 1, R, hm, h => stays_get (l := l) hm.2 h
theorem satC_stays {E : Sp} (hs : stays E.fs) {z : BE × Sy} {v : Value} {x x' : World} (h : E.satC z v x) (hb : Below x.heap.size x x') : E.satC z v x' := by
  unfold Sp.satC at h ⊢
  split at h
  · next hc =>
    rw [if_pos hc]
    obtain ⟨c, s⟩ := z
    cases s with
    | f k =>
      show (match nth E.fs k with | some R => R v x' | none => True)
      have h : (match nth E.fs k with | some R => R v x | none => True) := h
      split
      · next R hR => rw [hR] at h; exact stays_get hs hR v x x' h hb
      · trivial
    | _ => exact h
  · next hc => rw [if_neg hc]; exact h

/-- The operand over the whole table. -/
def Sp.opT (E : Sp) (P : Program) (ops : Array Oper) (slots : List Nat) (i : Nat) : Operand → Option (BE × Sy)
  | .const v => some (.t, .v v)
  | .global g => some (.t, .v (.pointer (some ⟨g, 0, none⟩)))
  | .func f => some (.t, .v (.func (.func f) #[] #[]))
  | .tmp t => match idxOf slots t 0 with
    | some j => if aheadB (befs ops) i j && decide (j < i) then E.tab P ops slots j else none
    | none => match assoc E.ext t with
      | some s => some (.t, s)
      | none => none
/-- The condition of operation i. -/
def Sp.cnd (E : Sp) (P : Program) (ops : Array Oper) (slots : List Nat) (i : Nat) : BE := match E.tab P ops slots i with
  | some z => z.1
  | none => .f
/-- An operand's value where operation i is done. -/
def Sp.opC (E : Sp) (P : Program) (ops : Array Oper) (slots : List Nat) (i : Nat) (y : Operand) : Option Sy := getS E.bs.length (E.cnd P ops slots i) (E.opT P ops slots i y)
def extOk (E : Sp) (a0 : Act) (l : List (Nat × Sy)) : Prop := (l.map fun z => a0.eval (.tmp z.1)) = l.map fun z => E.den z.2
def extV : List (Nat × Sy) → Bool
  | [] => true
  | z :: l => !isF z.2 && extV l
theorem ext_get {E : Sp} {a0 : Act} : ∀ {l : List (Nat × Sy)} {t : Nat} {s : Sy}, extOk E a0 l → extV l = true → assoc l t = some s → ∀ x, E.sat s (a0.eval (.tmp t)) x
  | [], _, _, _, _, h => by cases h
  | (i, s') :: l, t, s, h1, h2, h => by
    unfold extOk at h1
    simp only [List.map_cons, List.cons.injEq] at h1
    rw [extV, Bool.and_eq_true, Bool.not_eq_true'] at h2
    rw [assoc] at h
    split at h
    · next hi =>
      injection h with h
      subst h
      subst hi
      exact Sp.sat_den h2.1 h1.1
    · exact ext_get (l := l) h1.2 h2.2 h
section
variable {P : Program} {ops : Array Oper} {Q : Exit → Act → World → Prop}
/-- What must be shown by hand of operation i. -/
def Sp.duty (E : Sp) (P : Program) (ops : Array Oper) (Q : Exit → Act → World → Prop) (slots : List Nat) (W : World) (i : Nat) (s : Sy) : Prop :=
  ∀ (o : Oper) (x : World) (a : Act), ops[i]? = some o → Below W.heap.size W x → (E.cnd P ops slots i).ev E.bs = true → Region.wanted o (yielded ops a.tmps) = true →
    (∀ y u, E.opC P ops slots i y = some u → E.sat u (a.eval y) x) →
    opOk P ops Q i (fun a' x' => ∃ v, a' = a.put o.dst v ∧ E.sat s v x' ∧ Below x.heap.size x x') a x
def Sp.duties (E : Sp) (P : Program) (ops : Array Oper) (Q : Exit → Act → World → Prop) (slots : List Nat) (W : World) : List (Nat × Sy) → Prop
  | [] => True
  | z :: l => E.duty P ops Q slots W z.1 z.2 ∧ E.duties P ops Q slots W l
theorem duties_get {E : Sp} {slots : List Nat} {W : World} : ∀ {l : List (Nat × Sy)} {i : Nat} {s : Sy}, E.duties P ops Q slots W l → assoc l i = some s → E.duty P ops Q slots W i s
  | [], _, _, _, h => by cases h
  | (j, s') :: l, i, s, h1, h => by
    rw [assoc] at h
    split at h
    · next hi => injection h with h; subst h; subst hi; exact h1.1
    · exact duties_get h1.2 h
def symChk (P : Program) (E : Sp) (ops : Array Oper) (slots : List Nat) : Bool :=
  extV E.ext && lowB ops && (dstsOk ops slots && lastB (befs ops) ops slots.length && decide slots.Nodup && decide (slots.length ≤ ops.size)) && (symTab P E ops slots).isSome && decide ((befs ops).size = ops.size)
theorem bgo_size : ∀ (l : List Oper) (acc : Array Nat), (bgo l acc).size = acc.size + l.length
  | [], acc => by rw [bgo]; simp
  | o :: r, acc => by rw [bgo, bgo_size r]; simp; omega
/-- One operation, by the table. -/
theorem sym_step {E : Sp} {slots : List Nat} {W : World} {T : List (BE × Sy)} (hT : symTab P E ops slots = some T) (hsz : slots.length ≤ ops.size) (hfs : stays E.fs) {a0 : Act} (hext : extOk E a0 E.ext) (hextv : extV E.ext = true) (hmem : ∀ x, Below W.heap.size W x → MemAt x E.mem)
    (hdst : dstsOk ops slots = true) (hdu : E.duties P ops Q slots W E.hint)
    (i : Nat) (o : Oper) (s : Nat → Value) (d : Nat → Bool) (x : World) (a : Act) (ho : ops[i]? = some o) (hi : i < slots.length) (hbx : Below W.heap.size W x)
    (hdep : ∀ j, aheadB (befs ops) i j = true → j < slots.length → d j = true ∧ E.fact P ops slots j (s j) x)
    (ha : ∀ j, j < slots.length → a.tmps[slots.getD j 0]? = some (s j)) (hz : ∀ t, t ∉ slots → a.tmps[t]? = a0.tmps[t]?) :
    opOk P ops Q i (fun a' x' => ∃ v, a' = a.put (some (slots.getD i 0)) v ∧ E.fact P ops slots i v x' ∧ Below x.heap.size x x') a x := by
  have hbl : (befs ops).toList.length = ops.size := by have := bgo_size ops.toList #[]; simpa [befs] using this
  have hlt : (ops.toList.take slots.length).length = slots.length := by rw [List.length_take]; simp; omega
  have hTl : T.length = slots.length := by
    have := symGo_len hT (by rw [hlt, hbl]; exact hsz)
    simpa [hlt] using this
  obtain ⟨z, acc, hs1, hs2, r, hr⟩ := symGo_at hT rfl (by rw [hlt, hbl]; exact hsz) i (by rw [hlt]; exact hi)
  rw [Nat.zero_add] at hs1 hs2
  have hoi : (ops.toList.take slots.length)[i]'(by rw [hlt]; exact hi) = o := by
    rw [List.getElem_take, Array.getElem_toList]
    exact (Array.getElem?_eq_some_iff.1 ho).2
  rw [hoi] at hs1
  have hmi : (befs ops).toList.getD i 0 = (befs ops).getD i 0 := by
    rw [List.getD_eq_getElem?_getD, Array.getD_eq_getD_getElem?, Array.getElem?_toList]
  rw [hmi] at hs1
  have htab : ∀ j, E.tab P ops slots j = ent T slots.length j := fun j => by unfold Sp.tab; rw [hT]
  have hself : E.tab P ops slots i = some z := by rw [htab]; exact ent_self hr hTl hs2
  have hacc : ∀ j, j < i → nth acc (i - 1 - j) = E.tab P ops slots j := fun j hj => by rw [htab]; exact ent_acc hr hTl hs2 hj
  have hfact : ∀ v x', E.satC z v x' → E.fact P ops slots i v x' := fun v x' h => by unfold Sp.fact; rw [hself]; exact h
  have hsl : ∀ j, slots[j]? = some (slots.getD j 0) ∨ slots.length ≤ j := fun j => by
    rcases Nat.lt_or_ge j slots.length with h | h
    · exact .inl (by rw [List.getD_eq_getElem?_getD, List.getElem?_eq_getElem h]; rfl)
    · exact .inr h
  have hdsti : o.dst = some (slots.getD i 0) := by
    have := List.all_eq_true.1 hdst i (List.mem_range.2 hi)
    rw [ho] at this
    have := of_decide_eq_true this
    rw [this]
    rcases hsl i with h | h
    · exact h
    · omega
  -- an entry ahead holds
  have hent : ∀ j c u, j < i → aheadB (befs ops) i j = true → nth acc (i - 1 - j) = some (c, u) → E.satC (c, u) (s j) x := fun j c u hj hah hn => by
    have hf := (hdep j hah (by omega)).2
    unfold Sp.fact at hf
    rw [← hacc j hj, hn] at hf
    exact hf
  have hextx : ∀ t u, t ∉ slots → assoc E.ext t = some u → E.sat u (a.eval (.tmp t)) x := fun t u ht hu => by
    have h1 := ext_get hext hextv hu x
    have e : a.eval (.tmp t) = a0.eval (.tmp t) := by
      show a.tmps.getD t undef = a0.tmps.getD t undef
      rw [Array.getD_eq_getD_getElem?, Array.getD_eq_getD_getElem?, hz t ht]
    rw [e]; exact h1
  have hopT : ∀ y c u, E.opT P ops slots i y = some (c, u) → c.ev E.bs = true → E.sat u (a.eval y) x := by
    intro y c u hy hc
    cases y with
    | const v => simp only [Sp.opT, Option.some.injEq, Prod.mk.injEq] at hy; obtain ⟨rfl, rfl⟩ := hy; rfl
    | global g => simp only [Sp.opT, Option.some.injEq, Prod.mk.injEq] at hy; obtain ⟨rfl, rfl⟩ := hy; rfl
    | func f => simp only [Sp.opT, Option.some.injEq, Prod.mk.injEq] at hy; obtain ⟨rfl, rfl⟩ := hy; rfl
    | tmp t =>
      unfold Sp.opT at hy
      simp only at hy
      cases hix : idxOf slots t 0 with
      | some j =>
        rw [hix] at hy
        simp only at hy
        by_cases hcj : (aheadB (befs ops) i j && decide (j < i)) = true
        · rw [if_pos hcj] at hy
          rw [Bool.and_eq_true, decide_eq_true_eq] at hcj
          have hsj := (idxOf_some hix).2
          rw [Nat.sub_zero] at hsj
          have h1 := hent j c u hcj.2 hcj.1 (by rw [hacc j hcj.2]; exact hy)
          unfold Sp.satC at h1
          rw [if_pos hc] at h1
          have hjl : j < slots.length := by omega
          have e : a.eval (.tmp t) = s j := ev (by have := ha j hjl; rw [List.getD_eq_getElem?_getD, hsj] at this; exact this)
          rw [e]; exact h1
        · rw [if_neg hcj] at hy; cases hy
      | none =>
        rw [hix] at hy
        simp only at hy
        cases hx : assoc E.ext t with
        | none => rw [hx] at hy; cases hy
        | some u' =>
          rw [hx] at hy
          simp only [Option.some.injEq, Prod.mk.injEq] at hy
          obtain ⟨rfl, rfl⟩ := hy
          exact hextx t u' (idxOf_none hix) hx
  have hopA : ∀ y c u, opnd E slots acc i ((befs ops).getD i 0) y = some (c, u) → c.ev E.bs = true → E.sat u (a.eval y) x := by
    intro y c u hy hc
    refine hopT y c u ?_ hc
    cases y with
    | tmp t =>
      unfold opnd at hy
      unfold Sp.opT
      simp only at hy ⊢
      cases hix : idxOf slots t 0 with
      | some j =>
        rw [hix] at hy
        simp only at hy ⊢
        by_cases hcj : (((befs ops).getD i 0).testBit j && decide (j < i)) = true
        · rw [if_pos hcj] at hy
          have hcj2 := hcj
          rw [Bool.and_eq_true, decide_eq_true_eq] at hcj2
          have hcj3 : (aheadB (befs ops) i j && decide (j < i)) = true := hcj
          rw [if_pos hcj3, ← hacc j hcj2.2]
          exact hy
        · rw [if_neg hcj] at hy; cases hy
      | none => rw [hix] at hy; simp only at hy ⊢; exact hy
    | _ => exact hy
  unfold symI at hs1
  -- the guard
  have hguard : ∀ C, condG acc i ((befs ops).getD i 0) o.guard = some C →
      (C.ev E.bs = true → Region.wanted o (yielded ops a.tmps) = true) ∧ (C.ev E.bs = false → ∀ I : Act → World → Prop, I (a.put o.dst undef) x → opOk P ops Q i I a x) := by
    intro C hC
    cases hg : o.guard with
    | none =>
      rw [hg] at hC
      simp only [condG, Option.some.injEq] at hC
      subst hC
      refine ⟨fun _ => by unfold Region.wanted; rw [hg], fun h => by cases h⟩
    | some jw =>
      obtain ⟨j, want⟩ := jw
      rw [hg] at hC
      simp only [condG] at hC
      by_cases hcj : (((befs ops).getD i 0).testBit j && decide (j < i)) = true
      · rw [if_pos hcj] at hC
        rw [Bool.and_eq_true, decide_eq_true_eq] at hcj
        cases hn : nth acc (i - 1 - j) with
        | none => rw [hn] at hC; cases hC
        | some cu =>
          obtain ⟨c, u⟩ := cu
          rw [hn] at hC
          simp only at hC
          have hjl : j < slots.length := by omega
          have hsat := hent j c u hcj.2 hcj.1 hn
          have hdj : (ops[j]?).bind (·.dst) = some (slots.getD j 0) := by
            have := List.all_eq_true.1 hdst j (List.mem_range.2 hjl)
            cases hoj : ops[j]? with
            | none => rw [hoj] at this; cases this
            | some oj =>
              rw [hoj] at this
              have := of_decide_eq_true this
              show oj.dst = _
              rw [this]
              rcases hsl j with h | h
              · exact h
              · omega
          have haj := ha j hjl
          have skipU : s j = undef → ∀ I : Act → World → Prop, I (a.put o.dst undef) x → opOk P ops Q i I a x := fun hu I hI => ok_skipU ho hg _ hdj (by rw [haj, hu]) hI
          cases hb : asB u with
          | none =>
            rw [hb] at hC
            simp only at hC
            cases c with
            | f =>
              simp only [Option.some.injEq] at hC
              subst hC
              exact ⟨fun h => (by cases h), fun _ => skipU hsat⟩
            | _ => cases hC
          | some e =>
            rw [hb] at hC
            simp only [Option.some.injEq] at hC
            subst hC
            have hwe : (if want then e else e.not).ev E.bs = (e.ev E.bs == want) := by cases want <;> simp [BE.ev_not]
            cases hcv : c.ev E.bs with
            | false =>
              unfold Sp.satC at hsat
              rw [if_neg (by simp [hcv])] at hsat
              refine ⟨fun h => ?_, fun _ => skipU hsat⟩
              rw [BE.ev_and, hcv] at h
              cases h
            | true =>
              unfold Sp.satC at hsat
              rw [if_pos hcv] at hsat
              have hv := asB_ok hb hsat
              refine ⟨fun h => ?_, fun h I hI => ?_⟩
              · rw [BE.ev_and, hcv, hwe, Bool.true_and, beq_iff_eq] at h
                exact wanted_g hg _ hdj (by rw [haj, hv, h])
              · rw [BE.ev_and, hcv, hwe, Bool.true_and] at h
                refine ok_skip ho hg _ hdj ?_ hI
                rw [haj, hv]
                have : e.ev E.bs = !want := by cases hq : e.ev E.bs <;> cases want <;> simp_all
                rw [this]
      · rw [if_neg hcj] at hC; cases hC
  cases hC : condG acc i ((befs ops).getD i 0) o.guard with
  | none => rw [hC] at hs1; cases hs1
  | some C =>
    rw [hC] at hs1
    obtain ⟨hyes, hno⟩ := hguard C hC
    have fin0 : z.1 = C → C.ev E.bs = false → opOk P ops Q i (fun a' x' => ∃ v, a' = a.put (some (slots.getD i 0)) v ∧ E.fact P ops slots i v x' ∧ Below x.heap.size x x') a x := fun hz1 hCv =>
      hno hCv _ ⟨undef, by rw [hdsti], hfact _ _ (by unfold Sp.satC; rw [hz1, if_neg (by simp [hCv])]), Below.refl _ _⟩
    have main : (match assoc E.hint i with
        | some s => some (C, s)
        | none => match auto P E E.bs.length (opnd E slots acc i ((befs ops).getD i 0)) C o.op with
          | some s => some (C, s)
          | none => none) = some z → opOk P ops Q i (fun a' x' => ∃ v, a' = a.put (some (slots.getD i 0)) v ∧ E.fact P ops slots i v x' ∧ Below x.heap.size x x') a x := by
      intro hs
      cases hh : assoc E.hint i with
      | some u =>
        rw [hh] at hs
        simp only [Option.some.injEq] at hs
        subst hs
        cases hCv : C.ev E.bs with
        | false => exact fin0 rfl hCv
        | true =>
          have hcn : E.cnd P ops slots i = C := by unfold Sp.cnd; rw [hself]
          refine opOk.of (wpOp_mono ?_ (duties_get hdu hh o x a ho hbx (by rw [hcn]; exact hCv) (hyes hCv) (fun y u hy => by
            obtain ⟨c, h1, h2⟩ := getS_ok hy
            rw [hcn] at h2
            exact hopT y c u h1 (impB_ok h2 hCv))).out)
          rintro a' x' ⟨v, rfl, hsv, hb⟩
          exact ⟨v, by rw [hdsti], hfact _ _ (by unfold Sp.satC; rw [if_pos hCv]; exact hsv), hb⟩
      | none =>
        rw [hh] at hs
        simp only at hs
        cases hau : auto P E E.bs.length (opnd E slots acc i ((befs ops).getD i 0)) C o.op with
        | none => rw [hau] at hs; cases hs
        | some u =>
          rw [hau] at hs
          simp only [Option.some.injEq] at hs
          subst hs
          cases hCv : C.ev E.bs with
          | false => exact fin0 rfl hCv
          | true =>
            refine auto_ok hopA (hmem x hbx) ho (hyes hCv) hCv rfl hau fun v hv => ?_
            exact ⟨v, by rw [hdsti], hfact _ _ (by unfold Sp.satC; rw [if_pos hCv]; exact hv), Below.refl _ _⟩
    cases C with
    | f =>
      simp only [Option.some.injEq] at hs1
      subst hs1
      exact fin0 rfl rfl
    | _ => exact main hs1
/-- A region by its table. -/
theorem wp_region_sym {id : Nat} {a0 : Act} {w0 : World} {dr : Bool} (E : Sp) (slots : List Nat) (W : World) (hW : Below W.heap.size W (if dr = true then w0.drew else w0)) (hm : P.follows .mixedOrders = true) (hchk : symChk P E ops slots = true) (hsz : slots.all (fun t => decide (t < a0.tmps.size)) = true)
    (hfs : stays E.fs) (hext : (E.ext.map fun z => a0.eval (.tmp z.1)) = E.ext.map fun z => E.den z.2) (hmem : ∀ x, Below W.heap.size W x → MemAt x E.mem) (hdu : E.duties P ops Q slots W E.hint)
    (fin : ∀ (s : Nat → Value) (x : World), Below W.heap.size W x → (∀ {l : List (Nat × Sy)}, (l.map fun z => E.tab P ops slots z.1) = (l.map fun z => some (.t, z.2)) → E.says s x l) → wpList P ops Q (ops.toList.drop slots.length) (putAll a0 slots 0 s) x) :
    (Code.region id ops dr).wp P Q a0 w0 := by
  unfold symChk at hchk
  rw [Bool.and_eq_true, Bool.and_eq_true, Bool.and_eq_true, Bool.and_eq_true] at hchk
  obtain ⟨⟨⟨⟨hextv, hlow⟩, hok⟩, hsome⟩, _⟩ := hchk
  obtain ⟨T, hT⟩ := Option.isSome_iff_exists.1 hsome
  have hok' := hok
  simp only [Bool.and_eq_true, decide_eq_true_eq] at hok'
  obtain ⟨⟨⟨hdst, _⟩, hnd⟩, hle⟩ := hok'
  have stab : ∀ (d : Nat → Bool) i j v x x', i < slots.length → j < slots.length → i ≠ j → d i = true → d j = false → (∀ k, aheadB (befs ops) j k = true → d k = true) → E.fact P ops slots i v x → Below x.heap.size x x' → E.fact P ops slots i v x' := by
    intro d i j v x x' _ _ _ _ _ _ h hb
    unfold Sp.fact at h ⊢
    split at h
    · exact satC_stays hfs h hb
    · exact h.elim
  cases dr with
  | true =>
    refine wp_region_ops hm hlow slots hok hsz (fun _ x => Below W.heap.size W x) (fun _ x x' => Below x.heap.size x x') (fun _ i v x => E.fact P ops slots i v x) hW (fun d j x x' h _ hg => h.trans (hg.mono h.size)) stab ?_ ?_
    · intro i o s d x a ho hi hd hbx hdep ha hz
      exact sym_step hT hle hfs hext hextv hmem hdst hdu i o s d x a ho hi hbx hdep ha hz
    · intro s d x hbx hF
      exact fin s x hbx fun {l} hl => Sp.says_of (fun j hj => (hF j hj).2) hl
  | false =>
    refine wp_plain_ops hlow slots (by simp only [Bool.and_eq_true, decide_eq_true_eq]; exact ⟨⟨hdst, hnd⟩, hle⟩) hsz (fun _ x => Below W.heap.size W x) (fun _ x x' => Below x.heap.size x x') (fun _ i v x => E.fact P ops slots i v x) hW (fun d j x x' h _ hg => h.trans (hg.mono h.size)) stab ?_ ?_
    · intro i o s d x a ho hi hd hbx hdep ha hz
      exact sym_step hT hle hfs hext hextv hmem hdst hdu i o s d x a ho hi hbx hdep ha hz
    · intro s d x hbx hF
      exact fin s x hbx fun {l} hl => Sp.says_of (fun j hj => (hF j hj).2) hl
theorem dN {E : Sp} {slots : List Nat} {W : World} : E.duties P ops Q slots W [] := trivial
theorem dI {E : Sp} {slots : List Nat} {W : World} {i : Nat} {s : Sy} {l : List (Nat × Sy)} (h : E.duty P ops Q slots W i s) (t : E.duties P ops Q slots W l) : E.duties P ops Q slots W ((i, s) :: l) := ⟨h, t⟩
theorem mN {x : World} : MemAt x [] := trivial
theorem mI {x : World} {z : Nat × Nat × List Value} {l : List (Nat × Nat × List Value)} (h : CellsA x z.1 z.2.1 z.2.2) (t : MemAt x l) : MemAt x (z :: l) := ⟨h, t⟩
theorem sN : stays [] := trivial
theorem sI {R : Value → World → Prop} {l : List (Value → World → Prop)} (h : ∀ v x x', R v x → Below x.heap.size x x' → R v x') (t : stays l) : stays (R :: l) := ⟨h, t⟩
section
variable {E : Sp} {slots : List Nat} {W : World} {i : Nat} {s : Sy}
def Sp.satL (E : Sp) (x : World) : List Sy → List Value → Prop
  | [], [] => True
  | s :: l, v :: r => E.sat s v x ∧ E.satL x l r
  | _, _ => False
theorem satL_of {a : Act} {x : World} (h : ∀ y u, E.opC P ops slots i y = some u → E.sat u (a.eval y) x) : ∀ {l : List Operand} {ss : List Sy}, (l.map (E.opC P ops slots i)) = ss.map some → E.satL x ss (l.map a.eval)
  | [], [], _ => trivial
  | [], _ :: _, h => by cases h
  | _ :: _, [], h => by cases h
  | y :: l, u :: ss, he => by
    simp only [List.map_cons, List.cons.injEq] at he
    exact ⟨h y u he.1, satL_of h he.2⟩
/-- A call: what its arguments are, what it gives. -/
theorem duty_call (ss : List Sy) {o : Oper} (ho : ops[i]? = some o) {f : FuncId} {args : List Operand} {ats : Array TypeId} (hop : o.op = .call { callee := .value (.func f), args := args.toArray, argTypes := ats }) (hf : entersB P f = true) (hA : (args.map (E.opC P ops slots i)) = ss.map some)
    (K : ∀ (x : World) (vs : List Value), Below W.heap.size W x → (E.cnd P ops slots i).ev E.bs = true → E.satL x ss vs → Calls P f vs.toArray x (fun e w' => ∃ v, e = .returned v ∧ E.sat s v w' ∧ Below x.heap.size x w')) : E.duty P ops Q slots W i s := by
  intro o' x a ho' hbx hC hw hop'
  rw [ho] at ho'
  injection ho' with ho'
  subst ho'
  refine ok_call ho hw f args ats hop hf _ rfl (K x _ hbx hC (satL_of hop' hA)) ?_
  rintro e w' ⟨v, he, hs, hb⟩
  exact ⟨v, he, v, rfl, hs, hb⟩
theorem satL1 {x : World} {s1 : Sy} {vs : List Value} (h : E.satL x [s1] vs) : ∃ v1, vs = [v1] ∧ E.sat s1 v1 x := by
  rcases vs with _ | ⟨v1, _ | ⟨_, _⟩⟩
  · exact h.elim
  · exact ⟨v1, rfl, h.1⟩
  · exact h.2.elim
theorem satL2 {x : World} {s1 s2 : Sy} {vs : List Value} (h : E.satL x [s1, s2] vs) : ∃ v1 v2, vs = [v1, v2] ∧ E.sat s1 v1 x ∧ E.sat s2 v2 x := by
  rcases vs with _ | ⟨v1, vs⟩
  · exact h.elim
  · obtain ⟨v2, rfl, h2⟩ := satL1 h.2
    exact ⟨v1, v2, rfl, h.1, h2⟩
theorem satL3 {x : World} {s1 s2 s3 : Sy} {vs : List Value} (h : E.satL x [s1, s2, s3] vs) : ∃ v1 v2 v3, vs = [v1, v2, v3] ∧ E.sat s1 v1 x ∧ E.sat s2 v2 x ∧ E.sat s3 v3 x := by
  rcases vs with _ | ⟨v1, vs⟩
  · exact h.elim
  · obtain ⟨v2, v3, rfl, h2⟩ := satL2 h.2
    exact ⟨v1, v2, v3, rfl, h.1, h2⟩
theorem satL4 {x : World} {s1 s2 s3 s4 : Sy} {vs : List Value} (h : E.satL x [s1, s2, s3, s4] vs) : ∃ v1 v2 v3 v4, vs = [v1, v2, v3, v4] ∧ E.sat s1 v1 x ∧ E.sat s2 v2 x ∧ E.sat s3 v3 x ∧ E.sat s4 v4 x := by
  rcases vs with _ | ⟨v1, vs⟩
  · exact h.elim
  · obtain ⟨v2, v3, v4, rfl, h2⟩ := satL3 h.2
    exact ⟨v1, v2, v3, v4, rfl, h.1, h2⟩
def cmpP : BinOp → Int → Int → Prop
  | .eql, m, n => m = n
  | .neq, m, n => m ≠ n
  | .lss, m, n => m < n
  | .leq, m, n => m ≤ n
  | .gtr, m, n => m > n
  | .geq, m, n => m ≥ n
  | _, _, _ => False
def cmpN : BinOp → Int → Int → Prop
  | .eql, m, n => ¬ m = n
  | .neq, m, n => ¬ m ≠ n
  | .lss, m, n => ¬ m < n
  | .leq, m, n => ¬ m ≤ n
  | .gtr, m, n => ¬ m > n
  | .geq, m, n => ¬ m ≥ n
  | _, _, _ => False
theorem cmp_t {op : BinOp} {m n : Int} {s : List Bool} (h : cmpP op m n) : cmpBo op m n = some (BE.t.ev s) := by
  cases op <;> first | exact h.elim | (simp only [cmpBo, BE.ev]; congr 1; have h : _ := h; unfold cmpP at h; simpa using h)
theorem cmp_f {op : BinOp} {m n : Int} {s : List Bool} (h : cmpN op m n) : cmpBo op m n = some (BE.f.ev s) := by
  cases op <;> first | exact h.elim | (simp only [cmpBo, BE.ev]; congr 1; have h : _ := h; unfold cmpN at h; simpa using h)
/-- A comparison of ints. -/
theorem duty_cmp {o : Oper} (ho : ops[i]? = some o) {op : BinOp} {T U : TypeId} {x y : Operand} (hop : o.op = .binOp op T x y U) (k : IntKind) (m n : Int) (e : BE) (hA : [E.opC P ops slots i x, E.opC P ops slots i y] = [some (.v (.int k m)), some (.v (.int k n))]) (hb : cmpBo op m n = some (e.ev E.bs)) : E.duty P ops Q slots W i (.b e) := by
  intro o' w a ho' hbx hC hw hop'
  rw [ho] at ho'
  injection ho' with ho'
  subst ho'
  simp only [List.cons.injEq, and_true] at hA
  exact ok_cmp ho hw op T U x y hop k m n (hop' x _ hA.1) (hop' y _ hA.2) _ hb ⟨_, rfl, rfl, Below.refl _ _⟩
/-- A place in a row. -/
theorem duty_index {o : Oper} (ho : ops[i]? = some o) {T : TypeId} {x y : Operand} (hop : o.op = .indexAddr T x y) (b off n c : Nat) (kd : IntKind) (m sz kb : Nat) (hA : [E.opC P ops slots i x, E.opC P ops slots i y] = [some (.v (.slice (some ⟨b, off, none⟩) n c)), some (.v (.int kd m))]) (hs : elemSize P T = some sz) (hlt : (E.cnd P ops slots i).ev E.bs = true → m < n) (hp : E.blk kb = (b, off + m * sz)) : E.duty P ops Q slots W i (.p kb 0) := by
  intro o' w a ho' hbx hC hw hop'
  rw [ho] at ho'
  injection ho' with ho'
  subst ho'
  simp only [List.cons.injEq, and_true] at hA
  refine ok_index ho hw T x y hop b off n c (hop' x _ hA.1) kd m (hop' y _ hA.2) sz hs (hlt hC) ⟨_, rfl, ?_, Below.refl _ _⟩
  show _ = _
  rw [hp]
  rfl
theorem wrap_i64 {n : Int} (h : -9223372036854775808 ≤ n ∧ n ≤ 9223372036854775807) : IntKind.wrap .i64 n = n := by
  rw [IntKind.wrap_i64]
  omega
/-- Sum and difference. -/
theorem duty_arith {o : Oper} (ho : ops[i]? = some o) {op : BinOp} {T U : TypeId} {x y : Operand} (hop : o.op = .binOp op T x y U) (m n r : Int) (hA : [E.opC P ops slots i x, E.opC P ops slots i y] = [some (.v (.int .i64 m)), some (.v (.int .i64 n))])
    (h : (op = .add ∧ m + n = r) ∨ (op = .sub ∧ m - n = r)) (hr : (E.cnd P ops slots i).ev E.bs = true → -9223372036854775808 ≤ r ∧ r ≤ 9223372036854775807) : E.duty P ops Q slots W i (.v (.int .i64 r)) := by
  intro o' w a ho' hbx hC hw hop'
  rw [ho] at ho'
  injection ho' with ho'
  subst ho'
  simp only [List.cons.injEq, and_true] at hA
  have hx := hop' x _ hA.1
  have hy := hop' y _ hA.2
  have hx : a.eval x = .int .i64 m := hx
  have hy : a.eval y = .int .i64 n := hy
  refine ok_run ho hw (v := .int .i64 r) ?_ ⟨_, rfl, rfl, Below.refl _ _⟩
  unfold execOp
  rw [hop]
  simp only [hx, hy]
  rcases h with ⟨rfl, rfl⟩ | ⟨rfl, rfl⟩
  · simp [eqGuard, binOp, Op.intArith, Sem.run_bind, wrap_i64 (hr hC)]
  · simp [eqGuard, binOp, Op.intArith, Sem.run_bind, wrap_i64 (hr hC)]
def isStr (P : Program) (T : TypeId) : Bool := match P.underlying T with
  | some .string => true
  | _ => false
/-- A byte of a string. -/
theorem duty_sindex {o : Oper} (ho : ops[i]? = some o) {T : TypeId} {x y : Operand} (hop : o.op = .index T x y) (t : ByteArray) (k : IntKind) (m : Nat) (c : Int) (hA : [E.opC P ops slots i x, E.opC P ops slots i y] = [some (.v (.string t)), some (.v (.int k m))]) (hs : isStr P T = true)
    (hr : (E.cnd P ops slots i).ev E.bs = true → ∃ h : m < t.size, (t[m].toNat : Int) = c) : E.duty P ops Q slots W i (.v (.int .u8 c)) := by
  intro o' w a ho' hbx hC hw hop'
  rw [ho] at ho'
  injection ho' with ho'
  subst ho'
  simp only [List.cons.injEq, and_true] at hA
  have hx := hop' x _ hA.1
  have hy := hop' y _ hA.2
  have hx : a.eval x = .string t := hx
  have hy : a.eval y = .int k m := hy
  obtain ⟨hm, rfl⟩ := hr hC
  refine ok_run ho hw (v := .int .u8 (t[m].toNat : Int)) ?_ ⟨_, rfl, rfl, Below.refl _ _⟩
  unfold execOp
  rw [hop]
  simp only [hx, hy]
  unfold isStr at hs
  split at hs
  · next hu =>
    have h0 : (0 : Int) ≤ m := by omega
    simp [Instr.index, asIntOf, Sem.run_bind, run_underlying hu, h0, hm]
  · cases hs
/-- The length of a string. -/
theorem duty_slen {o : Oper} (ho : ops[i]? = some o) {T : TypeId} {x : Operand} (hop : o.op = .call { callee := .builtin .len, args := #[x], argTypes := #[T] }) (t : ByteArray) (hA : [E.opC P ops slots i x] = [some (.v (.string t))]) (hs : isStr P T = true) : E.duty P ops Q slots W i (.v (.int .i64 (t.size : Nat))) := by
  intro o' w a ho' hbx hC hw hop'
  rw [ho] at ho'
  injection ho' with ho'
  subst ho'
  simp only [List.cons.injEq, and_true] at hA
  have hx := hop' x _ hA
  have hx : a.eval x = .string t := hx
  refine ok_run ho hw (v := .int .i64 (t.size : Nat)) ?_ ⟨_, rfl, rfl, Below.refl _ _⟩
  unfold execOp
  rw [hop]
  unfold isStr at hs
  split at hs
  · next hu => simp [resolve, invoke, hx, builtin, Sem.run_bind, Builtin.len_, run_underlying hu, goInt]
  · cases hs
end
end
end Go.Proofs.YtgheaoaicbkaoaaGreatDoor

