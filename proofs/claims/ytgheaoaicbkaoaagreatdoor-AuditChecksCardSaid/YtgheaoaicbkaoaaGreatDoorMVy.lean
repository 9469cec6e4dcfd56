/-
  Operations of a region that draws its order, one lemma a kind: the frame is a variable, what it holds are hypotheses.
-/
import Derived.Test.YtgheaoaicbkaoaaGreatDoorMVw
import Derived.Great.BuildSlice
import Derived.Deep.MidRow
import Derived.Shelf.Abstract
import Derived.Laws.Entries
namespace AC
open Go Go.RowKit Go.Proofs
set_option linter.unusedVariables false
set_option linter.unusedSimpArgs false

theorem putAll_get : ∀ (l : List Nat) (a : Act) (k i : Nat) (s : Nat → Value) (t : Nat), l.Nodup → (∀ u ∈ l, u < a.tmps.size) → l[i]? = some t → (putAll a l k s).tmps[t]? = some (s (k + i))
  | [], _, _, _, _, _, _, _, h => by simp at h
  | u :: r, a, k, 0, s, t, hn, hs, h => by
    simp only [List.getElem?_cons_zero, Option.some.injEq] at h
    subst h
    unfold putAll
    rw [putAll_put r _ (k + 1) s u (s k) (List.nodup_cons.1 hn).1 |>.symm]
    unfold Act.put
    simp only
    have hsz : ∀ (l : List Nat) (a : Act) (k : Nat), (putAll a l k s).tmps.size = a.tmps.size := by
      intro l
      induction l with
      | nil => intro a k; rfl
      | cons t r ih => intro a k; unfold putAll; rw [ih]; simp [Act.put]
    rw [Array.getElem?_setIfInBounds_self_of_lt (by rw [hsz]; exact hs u List.mem_cons_self)]
    rfl
  | u :: r, a, k, i + 1, s, t, hn, hs, h => by
    unfold putAll
    rw [List.getElem?_cons_succ] at h
    have := putAll_get r (a.put (some u) (s k)) (k + 1) i s t (List.nodup_cons.1 hn).2 (fun v hv => by simpa [Act.put] using hs v (List.mem_cons_of_mem _ hv)) h
    rw [this, show k + 1 + i = k + (i + 1) from by omega]
theorem putAll_out : ∀ (l : List Nat) (a : Act) (k : Nat) (s : Nat → Value) (t : Nat), t ∉ l → (putAll a l k s).tmps[t]? = a.tmps[t]?
  | [], _, _, _, _, _ => rfl
  | u :: r, a, k, s, t, h => by
    unfold putAll
    rw [putAll_out r _ (k + 1) s t (fun hm => h (List.mem_cons_of_mem _ hm))]
    unfold Act.put
    simp only
    rw [Array.getElem?_setIfInBounds_ne (fun e => h (by rw [e]; exact List.mem_cons_self))]

/-! ### What the types say, reckoned -/
def fieldOff (P : Program) (T : TypeId) (f : Nat) : Option Nat := match P.underlying T with
  | some (.struct fs) => match fs[f]? with
    | some z => match P.info? z.type with
      | some q => if q.size = 0 then none else some z.offset
      | none => none
    | none => none
  | _ => none
def scalarB (P : Program) (T : TypeId) : Bool := match P.underlying T with
  | some d => !d.isRow
  | none => false
def rowLenB (P : Program) (T : TypeId) : Option Nat := match P.underlying T with
  | some d => if d.isRow then (P.info? T).map (·.size) else none
  | none => none
def elemSize (P : Program) (T : TypeId) : Option Nat := match P.underlying T with
  | some (.slice e) => (P.info? e).map (·.size)
  | _ => none
def elemOf (P : Program) (T : TypeId) : Option TypeId := match P.underlying T with
  | some (.slice e) => some e
  | _ => none
def builtT (P : Program) (T : TypeId) (n : Nat) (parts : List (Nat × Value)) : Option (TypeId × List Value) := match P.underlying T with
  | some (.slice e) => match P.info? e with
    | some ie => match ie.zero with
      | some z => if n * ie.size > 2 ^ 24 ∨ n * ie.size = 0 then none else
        (Instr.fill (fun i => some (i * ie.size, ie.size)) ((Array.range (n * ie.size)).map (z.cells[· % z.cells.size]!)) parts).map fun c => (e, c.toList)
      | none => none
    | none => none
  | _ => none
def entersB (P : Program) (f : FuncId) : Bool := match P.funcs[f]? with
  | some fn => !(fn.name == "runtime.NumGoroutine") && fn.body.isSome
  | none => false
theorem entersB_of {P : Program} {f : FuncId} (h : entersB P f = true) (args : Array Value) (w : World) : (callFunc f args).run P w = .ok (.enter f args) w := by
  unfold entersB at h
  cases hf : P.funcs[f]? with
  | none => rw [hf] at h; cases h
  | some fn =>
    rw [hf] at h
    simp only [Bool.and_eq_true, Bool.not_eq_true'] at h
    obtain ⟨c, hc⟩ := Option.isSome_iff_exists.1 h.2
    exact enters_of hf h.1 hc args w

section
variable {P : Program} {ops : Array Oper} {Q : Exit → Act → World → Prop}
/-- wp_region_dep, each operation over a frame that is a variable. -/
theorem wp_region_ops {id : Nat} {a0 : Act} {w0 : World} (hm : P.follows .mixedOrders = true)
    (hlow : lowB ops = true) (slots : List Nat) (hok : (dstsOk ops slots && lastB (befs ops) ops slots.length && decide slots.Nodup && decide (slots.length ≤ ops.size)) = true) (hsz : slots.all (fun t => decide (t < a0.tmps.size)) = true)
    (R : (Nat → Bool) → World → Prop) (G : Nat → World → World → Prop) (F : (Nat → Bool) → Nat → Value → World → Prop) (h0 : R (fun _ => false) w0.drew) (hR : ∀ d j x x', R d x → d j = false → G j x x' → R (updB d j) x')
    (stab : ∀ d i j v x x', i < slots.length → j < slots.length → i ≠ j → d i = true → d j = false → (∀ k, aheadB (befs ops) j k = true → d k = true) → F d i v x → G j x x' → F (updB d j) i v x')
    (step : ∀ (i : Nat) (o : Oper) (s : Nat → Value) (d : Nat → Bool) (x : World) (a : Act), ops[i]? = some o → i < slots.length → d i = false → R d x →
      (∀ j, aheadB (befs ops) i j = true → j < slots.length → d j = true ∧ F d j (s j) x) →
      (∀ j, j < slots.length → a.tmps[slots.getD j 0]? = some (s j)) → (∀ t, t ∉ slots → a.tmps[t]? = a0.tmps[t]?) →
      opOk P ops Q i (fun a' x' => ∃ v, a' = a.put (some (slots.getD i 0)) v ∧ F (updB d i) i v x' ∧ G i x x') a x)
    (fin : ∀ (s : Nat → Value) (d : Nat → Bool) (x : World), R d x → (∀ i, i < slots.length → d i = true ∧ F d i (s i) x) → wpList P ops Q (ops.toList.drop slots.length) (putAll a0 slots 0 s) x) :
    (Code.region id ops true).wp P Q a0 w0 := by
  have hnd : slots.Nodup := by
    simp only [Bool.and_eq_true, decide_eq_true_eq] at hok
    exact hok.1.2
  have hin : ∀ t ∈ slots, t < a0.tmps.size := fun t ht => by
    have := List.all_eq_true.1 hsz t ht
    simpa using this
  refine wp_region_dep hm hlow slots hok R G F h0 hR stab (fun i o s d x ho hi hd hr hdep => step i o s d x _ ho hi hd hr hdep (fun j hj => ?_) fun t ht => putAll_out slots a0 0 s t ht) fin
  have ht : slots[j]? = some (slots.getD j 0) := by rw [List.getD_eq_getElem?_getD, List.getElem?_eq_getElem hj]; rfl
  have := putAll_get slots a0 0 j s _ hnd hin ht
  rw [Nat.zero_add] at this
  exact this

/-- The same for a region that does not draw. -/
theorem wp_plain_ops {id : Nat} {a0 : Act} {w0 : World}
    (hlow : lowB ops = true) (slots : List Nat) (hok : (dstsOk ops slots && decide slots.Nodup && decide (slots.length ≤ ops.size)) = true) (hsz : slots.all (fun t => decide (t < a0.tmps.size)) = true)
    (R : (Nat → Bool) → World → Prop) (G : Nat → World → World → Prop) (F : (Nat → Bool) → Nat → Value → World → Prop) (h0 : R (fun _ => false) w0) (hR : ∀ d j x x', R d x → d j = false → G j x x' → R (updB d j) x')
    (stab : ∀ d i j v x x', i < slots.length → j < slots.length → i ≠ j → d i = true → d j = false → (∀ k, aheadB (befs ops) j k = true → d k = true) → F d i v x → G j x x' → F (updB d j) i v x')
    (step : ∀ (i : Nat) (o : Oper) (s : Nat → Value) (d : Nat → Bool) (x : World) (a : Act), ops[i]? = some o → i < slots.length → d i = false → R d x →
      (∀ j, aheadB (befs ops) i j = true → j < slots.length → d j = true ∧ F d j (s j) x) →
      (∀ j, j < slots.length → a.tmps[slots.getD j 0]? = some (s j)) → (∀ t, t ∉ slots → a.tmps[t]? = a0.tmps[t]?) →
      opOk P ops Q i (fun a' x' => ∃ v, a' = a.put (some (slots.getD i 0)) v ∧ F (updB d i) i v x' ∧ G i x x') a x)
    (fin : ∀ (s : Nat → Value) (d : Nat → Bool) (x : World), R d x → (∀ i, i < slots.length → d i = true ∧ F d i (s i) x) → wpList P ops Q (ops.toList.drop slots.length) (putAll a0 slots 0 s) x) :
    (Code.region id ops false).wp P Q a0 w0 := by
  simp only [Bool.and_eq_true, decide_eq_true_eq] at hok
  obtain ⟨⟨hdst, hnd⟩, hsz2⟩ := hok
  have hl := lowB_spec hlow
  have hin : ∀ t ∈ slots, t < a0.tmps.size := fun t ht => by
    have := List.all_eq_true.1 hsz t ht
    simpa using this
  refine wp_region_list ?_
  obtain ⟨s0, hs0⟩ := putAll_self slots a0 0 hnd
  have upd : ∀ (k : Nat), (fun j => decide (j < k + 1)) = updB (fun j => decide (j < k)) k := fun k => by
    funext j
    unfold updB
    rw [Bool.eq_iff_iff]
    simp only [decide_eq_true_eq, Bool.or_eq_true, beq_iff_eq]
    omega
  have key : ∀ (m k : Nat) (s : Nat → Value) (x : World), k + m = slots.length → R (fun j => decide (j < k)) x → (∀ i, i < k → F (fun j => decide (j < k)) i (s i) x) → wpList P ops Q (ops.toList.drop k) (putAll a0 slots 0 s) x := by
    intro m
    induction m with
    | zero =>
      intro k s x hk hr hF
      have hk' : k = slots.length := by omega
      rw [hk']
      exact fin s _ x hr fun i hi => ⟨by rw [hk']; simpa using hi, hF i (by omega)⟩
    | succ m ih =>
      intro k s x hk hr hF
      have hks : k < slots.length := by omega
      have hko : k < ops.size := by omega
      have ho : ops[k]? = some ops[k] := Array.getElem?_eq_getElem hko
      have hcl : Closed ops (fun j => decide (j < k)) := by
        intro i o ho' hi e he hb
        have := hl i o ho' e he hb
        have hi' : i < k := by simpa using hi
        simp only [decide_eq_true_eq]
        omega
      have h1 := step k _ s (fun j => decide (j < k)) x (putAll a0 slots 0 s) ho hks (by simp) hr (fun j hj hjn => by
        have hjk : decide (j < k) = true := befs_done hcl ho (fun e he hb => by simpa using hl k _ ho e he hb) hj
        exact ⟨hjk, hF j (by simpa using hjk)⟩) (fun j hj => by
        have ht : slots[j]? = some (slots.getD j 0) := by rw [List.getD_eq_getElem?_getD, List.getElem?_eq_getElem hj]; rfl
        have := putAll_get slots a0 0 j s _ hnd hin ht
        rw [Nat.zero_add] at this
        exact this) fun t ht => putAll_out slots a0 0 s t ht
      have h2 : wpOp P ops Q k (wpList P ops Q (ops.toList.drop (k + 1))) (putAll a0 slots 0 s) x := by
        refine wpOp_mono ?_ h1.out
        rintro a' x' ⟨v, rfl, hFk, hG⟩
        have ht : slots[k]? = some (slots.getD k 0) := by rw [List.getD_eq_getElem?_getD, List.getElem?_eq_getElem hks]; rfl
        rw [putAll_upd slots a0 0 k s (slots.getD k 0) v hnd ht, Nat.zero_add]
        refine ih (k + 1) _ x' (by omega) ?_ ?_
        · rw [upd k]; exact hR _ k x x' hr (by simp) hG
        · intro i hi
          rw [upd k]
          by_cases hik : i = k
          · subst hik
            simp only [if_true]
            exact hFk
          · simp only [if_neg hik]
            exact stab _ i k _ x x' (by omega) hks hik (by simp; omega) (by simp) (fun m hm => befs_done hcl ho (fun e he hb => by simpa using hl k _ ho e he hb) hm) (hF i (by omega)) hG
      rw [drop_at ho]
      unfold wpOp at h2
      rw [ho] at h2
      exact h2
  have := key slots.length 0 s0 w0 (by omega) (by simpa using h0) (fun i hi => absurd hi (by omega))
  rw [hs0] at this
  simpa using this

theorem ev {a : Act} {t : Nat} {v : Value} (h : a.tmps[t]? = some v) : a.eval (.tmp t) = v := by
  show a.tmps.getD t undef = v
  rw [Array.getD_eq_getD_getElem?, h]; rfl

theorem am0 {a : Act} : ([] : List Operand).map a.eval = [] := rfl
theorem amc {a : Act} {x : Operand} {l : List Operand} {u : Value} {vs : List Value} (h : a.eval x = u) (t : l.map a.eval = vs) : (x :: l).map a.eval = u :: vs := by rw [List.map_cons, h, t]
theorem pm0 {a : Act} : ([] : List (Nat × Operand)).map (fun z => (z.1, a.eval z.2)) = [] := rfl
theorem pmc {a : Act} {k : Nat} {x : Operand} {l : List (Nat × Operand)} {u : Value} {vs : List (Nat × Value)} (h : a.eval x = u) (t : l.map (fun z => (z.1, a.eval z.2)) = vs) : ((k, x) :: l).map (fun z => (z.1, a.eval z.2)) = (k, u) :: vs := by rw [List.map_cons, t]; simp [h]
section
variable {i : Nat} {o : Oper} {I : Act → World → Prop} {a : Act} {w : World}
theorem ok_wp (ho : ops[i]? = some o) (hw : Region.wanted o (yielded ops a.tmps) = true) (h : o.wp P a w I Q) : opOk P ops Q i I a w := by
  refine opOk.of ?_
  unfold wpOp
  rw [ho]
  simp only [hw, if_true]
  exact .inl h
theorem ok_run (ho : ops[i]? = some o) (hw : Region.wanted o (yielded ops a.tmps) = true) {v : Value} {w' : World} (hr : (execOp a.eval o).run P w = .ok (.value v) w') (h : I (a.put o.dst v) w') : opOk P ops Q i I a w :=
  ok_wp ho hw (by unfold Oper.wp; rw [hr]; exact h)
theorem wanted_g {j : Nat} {want : Bool} (hg : o.guard = some (j, want)) (t : Nat) (hd : (ops[j]?).bind (·.dst) = some t) (hv : a.tmps[t]? = some (.bool want)) : Region.wanted o (yielded ops a.tmps) = true := by
  have hy : yielded ops a.tmps j = some want := by
    unfold yielded
    rw [hd]
    show (match a.tmps[t]? with | some (.bool b) => some b | _ => none) = some want
    rw [hv]
  unfold Region.wanted
  rw [hg]
  simp [hy]
theorem ok_skip {j : Nat} {want : Bool} (ho : ops[i]? = some o) (hg : o.guard = some (j, want)) (t : Nat) (hd : (ops[j]?).bind (·.dst) = some t) (hv : a.tmps[t]? = some (.bool (!want))) (h : I (a.put o.dst undef) w) : opOk P ops Q i I a w :=
  opOk_skipped ho hg t hd hv h
theorem ok_skipU {j : Nat} {want : Bool} (ho : ops[i]? = some o) (hg : o.guard = some (j, want)) (t : Nat) (hd : (ops[j]?).bind (·.dst) = some t) (hv : a.tmps[t]? = some undef) (h : I (a.put o.dst undef) w) : opOk P ops Q i I a w := by
  refine opOk.of ?_
  have hy : yielded ops a.tmps j = none := by
    unfold yielded
    rw [hd]
    show (match a.tmps[t]? with | some (.bool b) => some b | _ => none) = none
    rw [hv]
    rfl
  unfold wpOp
  rw [ho]
  have hw : Region.wanted o (yielded ops a.tmps) = false := by
    unfold Region.wanted
    rw [hg]
    simp [hy]
  simp only [hw]
  exact h
theorem ok_move (ho : ops[i]? = some o) (hw : Region.wanted o (yielded ops a.tmps) = true) (x : Operand) (hop : o.op = .move x) {v : Value} (hx : a.eval x = v) (h : I (a.put o.dst v) w) : opOk P ops Q i I a w :=
  ok_run ho hw (by unfold execOp; rw [hop]; simp only [hx]; rfl) h
theorem ok_assign (ho : ops[i]? = some o) (hw : Region.wanted o (yielded ops a.tmps) = true) (x : Operand) (hop : o.op = .assign x) {v : Value} (hx : a.eval x = v) (h : I (a.put o.dst v) w) : opOk P ops Q i I a w :=
  ok_run ho hw (by unfold execOp; rw [hop]; simp only [hx]; rfl) h
theorem ok_pick (ho : ops[i]? = some o) (hw : Region.wanted o (yielded ops a.tmps) = true) (c x y : Operand) (hop : o.op = .pick c x y) (b : Bool) (hc : a.eval c = .bool b) {v : Value} (hx : a.eval (if b then x else y) = v) (h : I (a.put o.dst v) w) : opOk P ops Q i I a w := by
  refine ok_run ho hw ?_ h
  unfold execOp
  rw [hop]
  simp only [hc]
  cases b <;> (simp only [Bool.false_eq_true, if_true, if_false] at hx; simp only [hx]; rfl)
theorem ok_not (ho : ops[i]? = some o) (hw : Region.wanted o (yielded ops a.tmps) = true) (T : TypeId) (x : Operand) (hop : o.op = .unOp .not T x) (b : Bool) (hx : a.eval x = .bool b) (h : I (a.put o.dst (.bool (!b))) w) : opOk P ops Q i I a w :=
  ok_run ho hw (by unfold execOp; rw [hop]; simp only [hx]; rfl) h
theorem ok_nil (ho : ops[i]? = some o) (hw : Region.wanted o (yielded ops a.tmps) = true) (x : Operand) (hop : o.op = .nilCheck x) (p : Addr) (hx : a.eval x = .pointer (some p)) (h : I (a.put o.dst (.pointer (some p))) w) : opOk P ops Q i I a w :=
  ok_run ho hw (by unfold execOp; rw [hop]; simp only [hx]; rfl) h
/-- A comparison of ints. -/
def cmpBo : BinOp → Int → Int → Option Bool
  | .eql, m, n => some (m == n)
  | .neq, m, n => some (m != n)
  | .lss, m, n => some (decide (m < n))
  | .leq, m, n => some (decide (m ≤ n))
  | .gtr, m, n => some (decide (n < m))
  | .geq, m, n => some (decide (n ≤ m))
  | _, _, _ => none
theorem ok_cmp (ho : ops[i]? = some o) (hw : Region.wanted o (yielded ops a.tmps) = true) (op : BinOp) (T U : TypeId) (x y : Operand) (hop : o.op = .binOp op T x y U) (k : IntKind) (m n : Int) (hx : a.eval x = .int k m) (hy : a.eval y = .int k n) (b : Bool) (hb : cmpBo op m n = some b) (h : I (a.put o.dst (.bool b)) w) : opOk P ops Q i I a w := by
  refine ok_run ho hw ?_ h
  unfold execOp
  rw [hop]
  simp only [hx, hy]
  cases op <;> simp [cmpBo] at hb <;> subst hb <;> simp [eqGuard, binOp, Op.intCmp, Sem.run_bind]
/-- Two strings: the same or not. -/
theorem ok_seq (ho : ops[i]? = some o) (hw : Region.wanted o (yielded ops a.tmps) = true) (T U : TypeId) (x y : Operand) (hop : o.op = .binOp .eql T x y U) (s t : ByteArray) (hx : a.eval x = .string s) (hy : a.eval y = .string t) (b : Bool) (hb : decide (s = t) = b) (h : I (a.put o.dst (.bool b)) w) : opOk P ops Q i I a w := by
  refine ok_run ho hw ?_ h
  unfold execOp
  rw [hop]
  simp only [hx, hy]
  have e : (s.toList == t.toList) = decide (s = t) := by
    rw [Bool.eq_iff_iff]
    simp only [beq_iff_eq, decide_eq_true_eq, ByteArray.toList_eq]
    exact ⟨fun h => by cases s; cases t; simp_all, fun h => by rw [h]⟩
  simp [eqGuard, binOp, Sem.run_bind, Op.stringOp, e, hb]
theorem ok_len (ho : ops[i]? = some o) (hw : Region.wanted o (yielded ops a.tmps) = true) (x : Operand) (T : TypeId) (hop : o.op = .call { callee := .builtin .len, args := #[x], argTypes := #[T] }) (A : Option Addr) (n c : Nat) (hx : a.eval x = .slice A n c) (hs : (elemSize P T).isSome = true) (h : I (a.put o.dst (.int .i64 n)) w) : opOk P ops Q i I a w := by
  refine ok_run ho hw ?_ h
  unfold execOp
  rw [hop]
  unfold elemSize at hs
  split at hs
  · rename_i e hu
    simp [resolve, invoke, hx, builtin, Sem.run_bind, Builtin.len_, run_underlying hu, goInt]
  · cases hs
theorem ok_field (ho : ops[i]? = some o) (hw : Region.wanted o (yielded ops a.tmps) = true) (T : TypeId) (x : Operand) (f k : Nat) (hop : o.op = .fieldAddr T x f) (b off : Nat) (hx : a.eval x = .pointer (some ⟨b, off, none⟩)) (hk : fieldOff P T f = some k) (h : I (a.put o.dst (.pointer (some ⟨b, off + k, none⟩))) w) : opOk P ops Q i I a w := by
  refine ok_run ho hw ?_ h
  unfold execOp
  rw [hop]
  unfold fieldOff at hk
  split at hk
  · rename_i fs hu
    split at hk
    · rename_i z hz
      split at hk
      · rename_i q hq
        split at hk
        · cases hk
        · rename_i hs
          injection hk with hk
          subst hk
          simp [hx, Instr.fieldAt, Sem.run_bind, run_underlying hu, hz, Instr.sureAddr, fieldPlace, Go.sizeOf, typeInfo, hq, hs, Addr.add_mid]
      · cases hk
    · cases hk
  · cases hk
theorem ok_load1 (ho : ops[i]? = some o) (hw : Region.wanted o (yielded ops a.tmps) = true) (T : TypeId) (x : Operand) (hop : o.op = .load T x) (p : Addr) (hx : a.eval x = .pointer (some p)) (hs : scalarB P T = true) {v : Value} (hc : w.cell? p = some v) (h : I (a.put o.dst v) w) : opOk P ops Q i I a w := by
  refine ok_run ho hw ?_ h
  unfold execOp
  rw [hop]
  unfold scalarB at hs
  split at hs
  · rename_i d hu
    have hagg : (isAgg T).run P w = .ok false w := by
      unfold isAgg
      rw [Sem.run_bind, run_underlying hu w]
      cases d <;> simp_all [TypeDesc.isRow]
    simp [hx, Instr.loadAt, Instr.sureAddr, Sem.run_bind, loadVar, hagg, hc]
  · cases hs
theorem ok_loadN (ho : ops[i]? = some o) (hw : Region.wanted o (yielded ops a.tmps) = true) (T : TypeId) (x : Operand) (hop : o.op = .load T x) (b off : Nat) (hx : a.eval x = .pointer (some ⟨b, off, none⟩)) (cs : List Value) (hs : rowLenB P T = some cs.length) (hc : w.rangeAt b off cs) (h : I (a.put o.dst (.agg cs.toArray)) w) : opOk P ops Q i I a w := by
  unfold rowLenB at hs
  split at hs
  · rename_i d hu
    by_cases hd : d.isRow = true
    · rw [if_pos hd] at hs
      exact ok_wp ho hw (wp_load_mid T x hop b off hx cs d hc hu hd hs h)
    · rw [if_neg hd] at hs; cases hs
  · cases hs
theorem ok_index (ho : ops[i]? = some o) (hw : Region.wanted o (yielded ops a.tmps) = true) (T : TypeId) (x ix : Operand) (hop : o.op = .indexAddr T x ix) (b off n c : Nat) (hx : a.eval x = .slice (some ⟨b, off, none⟩) n c) (k : IntKind) (m : Nat) (hi : a.eval ix = .int k m) (sz : Nat) (hs : elemSize P T = some sz) (h1 : m < n) (h : I (a.put o.dst (.pointer (some ⟨b, off + m * sz, none⟩))) w) : opOk P ops Q i I a w := by
  refine ok_run ho hw ?_ h
  unfold execOp
  rw [hop]
  unfold elemSize at hs
  split at hs
  · rename_i e hu
    cases hq : P.info? e with
    | none => simp [hq] at hs
    | some q =>
      rw [hq] at hs
      simp at hs
      have h1' : (m : Int) < n := by omega
      have h0 : (0 : Int) ≤ m := by omega
      simp [hx, hi, Instr.indexAt, Sem.run_bind, run_underlying hu, h0, h1', Go.sizeOf, typeInfo, hq, hs, asIntOf, Addr.add_mid, h1]
  · cases hs
theorem ok_slice (ho : ops[i]? = some o) (hw : Region.wanted o (yielded ops a.tmps) = true) (T : TypeId) (x lo : Operand) (hop : o.op = .slice T x (some lo) none none) (b off n c m : Nat) (hx : a.eval x = .slice (some ⟨b, off, none⟩) n c) (hi : a.eval lo = .int .i64 m) (sz : Nat) (hs : elemSize P T = some sz) (h1 : m ≤ n) {v : Value} (hv : v = .slice (some ⟨b, if c = m then off else off + m * sz, none⟩) (n - m) (c - m)) (h : I (a.put o.dst v) w) : opOk P ops Q i I a w := by
  refine ok_run ho hw ?_ h
  unfold execOp
  rw [hop]
  unfold elemSize at hs
  split at hs
  · rename_i e hu
    cases hq : P.info? e with
    | none => simp [hq] at hs
    | some q =>
      rw [hq] at hs
      simp at hs
      simp [hx, hi, Instr.sliceAt, Instr.slice, Sem.run_bind, run_underlying hu, Go.sizeOf, typeInfo, hq, hs, Instr.sliceBounds, Instr.sliceBound, asIntOf, h1, Addr.add_mid]
      rw [hv]
      split <;> rfl
  · cases hs
theorem ok_extract (ho : ops[i]? = some o) (hw : Region.wanted o (yielded ops a.tmps) = true) (x : Operand) (k : Nat) (hop : o.op = .extract x k) (vs : Array Value) (hx : a.eval x = .tuple vs) {v : Value} (hv : vs[k]? = some v) (h : I (a.put o.dst v) w) : opOk P ops Q i I a w := by
  refine ok_run ho hw ?_ h
  unfold execOp
  rw [hop]
  simp [hx, Instr.extract, Sem.run_bind, hv]
theorem ok_build (ho : ops[i]? = some o) (hw : Region.wanted o (yielded ops a.tmps) = true) (T : TypeId) (n : Nat) (parts : List (Nat × Operand)) (hop : o.op = .buildSlice T n parts.toArray) (pv : List (Nat × Value)) (hp : parts.map (fun z => (z.1, a.eval z.2)) = pv) (e : TypeId) (cells : List Value) (hb : builtT P T n pv = some (e, cells))
    (h : I (a.put o.dst (.slice (some ⟨w.heap.size, 0, none⟩) n n)) (w.alloc (.cells cells.toArray e))) : opOk P ops Q i I a w := by
  unfold builtT at hb
  split at hb
  · rename_i e' hu
    split at hb
    · rename_i ie hie
      split at hb
      · rename_i z hz
        split at hb
        · cases hb
        · rename_i hn
          simp only [not_or] at hn
          cases hf : Instr.fill (fun i => some (i * ie.size, ie.size)) ((Array.range (n * ie.size)).map (z.cells[· % z.cells.size]!)) pv with
          | none => rw [hf] at hb; cases hb
          | some c =>
            rw [hf] at hb
            simp only [Option.map_some, Option.some.injEq, Prod.mk.injEq] at hb
            obtain ⟨rfl, rfl⟩ := hb
            refine ok_wp ho hw (wp_buildSlice T e' n _ hop c ie z hu hie hz hn.1 hn.2 ?_ (by simpa using h))
            have : (parts.toArray.map fun (i, x) => (i, a.eval x)).toList = pv := by
              rw [← hp]
              simp
            rw [this]
            exact hf
      · cases hb
    · cases hb
  · cases hb
theorem ok_call (ho : ops[i]? = some o) (hw : Region.wanted o (yielded ops a.tmps) = true) (f : FuncId) (args : List Operand) (ats : Array TypeId) (hop : o.op = .call { callee := .value (.func f), args := args.toArray, argTypes := ats }) (hf : entersB P f = true) (vs : List Value) (hargs : args.map a.eval = vs)
    {R : Ending → World → Prop} (K : Calls P f vs.toArray w R) (h : ∀ e w', R e w' → ∃ v, e = .returned v ∧ I (a.put o.dst v) w') : opOk P ops Q i I a w := by
  refine ok_wp ho hw ?_
  unfold Oper.wp execOp
  rw [hop]
  have hm : args.toArray.map a.eval = vs.toArray := by rw [← hargs]; simp
  simp only [resolve, hm, Sem.run_bind]
  have hr := entersB_of hf vs.toArray w
  simp [Deferred.ofValue, Act.eval, invoke, hr]
  rw [Oper.upon_enter]
  refine K.mono ?_
  intro e w' hR
  obtain ⟨v, rfl, hI⟩ := h e w' hR
  exact hI
end
end
end AC

