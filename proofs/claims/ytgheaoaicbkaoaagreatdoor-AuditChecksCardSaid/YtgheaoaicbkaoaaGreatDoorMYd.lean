/-
  Closed calls by reflection: new blocks, writes.
-/
import Derived.Test.YtgheaoaicbkaoaaGreatDoorMYc
namespace AC.Ev
open Go
set_option linter.unusedVariables false
set_option linter.unusedSimpArgs false
def Phi.set (φ : Phi) (g : Nat) (im : Im) : Phi := fun k => if k = g then some im else φ k
theorem Phi.set_self (φ : Phi) (g : Nat) (im : Im) : φ.set g im g = some im := if_pos rfl
theorem Phi.set_ne {φ : Phi} {g k : Nat} {im : Im} (h : k ≠ g) : φ.set g im k = φ k := if_neg h
theorem Phi.le_set {φ : Phi} {g : Nat} {im : Im} (h : φ g = none) : φ.Le (φ.set g im) := fun k i hk => by
  rw [Phi.set_ne]
  · exact hk
  · intro e; subst e; rw [h] at hk; cases hk
theorem ObR.img {φ : Phi} {w : World} {g : Nat} {o : Ob} (h : ObR φ w g o) : ∃ im, φ g = some im ∧ im.b < w.heap.size := by
  cases o with
  | row c e x u t s =>
    obtain ⟨im, h1, _, _, _, C, fr, h2, _⟩ := h
    exact ⟨im, h1, (Array.getElem?_eq_some_iff.1 h2).1⟩
  | map es c =>
    obtain ⟨im, es', h1, h2, _⟩ := h
    exact ⟨im, h1, (Array.getElem?_eq_some_iff.1 h2).1⟩
theorem ObR.keep {φ φ' : Phi} {w w' : World} {g : Nat} {o : Ob} {im : Im} (h : ObR φ w g o) (hi : φ g = some im) (hl : φ.Le φ') (hb : w'.heap[im.b]? = w.heap[im.b]?) : ObR φ' w' g o := by
  cases o with
  | row c e x u t s =>
    obtain ⟨im', h1, h2, h3, h4, C, fr, h5, h6, h7, h8, h9⟩ := h
    rw [hi] at h1
    injection h1 with h1
    subst h1
    exact ⟨im, hl _ _ hi, h2, h3, h4, C, fr, hb.trans h5, h6, h7, h8, fun j v hv => by obtain ⟨v', k1, k2⟩ := h9 j v hv; exact ⟨v', k1, k2.mono hl⟩⟩
  | map es c =>
    obtain ⟨im', es', h1, h2, h3⟩ := h
    rw [hi] at h1
    injection h1 with h1
    subst h1
    exact ⟨im, es', hl _ _ hi, hb.trans h2, h3.mono hl⟩
theorem Rep.bound {φ : Phi} {L : Look} {w : World} (h : Rep φ L w) {g : Nat} {o : Ob} {im : Im} (hg : L g = some o) (hi : φ g = some im) : im.b < w.heap.size := by
  obtain ⟨im', h1, h2⟩ := (h.ob g o hg).img
  rw [hi] at h1
  injection h1 with h1
  subst h1
  exact h2
theorem Rep.dead {φ : Phi} {L : Look} {w : World} (h : Rep φ L w) {g : Nat} (hi : φ g = none) : L g = none := by
  cases hg : L g with
  | none => rfl
  | some o =>
    obtain ⟨im, h1, _⟩ := (h.ob g o hg).img
    rw [hi] at h1
    cases h1
def push (w : World) (o : Obj) : World := { w with heap := w.heap.push o }
theorem push_old {w : World} {o : Obj} {b : Nat} (h : b < w.heap.size) : (push w o).heap[b]? = w.heap[b]? := by
  show (w.heap.push o)[b]? = _
  rw [Array.getElem?_push_lt h]
  exact (Array.getElem?_eq_getElem h).symm
theorem push_new (w : World) (o : Obj) : (push w o).heap[w.heap.size]? = some o := by
  show (w.heap.push o)[w.heap.size]? = _
  simp
/-- A new block. -/
theorem rep_new {φ : Phi} {L L' : Look} {w : World} {n g : Nat} {o : Ob} {ob : Obj} {im : Im} (hr : Rep φ L w) (hg : φ g = none) (hL : L' g = some o) (hne : ∀ k, k ≠ g → L' k = L k) (him : im.b = w.heap.size) (hn : n ≤ g)
    (ho : ObR (φ.set g im) (push w ob) g o) (hout : ∀ c e x u S, o = .row c e x u true S → ∀ k ∈ S, k ≠ g ∧ φ k ≠ none ∧ ∃ c' e' x' u' S', L k = some (.row c' e' x' u' false S')) : Rep (φ.set g im) L' (push w ob) ∧ ∀ n', g < n' → Ext φ L n (φ.set g im) L' n' w (push w ob) := by
  have hle := Phi.le_set (im := im) hg
  have old : ∀ {k : Nat} {q : Ob}, L' k = some q → k ≠ g → L k = some q := fun {k q} hk hne' => by rw [← hne k hne']; exact hk
  have oldφ : ∀ {k : Nat} {i : Im}, (φ.set g im) k = some i → k ≠ g → φ k = some i := fun {k i} hk hne' => by rw [Phi.set_ne hne'] at hk; exact hk
  have newφ : ∀ {i : Im}, (φ.set g im) g = some i → i.b = w.heap.size := fun {i} hk => by rw [Phi.set_self] at hk; injection hk with hk; subst hk; exact him
  refine ⟨⟨fun k q hk => ?_, ?_, ?_, ?_, hr.glob.mono hle⟩, fun n' hn' => ⟨hle, Nat.le_trans hn (Nat.le_of_lt hn'), fun k hk => ?_, rfl, rfl, rfl, ?_, fun b hb _ => push_old hb, fun k q i hk hi => ?_, fun k q hk => ?_, fun k hk => ?_⟩⟩
  · by_cases hkg : k = g
    · subst hkg
      rw [hL] at hk
      injection hk with hk
      subst hk
      exact ho
    · have hk := old hk hkg
      obtain ⟨i, hi, hb⟩ := (hr.ob k q hk).img
      exact (hr.ob k q hk).keep hi hle (push_old hb)
  · intro g1 g2 o1 o2 i1 i2 h1 h2 h3 h4 hb
    by_cases e1 : g1 = g
    · by_cases e2 : g2 = g
      · exact .inl (e1.trans e2.symm)
      · subst e1
        have := hr.bound (old h2 e2) (oldφ h4 e2)
        rw [← hb, newφ h3] at this
        omega
    · by_cases e2 : g2 = g
      · subst e2
        have := hr.bound (old h1 e1) (oldφ h3 e1)
        rw [hb, newφ h4] at this
        omega
      · rcases hr.sep g1 g2 o1 o2 i1 i2 (old h1 e1) (old h2 e2) (oldφ h3 e1) (oldφ h4 e2) hb with h | ⟨t, c, e, x, u, S, k1, k2⟩
        · exact .inl h
        · refine .inr ⟨t, c, e, x, u, S, ?_, k2⟩
          rw [hne t]
          · exact k1
          · intro et
            subst et
            have := hr.dead hg
            rw [this] at k1
            cases k1
  · intro t c e x u S k q i1 i2 h1 h2 h3 h4 h5
    by_cases e1 : t = g
    · subst e1
      rw [hL] at h1
      injection h1 with h1
      obtain ⟨q1, q2, q3⟩ := hout c e x u S h1 k h2
      obtain ⟨c', e', x', u', S', hq⟩ := q3
      rw [old h3 q1] at hq
      injection hq with hq
      refine ⟨c', e', x', u', S', hq, fun hb => ?_⟩
      have := hr.bound (old h3 q1) (oldφ h5 q1)
      rw [hb, newφ h4] at this
      omega
    · have e2 : k ≠ g := by
        intro e2
        subst e2
        exact (hr.out t c e x u S (old h1 e1)).2 k h2 hg
      exact hr.grp t c e x u S k q i1 i2 (old h1 e1) h2 (old h3 e2) (oldφ h4 e1) (oldφ h5 e2)
  · intro t c e x u S h1
    by_cases e1 : t = g
    · subst e1
      rw [hL] at h1
      injection h1 with h1
      refine ⟨fun hm => (hout c e x u S h1 t hm).1 rfl, fun k hk hn => ?_⟩
      obtain ⟨q1, q2, q3⟩ := hout c e x u S h1 k hk
      rw [Phi.set_ne q1] at hn
      exact q2 hn
    · obtain ⟨k1, k2⟩ := hr.out t c e x u S (old h1 e1)
      refine ⟨k1, fun k hk hn => ?_⟩
      cases hφ : φ k with
      | none => exact k2 k hk hφ
      | some i => rw [hle _ _ hφ] at hn; cases hn
  · by_cases hkg : k = g
    · subst hkg; exact ⟨hn, hn'⟩
    · exact absurd (Phi.set_ne hkg) hk
  · simp [push]
  · by_cases hkg : k = g
    · subst hkg
      exact .inl (by rw [newφ hi]; exact Nat.le_refl _)
    · exact .inr ⟨k, q, i, old hk hkg, oldφ hi hkg, rfl, id⟩
  · by_cases hkg : k = g
    · subst hkg; exact .inr ⟨hn, hn'⟩
    · exact .inl ⟨q, old hk hkg⟩
  · rcases hk with ⟨q, hk⟩ | ⟨t, c, e, x, u, S, h1, h2⟩
    · by_cases hkg : k = g
      · subst hkg; exact .inr ⟨hn, hn'⟩
      · exact .inl (.inl ⟨q, old hk hkg⟩)
    · by_cases e1 : t = g
      · subst e1
        rw [hL] at h1
        injection h1 with h1
        obtain ⟨_, _, c', e', x', u', S', hq⟩ := hout c e x u S h1 k h2
        exact .inl (.inl ⟨_, hq⟩)
      · exact .inl (.inr ⟨t, c, e, x, u, S, old h1 e1, h2⟩)
/-- A row of the cells. -/
theorem row_new {φ : Phi} {w : World} {g : Nat} {cells : List Value} {C : Array Value} {e un : Nat} {ex top : Bool} {S : List Nat} (hg : φ g = none) (hlen : cells.length ≤ C.size) (hex : ex = true → cells.length = C.size) (hv : ∀ (j : Nat) (v : Value), cells[j]? = some v → ∃ v', C[j]? = some v' ∧ RV φ v v') :
    ObR (φ.set g ⟨w.heap.size, 0, C.size, un, ex⟩) (push w (.cells C e)) g (.row cells e ex un top S) := by
  refine ⟨_, Phi.set_self _ _ _, rfl, fun _ => rfl, fun h => ⟨rfl, hex h⟩, C, (0, 0), push_new _ _, .inl (Nat.le_refl _), rfl, by simpa using hlen, fun j v hj => ?_⟩
  obtain ⟨v', k1, k2⟩ := hv j v hj
  exact ⟨v', by simpa using k1, k2.mono (Phi.le_set hg)⟩
theorem rows_at {φ : Phi} {cells : List Value} {C : Array Value} (h : RVs φ cells C.toList) : cells.length = C.size ∧ ∀ (j : Nat) (v : Value), cells[j]? = some v → ∃ v', C[j]? = some v' ∧ RV φ v v' := by
  refine ⟨by rw [← Array.length_toList]; exact h.len, fun j v hj => ?_⟩
  obtain ⟨v', k1, k2⟩ := h.get hj
  exact ⟨v', by rw [← Array.getElem?_toList]; exact k1, k2⟩
theorem newK_ok {m : Mem} {ob : Ob} {sh : Sh} {K : Value → Mem → Bool} (h : newK m ob sh K = true) : ∃ m', K (sh.val m.next) m' = true ∧ m'.next = m.next + 1 ∧ m'.t.get m.next = some ob ∧ ∀ k, k ≠ m.next → m'.t.get k = m.t.get k := by
  unfold newK at h
  have h := forceN_ok h
  obtain ⟨t', k, g1, g2⟩ := putT_ok h
  exact ⟨_, k, rfl, g1, g2⟩
/-- What an operation does. -/
def OpOk (P : Program) (o : Oper) (tm : Tm) (m : Mem) (v : Value) (m' : Mem) : Prop :=
  ∀ (φ : Phi) (w : World) (a : Act), (∀ x ∈ o.op.operands.toList, OR φ tm a.eval x) → Rep φ m.t.get w → Free φ m.next m'.next → ∀ (K : Act → World → Prop) (Q : Exit → Act → World → Prop),
    (∀ v' w' φ', RV φ' v v' → Rep φ' m'.t.get w' → Ext φ m.t.get m.next φ' m'.t.get m'.next w w' → K (a.put o.dst v') w') → o.wp P a w K Q
theorem OpOk.rd {P : Program} {o : Oper} {tm : Tm} {m : Mem} {v : Value} (h : ∀ (φ : Phi) (w : World) (ρ : Operand → Value), (∀ x ∈ o.op.operands.toList, OR φ tm ρ x) → Rep φ m.t.get w → ∃ v', (execOp ρ o).run P w = .ok (.value v') w ∧ RV φ v v') : OpOk P o tm m v m := by
  intro φ w a ho hr hf K Q hK
  obtain ⟨v', k1, k2⟩ := h φ w a.eval ho hr
  unfold Oper.wp
  rw [k1]
  exact hK v' w φ k2 hr (Ext.refl _ _ _ _)
/-- What an operation makes out of its operands: a block, pointed to. -/
def Makes (P : Program) (o : Oper) (tm : Tm) (ob : Ob) (sh : Sh) : Prop :=
  ∀ (φ : Phi) (w : World) (ρ : Operand → Value) (g : Nat), (∀ x ∈ o.op.operands.toList, OR φ tm ρ x) → φ g = none → ∃ (obj : Obj) (im : Im) (v' : Value), (execOp ρ o).run P w = .ok (.value v') (push w obj) ∧ im.b = w.heap.size ∧ ObR (φ.set g im) (push w obj) g ob ∧ RV (φ.set g im) (sh.val g) v' ∧ ∀ c e x u S, ob = .row c e x u true S → S = []
theorem OpOk.al {P : Program} {o : Oper} {tm : Tm} {m m' : Mem} {ob : Ob} {sh : Sh} (h : Makes P o tm ob sh) (hn : m'.next = m.next + 1) (hg : m'.t.get m.next = some ob) (hne : ∀ k, k ≠ m.next → m'.t.get k = m.t.get k) : OpOk P o tm m (sh.val m.next) m' := by
  intro φ w a ho hr hf K Q hK
  have hφ := hf m.next (Nat.le_refl _) (by omega)
  obtain ⟨obj, im, v', k1, k2, k3, k4, k5⟩ := h φ w a.eval m.next ho hφ
  obtain ⟨r1, r2⟩ := rep_new (n := m.next) hr hφ hg hne k2 (Nat.le_refl _) k3 (fun c e x u S e1 k hk => by rw [k5 c e x u S e1] at hk; cases hk)
  unfold Oper.wp
  rw [k1]
  exact hK v' _ _ k4 r1 (r2 _ (by omega))
section
variable {P : Program}
theorem run_new (o : Obj) (w : World) : (newObj o).run P w = .ok w.heap.size (push w o) := rfl
theorem run_newRow (e : TypeId) (C : Array Value) (w : World) : (newRow e C).run P w = .ok ⟨w.heap.size, 0, none⟩ (push w (.cells C e)) := rfl
def Sh.real (b : Nat) : Sh → Value
  | .ptr => .pointer (some ⟨b, 0, none⟩)
  | .sl n c => .slice (some ⟨b, 0, none⟩) n c
  | .mp => .map none
def Sh.fine : Sh → Prop
  | .ptr => True
  | .sl n c => n ≤ c
  | .mp => False
/-- A new row, its pointer. -/
theorem makes_row {o : Oper} {tm : Tm} {cells : List Value} {e : TypeId} {sh : Sh} (h : ∀ (φ : Phi) (w : World) (ρ : Operand → Value), (∀ x ∈ o.op.operands.toList, OR φ tm ρ x) → ∃ (C : Array Value), RVs φ cells C.toList ∧ (execOp ρ o).run P w = .ok (.value (sh.real w.heap.size)) (push w (.cells C e))) (hs : sh.fine) : Makes P o tm (newR cells e) sh := by
  intro φ w ρ g ho hg
  obtain ⟨C, hC, hrun⟩ := h φ w ρ ho
  obtain ⟨hl, hv⟩ := rows_at hC
  refine ⟨_, ⟨w.heap.size, 0, C.size, 0, true⟩, _, hrun, rfl, row_new hg (by omega) (fun _ => hl) hv, ?_, fun c e x u S h => by cases h; rfl⟩
  cases sh with
  | ptr => exact .ptr (off := 0) (Phi.set_self _ _ _)
  | sl n c => exact .sli (off := 0) (Phi.set_self φ g ⟨w.heap.size, 0, C.size, 0, true⟩) hs (Nat.le_refl _) (fun _ => rfl) (.inl ⟨rfl, fun h => by cases h⟩)
  | mp => exact hs.elim
theorem range_rep {z : Array Value} (hz : 0 < z.size) (n : Nat) : ((Array.range (n * z.size)).map fun i => z[i % z.size]!).toList = repV n z.toList := by
  apply List.ext_getElem?
  intro i
  have hrep : ∀ (n i : Nat), (repV n z.toList)[i]? = if i < n * z.size then z.toList[i % z.size]? else none := by
    intro n
    induction n with
    | zero => intro i; simp [repV]
    | succ n ih =>
      intro i
      rw [repV]
      rcases Nat.lt_or_ge i z.size with h | h
      · rw [List.getElem?_append_left (by simpa using h), if_pos (by rw [Nat.succ_mul]; omega), Nat.mod_eq_of_lt h]
      · rw [List.getElem?_append_right (by simpa using h), ih]
        simp only [Array.length_toList]
        rw [Nat.succ_mul]
        by_cases h2 : i - z.size < n * z.size
        · rw [if_pos h2, if_pos (by omega)]
          congr 1
          rw [Nat.mod_eq_sub_mod h]
        · rw [if_neg h2, if_neg (by omega)]
  rw [hrep]
  by_cases h : i < n * z.size
  · rw [if_pos h]
    have hm : i % z.size < z.size := Nat.mod_lt _ hz
    simp [h, hm]
  · rw [if_neg h]
    simp [Nat.le_of_not_lt h]
theorem alE_ok {tm : Tm} {o : Oper} {K : Ob → Sh → Bool} (h : alE P tm o.op K = true) : ∃ ob sh, K ob sh = true ∧ Makes P o tm ob sh := by
  obtain ⟨dst, op, ty, pos, after, guard⟩ := o
  simp only [] at h
  cases op with
  | alloc e =>
    unfold alE at h
    simp only [] at h
    obtain ⟨z, h, hz, hzr⟩ := zeroK_ok h
    refine ⟨_, _, h, makes_row (sh := .ptr) (fun φ w ρ ho => ⟨z.cells, by rw [cells_eq]; exact hz φ, ?_⟩) trivial⟩
    simp only [execOp, Instr.alloc, Sem.run_bind, hzr, Result.andThen_ok, newVar, run_newRow, Sem.run_pure, Sh.real]
  | box e x =>
    unfold alE boxE at h
    obtain ⟨v, hv, h⟩ := opd_ok h
    refine ⟨_, _, h, makes_row (sh := .ptr) (fun φ w ρ ho => ⟨(ρ x).cells, (ho x (by simp [Op.operands]) v hv).cells, ?_⟩) trivial⟩
    simp only [execOp, Instr.box, Sem.run_bind, Result.andThen_ok, newVar, run_newRow, Sem.run_pure, Sh.real]
  | buildSlice t len ps =>
    unfold alE bsliceE at h
    simp only [] at h
    obtain ⟨e, he, h⟩ := sliceK_ok h
    obtain ⟨n, h, _, hn⟩ := sizeK_ok h
    obtain ⟨z, h, hz, hzr⟩ := zeroK_ok h
    rw [bif_t, bif_t, lenL_eq] at h
    obtain ⟨h1, h2, h⟩ := h
    have h1 := beq_t.1 h1
    have h2 := ble_t.1 h2
    have h := repL_ok _ _ _ h
    obtain ⟨vs, h, hi, hv⟩ := partsK_ok h
    obtain ⟨l, h, hl, hf⟩ := fillA_ok h
    refine ⟨_, _, h, makes_row (sh := .sl len len) (fun φ w ρ ho => ?_) (Nat.le_refl _)⟩
    have hzs : z.cells.size = n := by rw [← Array.length_toList, cells_eq, h1]
    have hrows : ∃ Z : Array Value, ((len * n = 0 ∧ Z = #[]) ∨ (¬ len * n = 0 ∧ Z = z.cells)) ∧ ((Array.range (len * n)).map (Z[· % Z.size]!)).toList = repV len (cellsOf z) := by
      by_cases h0 : len * n = 0
      · refine ⟨#[], .inl ⟨h0, rfl⟩, ?_⟩
        rw [h0]
        have : (repV len (cellsOf z)).length = 0 := by rw [repV_len, h1]; exact h0
        rw [List.eq_nil_of_length_eq_zero this]
        simp
      · refine ⟨z.cells, .inr ⟨h0, rfl⟩, ?_⟩
        have hp : 0 < z.cells.size := by
          rw [hzs]
          rcases Nat.eq_zero_or_pos n with h | h
          · rw [h, Nat.mul_zero] at h0; exact absurd rfl h0
          · exact h
        have := range_rep hp len
        rw [hzs, cells_eq] at this
        rw [← this]
        simp only [hzs]
    obtain ⟨Z, hZ, hZl⟩ := hrows
    obtain ⟨l', k1, k2⟩ := hf φ (ps.toList.map fun p => (p.1, ρ p.2)) _ (by rw [hZl]; exact (hz φ).rep len) (by rw [hi]; simp) (by
      have := hv φ ρ fun p hp => ho p.2 (by simp [Op.operands]; exact ⟨p.1, by simpa using hp⟩)
      simpa [Function.comp_def] using this)
    refine ⟨l', k2, ?_⟩
    have hps : (ps.map fun (i, x) => (i, ρ x)).toList = ps.toList.map fun p => (p.1, ρ p.2) := by simp
    simp only [execOp, Instr.buildSlice, Sem.run_bind, run_und he, Result.andThen_ok, hn]
    rw [if_neg (by omega)]
    rcases hZ with ⟨h0, rfl⟩ | ⟨h0, rfl⟩
    · rw [if_pos h0]
      simp only [Sem.run_bind, Sem.run_pure, Result.andThen_ok, hps, k1, run_newRow, Sh.real]
    · rw [if_neg h0]
      simp only [Sem.run_bind, Sem.run_pure, hzr, Result.andThen_ok, hps, k1, run_newRow, Sh.real]
  | makeSlice t l c =>
    unfold alE msliceE at h
    simp only [] at h
    obtain ⟨e, he, h⟩ := sliceK_ok h
    obtain ⟨lv, hlv, h⟩ := opd_ok h
    obtain ⟨cv, hcv, h⟩ := opd_ok h
    obtain ⟨kl, nl, e1, h⟩ := asNat_ok h
    obtain ⟨kc, nc, e2, h⟩ := asNat_ok h
    rw [e1] at hlv
    rw [e2] at hcv
    split at h
    · rename_i i hi
      obtain ⟨z, h, hz, hzr⟩ := zeroK_ok h
      rw [bif_t, bif_t, bif_t, bif_t, lenL_eq] at h
      obtain ⟨h1, h2, h3, h4, h⟩ := h
      have h1 := beq_t.1 h1
      have h2 := ble_t.1 h2
      have h3 := ble_t.1 h3
      have h4 := ble_t.1 h4
      have h := repL_ok _ _ _ h
      refine ⟨_, _, h, makes_row (sh := .sl nl nc) (fun φ w ρ ho => ?_) h2⟩
      have el := (ho l (by simp [Op.operands]) _ hlv).int_inv
      have ec := (ho c (by simp [Op.operands]) _ hcv).int_inv
      have hzs : z.cells.size = i.size := by rw [← Array.length_toList, cells_eq, h1]
      have wr : ∀ n : Nat, n ≤ 1000000 → IntKind.wrap .i64 (n : Int) = (n : Int) := fun n hn => by
        unfold IntKind.wrap
        simp [IntKind.bits, IntKind.signed]
        rw [Int.emod_eq_of_lt (by omega) (by omega), if_neg (by omega)]
      have hrows : ∃ Z : Array Value, ((nc * i.size = 0 ∧ Z = #[]) ∨ (¬ nc * i.size = 0 ∧ Z = z.cells)) ∧ ((Array.range (nc * i.size)).map (Z[· % Z.size]!)).toList = repV nc (cellsOf z) := by
        by_cases h0 : nc * i.size = 0
        · refine ⟨#[], .inl ⟨h0, rfl⟩, ?_⟩
          rw [h0]
          have : (repV nc (cellsOf z)).length = 0 := by rw [repV_len, h1]; exact h0
          rw [List.eq_nil_of_length_eq_zero this]
          simp
        · refine ⟨z.cells, .inr ⟨h0, rfl⟩, ?_⟩
          have hp : 0 < z.cells.size := by
            rw [hzs]
            rcases Nat.eq_zero_or_pos i.size with h | h
            · rw [h, Nat.mul_zero] at h0; exact absurd rfl h0
            · exact h
          have := range_rep hp nc
          rw [hzs, cells_eq] at this
          rw [← this]
          simp only [hzs]
      obtain ⟨Z, hZ, hZl⟩ := hrows
      refine ⟨_, by rw [hZl]; exact (hz φ).rep nc, ?_⟩
      have hti : ∀ w, (typeInfo e).run P w = .ok i w := fun w => by simp [typeInfo, program, Sem.run, hi]
      have hsz : ∀ w, (Go.sizeOf e).run P w = .ok i.size w := fun w => by simp [Go.sizeOf, hti]
      have hbn : (i.bytes : Int) * (nc : Int) ≤ 1000000 * 1000000 := by
        have := Nat.mul_le_mul h4 h3
        omega
      simp only [execOp, el, ec, Instr.makeSlice, Sem.run_bind, run_und he, Result.andThen_ok, Go.asInt, asIntOf, Sem.run_pure, hti, Int.ofNat_eq_natCast]
      rw [wr nl (by omega), wr nc h3]
      rw [if_neg (by simp; omega)]
      have hask : ∀ n w, (askRoom n).run P w = .ok () w := fun n w => by
        unfold askRoom
        split <;> rfl
      simp only [Sem.run_bind, hask, Result.andThen_ok, hsz, Int.toNat_natCast, Sem.run_pure]
      rcases hZ with ⟨h0, rfl⟩ | ⟨h0, rfl⟩
      · rw [if_pos h0]
        simp only [Sem.run_bind, Sem.run_pure, Result.andThen_ok, run_newRow, Sh.real]
      · rw [if_neg h0]
        simp only [Sem.run_bind, Sem.run_pure, hzr, Result.andThen_ok, run_newRow, Sh.real]
    · cases h
  | makeMap t r =>
    unfold alE at h
    simp only [] at h
    cases r with
    | none =>
      refine ⟨_, _, h, fun φ w ρ g ho hg => ⟨_, ⟨w.heap.size, 0, 0, 0, true⟩, .map (some w.heap.size), rfl, rfl, ⟨_, #[], Phi.set_self _ _ _, push_new _ _, .nil⟩, .map (Phi.set_self φ g ⟨w.heap.size, 0, 0, 0, true⟩), fun c e x u S h => by cases h⟩⟩
    | some r => cases h
  | _ => cases h
end
section
variable {P : Program}
theorem killK_ok : ∀ {l : List Nat} {t : Tr} {K : Tr → Bool}, killK l t K = true → ∃ t', K t' = true ∧ ∀ k, t'.get k = if k ∈ l then none else t.get k
  | [], t, K, h => ⟨t, h, fun k => by simp⟩
  | g :: l, t, K, h => by
    rw [killK] at h
    obtain ⟨t1, h, g1, g2⟩ := putT_ok h
    obtain ⟨t2, h, g3⟩ := killK_ok h
    refine ⟨t2, h, fun k => ?_⟩
    rw [g3 k]
    by_cases hk : k ∈ l
    · rw [if_pos hk, if_pos (List.mem_cons_of_mem _ hk)]
    · rw [if_neg hk]
      by_cases hg : k = g
      · subst hg
        rw [g1, if_pos (by simp)]
      · rw [g2 k hg, if_neg (by simp [hg, hk])]
/-- A world in which the cells of one block are others. -/
structure Wrote (w w' : World) (b : Nat) (C' : Array Value) (el : TypeId) (fr : Nat × Nat) : Prop where
  os : w'.os = w.os
  tape : w'.tape = w.tape
  output : w'.output = w.output
  size : w'.heap.size = w.heap.size
  at' : w'.heap[b]? = some (.cells C' el fr)
  other : ∀ k, k ≠ b → w'.heap[k]? = w.heap[k]?
theorem run_storeCells {b off : Nat} {el : TypeId} {fr : Nat × Nat} : ∀ (vs : List Value) (i : Nat) (w : World) (C : Array Value), w.heap[b]? = some (.cells C el fr) → frOk fr C.size → (vs = [] ∨ off + i + vs.length ≤ C.size) → (∀ v ∈ vs, cellB v = true) →
    ∃ w', (storeCells ⟨b, off, none⟩ vs i).run P w = .ok () w' ∧ Wrote w w' b (putV C.toList (off + i) vs).toArray el fr
  | [], i, w, C, hb, hf, hl, hc => ⟨w, rfl, rfl, rfl, rfl, rfl, by simp [putV, hb], fun _ _ => rfl⟩
  | v :: vs, i, w, C, hb, hf, hl, hc => by
    have hl : off + i + (vs.length + 1) ≤ C.size := by rcases hl with h | h; cases h; simpa using h
    have ha : (⟨b, off, none⟩ : Addr).add i = ⟨b, off + i, none⟩ := by unfold Addr.add; split <;> simp_all
    have hcell : w.cell? ⟨b, off + i, none⟩ = some C[off + i] := by
      unfold World.cell?
      simp only [hb]
      simp [Array.getElem?_eq_getElem (show off + i < C.size by omega)]
    have hfz : w.frozen? ⟨b, off + i, none⟩ = false := by
      unfold World.frozen?
      simp only [hb]
      obtain ⟨lo, hi⟩ := fr
      rcases hf with h | h
      · simp only [Bool.and_eq_false_iff, decide_eq_false_iff_not]; simp at h; omega
      · simp only [Bool.and_eq_false_iff, decide_eq_false_iff_not]; simp at h; omega
    obtain ⟨w1, hw1⟩ : ∃ w1, w1 = w.setCell ⟨b, off + i, none⟩ v := ⟨_, rfl⟩
    have hstore : (store (⟨b, off + i, none⟩ : Addr) v).run P w = .ok () w1 := by
      have hv := hc v (by simp)
      unfold store
      cases v <;> first | (cases hv; done) | (simp [Sem.run, hcell, hfz, hw1])
    have hbl : b < w.heap.size := (Array.getElem?_eq_some_iff.1 hb).1
    have h1 : Wrote w w1 b (C.setIfInBounds (off + i) v) el fr := by
      subst hw1
      refine ⟨rfl, rfl, rfl, by simp [World.setCell], ?_, fun k hk => ?_⟩
      · show (w.heap.modify b _)[b]? = _
        rw [Array.getElem?_modify]
        simp [hb]
      · show (w.heap.modify b _)[k]? = _
        rw [Array.getElem?_modify, if_neg (fun e => hk e.symm)]
    obtain ⟨w2, k1, k2⟩ := run_storeCells (off := off) vs (i + 1) w1 (C.setIfInBounds (off + i) v) h1.at' (by simpa using hf) (by
      rcases vs with _ | ⟨x, vs⟩
      · exact .inl rfl
      · right; simp only [Array.size_setIfInBounds]; simp only [List.length_cons] at hl ⊢; omega) (fun x hx => hc x (List.mem_cons_of_mem _ hx))
    refine ⟨w2, ?_, k2.os.trans h1.os, k2.tape.trans h1.tape, k2.output.trans h1.output, k2.size.trans h1.size, ?_, fun k hk => (k2.other k hk).trans (h1.other k hk)⟩
    · rw [storeCells, Sem.run_bind, ha, hstore]
      exact k1
    · rw [k2.at', putV]
      simp [Nat.add_assoc]
/-- The row g is written: the elder rows of its group are given up. -/
theorem rep_write {φ : Phi} {L L' : Look} {w w' : World} {n g : Nat} {c c' : List Value} {e : TypeId} {x : Bool} {u : Nat} {s : List Nat} {im : Im} {C C' : Array Value} {fr : Nat × Nat} (hr : Rep φ L w) (hg : L g = some (.row c e x u true s)) (hi : φ g = some im)
    (hL : L' g = some (.row c' e x u true [])) (hk : ∀ k, k ≠ g → L' k = if k ∈ s then none else L k) (hC : w.heap[im.b]? = some (.cells C e fr)) (hw : Wrote w w' im.b C' e fr) (hsz : C'.size = C.size) (hlen : c'.length = c.length)
    (hv : ∀ (j : Nat) (v : Value), c'[j]? = some v → ∃ v', C'[im.d + j]? = some v' ∧ RV φ v v') : Rep φ L' w' ∧ Ext φ L n φ L' n w w' := by
  have old : ∀ {k : Nat} {q : Ob}, L' k = some q → k ≠ g → k ∉ s ∧ L k = some q := fun {k q} h hne => by
    rw [hk k hne] at h
    split at h
    · cases h
    · exact ⟨by assumption, h⟩
  have far : ∀ {k : Nat} {q : Ob} {i : Im}, L' k = some q → k ≠ g → φ k = some i → i.b ≠ im.b := by
    intro k q i h hne hik e1
    obtain ⟨h1, h2⟩ := old h hne
    rcases hr.sep k g q _ i im h2 hg hik hi e1 with h3 | ⟨t, c2, e2, x2, u2, S, k1, k2, k3⟩
    · exact hne h3
    · rcases k3 with rfl | k3
      · rw [hg] at k1
        injection k1 with k1
        injection k1 with _ _ _ _ _ k1
        subst k1
        rcases k2 with k2 | k2
        · exact hne k2
        · exact h1 k2
      · obtain ⟨it, hit, _⟩ := (hr.ob t _ k1).img
        obtain ⟨c3, e3, x3, u3, S3, e4, _⟩ := hr.grp t c2 e2 x2 u2 S g _ it im k1 k3 hg hit hi
        injection e4 with _ _ _ _ e4 _
        cases e4
  have hobg := hr.ob g _ hg
  refine ⟨⟨fun k q h => ?_, ?_, ?_, ?_, hr.glob⟩, ⟨.refl φ, Nat.le_refl _, fun k h => absurd rfl h, hw.os, hw.tape, hw.output, by rw [hw.size]; exact Nat.le_refl _, fun b hb hn => ?_, fun k q i h1 h2 => ?_, fun k q h => ?_, fun k h => ?_⟩⟩
  · by_cases hkg : k = g
    · subst hkg
      rw [hL] at h
      injection h with h
      subst h
      obtain ⟨im', a1, a2, a3, a4, C2, fr2, a5, a6, a7, a8, a9⟩ := hobg
      rw [hi] at a1
      injection a1 with a1
      subst a1
      rw [hC] at a5
      injection a5 with a5
      injection a5 with a51 a52 a53
      subst a51
      subst a53
      exact ⟨im, hi, a2, a3, fun h => ⟨(a4 h).1, by rw [hlen]; exact (a4 h).2⟩, C', fr, hw.at', by rw [hsz]; exact a6, by rw [hsz]; exact a7, by rw [hlen, hsz]; exact a8, hv⟩
    · obtain ⟨h1, h2⟩ := old h hkg
      obtain ⟨i, hik, _⟩ := (hr.ob k q h2).img
      exact (hr.ob k q h2).keep hik (.refl φ) (hw.other _ (far h hkg hik))
  · intro g1 g2 o1 o2 i1 i2 h1 h2 h3 h4 hb
    by_cases e1 : g1 = g
    · by_cases e2 : g2 = g
      · exact .inl (e1.trans e2.symm)
      · subst e1
        rw [hi] at h3
        injection h3 with h3
        subst h3
        exact absurd hb.symm (far h2 e2 h4)
    · by_cases e2 : g2 = g
      · subst e2
        rw [hi] at h4
        injection h4 with h4
        subst h4
        exact absurd hb (far h1 e1 h3)
      · obtain ⟨a1, a2⟩ := old h1 e1
        obtain ⟨b1, b2⟩ := old h2 e2
        rcases hr.sep g1 g2 o1 o2 i1 i2 a2 b2 h3 h4 hb with h | ⟨t, c2, e3, x2, u2, S, k1, k2, k3⟩
        · exact .inl h
        · by_cases et : t = g
          · subst et
            rw [hg] at k1
            injection k1 with k1
            injection k1 with _ _ _ _ _ k1
            subst k1
            rcases k2 with k2 | k2
            · exact absurd k2 e1
            · exact absurd k2 a1
          · have hts : t ∉ s := by
              intro hts
              obtain ⟨it, hit, _⟩ := (hr.ob t _ k1).img
              obtain ⟨c3, e4, x3, u3, S3, e5, _⟩ := hr.grp g c e x u s t _ im it hg hts k1 hi hit
              injection e5 with _ _ _ _ e5 _
              cases e5
            exact .inr ⟨t, c2, e3, x2, u2, S, by rw [hk t et, if_neg hts]; exact k1, k2, k3⟩
  · intro t c2 e2 x2 u2 S k q i1 i2 h1 h2 h3 h4 h5
    by_cases et : t = g
    · subst et
      rw [hL] at h1
      injection h1 with h1
      injection h1 with _ _ _ _ _ h1
      subst h1
      cases h2
    · obtain ⟨a1, a2⟩ := old h1 et
      by_cases ek : k = g
      · subst ek
        rw [hL] at h3
        injection h3 with h3
        subst h3
        obtain ⟨c3, e4, x3, u3, S3, e5, _⟩ := hr.grp t c2 e2 x2 u2 S k _ i1 i2 a2 h2 hg h4 h5
        injection e5 with _ _ _ _ e5 _
        cases e5
      · obtain ⟨b1, b2⟩ := old h3 ek
        exact hr.grp t c2 e2 x2 u2 S k q i1 i2 a2 h2 b2 h4 h5
  · intro t c2 e2 x2 u2 S h1
    by_cases et : t = g
    · subst et
      rw [hL] at h1
      injection h1 with h1
      injection h1 with _ _ _ _ _ h1
      subst h1
      exact ⟨by simp, fun k hk => by cases hk⟩
    · exact hr.out t c2 e2 x2 u2 S (old h1 et).2
  · exact hw.other b fun e1 => hn g _ im hg rfl hi e1.symm
  · by_cases hkg : k = g
    · subst hkg
      rw [hi] at h2
      injection h2 with h2
      subst h2
      exact .inr ⟨k, _, im, hg, hi, rfl, fun _ => rfl⟩
    · exact .inr ⟨k, q, i, (old h1 hkg).2, h2, rfl, id⟩
  · by_cases hkg : k = g
    · subst hkg; exact .inl ⟨_, hg⟩
    · exact .inl ⟨q, (old h hkg).2⟩
  · rcases h with ⟨o, h⟩ | ⟨t, c2, e2, x2, u2, S, h, h2⟩
    · by_cases hkg : k = g
      · subst hkg; exact .inl (.inl ⟨_, hg⟩)
      · exact .inl (.inl ⟨o, (old h hkg).2⟩)
    · by_cases htg : t = g
      · subst htg
        rw [hL] at h
        injection h with h
        injection h with _ _ _ _ _ h
        subst h
        cases h2
      · exact .inl (.inr ⟨t, c2, e2, x2, u2, S, (old h htg).2, h2⟩)
end
section
variable {P : Program}
theorem RV.cellB {φ : Phi} {v v' : Value} (h : RV φ v v') (hc : cellB v = true) : Ev.cellB v' = true := by
  cases h <;> first | rfl | cases hc
theorem RVs.cellB {φ : Phi} : ∀ {l l' : List Value}, RVs φ l l' → (∀ v ∈ l, Ev.cellB v = true) → ∀ v ∈ l', Ev.cellB v = true
  | _, _, .nil, _, v, hv => by cases hv
  | _, _, .cons h1 h2, hc, v, hv => by
    rcases List.mem_cons.1 hv with rfl | hv
    · exact h1.cellB (hc _ (by simp))
    · exact RVs.cellB h2 (fun u hu => hc u (List.mem_cons_of_mem _ hu)) v hv
theorem writeK_ok {m : Mem} {g off : Nat} {vs : List Value} {K : Mem → Bool} (h : writeK m g off vs K = true) : ∃ m', K m' = true ∧ m'.next = m.next ∧
    ∀ (φ : Phi) (w : World) (im : Im) (vs' : List Value), φ g = some im → RVs φ vs vs' → Rep φ m.t.get w → ∃ w', (storeCells ⟨im.b, im.d + off, none⟩ vs').run P w = .ok () w' ∧ Rep φ m'.t.get w' ∧ Ext φ m.t.get m.next φ m'.t.get m'.next w w' := by
  unfold writeK at h
  obtain ⟨c, e, x, u, top, s, hg, h⟩ := rowOf_ok h
  cases top with
  | false => cases h
  | true =>
    simp only [] at h
    rw [bif_t] at h
    obtain ⟨hcb, h⟩ := h
    have hcb := allL_ok _ hcb
    obtain ⟨h, hl⟩ := putL_ok _ _ _ _ h
    obtain ⟨t1, h, k1⟩ := killK_ok h
    obtain ⟨t2, h, k2, k3⟩ := putT_ok h
    refine ⟨_, h, rfl, fun φ w im vs' hi hvs hr => ?_⟩
    obtain ⟨im', a1, a2, a3, a4, C, fr, a5, a6, a7, a8, a9⟩ := hr.ob g _ hg
    rw [hi] at a1
    injection a1 with a1
    subst a1
    have hlen := hvs.len
    have hroom : vs' = [] ∨ im.d + off + 0 + vs'.length ≤ C.size := by
      rcases hl with hl | hl
      · rw [hl] at hlen
        exact .inl (List.eq_nil_of_length_eq_zero (by simpa using hlen.symm))
      · right; omega
    obtain ⟨w', b1, b2⟩ := run_storeCells (P := P) (off := im.d + off) vs' 0 w C a5 a6 hroom (hvs.cellB hcb)
    refine ⟨w', b1, ?_⟩
    refine rep_write (L' := t2.get) hr hg hi k2 (fun k hk => by rw [k3 k hk, k1]) a5 b2 ?_ (putV_len _ _ _) fun j v hj => ?_
    · rw [← Array.length_toList]
      simp [putV_len]
    · have hg1 := putV_get vs c off j (hl.symm)
      rw [hg1] at hj
      have hroom2 : im.d + off + 0 + vs'.length ≤ C.toList.length ∨ vs' = [] := by
        rcases hroom with h | h
        · exact .inr h
        · left; simpa using h
      have hg2 := putV_get vs' C.toList (im.d + off + 0) (im.d + j) hroom2
      have hC : ((putV C.toList (im.d + off + 0) vs').toArray)[im.d + j]? = (putV C.toList (im.d + off + 0) vs')[im.d + j]? := by simp
      rw [hC, hg2]
      split at hj
      · rename_i hc
        rw [if_pos (by omega), show im.d + j - (im.d + off + 0) = j - off by omega]
        exact hvs.get hj
      · rename_i hc
        rw [if_neg (by omega), Array.getElem?_toList]
        exact a9 j v hj
theorem storeE_ok {tm : Tm} {m : Mem} {o : Oper} {ty : TypeId} {a x : Operand} {K : Value → Mem → Bool} (ho : o.op = .store ty a x) (h : storeE P tm m ty a x K = true) : ∃ v m', K v m' = true ∧ m.next ≤ m'.next ∧ OpOk P o tm m v m' := by
  unfold storeE at h
  obtain ⟨av, ha, h⟩ := opd_ok h
  obtain ⟨xv, hx, h⟩ := opd_ok h
  obtain ⟨g, off, e0, h⟩ := asPtr_ok h
  rw [e0] at ha
  obtain ⟨n, h, _, hn⟩ := sizeK_ok h
  rw [bif_t, lenL_eq] at h
  obtain ⟨h1, h⟩ := h
  have h1 := beq_t.1 h1
  obtain ⟨m', h, hnx, hw⟩ := writeK_ok (P := P) h
  refine ⟨_, m', h, by omega, fun φ w act hop hr hf KK Q hK => ?_⟩
  have hax := hop a (by rw [ho]; simp [Op.operands]) _ ha
  have hxx := hop x (by rw [ho]; simp [Op.operands]) _ hx
  obtain ⟨im, hi, ea⟩ := hax.ptr_inv
  obtain ⟨w', b1, b2, b3⟩ := hw φ w im _ hi hxx.cells hr
  unfold Oper.wp
  have hcs : (act.eval x).cells.size = n := by rw [RVs.cells_len hxx, h1]
  have : (execOp act.eval o).run P w = .ok .skip w' := by
    simp only [execOp, ho, Instr.storeAt, Instr.sureAddr, ea, storeVar, Sem.run_bind, Sem.run_pure, Result.andThen_ok, hn]
    rw [if_neg (by rw [hcs]; simp), b1]
    rfl
  rw [this]
  exact hK undef w' φ .undef b2 (by rw [hnx] at b3 ⊢; exact b3)
/-! ### Maps -/
theorem rep_map {φ : Phi} {L L' : Look} {w : World} {n g : Nat} {es es2 : List MapEntry} {c c2 : Nat} {im : Im} {es' es2' : Array MapEntry} (hr : Rep φ L w) (hg : L g = some (.map es c)) (hi : φ g = some im) (hm : w.heap[im.b]? = some (.map es' c))
    (hL : L' g = some (.map es2 c2)) (hk : ∀ k, k ≠ g → L' k = L k) (hv : RMs φ es2 es2'.toList) : Rep φ L' { w with heap := w.heap.setIfInBounds im.b (.map es2' c2) } ∧ Ext φ L n φ L' n w { w with heap := w.heap.setIfInBounds im.b (.map es2' c2) } := by
  have hbl := hr.bound hg hi
  have far : ∀ {k : Nat} {q : Ob} {i : Im}, L' k = some q → k ≠ g → φ k = some i → i.b ≠ im.b := by
    intro k q i h hne hik e1
    rw [hk k hne] at h
    rcases hr.sep k g q _ i im h hg hik hi e1 with h3 | ⟨t, c2, e2, x2, u2, S, k1, k2, k3⟩
    · exact hne h3
    · rcases k3 with rfl | k3
      · rw [hg] at k1; cases k1
      · obtain ⟨it, hit, _⟩ := (hr.ob t _ k1).img
        obtain ⟨c3, e3, x3, u3, S3, e4, _⟩ := hr.grp t c2 e2 x2 u2 S g _ it im k1 k3 hg hit hi
        cases e4
  have hother : ∀ b, b ≠ im.b → (w.heap.setIfInBounds im.b (.map es2' c2))[b]? = w.heap[b]? := fun b hb => Array.getElem?_setIfInBounds_ne (fun e => hb e.symm)
  have back : ∀ {t : Nat} {cc : List Value} {e : TypeId} {x : Bool} {u : Nat} {b : Bool} {S : List Nat}, L' t = some (.row cc e x u b S) → t ≠ g := fun {t cc e x u b S} h e1 => by subst e1; rw [hL] at h; cases h
  refine ⟨⟨fun k q h => ?_, ?_, ?_, ?_, hr.glob⟩, ⟨.refl φ, Nat.le_refl _, fun k h => absurd rfl h, rfl, rfl, rfl, by simp, fun b hb hn => ?_, fun k q i h1 h2 => ?_, fun k q h => ?_, fun k h => ?_⟩⟩
  · by_cases hkg : k = g
    · subst hkg
      rw [hL] at h
      injection h with h
      subst h
      refine ⟨im, es2', hi, ?_, hv⟩
      show (w.heap.setIfInBounds im.b _)[im.b]? = _
      rw [Array.getElem?_setIfInBounds_self_of_lt hbl]
    · have h2 := h
      rw [hk k hkg] at h
      obtain ⟨i, hik, _⟩ := (hr.ob k q h).img
      exact (hr.ob k q h).keep hik (.refl φ) (hother _ (far h2 hkg hik))
  · intro g1 g2 o1 o2 i1 i2 h1 h2 h3 h4 hb
    by_cases e1 : g1 = g
    · by_cases e2 : g2 = g
      · exact .inl (e1.trans e2.symm)
      · subst e1
        rw [hi] at h3
        injection h3 with h3
        subst h3
        exact absurd hb.symm (far h2 e2 h4)
    · by_cases e2 : g2 = g
      · subst e2
        rw [hi] at h4
        injection h4 with h4
        subst h4
        exact absurd hb (far h1 e1 h3)
      · rw [hk g1 e1] at h1
        rw [hk g2 e2] at h2
        rcases hr.sep g1 g2 o1 o2 i1 i2 h1 h2 h3 h4 hb with h | ⟨t, c3, e3, x2, u2, S, k1, k2, k3⟩
        · exact .inl h
        · refine .inr ⟨t, c3, e3, x2, u2, S, ?_, k2, k3⟩
          rw [hk t (fun et => by subst et; rw [hg] at k1; cases k1)]
          exact k1
  · intro t c3 e2 x2 u2 S k q i1 i2 h1 h2 h3 h4 h5
    have et := back h1
    rw [hk t et] at h1
    by_cases ek : k = g
    · subst ek
      obtain ⟨c4, e4, x3, u3, S3, e5, _⟩ := hr.grp t c3 e2 x2 u2 S k _ i1 i2 h1 h2 hg h4 h5
      cases e5
    · rw [hk k ek] at h3
      exact hr.grp t c3 e2 x2 u2 S k q i1 i2 h1 h2 h3 h4 h5
  · intro t c3 e2 x2 u2 S h1
    have et := back h1
    rw [hk t et] at h1
    exact hr.out t c3 e2 x2 u2 S h1
  · exact hother b fun e1 => hn g _ im hg rfl hi e1.symm
  · by_cases hkg : k = g
    · subst hkg
      exact .inr ⟨k, _, i, hg, h2, rfl, fun _ => rfl⟩
    · rw [hk k hkg] at h1
      exact .inr ⟨k, q, i, h1, h2, rfl, id⟩
  · by_cases hkg : k = g
    · subst hkg; exact .inl ⟨_, hg⟩
    · rw [hk k hkg] at h
      exact .inl ⟨q, h⟩
  · rcases h with ⟨o, h⟩ | ⟨t, c3, e2, x2, u2, S, h, h2⟩
    · by_cases hkg : k = g
      · subst hkg; exact .inl (.inl ⟨_, hg⟩)
      · rw [hk k hkg] at h
        exact .inl (.inl ⟨o, h⟩)
    · rw [hk t (back h)] at h
      exact .inl (.inr ⟨t, c3, e2, x2, u2, S, h, h2⟩)
theorem catE_ok : ∀ {es : List MapEntry} {e : MapEntry} {K : List MapEntry → Bool}, catE es e K = true → K (es ++ [e]) = true
  | [], e, K, h => h
  | x :: es, e, K, h => catE_ok (es := es) h
theorem modE_ok : ∀ {es : List MapEntry} {i : Nat} {k x : Value} {K : List MapEntry → Bool}, modE es i k x K = true → ∃ e, es[i]? = some e ∧ K (es.set i ⟨k, x, e.born⟩) = true
  | [], i, k, x, K, h => by rw [modE] at h; cases h
  | e :: es, 0, k, x, K, h => ⟨e, by simp, h⟩
  | e :: es, i + 1, k, x, K, h => by
    rw [modE] at h
    obtain ⟨e2, h1, h2⟩ := modE_ok h
    exact ⟨e2, by simpa using h1, h2⟩
theorem RMs.app {φ : Phi} : ∀ {a b c d : List MapEntry}, RMs φ a b → RMs φ c d → RMs φ (a ++ c) (b ++ d)
  | _, _, _, _, .nil, h => h
  | _, _, _, _, .cons h0 h1 h2 h3, h => .cons h0 h1 h2 (RMs.app h3 h)
theorem RMs.setR {φ : Phi} : ∀ {a b : List MapEntry}, RMs φ a b → ∀ (i : Nat) {e e' : MapEntry}, RV φ e.key e'.key → RV φ e.val e'.val → e'.born = e.born → RMs φ (a.set i e) (b.set i e')
  | _, _, .nil, _, _, _, _, _, _ => .nil
  | _, _, .cons h0 h1 h2 h3, 0, _, _, a, b, c => .cons a b c h3
  | _, _, .cons h0 h1 h2 h3, i + 1, _, _, a, b, c => .cons h0 h1 h2 (RMs.setR h3 i a b c)
theorem RMs.get {φ : Phi} : ∀ {a b : List MapEntry}, RMs φ a b → ∀ {i : Nat} {e : MapEntry}, a[i]? = some e → ∃ e', b[i]? = some e' ∧ e'.born = e.born
  | _, _, .nil, i, e, h => by simp at h
  | _, _, .cons h0 h1 h2 h3, 0, e, h => by simp at h; subst h; exact ⟨_, by simp, h2⟩
  | _, _, .cons h0 h1 h2 h3, i + 1, e, h => by
    obtain ⟨e', k1, k2⟩ := RMs.get h3 (i := i) (by simpa using h)
    exact ⟨e', by simpa using k1, k2⟩
theorem run_setObj {w : World} {b : Nat} {es : Array MapEntry} {c : Nat} (h : w.heap[b]? = some (.map es c)) (o : Obj) : (setObj b o).run P w = .ok () { w with heap := w.heap.setIfInBounds b o } := by simp [setObj, Sem.run, h]
theorem updE_ok {tm : Tm} {m : Mem} {o : Oper} {ty : TypeId} {mp k x : Operand} {K : Value → Mem → Bool} (ho : o.op = .mapUpdate ty mp k x ∨ o.op = .insert ty mp k x) (h : updE P tm m ty mp k x K = true) : ∃ v m', K v m' = true ∧ m.next ≤ m'.next ∧ OpOk P o tm m v m' := by
  unfold updE at h
  obtain ⟨mv, hmv, h⟩ := opd_ok h
  obtain ⟨kv, hkv, h⟩ := opd_ok h
  obtain ⟨xv, hxv, h⟩ := opd_ok h
  obtain ⟨kt, e, hm, h⟩ := mapK_ok h
  rw [bif_t] at h
  obtain ⟨hok, h⟩ := h
  obtain ⟨d, hd⟩ : ∃ d, P.underlying kt = some d := by
    rcases keyOk_ok hok with ⟨_, _, ⟨_, h⟩, _⟩ | ⟨_, h, _⟩ <;> exact ⟨_, h⟩
  have hops : ∀ y ∈ [mp, k, x], y ∈ o.op.operands.toList := by rcases ho with ho | ho <;> (rw [ho]; simp [Op.operands])
  cases mv with
  | map g =>
    cases g with
    | none => cases h
    | some g =>
      simp only [] at h
      obtain ⟨es, cl, hg, h⟩ := mapOf_ok h
      obtain ⟨r, h, hf⟩ := findE_ok hok h
      rw [hd] at hf
      have real : ∀ (φ : Phi) (w : World), Rep φ m.t.get w → ∀ im, φ g = some im → ∃ es', w.heap[im.b]? = some (.map es' cl) ∧ RMs φ es es'.toList := by
        intro φ w hr im hi
        obtain ⟨im', es', k1, k2, k3⟩ := hr.ob _ _ hg
        rw [hi] at k1
        injection k1 with k1
        subst k1
        exact ⟨es', k2, k3⟩
      have hexec : ∀ (ρ : Operand → Value), execOp ρ o = (do Instr.mapUpdate ty (ρ mp) (ρ k) (ρ x); pure Next.skip) := by
        intro ρ
        rcases ho with ho | ho <;> simp only [execOp, ho]
      cases r with
      | none =>
        have h := catE_ok h
        obtain ⟨t', h, g1, g2⟩ := putT_ok h
        refine ⟨_, _, h, Nat.le_refl _, fun φ w act hop hr hfr KK Q hK => ?_⟩
        obtain ⟨im, hi, ea⟩ := (hop mp (hops _ (by simp)) _ hmv).map_inv
        have ek := RV.key hok (hop k (hops _ (by simp)) _ hkv)
        have hxr := hop x (hops _ (by simp)) _ hxv
        obtain ⟨es', m1, m2⟩ := real φ w hr im hi
        obtain ⟨r', f1, f2⟩ := hf φ es'.toList m2
        have hr' : r' = none := by
          rcases f2 with ⟨_, f2⟩ | ⟨j, v, v', f2, _⟩
          · exact f2
          · cases f2
        subst hr'
        have hkk : RV φ kv kv := by rcases keyOk_ok hok with ⟨j, n, _, rfl⟩ | ⟨s, _, rfl⟩; exact .int _ _; exact .string _
        obtain ⟨r1, r2⟩ := rep_map (n := m.next) (es2' := es'.push ⟨kv, act.eval x, cl⟩) hr hg hi m1 g1 g2 (by
          rw [Array.toList_push]
          exact RMs.app m2 (.cons hkk hxr rfl .nil))
        unfold Oper.wp
        have : (execOp act.eval o).run P w = .ok .skip { w with heap := w.heap.setIfInBounds im.b (.map (es'.push ⟨kv, act.eval x, cl⟩) (cl + 1)) } := by
          simp only [hexec, ea, ek, Instr.mapUpdate, Sem.run_bind, run_und hm, Result.andThen_ok, Sem.run_pure, run_getObj m1, run_checkKey hok]
          rw [run_findKey hd (r := none) f1]
          simp only [Result.andThen_ok, run_setObj m1]
        rw [this]
        exact hK undef _ φ .undef r1 r2
      | some p =>
        obtain ⟨e2, he2, h⟩ := modE_ok h
        obtain ⟨t', h, g1, g2⟩ := putT_ok h
        refine ⟨_, _, h, Nat.le_refl _, fun φ w act hop hr hfr KK Q hK => ?_⟩
        obtain ⟨im, hi, ea⟩ := (hop mp (hops _ (by simp)) _ hmv).map_inv
        have ek := RV.key hok (hop k (hops _ (by simp)) _ hkv)
        have hxr := hop x (hops _ (by simp)) _ hxv
        obtain ⟨es', m1, m2⟩ := real φ w hr im hi
        obtain ⟨r', f1, f2⟩ := hf φ es'.toList m2
        have hkk : RV φ kv kv := by rcases keyOk_ok hok with ⟨j, n, _, rfl⟩ | ⟨s, _, rfl⟩; exact .int _ _; exact .string _
        rcases f2 with ⟨f2, _⟩ | ⟨j, v, v', f2, f3, f4, _, e3, e4, b1, b2, b3, b4, b5, b6⟩
        · cases f2
        · injection f2 with f2
          subst f2
          subst f3
          simp only [Nat.sub_zero] at b1 b2
          rw [he2] at b1
          injection b1 with b1
          subst b1
          obtain ⟨e5, c1, c2⟩ := m2.get he2
          rw [b2] at c1
          injection c1 with c1
          subst c1
          have hmod : (es'.modify j fun y => { y with key := kv, val := act.eval x }).toList = es'.toList.set j ⟨kv, act.eval x, e4.born⟩ := by
            apply List.ext_getElem?
            intro q
            rw [Array.getElem?_toList, Array.getElem?_modify]
            by_cases hq : j = q
            · subst hq
              rw [if_pos rfl, List.getElem?_set_self (List.getElem?_eq_some_iff.1 b2).1, ← Array.getElem?_toList, b2]
              rfl
            · rw [if_neg hq, List.getElem?_set_ne hq, Array.getElem?_toList]
          obtain ⟨r1, r2⟩ := rep_map (n := m.next) (es2' := es'.modify j fun y => { y with key := kv, val := act.eval x }) hr hg hi m1 g1 g2 (by
            rw [hmod]
            exact m2.setR j hkk hxr c2)
          unfold Oper.wp
          have hsame : Instr.sameBits 10000 kv kv = true := by
            rcases keyOk_ok hok with ⟨j, n, _, rfl⟩ | ⟨s, _, rfl⟩
            · simp [Instr.sameBits]
            · simp only [Instr.sameBits]
              rw [beq_toListBytes]
              simp
          have hold : ((es'[j]?).map (·.key)).getD kv = kv := by
            rw [← Array.getElem?_toList, b2]
            exact b6
          have : (execOp act.eval o).run P w = .ok .skip { w with heap := w.heap.setIfInBounds im.b (.map (es'.modify j fun y => { y with key := kv, val := act.eval x }) cl) } := by
            simp only [hexec, ea, ek, Instr.mapUpdate, Sem.run_bind, run_und hm, Result.andThen_ok, Sem.run_pure, run_getObj m1, run_checkKey hok]
            rw [run_findKey hd f1]
            simp only [Result.andThen_ok, Sem.run_bind, hold, Instr.keyThatStays]
            rw [if_pos hsame]
            simp only [Sem.run_pure, Result.andThen_ok, run_setObj m1]
          rw [this]
          exact hK undef _ φ .undef r1 r2
  | _ => cases h
end
section
variable {P : Program}
def drewW (w : World) : World := { w with drawn := w.drawn + 1 }
theorem Rep.drew {φ : Phi} {L : Look} {w : World} (h : Rep φ L w) : Rep φ L (drewW w) := ⟨fun g o hg => by
    have := h.ob g o hg
    cases o <;> exact this, h.sep, h.grp, h.out, h.glob⟩
def isIntD : TypeDesc → Bool
  | .int _ => true
  | _ => false
/-- What is appended: n elements, these cells. -/
def Src (P : Program) (d : TypeDesc) (e : TypeId) (size : Nat) (x : Value) (n : Nat) (new : Array Value) (w : World) : Prop :=
  (isIntD d = false ∧ (Builtin.lenOf x).run P w = .ok n w ∧ (Builtin.firstCells size n x).run P w = .ok new w) ∨
  (isIntD d = true ∧ x = .int .i64 (.ofNat n) ∧ n ≤ 1000000 ∧ ∃ z, (zeroValue e).run P w = .ok z w ∧ ((n * size = 0 ∧ new = #[]) ∨ (¬ n * size = 0 ∧ new = Builtin.zeroCells z.cells n)))
theorem grow_le : ∀ (r n c : Nat), Builtin.growBy n r c ≤ 2 ^ r * (c + 768)
  | 0, n, c => by rw [Builtin.growBy]; omega
  | r + 1, n, c => by
    rw [Builtin.growBy]
    split
    · have : 1 ≤ 2 ^ (r + 1) := Nat.one_le_two_pow
      calc c ≤ 1 * (c + 768) := by omega
        _ ≤ 2 ^ (r + 1) * (c + 768) := Nat.mul_le_mul_right _ this
    · have := grow_le r n (c + (c + 768) / 4)
      calc Builtin.growBy n r (c + (c + 768) / 4) ≤ 2 ^ r * (c + (c + 768) / 4 + 768) := this
        _ ≤ 2 ^ r * (2 * (c + 768)) := Nat.mul_le_mul_left _ (by omega)
        _ = 2 ^ (r + 1) * (c + 768) := by rw [Nat.pow_succ]; rw [Nat.mul_assoc]
theorem next_le {need c : Nat} (h : need ≤ 1000000) (hc : c < need) : Builtin.nextslicecap need c ≤ 20000000 := by
  unfold Builtin.nextslicecap
  split
  · omega
  · split
    · omega
    · have h4 := grow_le 4 need c
      rw [show (2 : Nat) ^ 4 = 16 from rfl] at h4
      exact Nat.le_trans h4 (by omega)
theorem wr64 {n : Nat} (hn : n ≤ 1000000) : IntKind.wrap .i64 (n : Int) = (n : Int) := by
  unfold IntKind.wrap
  simp [IntKind.bits, IntKind.signed]
  rw [Int.emod_eq_of_lt (by omega) (by omega), if_neg (by omega)]
theorem run_ask (n : Nat) (w : World) : (askRoom n).run P w = .ok () w := by
  unfold askRoom
  split <;> rfl
theorem run_info {e : TypeId} {ei : TypeInfo} (h : P.info? e = some ei) (w : World) : (typeInfo e).run P w = .ok ei w := by simp [typeInfo, program, Sem.run, h]
theorem run_size {e : TypeId} {ei : TypeInfo} (h : P.info? e = some ei) (w : World) : (Go.sizeOf e).run P w = .ok ei.size w := by simp [Go.sizeOf, run_info h]
/-- There is room. -/
theorem run_append_in {T : Array TypeId} {rt sT xT e : TypeId} {ei : TypeInfo} {d : TypeDesc} (h0 : T[0]? = some sT) (h1 : T[1]? = some xT) (hs : P.underlying sT = some (.slice e)) (hx : P.underlying xT = some d) (hi : P.info? e = some ei) (hb1 : ei.bytes ≤ 1000000)
    {base : Option Addr} {sl sc n : Nat} {x : Value} {new : Array Value} {w w' : World} (hsrc : Src P d e ei.size x n new w) (hfit : sl + n ≤ sc) (hst : ∀ a, base = some a → (storeCells (a.add (sl * ei.size)) new.toList).run P w = .ok () w') (hno : base = none → w' = w) :
    (Builtin.append_ T rt #[.slice base sl sc, x]).run P w = .ok (.slice base (sl + n) sc) w' := by
  have hb : isIntD d = true → ∃ k, d = .int k := fun h => by cases d <;> first | exact ⟨_, rfl⟩ | cases h
  have fin : ∀ (s : Sem Unit), True → True := fun _ h => h
  unfold Builtin.append_
  simp only [h0, h1, List.getElem?_toArray, List.getElem?_cons_zero, List.getElem?_cons_succ, Sem.run_bind, run_und hs, run_und hx, run_size hi, Result.andThen_ok]
  rcases hsrc with ⟨hd, s1, s2⟩ | ⟨hd, rfl, s2, z, s3, s4⟩
  · have hdm : (match d with | .int _ => true | _ => false) = false := by cases d <;> first | rfl | cases hd
    simp only [Sem.run_pure, Result.andThen_ok]
    rw [if_neg (by cases d <;> simp_all [isIntD])]
    simp only [Sem.run_bind, s1, Result.andThen_ok]
    rw [if_pos hfit]
    rw [if_pos (by cases d <;> simp_all [isIntD])]
    cases base with
    | none => simp only [Sem.run_bind, s2, Result.andThen_ok, Sem.run_pure, hno rfl]
    | some a => simp only [Sem.run_bind, s2, Result.andThen_ok, hst a rfl, Sem.run_pure]
  · obtain ⟨k, rfl⟩ := hb hd
    simp only [Sem.run_pure, Sem.run_bind, Result.andThen_ok, if_true, Go.asInt, asIntOf, Int.ofNat_eq_natCast, wr64 s2, run_info hi]
    have hbn : (n : Int) * (ei.bytes : Int) ≤ 1000000 * 1000000 := by
      have := Nat.mul_le_mul s2 hb1
      omega
    have h48 : (2 : Int) ^ 48 = 281474976710656 := by decide
    rw [if_neg (by omega)]
    simp only [Sem.run_bind, run_info hi, Result.andThen_ok]
    rw [h48, if_neg (by omega)]
    simp only [Sem.run_bind, Sem.run_pure, Result.andThen_ok, Int.toNat_natCast, Bool.not_true, Bool.false_eq_true, if_false]
    rw [if_pos hfit]
    rcases s4 with ⟨s4, rfl⟩ | ⟨s4, rfl⟩
    · rw [if_pos s4]
      cases base with
      | none => simp only [Sem.run_bind, Result.andThen_ok, Sem.run_pure, hno rfl]
      | some a => simp only [Sem.run_bind, Result.andThen_ok, hst a rfl, Sem.run_pure]
    · rw [if_neg s4]
      cases base with
      | none => simp only [Sem.run_bind, s3, Result.andThen_ok, Sem.run_pure, hno rfl]
      | some a => simp only [Sem.run_bind, s3, Result.andThen_ok, hst a rfl, Sem.run_pure]
/-- There is none: a new block. -/
theorem run_append_new {T : Array TypeId} {rt sT xT e : TypeId} {ei : TypeInfo} {d : TypeDesc} (h0 : T[0]? = some sT) (h1 : T[1]? = some xT) (hs : P.underlying sT = some (.slice e)) (hx : P.underlying xT = some d) (hi : P.info? e = some ei) (hb1 : ei.bytes ≤ 1000000) (hb2 : 1 ≤ ei.bytes)
    {base : Option Addr} {sl sc n : Nat} {x : Value} {new old : Array Value} {z : Value} {w : World} (hsrc : Src P d e ei.size x n new w) (hsrc2 : Src P d e ei.size x n new (drewW w)) (hfit : ¬ sl + n ≤ sc) (hneed : sl + n ≤ 1000000) (hold : (Builtin.firstCells ei.size sl (.slice base sl sc)).run P (drewW w) = .ok old (drewW w)) (hz : ∀ w, (zeroValue e).run P w = .ok z w) :
    ∃ cap, sl + n ≤ cap ∧ (Builtin.append_ T rt #[.slice base sl sc, x]).run P w = .ok (.slice (some ⟨w.heap.size, 0, none⟩) (sl + n) cap) (push (drewW w) (.cells (old ++ new ++ Builtin.zeroCells z.cells (cap - (sl + n))) e)) := by
  have hb : isIntD d = true → ∃ k, d = .int k := fun h => by cases d <;> first | exact ⟨_, rfl⟩ | cases h
  obtain ⟨cap, hcap⟩ : ∃ cap, cap = (Question.appendCap (sl + n) sc e).cut (w.tape w.drawn (.appendCap (sl + n) sc e)) := ⟨_, rfl⟩
  have hch : (choose (.appendCap (sl + n) sc e)).run P w = .ok cap (drewW w) := by rw [hcap]; rfl
  have hn : Builtin.nextslicecap (sl + n) sc * ei.bytes ≤ 2 ^ 48 := by
    have h1 := next_le hneed (c := sc) (by omega)
    have := Nat.mul_le_mul h1 hb1
    omega
  refine ⟨cap, by rw [hcap]; simp only [Question.cut]; omega, ?_⟩
  unfold Builtin.append_
  simp only [h0, h1, List.getElem?_toArray, List.getElem?_cons_zero, List.getElem?_cons_succ, Sem.run_bind, run_und hs, run_und hx, run_size hi, Result.andThen_ok]
  have hmax : ¬ ((sl + n : Nat) : Int) > IntKind.i64.max := by
    have : IntKind.i64.max = 9223372036854775807 := by decide
    rw [this]; omega
  rcases hsrc with ⟨hd, s1, s2⟩ | ⟨hd, rfl, s2, z0, s3, s4⟩
  · have hdm : (match d with | .int _ => true | _ => false) = false := by cases d <;> first | rfl | cases hd
    rcases hsrc2 with ⟨_, t1, t2⟩ | ⟨hd2, _⟩
    · simp only [Sem.run_pure, Result.andThen_ok]
      rw [if_neg (by cases d <;> simp_all [isIntD])]
      simp only [Sem.run_bind, s1, Result.andThen_ok]
      rw [if_neg hfit]
      simp only [Sem.run_bind, run_info hi, Result.andThen_ok]
      rw [if_neg (fun h => hmax h.1)]
      simp only [Sem.run_bind, run_info hi, Result.andThen_ok, Sem.run_pure]
      rw [if_neg (by omega)]
      simp only [Sem.run_bind, run_info hi, hch, run_ask, hold, Result.andThen_ok]
      rw [if_pos (by cases d <;> simp_all [isIntD])]
      simp only [Sem.run_bind, t2, hz, Result.andThen_ok, Sem.run_pure, run_newRow]
      rfl
    · rw [hd] at hd2; cases hd2
  · obtain ⟨k, rfl⟩ := hb hd
    rcases hsrc2 with ⟨hd2, _⟩ | ⟨_, _, _, z1, t3, t4⟩
    · rw [hd] at hd2; cases hd2
    have ez : z1 = z := by
      have := hz (drewW w)
      rw [t3] at this
      injection this
    subst ez
    simp only [Sem.run_pure, Sem.run_bind, Result.andThen_ok, if_true, Go.asInt, asIntOf, Int.ofNat_eq_natCast, wr64 s2, run_info hi]
    have hbn : (n : Int) * (ei.bytes : Int) ≤ 1000000 * 1000000 := by
      have := Nat.mul_le_mul s2 hb1
      omega
    have h48 : (2 : Int) ^ 48 = 281474976710656 := by decide
    rw [if_neg (by omega)]
    simp only [Sem.run_bind, run_info hi, Result.andThen_ok]
    rw [h48, if_neg (by omega)]
    simp only [Sem.run_bind, Sem.run_pure, Result.andThen_ok, Int.toNat_natCast, Bool.not_true, Bool.false_eq_true, if_false]
    rw [if_neg hfit]
    simp only [Sem.run_bind, run_info hi, Result.andThen_ok]
    rw [if_neg (fun h => hmax h.1)]
    simp only [Sem.run_bind, run_info hi, Result.andThen_ok, Sem.run_pure]
    rw [if_neg (by omega)]
    simp only [Sem.run_bind, run_info hi, hch, run_ask, hold, Result.andThen_ok]
    rcases t4 with ⟨t4, rfl⟩ | ⟨t4, rfl⟩
    · rw [if_pos t4]
      simp only [Sem.run_bind, hz, Result.andThen_ok, Sem.run_pure, run_newRow]
      rfl
    · rw [if_neg t4]
      simp only [Sem.run_bind, hz, Result.andThen_ok, Sem.run_pure, run_newRow]
      rfl
end
end AC.Ev

