/-
  Words for memory: lists of numbers, their blocks under a condition S.
-/
import Derived.Test.YtgheaoaicbkaoaaGreatDoorMAa
import Derived.Deep.AppendLies
namespace Go.Proofs.YtgheaoaicbkaoaaGreatDoor
open Go.RowKit AC
set_option linter.unusedVariables false
set_option linter.unusedSimpArgs false

def LimbsP (w : World) (S : Nat → Prop) (v : Value) (k : Nat) (f : Nat → Nat) : Prop :=
  (∀ i, i < k → f i < 4294967296) ∧ ∃ A c, v = .slice A k c ∧ k ≤ c ∧ c ≤ maxLen ∧
    (0 < k → ∃ b off, A = some ⟨b, off, none⟩ ∧ S b ∧ b < w.heap.size ∧ ∀ i, i < k → w.cell? ⟨b, off + i, none⟩ = some (.int .u32 ((f i : Nat) : Int)))
def RatVP (w : World) (S : Nat → Prop) (v : Value) (K : Nat) (q : Rat) : Prop :=
  ∃ (neg : Bool) (kn kd : Nat) (fn fd : Nat → Nat) (vn vd : Value), v = .agg #[.bool neg, vn, vd] ∧ LimbsP w S vn kn fn ∧ LimbsP w S vd kd fd ∧ kn ≤ K ∧ kd ≤ K ∧ q = mkRat (sg neg (vs fn kn)) (vs fd kd)
def RatsP (w : World) (S : Nat → Prop) (v : Value) (k K : Nat) (r : Nat → Rat) : Prop :=
  ∃ A c, v = .slice A k c ∧ k ≤ c ∧ c ≤ maxLen ∧ (0 < k → ∃ b off, A = some ⟨b, off, none⟩ ∧ S b ∧ b < w.heap.size ∧
    ∀ i, i < k → ∃ s An kn cn Ad kd cd, w.cell? ⟨b, off + i * 3, none⟩ = some (.bool s) ∧ w.cell? ⟨b, off + i * 3 + 1, none⟩ = some (.slice An kn cn) ∧ w.cell? ⟨b, off + i * 3 + 2, none⟩ = some (.slice Ad kd cd) ∧
      RatVP w S (.agg #[.bool s, .slice An kn cn, .slice Ad kd cd]) K (r i))

theorem RatV.toP {w : World} {lo : Nat} {v : Value} {K : Nat} {q : Rat} (h : RatV w lo v K q) : RatVP w (lo ≤ ·) v K q := h
theorem RatVP.toV {w : World} {lo : Nat} {v : Value} {K : Nat} {q : Rat} (h : RatVP w (lo ≤ ·) v K q) : RatV w lo v K q := h
theorem RatsV.toP {w : World} {lo : Nat} {v : Value} {k K : Nat} {r : Nat → Rat} (h : RatsV w lo v k K r) : RatsP w (lo ≤ ·) v k K r := h
theorem RatsP.toV {w : World} {lo : Nat} {v : Value} {k K : Nat} {r : Nat → Rat} (h : RatsP w (lo ≤ ·) v k K r) : RatsV w lo v k K r := h

section
variable {w w' : World} {S S' : Nat → Prop} {v : Value} {k K K' : Nat} {f : Nat → Nat} {q : Rat} {r : Nat → Rat}
theorem LimbsP.keep (h : LimbsP w S v k f) (hs : w.heap.size ≤ w'.heap.size) (hk : ∀ b, S b → b < w.heap.size → w'.heap[b]? = w.heap[b]? ∧ S' b) : LimbsP w' S' v k f := by
  obtain ⟨h1, A, c, rfl, h2, h3, h4⟩ := h
  refine ⟨h1, A, c, rfl, h2, h3, fun h0 => ?_⟩
  obtain ⟨b, off, rfl, h5, h6, h7⟩ := h4 h0
  exact ⟨b, off, rfl, (hk b h5 h6).2, by omega, fun i hi => (World.cell?_of_block (a := ⟨b, off + i, none⟩) (hk b h5 h6).1).trans (h7 i hi)⟩
theorem RatVP.keep (h : RatVP w S v K q) (hs : w.heap.size ≤ w'.heap.size) (hk : ∀ b, S b → b < w.heap.size → w'.heap[b]? = w.heap[b]? ∧ S' b) : RatVP w' S' v K q := by
  obtain ⟨neg, kn, kd, fn, fd, vn, vd, rfl, h1, h2, h3⟩ := h
  exact ⟨neg, kn, kd, fn, fd, vn, vd, rfl, h1.keep hs hk, h2.keep hs hk, h3⟩
theorem RatVP.more (h : RatVP w S v K q) (hK : K ≤ K') : RatVP w S v K' q := by
  obtain ⟨neg, kn, kd, fn, fd, vn, vd, rfl, h1, h2, h3, h4, h5⟩ := h
  exact ⟨neg, kn, kd, fn, fd, vn, vd, rfl, h1, h2, Nat.le_trans h3 hK, Nat.le_trans h4 hK, h5⟩
theorem RatsP.keep (h : RatsP w S v k K r) (hs : w.heap.size ≤ w'.heap.size) (hk : ∀ b, S b → b < w.heap.size → w'.heap[b]? = w.heap[b]? ∧ S' b) : RatsP w' S' v k K r := by
  obtain ⟨A, c, rfl, h1, h2, h3⟩ := h
  refine ⟨A, c, rfl, h1, h2, fun h0 => ?_⟩
  obtain ⟨b, off, rfl, h4, h5, h6⟩ := h3 h0
  refine ⟨b, off, rfl, (hk b h4 h5).2, by omega, fun i hi => ?_⟩
  obtain ⟨s, An, kn, cn, Ad, kd, cd, e1, e2, e3, e4⟩ := h6 i hi
  exact ⟨s, An, kn, cn, Ad, kd, cd, (World.cell?_of_block (a := ⟨b, _, none⟩) (hk b h4 h5).1).trans e1, (World.cell?_of_block (a := ⟨b, _, none⟩) (hk b h4 h5).1).trans e2, (World.cell?_of_block (a := ⟨b, _, none⟩) (hk b h4 h5).1).trans e3, e4.keep hs hk⟩
theorem RatsP.more (h : RatsP w S v k K r) (hK : K ≤ K') : RatsP w S v k K' r := by
  obtain ⟨A, c, rfl, h1, h2, h3⟩ := h
  refine ⟨A, c, rfl, h1, h2, fun h0 => ?_⟩
  obtain ⟨b, off, rfl, h4, h5, h6⟩ := h3 h0
  refine ⟨b, off, rfl, h4, h5, fun i hi => ?_⟩
  obtain ⟨s, An, kn, cn, Ad, kd, cd, e1, e2, e3, e4⟩ := h6 i hi
  exact ⟨s, An, kn, cn, Ad, kd, cd, e1, e2, e3, e4.more hK⟩
theorem RatsP.below (h : RatsP w S v k K r) (hb : Below w.heap.size w w') : RatsP w' S v k K r := h.keep hb.size fun b hS hlt => ⟨hb.block b hlt, hS⟩
theorem RatVP.below (h : RatVP w S v K q) (hb : Below w.heap.size w w') : RatVP w' S v K q := h.keep hb.size fun b hS hlt => ⟨hb.block b hlt, hS⟩
theorem RatsP.any (h : RatsP w S v k K r) : RatsV w 0 v k K r := h.keep (Nat.le_refl _) fun b _ _ => ⟨rfl, Nat.zero_le _⟩

/-- Block b is a row of k structs; the first n hold numbers r 0, r 1, .. whose memory lies in other blocks. -/
def RowN (w : World) (b k n K : Nat) (r : Nat → Rat) : Prop :=
  ∃ f : Nat → Value, w.rowIs b 27 (k * 3) f ∧ ∀ j, j < n → ∃ s An kn cn Ad kd cd, f (j * 3) = .bool s ∧ f (j * 3 + 1) = .slice An kn cn ∧ f (j * 3 + 2) = .slice Ad kd cd ∧ RatVP w (· ≠ b) (.agg #[.bool s, .slice An kn cn, .slice Ad kd cd]) K (r j)
end

section
variable {w w' : World} {b k n K : Nat} {r : Nat → Rat}
theorem RowN.lt (h : RowN w b k n K r) : b < w.heap.size := by obtain ⟨f, h1, _⟩ := h; exact h1.lt
theorem RowN.below (h : RowN w b k n K r) (hb : Below w.heap.size w w') : RowN w' b k n K r := by
  obtain ⟨f, h1, h2⟩ := h
  refine ⟨f, h1.of_block (hb.block b h1.lt), fun j hj => ?_⟩
  obtain ⟨s, An, kn, cn, Ad, kd, cd, e1, e2, e3, e4⟩ := h2 j hj
  exact ⟨s, An, kn, cn, Ad, kd, cd, e1, e2, e3, e4.below hb⟩
theorem RowN.there (h : RowN w b k n K r) {i : Nat} (hi : i < k * 3) : ∃ u, w.cell? ⟨b, i, none⟩ = some u := by
  obtain ⟨f, h1, _⟩ := h
  exact ⟨_, h1.cell hi⟩
theorem RowN.frozen (h : RowN w b k n K r) (i : Nat) : w.frozen? ⟨b, i, none⟩ = false := by
  obtain ⟨f, h1, _⟩ := h
  exact h1.frozen i
theorem heap_setAt3 (x : World) (b' i j l : Nat) (p y z : Value) (k : Nat) (hk : k ≠ b') : (((x.setCell ⟨b', i, none⟩ p).setCell ⟨b', j, none⟩ y).setCell ⟨b', l, none⟩ z).heap[k]? = x.heap[k]? := by
  rw [Below.heap_setCell _ _ _ _ hk, Below.heap_setCell _ _ _ _ hk, Below.heap_setCell _ _ _ _ hk]
theorem RatVP.setAt3 {v : Value} {q : Rat} (h : RatVP w (· ≠ b) v K q) (i j l : Nat) (x y z : Value) : RatVP (((w.setCell ⟨b, i, none⟩ x).setCell ⟨b, j, none⟩ y).setCell ⟨b, l, none⟩ z) (· ≠ b) v K q :=
  h.keep (by simp [World.setCell]) fun k hk _ => ⟨heap_setAt3 w b i j l x y z k hk, hk⟩
theorem RatsP.setAt3 {v : Value} (h : RatsP w (· ≠ b) v k K r) (i j l : Nat) (x y z : Value) : RatsP (((w.setCell ⟨b, i, none⟩ x).setCell ⟨b, j, none⟩ y).setCell ⟨b, l, none⟩ z) (· ≠ b) v k K r :=
  h.keep (by simp [World.setCell]) fun k hk _ => ⟨heap_setAt3 w b i j l x y z k hk, hk⟩
theorem RowN.store (h : RowN w b k n K r) {s : Bool} {An Ad : Option Addr} {kn cn kd cd : Nat} (hr : RatVP w (· ≠ b) (.agg #[.bool s, .slice An kn cn, .slice Ad kd cd]) K (r n)) :
    RowN (((w.setCell ⟨b, n * 3, none⟩ (.bool s)).setCell ⟨b, n * 3 + 1, none⟩ (.slice An kn cn)).setCell ⟨b, n * 3 + 2, none⟩ (.slice Ad kd cd)) b k (n + 1) K r := by
  obtain ⟨f, h1, h2⟩ := h
  refine ⟨_, ((h1.set (n * 3) (.bool s)).set (n * 3 + 1) (.slice An kn cn)).set (n * 3 + 2) (.slice Ad kd cd), fun j hj => ?_⟩
  rcases Nat.lt_or_ge j n with hjn | hjn
  · obtain ⟨s', An', kn', cn', Ad', kd', cd', e1, e2, e3, e4⟩ := h2 j hjn
    refine ⟨s', An', kn', cn', Ad', kd', cd', ?_, ?_, ?_, e4.setAt3 _ _ _ _ _ _⟩
    · rw [if_neg (by omega), if_neg (by omega), if_neg (by omega)]; exact e1
    · rw [if_neg (by omega), if_neg (by omega), if_neg (by omega)]; exact e2
    · rw [if_neg (by omega), if_neg (by omega), if_neg (by omega)]; exact e3
  · obtain rfl : j = n := by omega
    refine ⟨s, An, kn, cn, Ad, kd, cd, ?_, ?_, ?_, hr.setAt3 _ _ _ _ _ _⟩
    · rw [if_neg (by omega), if_neg (by omega), if_pos rfl]
    · rw [if_neg (by omega), if_pos rfl]
    · rw [if_pos rfl]
theorem RowN.toV (h : RowN w b k n K r) (hn : n ≤ k) (hk : k ≤ 4294967296) : RatsV w 0 (.slice (some ⟨b, 0, none⟩) n k) n K r := by
  have hlt := h.lt
  obtain ⟨f, h1, h2⟩ := h
  refine ⟨_, k, rfl, hn, by unfold maxLen; omega, fun _ => ⟨b, 0, rfl, Nat.zero_le _, hlt, fun i hi => ?_⟩⟩
  obtain ⟨s, An, kn, cn, Ad, kd, cd, e1, e2, e3, e4⟩ := h2 i hi
  refine ⟨s, An, kn, cn, Ad, kd, cd, ?_, ?_, ?_, e4.keep (Nat.le_refl _) fun b _ _ => ⟨rfl, Nat.zero_le _⟩⟩
  · rw [Nat.zero_add, h1.cell (by omega), e1]
  · rw [Nat.zero_add, h1.cell (by omega), e2]
  · rw [Nat.zero_add, h1.cell (by omega), e3]
theorem RowN.ofQ {r' : Nat → Rat} (h : RowQ w b k 0 r') : RowN w b k 0 K r := by
  obtain ⟨f, h1, _⟩ := h
  exact ⟨f, h1, fun j hj => absurd hj (by omega)⟩
end

/-- 'append([]api.Rat(nil), x...)': a copy of the structs. -/
theorem wpList_copyQ (w : World) {ops : Array Oper} {rest : List Oper} {o : Oper} {a : Act} {Q : Exit → Act → World → Prop} (hgd : o.guard = none) (s x : Operand)
    (ho : o.op = .call { callee := .builtin .append, args := #[s, x], argTypes := #[97, 97] })
    (hs : a.eval s = .slice none 0 0) (A : Option Addr) (k c K : Nat) (r : Nat → Rat) (hx : a.eval x = .slice A k c) (lo : Nat) (hl : RatsV w lo (.slice A k c) k K r)
    (base : Nat) (w0 : World) (hb : Below base w0 w) (hbase : base ≤ w.heap.size) (hk : k ≤ 4294967296)
    (h : ∀ v' w', RatsV w' 0 v' k K r → Below base w0 w' → Below w.heap.size w w' → wpList Tryz.prog ops Q rest (a.put o.dst v') w') : wpList Tryz.prog ops Q (o :: rest) a w := by
  obtain ⟨i, hi, hz0, hs1, hb4⟩ := info_parts info_rat
  have HL := hl
  obtain ⟨A', c', hv, hkc, hcm, hcell⟩ := hl
  injection hv with hA _ hc
  subst hA
  subst hc
  cases A with
  | none =>
    have hk0 : k = 0 := by
      rcases Nat.eq_zero_or_pos k with h0 | h0
      · exact h0
      · obtain ⟨b, off, hA, _⟩ := hcell h0
        cases hA
    subst hk0
    refine wpList_plain hgd fun K' hK => ?_
    have hrun : (Builtin.append_ #[97, 97] o.type #[.slice none 0 0, .slice none 0 c]).run Tryz.prog w = .ok (.slice none 0 0) w := by
      simp [Builtin.append_, run_underlying Tryz.underlying97, Go.sizeOf, typeInfo, hi, Builtin.lenOf, Builtin.firstCells]
    unfold Oper.wp
    simp only [execOp, ho, resolve, invoke, builtin, Sem.run_bind, Sem.run_pure, Result.andThen_ok, List.map_toArray, List.map_cons, List.map_nil, hs, hx, hrun]
    exact hK _ _ (h _ _ ⟨none, 0, rfl, Nat.le_refl _, Nat.zero_le _, fun h => absurd h (by omega)⟩ hb (Below.refl _ _))
  | some ad =>
    have hcells : ∃ b off, (0 < k → ad = ⟨b, off, none⟩ ∧ b < w.heap.size ∧ ∀ i, i < k → ∃ s An kn cn Ad kd cd, w.cell? ⟨b, off + i * 3, none⟩ = some (.bool s) ∧ w.cell? ⟨b, off + i * 3 + 1, none⟩ = some (.slice An kn cn) ∧ w.cell? ⟨b, off + i * 3 + 2, none⟩ = some (.slice Ad kd cd) ∧
        RatV w lo (.agg #[.bool s, .slice An kn cn, .slice Ad kd cd]) K (r i)) := by
      rcases Nat.eq_zero_or_pos k with h0 | h0
      · exact ⟨0, 0, fun h => absurd h (by omega)⟩
      · obtain ⟨b, off, hA, _, hlt, hc⟩ := hcell h0
        injection hA with hA
        exact ⟨b, off, fun _ => ⟨hA, hlt, hc⟩⟩
    obtain ⟨b, off, hcells⟩ := hcells
    have hall : ∀ j, j < k * 3 → ∃ u, w.cell? ⟨b, off + j, none⟩ = some u ∧ u.oneCell' = true := by
      intro j hj
      obtain ⟨_, _, hc⟩ := hcells (by omega)
      obtain ⟨s, An, kn, cn, Ad, kd, cd, e1, e2, e3, _⟩ := hc (j / 3) (by omega)
      have h3 : j = j / 3 * 3 ∨ j = j / 3 * 3 + 1 ∨ j = j / 3 * 3 + 2 := by omega
      rcases h3 with h3 | h3 | h3
      · exact ⟨_, by rw [h3]; exact e1, rfl⟩
      · exact ⟨_, by rw [h3, ← Nat.add_assoc]; exact e2, rfl⟩
      · exact ⟨_, by rw [h3, ← Nat.add_assoc]; exact e3, rfl⟩
    have hat : ∀ j u, ((List.range (k * 3)).map fun j => (w.cell? ⟨b, off + j, none⟩).getD undef)[j]? = some u → j < k * 3 ∧ w.cell? ⟨b, off + j, none⟩ = some u := by
      intro j u hu
      have hj : j < k * 3 := by
        have := (List.getElem?_eq_some_iff.1 hu).1
        simpa using this
      obtain ⟨u', hu', _⟩ := hall j hj
      refine ⟨hj, ?_⟩
      rw [hu']
      simpa [hj, hu'] using hu
    refine wpList_append_own w hgd s x 97 ho base 27 i _ 3 56 Tryz.underlying97 hi hz0 hs1 hb4 rfl (by omega) (.slice none 0 0) 0 [] hs (World.ownsRow_nil _ _ _ _) ad k c ((List.range (k * 3)).map fun j => (w.cell? ⟨b, off + j, none⟩).getD undef) hx (by simp) ?_ ?_ (by unfold maxLen; omega) (by omega) hbase ?_
    · intro j u hu
      obtain ⟨hj, hu2⟩ := hat j u hu
      obtain ⟨rfl, _, _⟩ := hcells (by omega)
      rw [Addr.add_lit]
      exact hu2
    · intro u hu
      obtain ⟨j, hj, rfl⟩ := List.mem_map.1 hu
      obtain ⟨u', hu', h1⟩ := hall j (List.mem_range.1 hj)
      rw [hu']
      exact h1
    · intro v' w' hown' hg _
      have hbel : Below w.heap.size w w' := (Below.refl _ _).grown hg (Nat.le_refl _) (by simp [Value.ownBlock])
      refine h v' w' ?_ (hb.grown hg hbase (by simp [Value.ownBlock])) hbel
      rw [Nat.zero_add, List.nil_append] at hown'
      have hcl := fun g (hg : v'.ownBlock = some g) => hown'.cells hg
      have hlt := hown'.lt
      rcases hown'.2 with ⟨rfl, rfl⟩ | ⟨g, cap, cur, rfl, hbg, hh, hkc', hcm', _, _⟩
      · exact ⟨none, 0, rfl, Nat.le_refl _, Nat.zero_le _, fun h => absurd h (by omega)⟩
      · refine ⟨_, cap, rfl, hkc', hcm', fun _ => ⟨g, 0, rfl, Nat.zero_le _, (hlt g rfl).2, fun i hi => ?_⟩⟩
        obtain ⟨_, _, hc⟩ := hcells (by omega)
        obtain ⟨s, An, kn, cn, Ad, kd, cd, e1, e2, e3, e4⟩ := hc i hi
        refine ⟨s, An, kn, cn, Ad, kd, cd, ?_, ?_, ?_, (e4.below hbel).lower (Nat.zero_le _)⟩
        · have := hcl g rfl (i * 3) (.bool s) (by rw [List.getElem?_map, List.getElem?_range (by omega)]; simp [e1])
          rw [Addr.add_lit] at this; exact this
        · have := hcl g rfl (i * 3 + 1) (.slice An kn cn) (by rw [List.getElem?_map, List.getElem?_range (by omega)]; simp [← Nat.add_assoc, e2])
          rw [Addr.add_lit, ← Nat.add_assoc] at this; exact this
        · have := hcl g rfl (i * 3 + 2) (.slice Ad kd cd) (by rw [List.getElem?_map, List.getElem?_range (by omega)]; simp [← Nat.add_assoc, e3])
          rw [Addr.add_lit, ← Nat.add_assoc] at this; exact this

end Go.Proofs.YtgheaoaicbkaoaaGreatDoor

/-
  Words for memory: a list of numbers that the call appends to.
-/
namespace Go.Proofs.YtgheaoaicbkaoaaGreatDoor
open Go.RowKit AC
set_option linter.unusedVariables false
set_option linter.unusedSimpArgs false

/-- v is a slice of the call's own of n structs, which hold r 0, r 1, ..; the row and the numbers lie from base on, the numbers in other blocks than the row. -/
def OwnQ (w : World) (base : Nat) (v : Value) (n K : Nat) (r : Nat → Rat) : Prop :=
  ∃ xs, w.ownsRow base 27 3 v n xs ∧ ∀ j, j < n → ∃ s An kn cn Ad kd cd, xs[j * 3]? = some (.bool s) ∧ xs[j * 3 + 1]? = some (.slice An kn cn) ∧ xs[j * 3 + 2]? = some (.slice Ad kd cd) ∧ RatVP w (fun b => base ≤ b ∧ some b ≠ v.ownBlock) (.agg #[.bool s, .slice An kn cn, .slice Ad kd cd]) K (r j)

section
variable {w w' : World} {base : Nat} {v : Value} {n K : Nat} {r : Nat → Rat}
theorem OwnQ.nil (w : World) (base K : Nat) (r : Nat → Rat) : OwnQ w base (.slice none 0 0) 0 K r := ⟨[], World.ownsRow_nil _ _ _ _, fun j hj => absurd hj (by omega)⟩
theorem OwnQ.keep (h : OwnQ w base v n K r) (hs : w.heap.size ≤ w'.heap.size) (hk : ∀ b, base ≤ b → b < w.heap.size → w'.heap[b]? = w.heap[b]?) : OwnQ w' base v n K r := by
  obtain ⟨xs, h1, h2⟩ := h
  refine ⟨xs, ⟨h1.1, ?_⟩, fun j hj => ?_⟩
  · rcases h1.2 with hn | ⟨g, cap, cur, rfl, hb, hgg, rest⟩
    · exact .inl hn
    · exact .inr ⟨g, cap, cur, rfl, hb, (hk g hb (Array.getElem?_eq_some_iff.1 hgg).1).trans hgg, rest⟩
  · obtain ⟨s, An, kn, cn, Ad, kd, cd, e1, e2, e3, e4⟩ := h2 j hj
    exact ⟨s, An, kn, cn, Ad, kd, cd, e1, e2, e3, e4.keep hs fun b hb hlt => ⟨hk b hb.1 hlt, hb⟩⟩
theorem OwnQ.below (h : OwnQ w base v n K r) (hb : Below w.heap.size w w') : OwnQ w' base v n K r := h.keep hb.size fun b _ hlt => hb.block b hlt
theorem OwnQ.alloc (h : OwnQ w base v n K r) (o : Obj) : OwnQ (w.alloc o) base v n K r := h.below ((Below.refl _ _).alloc (Nat.le_refl _) o)
theorem OwnQ.congr {r' : Nat → Rat} (h : OwnQ w base v n K r) (e : ∀ j, j < n → r j = r' j) : OwnQ w base v n K r' := by
  obtain ⟨xs, h1, h2⟩ := h
  exact ⟨xs, h1, fun j hj => by rw [← e j hj]; exact h2 j hj⟩
theorem OwnQ.form (h : OwnQ w base v n K r) : ∃ A c, v = .slice A n c ∧ n ≤ c ∧ c ≤ 9223372036854775807 := by
  obtain ⟨xs, h1, _⟩ := h
  rcases h1.2 with ⟨rfl, rfl⟩ | ⟨g, cap, cur, rfl, hb, hgg, h3, h4, _⟩
  · exact ⟨none, 0, rfl, Nat.le_refl _, by omega⟩
  · unfold maxLen at h4; exact ⟨_, cap, rfl, h3, by omega⟩
theorem OwnQ.toV (h : OwnQ w base v n K r) : RatsV w base v n K r := by
  obtain ⟨xs, h1, h2⟩ := h
  have hc := fun b (hb : v.ownBlock = some b) => h1.cells hb
  have hl := h1.lt
  rcases h1.2 with ⟨rfl, rfl⟩ | ⟨g, cap, cur, rfl, hb, hgg, h3, h4, _⟩
  · exact ⟨none, 0, rfl, Nat.le_refl _, Nat.zero_le _, fun h => absurd h (by omega)⟩
  · refine ⟨_, cap, rfl, h3, h4, fun _ => ⟨g, 0, rfl, hb, (hl g rfl).2, fun i hi => ?_⟩⟩
    obtain ⟨s, An, kn, cn, Ad, kd, cd, e1, e2, e3, e4⟩ := h2 i hi
    refine ⟨s, An, kn, cn, Ad, kd, cd, ?_, ?_, ?_, RatVP.toV (e4.keep (Nat.le_refl _) fun b hb _ => ⟨rfl, hb.1⟩)⟩
    · have := hc g rfl _ _ e1; rw [Addr.add_lit] at this; exact this
    · have := hc g rfl _ _ e2; rw [Addr.add_lit, ← Nat.add_assoc] at this; exact this
    · have := hc g rfl _ _ e3; rw [Addr.add_lit, ← Nat.add_assoc] at this; exact this

/-- 'append(out, x)': the element lies in the block that was laid last. -/
theorem wpList_pushQ (wr : World) {ops : Array Oper} {rest : List Oper} {o : Oper} {a : Act} {Q : Exit → Act → World → Prop} (hgd : o.guard = none) (s x : Operand)
    (ho : o.op = .call { callee := .builtin .append, args := #[s, x], argTypes := #[97, 97] })
    (base : Nat) (v : Value) (n K : Nat) (r : Nat → Rat) (hs : a.eval s = v) (hown : OwnQ wr base v n K r)
    (sg : Bool) (An Ad : Option Addr) (kn cn kd cd lo : Nat) (hr : RatV wr lo (.agg #[.bool sg, .slice An kn cn, .slice Ad kd cd]) K (r n)) (hlo : base ≤ lo) (hfar : ∀ g, v.ownBlock = some g → g < lo)
    (hx : a.eval x = .slice (some ⟨wr.heap.size, 0, none⟩) 1 1) (w0 : World) (hb : Below base w0 wr) (hbase : base ≤ wr.heap.size) (hn : n ≤ 1000000)
    (h : ∀ v' w', OwnQ w' base v' (n + 1) K r → Below base w0 w' → (∀ g, v'.ownBlock = some g → g < w'.heap.size) → wr.heap.size ≤ w'.heap.size → (∀ b, b < wr.heap.size → some b ≠ v.ownBlock → w'.heap[b]? = wr.heap[b]?) → wpList Tryz.prog ops Q rest (a.put o.dst v') w') :
    wpList Tryz.prog ops Q (o :: rest) a (wr.alloc (.cells #[.bool sg, .slice An kn cn, .slice Ad kd cd] 27)) := by
  obtain ⟨i, hi, hz0, hs1, hb4⟩ := info_parts info_rat
  obtain ⟨xs, h1, h2⟩ := hown
  refine wpList_append_lies _ hgd s x 97 ho base 27 i _ 3 56 Tryz.underlying97 hi hz0 hs1 hb4 rfl (by omega) v n xs hs (h1.alloc _) ⟨wr.heap.size, 0, none⟩ 1 1 [.bool sg, .slice An kn cn, .slice Ad kd cd] hx rfl ?_ ?_ (by omega) (by unfold maxLen; omega) (by omega) (by simp; omega) (wr.heap.size + 1) (by simp) ?_
  · intro j u hu
    rw [Addr.add_lit, World.cell?_alloc_at _ _ _ _ rfl]
    rcases j with _ | _ | _ | j <;> simp at hu <;> subst hu <;> rfl
  · intro u hu
    simp at hu
    rcases hu with rfl | rfl | rfl <;> rfl
  · intro g cap w' hown' hg hgb hglt
    have hsz : wr.heap.size + 1 ≤ w'.heap.size := by have := hg.size; simpa using this
    have hold : ∀ b, b < wr.heap.size → some b ≠ v.ownBlock → w'.heap[b]? = wr.heap[b]? := by
      intro b hb hne
      exact (hg.block b (by simp; omega) hne).trans (Below.heap_alloc wr _ b hb)
    have hvlt := h1.lt
    have hne' : ∀ b, b < wr.heap.size → some b ≠ v.ownBlock → some b ≠ (Value.slice (some ⟨g, 0, none⟩) (n + 1) cap).ownBlock := by
      intro b hb hne e
      have e' : b = g := by simpa [Value.ownBlock] using e
      subst e'
      rcases hgb with h | h
      · exact hne h.symm
      · omega
    refine h _ w' ⟨xs ++ [.bool sg, .slice An kn cn, .slice Ad kd cd], hown', fun j hj => ?_⟩ ?_ ?_ (by omega) hold
    · have hxl := h1.1
      rcases Nat.lt_or_ge j n with hjn | hjn
      · obtain ⟨s, An', kn', cn', Ad', kd', cd', e1, e2, e3, e4⟩ := h2 j hjn
        refine ⟨s, An', kn', cn', Ad', kd', cd', ?_, ?_, ?_, e4.keep (by omega) fun b hb hlt => ⟨hold b hlt hb.2, hb.1, hne' b hlt hb.2⟩⟩
        · rw [List.getElem?_append_left (by omega)]; exact e1
        · rw [List.getElem?_append_left (by omega)]; exact e2
        · rw [List.getElem?_append_left (by omega)]; exact e3
      · obtain rfl : j = n := by omega
        refine ⟨sg, An, kn, cn, Ad, kd, cd, ?_, ?_, ?_, hr.toP.keep (by omega) fun b hb hlt => ?_⟩
        · rw [List.getElem?_append_right (by omega), show j * 3 - xs.length = 0 from by omega]; rfl
        · rw [List.getElem?_append_right (by omega), show j * 3 + 1 - xs.length = 1 from by omega]; rfl
        · rw [List.getElem?_append_right (by omega), show j * 3 + 2 - xs.length = 2 from by omega]; rfl
        · have hne : some b ≠ v.ownBlock := fun e => by have := hfar b e.symm; omega
          exact ⟨hold b hlt hne, by omega, hne' b hlt hne⟩
    · exact (hb.alloc hbase _).grown hg (by simp; omega) fun g' hg' => (hvlt g' hg').1
    · intro g' hg'
      have : g = g' := by simpa [Value.ownBlock] using hg'
      omega
end

/-- 'make([]api.Rat, 0, n)'. -/
theorem wpList_mkO (w : World) {ops : Array Oper} {rest : List Oper} {o : Oper} {a : Act} {Q : Exit → Act → World → Prop}
    (hg : o.guard = none) (l c : Operand) (hop : o.op = Op.makeSlice 97 l c)
    (kl kc : IntKind) (C : Int) (n : Nat) (hl : a.eval l = .int kl 0) (hc : a.eval c = .int kc C) (hC : C = (n : Int)) (hn : n ≤ 1000000)
    (base : Nat) (w0 : World) (hb : Below base w0 w) (hbase : base ≤ w.heap.size)
    (hK : ∀ v w', (∀ K r, OwnQ w' base v 0 K r) → Below base w0 w' → Below w.heap.size w w' → (∀ g, v.ownBlock = some g → g < w'.heap.size) → wpList Tryz.prog ops Q rest (a.put o.dst v) w') :
    wpList Tryz.prog ops Q (o :: rest) a w := by
  obtain ⟨i, hi, hz0, hs1, hb4⟩ := info_parts info_rat
  refine wpList_make_own w hg l c 97 hop base 27 i _ 3 Tryz.underlying97 hi hz0 hs1 kl kc C n hl hc hC (by rw [hb4]; omega) (by unfold maxLen; omega) hbase ?_
  intro w' hown hgr
  have hbel : Below w.heap.size w w' := (Below.refl _ _).grown hgr (Nat.le_refl _) (by simp)
  exact hK _ w' (fun K r => ⟨[], hown, fun j hj => absurd hj (by omega)⟩) (hb.grown hgr hbase (by simp)) hbel (fun g hg => (hown.lt g hg).2)

end Go.Proofs.YtgheaoaicbkaoaaGreatDoor

