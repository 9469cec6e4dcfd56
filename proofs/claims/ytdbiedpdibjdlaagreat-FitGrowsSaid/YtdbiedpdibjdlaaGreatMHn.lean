/-
  Plain facts for Chain: places, rows that are set, the chain's conditions.
-/
import Derived.Test.YtdbiedpdibjdlaaGreatMHl
import Derived.Test.YtdbiedpdibjdlaaGreatMGh
import Derived.Test.YtdbiedpdibjdlaaGreatMGs
import Derived.Test.YtdbiedpdibjdlaaGreatMGy
namespace Go.Proofs.YtdbiedpdibjdlaaGreat
open Go.RowKit AC
set_option linter.unusedVariables false
def posL (b : Bool) : Nat → List Bool → List Nat
  | _, [] => []
  | k, x :: l => if x = b then k :: posL b (k + 1) l else posL b (k + 1) l
theorem posL_range (b : Bool) : ∀ (fl : List Bool) (k : Nat), (List.range' k fl.length).filter (fun j => fl.getD (j - k) false == b) = posL b k fl
  | [], k => by simp [posL]
  | x :: l, k => by
    have ih := posL_range b l (k + 1)
    have e : (List.range' (k + 1) l.length).filter (fun j => (x :: l).getD (j - k) false == b) = (List.range' (k + 1) l.length).filter (fun j => l.getD (j - (k + 1)) false == b) := by
      refine List.filter_congr fun j hj => ?_
      have hj := List.mem_range'_1.1 hj
      rw [show j - k = (j - (k + 1)) + 1 from by omega, List.getD_cons_succ]
    rw [List.length_cons, List.range'_succ, posL]
    by_cases h : x = b
    · rw [if_pos h, List.filter_cons_of_pos (by simpa using h), e, ih]
    · rw [if_neg h, List.filter_cons_of_neg (by simpa using h), e, ih]
theorem posF_eq (b : Bool) (fl : List Bool) : posF b fl fl.length = posL b 0 fl := by
  rw [posF, List.range_eq_range', ← posL_range b fl 0]
  rfl
theorem posL_len (b : Bool) : ∀ (fl : List Bool) (k : Nat), (posL b k fl).length = fl.count b
  | [], k => rfl
  | x :: l, k => by
    rw [posL, List.count_cons]
    by_cases h : x = b
    · rw [if_pos h, List.length_cons, posL_len b l (k + 1)]; simp [h]
    · rw [if_neg h, posL_len b l (k + 1)]; simp [h]
theorem posL_lt {b : Bool} : ∀ {fl : List Bool} {k p : Nat}, p ∈ posL b k fl → k ≤ p ∧ p < k + fl.length
  | [], k, p, h => by simp [posL] at h
  | x :: l, k, p, h => by
    rw [posL] at h
    have hr : p ∈ posL b (k + 1) l → k ≤ p ∧ p < k + (x :: l).length := fun h => by
      have := posL_lt h
      rw [List.length_cons]
      omega
    by_cases hx : x = b
    · rw [if_pos hx] at h
      rcases List.mem_cons.1 h with rfl | h
      · rw [List.length_cons]; omega
      · exact hr h
    · rw [if_neg hx] at h
      exact hr h
theorem posL_mem {b : Bool} : ∀ {fl : List Bool} {k j : Nat} (h : j < fl.length), fl[j] = b → k + j ∈ posL b k fl
  | x :: l, k, 0, _, h => by
    rw [posL, if_pos (by simpa using h)]
    simp
  | x :: l, k, j + 1, hj, h => by
    have ih := posL_mem (b := b) (fl := l) (k := k + 1) (j := j) (by simpa using hj) (by simpa using h)
    rw [posL]
    rw [show k + (j + 1) = k + 1 + j from by omega]
    split
    · exact List.mem_cons_of_mem _ ih
    · exact ih
def setAll : List Tr → List Nat → List Tr → List Tr
  | L, p :: P, x :: X => setAll (L.set p x) P X
  | L, _, _ => L
theorem setAll_nil (L : List Tr) (X : List Tr) : setAll L [] X = L := by cases X <;> rfl
theorem setAll_build (v : Tr) : ∀ (fl : List Bool) (ps pre M : List Tr) (k : Nat), pre.length = k → M.length = fl.length → fl.count false = ps.length → (∀ (j : Nat) (h : j < fl.length) (h2 : j < M.length), fl[j] = true → M[j] = v) →
    setAll (pre ++ M) (posL false k fl) ps = pre ++ buildK fl ps v
  | [], ps, pre, M, k, hk, hM, hc, hv => by
    obtain rfl : M = [] := List.eq_nil_of_length_eq_zero (by simpa using hM)
    rw [posL, setAll_nil, buildK]
  | true :: fl, ps, pre, m :: M, k, hk, hM, hc, hv => by
    have h0 := hv 0 (by simp) (by simp) rfl
    simp only [List.getElem_cons_zero] at h0
    have ih := setAll_build v fl ps (pre ++ [m]) M (k + 1) (by simp; omega) (by simpa using hM) (by simpa using hc) fun j h h2 h3 => by
      have := hv (j + 1) (by simpa using h) (by simpa using h2) (by simpa using h3)
      simpa using this
    rw [posL, if_neg (by decide), buildK, ← h0]
    rw [List.append_assoc, List.singleton_append] at ih
    rw [ih, h0, List.append_assoc, List.singleton_append]
  | false :: fl, [], pre, M, k, hk, hM, hc, hv => by simp at hc
  | false :: fl, p :: ps, pre, m :: M, k, hk, hM, hc, hv => by
    have ih := setAll_build v fl ps (pre ++ [p]) M (k + 1) (by simp; omega) (by simpa using hM) (by simpa using hc) fun j h h2 h3 => by
      have := hv (j + 1) (by simpa using h) (by simpa using h2) (by simpa using h3)
      simpa using this
    rw [posL, if_pos rfl, setAll, buildK]
    rw [List.append_assoc, List.singleton_append] at ih
    have e : (pre ++ m :: M).set k p = pre ++ p :: M := by
      rw [List.set_append_right _ _ (by omega), hk, Nat.sub_self, List.set_cons_zero]
    rw [e, ih, List.append_assoc, List.singleton_append]
    rfl
/-- The row with the chain at the one recursive place, set at all others, is the kids. -/
theorem setAll_kids (v z : Tr) {fl : List Bool} {ps : List Tr} {r : Nat} (hr : posL true 0 fl = [r]) (hc : fl.count false = ps.length) :
    setAll ((List.replicate fl.length z).set r v) (posL false 0 fl) ps = buildK fl ps v := by
  have := setAll_build v fl ps [] ((List.replicate fl.length z).set r v) 0 rfl (by simp) hc fun j h h2 h3 => by
    have hm := posL_mem (b := true) (k := 0) h h3
    rw [hr, List.mem_singleton, Nat.zero_add] at hm
    subst hm
    simp
  simpa using this
theorem payOk_of {D : List DaD} (F : Nat → Tr) : ∀ (fl : List Bool) (ps fs : List Tr) (k : Nat), fs.length = fl.length → ps.length = fl.count false → (∀ (j : Nat) (h : j < fs.length), fs[j] = F (k + j)) →
    (∀ (i : Nat) (h1 : i < ps.length) (h2 : i < (posL false k fl).length), hasT D ps[i] (F (posL false k fl)[i]) = true) → payOk D fl ps fs = true
  | [], ps, fs, k, h1, h2, _, _ => by
    obtain rfl : fs = [] := List.eq_nil_of_length_eq_zero (by simpa using h1)
    obtain rfl : ps = [] := List.eq_nil_of_length_eq_zero (by simpa using h2)
    rfl
  | true :: fl, ps, f :: fs, k, h1, h2, hF, h => by
    rw [payOk]
    refine payOk_of F fl ps fs (k + 1) (by simpa using h1) (by simpa using h2) (fun j hj => ?_) fun i h3 h4 => ?_
    · have := hF (j + 1) (by simpa using hj)
      rw [show k + 1 + j = k + (j + 1) from by omega]
      simpa using this
    · have := h i h3 (by rw [posL, if_neg (by decide)]; exact h4)
      simpa [posL] using this
  | false :: fl, [], f :: fs, k, h1, h2, hF, h => by simp at h2
  | false :: fl, p :: ps, f :: fs, k, h1, h2, hF, h => by
    rw [payOk, Bool.and_eq_true]
    constructor
    · have h0 := h 0 (by simp) (by rw [posL, if_pos rfl]; simp)
      have f0 := hF 0 (by simp)
      simp [posL] at h0
      simp at f0
      rw [f0]
      exact h0
    · refine payOk_of F fl ps fs (k + 1) (by simpa using h1) (by simpa using h2) (fun j hj => ?_) fun i h3 h4 => ?_
      · have := hF (j + 1) (by simpa using hj)
        rw [show k + 1 + j = k + (j + 1) from by omega]
        simpa using this
      · have := h (i + 1) (by simpa using h3) (by rw [posL, if_pos rfl]; simpa using h4)
        simpa [posL] using this
theorem recOk_of {t : Tr} {d : Nat} {vars : Int} (ht : t.k = 5) (hm : t.m = d) (hl : (t.kids.length : Int) = vars) : ∀ (args : List Tr), recOk t (args.map (recD d vars)) (args.map (subst t.kids))
  | [] => trivial
  | a :: l => by
    rw [List.map_cons, List.map_cons]
    cases h : recD d vars a with
    | true =>
      rw [recOk]
      exact ⟨subst_rec ht hm hl h, recOk_of ht hm hl l⟩
    | false =>
      rw [recOk]
      exact recOk_of ht hm hl l
theorem stepN_take : ∀ {ps : List Tr} {i : Nat} (h : i < ps.length), stepN (ps.take (i + 1)) = stepN (ps.take i) + ps[i].size
  | p :: ps, 0, _ => by simp [stepN]
  | p :: ps, i + 1, h => by
    have ih := stepN_take (ps := ps) (i := i) (by simpa using h)
    rw [List.take_succ_cons, List.take_succ_cons, stepN, stepN, ih]
    simp
    omega
theorem knownB_data {dat : List DaD} {t : Tr} (h : knownB dat t = true) (h5 : t.k = 5) : 0 ≤ t.m ∧ t.m < dat.length := by
  unfold knownB at h
  rw [Bool.and_eq_true, Option.isSome_iff_exists] at h
  obtain ⟨_, r, hr⟩ := h
  cases t with
  | n k m l =>
    have h5 : k = 5 := h5
    subst h5
    rw [show (200 : Nat) = 199 + 1 from rfl, validT] at hr
    split at hr
    · cases hr
    · next lo hi hh =>
      simp [headD] at hh
      show 0 ≤ m ∧ m < _
      omega
/-- What Chain asks of its arguments. -/
def ChainOk (dat : List DaD) (t : Tr) (c : Int) (ps : List Tr) (ev : Tr) (n : Int) : Prop :=
  knownB dat t = true ∧ t.k = 5 ∧ (0 ≤ n ∧ n ≤ 5000) ∧ (∃ fs, fieldsD dat t c = some fs ∧ (posL true 0 (flagsD dat t c)).length = 1 ∧ ps.length = (posL false 0 (flagsD dat t c)).length ∧
    (∀ (i : Nat) (h1 : i < ps.length), hasTypeB dat ps[i] (fs.getD ((posL false 0 (flagsD dat t c)).getD i 0) (.n 0 0 [])) = true)) ∧ hasTypeB dat ev t = true ∧ (ev.size : Int) + n * stepN ps ≤ 5000
def ChainPost (ok : Prop) (r : Tr) (w : World) (e : Ending) (w' : World) : Prop :=
  Below w.heap.size w w' ∧ ((¬ ok ∧ ∃ (x : Value) (k : Int), e = .returned (.tuple #[x, .int .i64 k]) ∧ k ≠ 0 ∧ ∃ c0 c1 A l c, x = .agg #[.int .i64 c0, .int .i64 c1, .slice A l c]) ∨ (ok ∧ ∃ v, e = .returned (.tuple #[.agg v.toArray, .int .i64 0]) ∧ TrR w' (w.heap.size ≤ ·) r v))
end Go.Proofs.YtdbiedpdibjdlaaGreat

/-
  A row of trees that is made and then set, place by place.
-/
namespace Go.Proofs.YtdbiedpdibjdlaaGreat
open Go.RowKit AC
set_option linter.unusedVariables false
set_option linter.unusedSimpArgs false
/-- Block g is a row of n structs of three cells. -/
def RowV (w : World) (g n : Nat) (a b c : Nat → Value) : Prop :=
  ∃ cs : Array Value, Bk w g 28 cs ∧ ∀ i, i < n → cs[i * 3]? = some (a i) ∧ cs[i * 3 + 1]? = some (b i) ∧ cs[i * 3 + 2]? = some (c i)
section
variable {w w' : World} {g n : Nat} {a b c : Nat → Value}
theorem RowV.lt (h : RowV w g n a b c) : g < w.heap.size := by
  obtain ⟨cs, h1, _⟩ := h
  exact h1.lt
theorem RowV.below (h : RowV w g n a b c) (hb : Below w.heap.size w w') : RowV w' g n a b c := by
  obtain ⟨cs, h1, h2⟩ := h
  exact ⟨cs, h1.below hb h1.lt, h2⟩
theorem RowV.cells (h : RowV w g n a b c) {i : Nat} (hi : i < n) : w.cell? ⟨g, i * 3, none⟩ = some (a i) ∧ w.cell? ⟨g, i * 3 + 1, none⟩ = some (b i) ∧ w.cell? ⟨g, i * 3 + 2, none⟩ = some (c i) := by
  obtain ⟨cs, h1, h2⟩ := h
  obtain ⟨e0, e1, e2⟩ := h2 i hi
  exact ⟨(h1.cell _).trans e0, (h1.cell _).trans e1, (h1.cell _).trans e2⟩
theorem RowV.frozen (h : RowV w g n a b c) : ∀ o, w.frozen? ⟨g, o, none⟩ = false := by
  obtain ⟨cs, h1, h2⟩ := h
  exact h1.frozen
theorem RowV.set (h : RowV w g n a b c) {i : Nat} (hi : i < n) (x y z : Value) : RowV (((w.setCell ⟨g, i * 3, none⟩ x).setCell ⟨g, i * 3 + 1, none⟩ y).setCell ⟨g, i * 3 + 2, none⟩ z) g n (fun j => if j = i then x else a j) (fun j => if j = i then y else b j) (fun j => if j = i then z else c j) := by
  obtain ⟨cs, h1, h2⟩ := h
  refine ⟨_, ((h1.set (i * 3) x).set (i * 3 + 1) y).set (i * 3 + 2) z, fun j hj => ?_⟩
  obtain ⟨e0, e1, e2⟩ := h2 j hj
  have s2 : j * 3 + 2 < cs.size := (Array.getElem?_eq_some_iff.1 e2).1
  simp only [Array.getElem?_setIfInBounds, Array.size_setIfInBounds]
  by_cases hji : j = i
  · subst hji
    simp only [if_true]
    refine ⟨?_, ?_, ?_⟩
    · rw [if_neg (by omega), if_neg (by omega), if_pos (by omega)]
    · rw [if_neg (by omega), if_pos (by omega)]
    · rw [if_pos (by omega)]
  · simp only [if_neg hji]
    refine ⟨?_, ?_, ?_⟩
    · rw [if_neg (by omega), if_neg (by omega), if_neg (by omega), e0]
    · rw [if_neg (by omega), if_neg (by omega), if_neg (by omega), e1]
    · rw [if_neg (by omega), if_neg (by omega), if_neg (by omega), e2]
end
/-- Block g is a row of trees; what they point to lies in D. -/
def KidsR (w : World) (g : Nat) (D : Nat → Prop) (K : List Tr) : Prop :=
  ∃ a b c : Nat → Value, RowV w g K.length a b c ∧ ∀ (i : Nat) (h : i < K.length), TrR w D K[i] [a i, b i, c i]
section
variable {w w' : World} {g : Nat} {D : Nat → Prop} {K : List Tr}
theorem KidsR.lt (h : KidsR w g D K) : g < w.heap.size := by
  obtain ⟨a, b, c, h1, _⟩ := h
  exact h1.lt
theorem KidsR.below (h : KidsR w g D K) (hb : Below w.heap.size w w') : KidsR w' g D K := by
  obtain ⟨a, b, c, h1, h2⟩ := h
  exact ⟨a, b, c, h1.below hb, fun i hi => (h2 i hi).below hb⟩
theorem KidsR.get (h : KidsR w g D K) {i : Nat} (hi : i < K.length) : (∃ x y z, w.cell? ⟨g, i * 3, none⟩ = some x ∧ w.cell? ⟨g, i * 3 + 1, none⟩ = some y ∧ w.cell? ⟨g, i * 3 + 2, none⟩ = some z) ∧ ∀ o, w.frozen? ⟨g, o, none⟩ = false := by
  obtain ⟨a, b, c, h1, h2⟩ := h
  obtain ⟨e0, e1, e2⟩ := h1.cells hi
  exact ⟨⟨_, _, _, e0, e1, e2⟩, h1.frozen⟩
theorem KidsR.set (h : KidsR w g D K) {i : Nat} (hi : i < K.length) (hg : ¬ D g) {t : Tr} {x y z : Value} (ht : TrR w D t [x, y, z]) :
    KidsR (((w.setCell ⟨g, i * 3, none⟩ x).setCell ⟨g, i * 3 + 1, none⟩ y).setCell ⟨g, i * 3 + 2, none⟩ z) g D (K.set i t) := by
  obtain ⟨a, b, c, h1, h2⟩ := h
  have hf : Fw (fun b => b = g) w (((w.setCell ⟨g, i * 3, none⟩ x).setCell ⟨g, i * 3 + 1, none⟩ y).setCell ⟨g, i * 3 + 2, none⟩ z) :=
    (((Fw.refl (fun b => b = g) w).setCell (p := ⟨g, i * 3, none⟩) (.inl rfl) _).setCell (p := ⟨g, i * 3 + 1, none⟩) (.inl rfl) _).setCell (p := ⟨g, i * 3 + 2, none⟩) (.inl rfl) _
  have hk : Keeps D w (((w.setCell ⟨g, i * 3, none⟩ x).setCell ⟨g, i * 3 + 1, none⟩ y).setCell ⟨g, i * 3 + 2, none⟩ z) := Keeps.fw hf fun b hD e => by
    have e : b = g := e
    subst e
    exact hg hD
  refine ⟨_, _, _, by rw [List.length_set]; exact h1.set hi x y z, fun j hj => ?_⟩
  have hj' : j < K.length := by simpa using hj
  by_cases hji : j = i
  · subst hji
    simp only [if_true, List.getElem_set_self]
    exact ht.keep hk
  · simp only [if_neg hji]
    rw [List.getElem_set_ne (fun e => hji e.symm)]
    exact (h2 j hj').keep hk
theorem KidsR.slice (h : KidsR w g D K) (hl : K.length ≤ maxLen) : TrS w (fun b => D b ∨ b = g) K (some ⟨g, 0, none⟩) K.length K.length := by
  obtain ⟨a, b, c, h1, h2⟩ := h
  refine ⟨rfl, Nat.le_refl _, hl, fun _ => ⟨g, 0, rfl, .inr rfl, h1.lt, TrL.of fun i hi => ⟨_, ?_, (h2 i hi).sub fun b _ h => .inl h⟩⟩⟩
  obtain ⟨e0, e1, e2⟩ := h1.cells hi
  intro j x hx
  simp only [Nat.zero_add]
  rcases j with _ | _ | _ | j
  · simp at hx; subst hx; exact e0
  · simp at hx; subst hx; exact e1
  · simp at hx; subst hx; exact e2
  · simp at hx
theorem KidsR.sub (h : KidsR w g D K) {D' : Nat → Prop} (hd : ∀ b, b < w.heap.size → D b → D' b) : KidsR w g D' K := by
  obtain ⟨a, b, c, h1, h2⟩ := h
  exact ⟨a, b, c, h1, fun i hi => (h2 i hi).sub hd⟩
/-- Other blocks may be written. -/
theorem KidsR.fw (h : KidsR w g D K) {S : Nat → Prop} (hf : Fw S w w') (hg : ¬ S g) (hd : ∀ b, D b → ¬ S b) : KidsR w' g D K := by
  obtain ⟨a, b, c, ⟨cs, h1, h3⟩, h2⟩ := h
  exact ⟨a, b, c, ⟨cs, Bk.fw h1 hf hg, h3⟩, fun i hi => (h2 i hi).keep (Keeps.fw hf hd)⟩
end
theorem info_valz : (Tryz.prog.info? 28).map (fun i => (i.size, i.bytes, i.zero)) = some (3, 40, some (.agg #[.int .i64 0, .int .i64 0, .slice none 0 0])) := by kernel_rfl
/-- make([]Value, n). -/
theorem run_mkV (w : World) (n : Nat) (hn : n ≤ 1000000) :
    (Instr.makeSlice 26 (.int .i64 n) (.int .i64 n)).run Tryz.prog w = .ok (.slice (some ⟨w.heap.size, 0, none⟩) n n) (w.alloc (.cells (madeCells #[.int .i64 0, .int .i64 0, .slice none 0 0] (n * 3)) 28)) := by
  obtain ⟨i, hi, hzz⟩ := Option.map_eq_some_iff.1 info_valz
  simp only [Prod.mk.injEq] at hzz
  obtain ⟨h1, h2, h3⟩ := hzz
  have hrun := run_make (P := Tryz.prog) w 26 28 i _ Tryz.underlying26 hi h3 .i64 .i64 n n (by omega) (by omega) (by rw [h2]; omega) (by omega)
  simp only [Int.toNat_natCast] at hrun
  rw [h1] at hrun
  exact hrun
theorem KidsR.made (w : World) (n : Nat) (D : Nat → Prop) : KidsR (w.alloc (.cells (madeCells #[.int .i64 0, .int .i64 0, .slice none 0 0] (n * 3)) 28)) w.heap.size D (List.replicate n (.n 0 0 [])) := by
  refine ⟨fun _ => .int .i64 0, fun _ => .int .i64 0, fun _ => .slice none 0 0, ⟨_, Bk.new _ _ _, fun i hi => ?_⟩, fun i hi => ?_⟩
  · rw [List.length_replicate] at hi
    have h : ∀ j, j < 3 → (madeCells #[.int .i64 0, .int .i64 0, .slice none 0 0] (n * 3))[i * 3 + j]? = (#[Value.int .i64 0, .int .i64 0, .slice none 0 0] : Array Value)[j]? := by
      intro j hj
      have hlt : i * 3 + j < n * 3 := by omega
      have e : (i * 3 + j) % 3 = j := by omega
      have hs : (#[Value.int .i64 0, .int .i64 0, .slice none 0 0] : Array Value).size = 3 := rfl
      rw [madeCells, Array.getElem?_map, Array.getElem?_range, if_pos hlt, Option.map_some, hs, e]
      rcases j with _ | _ | _ | j
      · rfl
      · rfl
      · rfl
      · omega
    exact ⟨h 0 (by decide), h 1 (by decide), h 2 (by decide)⟩
  · rw [List.getElem_replicate, TrR]
    exact ⟨by unfold rng; omega, by unfold rng; omega, none, 0, 0, rfl, rfl, Nat.le_refl _, by unfold maxLen; omega, fun h => absurd h (by omega)⟩
end Go.Proofs.YtdbiedpdibjdlaaGreat

