/-
  Closed calls by reflection: append.
-/
import Derived.Test.YtgheaoaicbkaoaaGreatDoorMYd
namespace AC.Ev
open Go
set_option linter.unusedVariables false
set_option linter.unusedSimpArgs false
section
variable {P : Program}
theorem intsRV {φ : Phi} : ∀ (l : List UInt8), RVs φ (l.map fun b => Value.int .u8 b.toNat) (l.map fun b => Value.int .u8 b.toNat)
  | [] => .nil
  | b :: l => .cons (.int _ _) (intsRV l)
/-- The first cells of a slice. -/
theorem first_ok {φ : Phi} {w : World} {t : Tr} {g off l c size n : Nat} {cells : List Value} {e : TypeId} {x : Bool} {u : Nat} {top : Bool} {st : List Nat} {v' : Value} (hr : Rep φ t.get w) (hg : t.get g = some (.row cells e x u top st)) (hv : RV φ (.slice (some ⟨g, off, none⟩) l c) v') (hn : n ≤ l) (hin : n * size = 0 ∨ off + n * size ≤ cells.length) :
    ∃ new : Array Value, (∀ w2 : World, w2.heap = w.heap → (Builtin.firstCells size n v').run P w2 = .ok new w2) ∧ RVs φ ((cells.drop off).take (n * size)) new.toList := by
  obtain ⟨im, o', c', hi, rfl, a1, a2, a3, a4⟩ := hv.sli_inv
  obtain ⟨im', k1, k2, k3, k4, k5⟩ := hr.ob _ _ hg
  rw [hi] at k1
  injection k1 with k1
  subst k1
  rcases a4 with ⟨rfl, _⟩ | a4
  · obtain ⟨vs, b1, b2⟩ := k5.take (P := P) hin
    exact ⟨vs, b1, b2⟩
  · have : n = 0 := by omega
    subst this
    refine ⟨#[], fun w2 _ => ?_, by simp; exact .nil⟩
    simp only [Builtin.firstCells, Nat.zero_mul, loadCells, loadCellsFrom]
    rfl
theorem srcK_ok {t : Tr} {xT e : TypeId} {size : Nat} {x : Value} {K : Nat → List Value → Bool} (h : srcK P t xT e size x K = true) : ∃ n new d, K n new = true ∧ P.underlying xT = some d ∧
    ∀ (φ : Phi) (w : World) (x' : Value), RV φ x x' → Rep φ t.get w → ∃ new' : Array Value, RVs φ new new'.toList ∧ ∀ w2 : World, w2.heap = w.heap → Src P d e size x' n new' w2 := by
  unfold srcK at h
  split at h
  · rename_i d hd
    split at h
    · split at h
      · split at h
        · split at h
          · rename_i n
            rw [bif_t] at h
            obtain ⟨h1, h⟩ := h
            have h1 := ble_t.1 h1
            obtain ⟨z, h, hz, hzr⟩ := zeroK_ok h
            rw [bif_t, lenL_eq] at h
            obtain ⟨h2, h⟩ := h
            have h2 := beq_t.1 h2
            have h := repL_ok _ _ _ h
            refine ⟨_, _, _, h, hd, fun φ w x' hx hr => ?_⟩
            by_cases h0 : n * size = 0
            · refine ⟨#[], ?_, fun w2 _ => .inr ⟨rfl, hx.int_inv, h1, z, hzr w2, .inl ⟨h0, rfl⟩⟩⟩
              have : (repV n (cellsOf z)).length = 0 := by rw [repV_len, h2]; exact h0
              rw [List.eq_nil_of_length_eq_zero this]
              exact .nil
            · refine ⟨_, ?_, fun w2 _ => .inr ⟨rfl, hx.int_inv, h1, z, hzr w2, .inr ⟨h0, rfl⟩⟩⟩
              have hp : 0 < z.cells.size := by
                rw [← Array.length_toList, cells_eq, h2]
                rcases Nat.eq_zero_or_pos size with h | h
                · rw [h, Nat.mul_zero] at h0; exact absurd rfl h0
                · exact h
              have := range_rep hp n
              unfold Builtin.zeroCells
              rw [this, cells_eq]
              exact (hz φ).rep n
          · cases h
        · cases h
      · cases h
    · rcases asSli_ok h with ⟨l, c, e0, h0⟩ | ⟨g, off, l, c, e0, h0⟩
      · cases l with
        | zero =>
          refine ⟨_, _, _, h0, hd, fun φ w x' hx hr => ⟨#[], .nil, fun w2 _ => .inl ⟨rfl, by rw [e0] at hx; rw [hx.nils_inv]; rfl, by rw [e0] at hx; rw [hx.nils_inv]; rfl⟩⟩⟩
        | succ l => cases h0
      · obtain ⟨cells, el, ex, un, top, st, hg, h0⟩ := rowOf_ok h0
        obtain ⟨h0, h1⟩ := takeL_ok _ _ _ _ h0
        refine ⟨_, _, _, h0, hd, fun φ w x' hx hr => ?_⟩
        rw [e0] at hx
        obtain ⟨new, b1, b2⟩ := first_ok (P := P) (size := size) hr hg hx (Nat.le_refl l) h1
        refine ⟨new, b2, fun w2 hw2 => .inl ⟨rfl, ?_, b1 w2 hw2⟩⟩
        obtain ⟨im, o', c', _, rfl, _⟩ := hx.sli_inv
        rfl
    · obtain ⟨s, e0, h⟩ := asStr_ok h
      refine ⟨_, _, _, h, hd, fun φ w x' hx hr => ?_⟩
      rw [e0] at hx
      rw [hx.string_inv]
      have hsz : s.size = (bytesOf s).length := by obtain ⟨⟨d⟩⟩ := s; rfl
      refine ⟨(s.extract 0 s.size).data.map fun b => .int .u8 b.toNat, ?_, fun w2 _ => .inl ⟨rfl, by rw [lenL_eq, ← hsz]; rfl, by rw [lenL_eq, ← hsz]; rfl⟩⟩
      · rw [extract_eq]
        simp only [Array.toList_map, List.drop_zero, Nat.sub_zero, hsz, List.take_length]
        exact intsRV _
    · cases h
  · cases h
/-- A row is given up: it may be read still. Its elder rows are gone. -/
theorem rep_cut {φ : Phi} {L L' : Look} {w : World} {g : Nat} {c pre : List Value} {e : TypeId} {u : Nat} {s : List Nat} {im : Im} (hr : Rep φ L w) (hg : L g = some (.row c e false u true s)) (hi : φ g = some im) (hL : L' g = some (.row pre e false u false [])) (hk : ∀ k, k ≠ g → L' k = if k ∈ s then none else L k)
    (hp : ∀ (j : Nat) (v : Value), pre[j]? = some v → c[j]? = some v) (hlen : pre.length ≤ c.length) : Rep φ L' w ∧ ∀ {k : Nat} {q : Ob} {i : Im}, L' k = some q → k ≠ g → φ k = some i → i.b ≠ im.b := by
  have old : ∀ {k : Nat} {q : Ob}, L' k = some q → k ≠ g → k ∉ s ∧ L k = some q := fun {k q} h hne => by
    rw [hk k hne] at h
    split at h
    · cases h
    · exact ⟨by assumption, h⟩
  have far : ∀ {k : Nat} {q : Ob} {i : Im}, L' k = some q → k ≠ g → φ k = some i → i.b ≠ im.b := by
    intro k q i h hne hik e1
    obtain ⟨h1, h2⟩ := old h hne
    rcases hr.sep k g q _ i im h2 hg hik hi e1 with h3 | ⟨t, c2, e2, x2, u2, S, k1, k2, k3⟩
    · exact hne h3
    · rcases k3 with rfl | k3
      · rw [hg] at k1
        injection k1 with k1
        injection k1 with _ _ _ _ _ k1
        subst k1
        rcases k2 with k2 | k2
        · exact hne k2
        · exact h1 k2
      · obtain ⟨it, hit, _⟩ := (hr.ob t _ k1).img
        obtain ⟨c3, e3, x3, u3, S3, e4, _⟩ := hr.grp t c2 e2 x2 u2 S g _ it im k1 k3 hg hit hi
        injection e4 with _ _ _ _ e4 _
        cases e4
  have nog : ∀ {t : Nat} {cc : List Value} {e : TypeId} {x : Bool} {u : Nat} {S : List Nat}, L' t = some (.row cc e x u true S) → t ≠ g := fun {t cc e x u S} h e1 => by
    subst e1
    rw [hL] at h
    injection h with h
    injection h with _ _ _ _ h _
    cases h
  refine ⟨⟨fun k q h => ?_, ?_, ?_, ?_, hr.glob⟩, far⟩
  · by_cases hkg : k = g
    · subst hkg
      rw [hL] at h
      injection h with h
      subst h
      obtain ⟨im', a1, a2, a3, a4, C2, fr2, a5, a6, a7, a8, a9⟩ := hr.ob k _ hg
      exact ⟨im', a1, a2, a3, (fun h => by cases h), C2, fr2, a5, a6, a7, by omega, fun j v hj => a9 j v (hp j v hj)⟩
    · exact hr.ob k q (old h hkg).2
  · intro g1 g2 o1 o2 i1 i2 h1 h2 h3 h4 hb
    by_cases e1 : g1 = g
    · by_cases e2 : g2 = g
      · exact .inl (e1.trans e2.symm)
      · subst e1
        rw [hi] at h3
        injection h3 with h3
        subst h3
        exact absurd hb.symm (far h2 e2 h4)
    · by_cases e2 : g2 = g
      · subst e2
        rw [hi] at h4
        injection h4 with h4
        subst h4
        exact absurd hb (far h1 e1 h3)
      · obtain ⟨a1, a2⟩ := old h1 e1
        obtain ⟨b1, b2⟩ := old h2 e2
        rcases hr.sep g1 g2 o1 o2 i1 i2 a2 b2 h3 h4 hb with h | ⟨t, c2, e3, x2, u2, S, k1, k2, k3⟩
        · exact .inl h
        · have et : t ≠ g := by
            intro et
            subst et
            rw [hg] at k1
            injection k1 with k1
            injection k1 with _ _ _ _ _ k1
            subst k1
            rcases k2 with k2 | k2
            · exact e1 k2
            · exact a1 k2
          have hts : t ∉ s := by
            intro hts
            obtain ⟨it, hit, _⟩ := (hr.ob t _ k1).img
            obtain ⟨c3, e4, x3, u3, S3, e5, _⟩ := hr.grp g c e false u s t _ im it hg hts k1 hi hit
            injection e5 with _ _ _ _ e5 _
            cases e5
          exact .inr ⟨t, c2, e3, x2, u2, S, by rw [hk t et, if_neg hts]; exact k1, k2, k3⟩
  · intro t c2 e2 x2 u2 S k q i1 i2 h1 h2 h3 h4 h5
    have et := nog h1
    obtain ⟨a1, a2⟩ := old h1 et
    by_cases ek : k = g
    · subst ek
      obtain ⟨c3, e4, x3, u3, S3, e5, _⟩ := hr.grp t c2 e2 x2 u2 S k _ i1 i2 a2 h2 hg h4 h5
      injection e5 with _ _ _ _ e5 _
      cases e5
    · obtain ⟨b1, b2⟩ := old h3 ek
      exact hr.grp t c2 e2 x2 u2 S k q i1 i2 a2 h2 b2 h4 h5
  · intro t c2 e2 x2 u2 S h1
    exact hr.out t c2 e2 x2 u2 S (old h1 (nog h1)).2
/-- A longer row in the place of another. -/
theorem rep_join {φ : Phi} {L L' : Look} {w w' : World} {g g' : Nat} {pre cells : List Value} {e : TypeId} {u : Nat} {im : Im} {d : Nat} {C C' : Array Value} {fr : Nat × Nat} (hr : Rep φ L w) (hg : L g = some (.row pre e false u false [])) (hi : φ g = some im) (far : ∀ {k : Nat} {q : Ob} {i : Im}, L k = some q → k ≠ g → φ k = some i → i.b ≠ im.b)
    (hf : φ g' = none) (hL : L' g' = some (.row cells e false u true [g])) (hk : ∀ k, k ≠ g' → L' k = L k) (hC : w.heap[im.b]? = some (.cells C e fr)) (hw : Wrote w w' im.b C' e fr) (hfr : frOk fr C.size) (hun : im.un = u) (hsz : C'.size = C.size) (himsz : im.sz = C.size)
    (hpre : ∀ (j : Nat), j < pre.length → C'[im.d + j]? = C[im.d + j]?) (hext : im.d + pre.length ≤ d + cells.length) (hin : d + cells.length ≤ C.size) (hv : ∀ (j : Nat) (v : Value), cells[j]? = some v → ∃ v', C'[d + j]? = some v' ∧ RV φ v v') :
    Rep (φ.set g' ⟨im.b, d, C.size, u, false⟩) L' w' := by
  have hle := Phi.le_set (im := ⟨im.b, d, C.size, u, false⟩) hf
  have gne : g ≠ g' := fun e1 => by subst e1; rw [hf] at hi; cases hi
  have oldφ : ∀ {k : Nat} {i : Im}, (φ.set g' ⟨im.b, d, C.size, u, false⟩) k = some i → k ≠ g' → φ k = some i := fun {k i} h hne => by rw [Phi.set_ne hne] at h; exact h
  have newφ : ∀ {i : Im}, (φ.set g' ⟨im.b, d, C.size, u, false⟩) g' = some i → i = ⟨im.b, d, C.size, u, false⟩ := fun {i} h => by rw [Phi.set_self] at h; injection h with h; exact h.symm
  refine ⟨fun k q h => ?_, ?_, ?_, ?_, hr.glob.mono hle⟩
  · by_cases hkn : k = g'
    · subst hkn
      rw [hL] at h
      injection h with h
      subst h
      exact ⟨_, Phi.set_self _ _ _, rfl, fun _ => rfl, (fun h => by cases h), C', fr, hw.at', by rw [hsz]; exact hfr, hsz.symm, by rw [hsz]; exact hin, fun j v hj => by obtain ⟨v', k1, k2⟩ := hv j v hj; exact ⟨v', k1, k2.mono hle⟩⟩
    · have h2 := h
      rw [hk k hkn] at h
      by_cases hkg : k = g
      · subst hkg
        rw [hg] at h
        injection h with h
        subst h
        obtain ⟨im', a1, a2, a3, a4, C2, fr2, a5, a6, a7, a8, a9⟩ := hr.ob k _ hg
        rw [hi] at a1
        injection a1 with a1
        subst a1
        rw [hC] at a5
        injection a5 with a5
        injection a5 with a51 a52 a53
        subst a51
        refine ⟨im, hle _ _ hi, a2, a3, (fun h => by cases h), C', fr, hw.at', by rw [hsz]; exact hfr, by rw [hsz]; exact himsz, by rw [hsz]; exact a8, fun j v hj => ?_⟩
        obtain ⟨v', k1, k2⟩ := a9 j v hj
        exact ⟨v', by rw [hpre j (List.getElem?_eq_some_iff.1 hj).1]; exact k1, k2.mono hle⟩
      · obtain ⟨i, hik, _⟩ := (hr.ob k q h).img
        exact (hr.ob k q h).keep hik hle (hw.other _ (far h hkg hik))
  · intro g1 g2 o1 o2 i1 i2 h1 h2 h3 h4 hb
    have both : ∀ {k : Nat} {q : Ob} {i : Im}, L' k = some q → k ≠ g' → (φ.set g' ⟨im.b, d, C.size, u, false⟩) k = some i → i.b = im.b → k = g := fun {k q i} a b c dd => by
      rw [hk k b] at a
      rcases Nat.decEq k g with hne | he
      · exact absurd dd (far a hne (oldφ c b))
      · exact he
    by_cases e1 : g1 = g'
    · by_cases e2 : g2 = g'
      · exact .inl (e1.trans e2.symm)
      · subst e1
        rw [newφ h3] at hb
        exact .inr ⟨g1, _, _, _, _, _, hL, .inl rfl, .inr (by rw [both h2 e2 h4 hb.symm]; simp)⟩
    · by_cases e2 : g2 = g'
      · subst e2
        rw [newφ h4] at hb
        exact .inr ⟨g2, _, _, _, _, _, hL, .inr (by rw [both h1 e1 h3 hb]; simp), .inl rfl⟩
      · rw [hk g1 e1] at h1
        rw [hk g2 e2] at h2
        rcases hr.sep g1 g2 o1 o2 i1 i2 h1 h2 (oldφ h3 e1) (oldφ h4 e2) hb with h | ⟨t, c2, e3, x2, u2, S, k1, k2⟩
        · exact .inl h
        · refine .inr ⟨t, c2, e3, x2, u2, S, ?_, k2⟩
          rw [hk t (fun et => by subst et; rw [hr.dead hf] at k1; cases k1)]
          exact k1
  · intro t c2 e2 x2 u2 S k q i1 i2 h1 h2 h3 h4 h5
    by_cases et : t = g'
    · subst et
      rw [hL] at h1
      injection h1 with h1
      injection h1 with h11 _ _ _ _ h16
      subst h11
      subst h16
      have hkg : k = g := by simpa using h2
      subst hkg
      rw [hk k gne, hg] at h3
      injection h3 with h3
      subst h3
      refine ⟨_, _, _, _, _, rfl, fun _ => ?_⟩
      rw [newφ h4]
      have := oldφ h5 gne
      rw [hi] at this
      injection this with this
      subst this
      exact hext
    · rw [hk t et] at h1
      have ek : k ≠ g' := fun ek => by subst ek; exact (hr.out t c2 e2 x2 u2 S h1).2 k h2 hf
      rw [hk k ek] at h3
      exact hr.grp t c2 e2 x2 u2 S k q i1 i2 h1 h2 h3 (oldφ h4 et) (oldφ h5 ek)
  · intro t c2 e2 x2 u2 S h1
    by_cases et : t = g'
    · subst et
      rw [hL] at h1
      injection h1 with h1
      injection h1 with _ _ _ _ _ h16
      subst h16
      refine ⟨by simpa using gne.symm, fun k hkk hn => ?_⟩
      have hkg : k = g := by simpa using hkk
      subst hkg
      rw [hle _ _ hi] at hn
      cases hn
    · rw [hk t et] at h1
      obtain ⟨a1, a2⟩ := hr.out t c2 e2 x2 u2 S h1
      refine ⟨a1, fun k hkk hn => ?_⟩
      cases hφ : φ k with
      | none => exact a2 k hkk hφ
      | some i => rw [hle _ _ hφ] at hn; cases hn
end
section
variable {P : Program}
theorem Ext.drew (φ : Phi) (L : Look) (n : Nat) (w : World) : Ext φ L n φ L n w (drewW w) where
  le := .refl φ
  nx := Nat.le_refl _
  new := fun g h => absurd rfl h
  os := rfl
  tape := rfl
  output := rfl
  size := Nat.le_refl _
  fr := fun _ _ _ => rfl
  live := fun g o im h1 h2 => .inr ⟨g, o, im, h1, h2, rfl, id⟩
  dom := fun g o h => .inl ⟨o, h⟩
  men := fun k h => .inl h
theorem zeroCells_size (z : Array Value) (n : Nat) : (Builtin.zeroCells z n).size = n * z.size := by simp [Builtin.zeroCells]
/-- A row in a new block, which has room to grow. -/
theorem grown_new {φ : Phi} {L L' : Look} {w : World} {n g need cap size : Nat} {cells : List Value} {e : TypeId} {S : List Nat} {C : Array Value} {new : Array Value} {z : Array Value} (hr : Rep φ L w) (hg : φ g = none) (hL : L' g = some (.row cells e false size true S)) (hne : ∀ k, k ≠ g → L' k = L k) (hn : n ≤ g)
    (hC : C = new ++ Builtin.zeroCells z (cap - need)) (hrs : RVs φ cells new.toList) (hlen : cells.length = need * size) (hz : z.size = size) (hcap : need ≤ cap)
    (hS : ∀ k ∈ S, k ≠ g ∧ φ k ≠ none ∧ ∃ c' e' x' u' S', L k = some (.row c' e' x' u' false S')) :
    ∃ φ', RV φ' (sli g 0 need need) (.slice (some ⟨w.heap.size, 0, none⟩) need cap) ∧ Rep φ' L' (push (drewW w) (.cells C e)) ∧ ∀ n', g < n' → Ext φ L n φ' L' n' w (push (drewW w) (.cells C e)) := by
  have hl : cells.length = new.size := by rw [← Array.length_toList]; exact hrs.len
  have hsz : C.size = cap * size := by
    rw [hC, Array.size_append, zeroCells_size, ← hl, hlen, hz, ← Nat.add_mul]
    congr 1
    omega
  have hv : ∀ (j : Nat) (v : Value), cells[j]? = some v → ∃ v', C[j]? = some v' ∧ RV φ v v' := by
    intro j v hj
    obtain ⟨v', k1, k2⟩ := hrs.get hj
    refine ⟨v', ?_, k2⟩
    have hjl := (List.getElem?_eq_some_iff.1 hj).1
    rw [hC, Array.getElem?_append_left (by omega), ← Array.getElem?_toList]
    exact k1
  have hob := row_new (φ := φ) (w := drewW w) (e := e) (un := size) (ex := false) (top := true) (S := S) hg (cells := cells) (C := C) (by
    rw [hsz, hlen]; exact Nat.mul_le_mul_right _ hcap) (fun h => by cases h) hv
  obtain ⟨r1, r2⟩ := rep_new (n := n) hr.drew hg hL hne (im := ⟨w.heap.size, 0, C.size, size, false⟩) rfl hn hob (fun c e' x u S' h k hk => by
    injection h with _ _ _ _ _ h
    subst h
    exact hS k hk)
  refine ⟨_, .sli (off := 0) (Phi.set_self φ g ⟨w.heap.size, 0, C.size, size, false⟩) hcap hcap (fun h => by cases h) (.inl ⟨rfl, fun _ => ?_⟩), r1, fun n' hn' => (Ext.drew φ L n w).trans (r2 n' hn')⟩
  show 0 + cap * size ≤ C.size
  omega
theorem Ext.cut {φ : Phi} {L L' : Look} {w : World} {n g : Nat} {c pre : List Value} {e : TypeId} {u : Nat} {s : List Nat} (hg : L g = some (.row c e false u true s)) (hL : L' g = some (.row pre e false u false [])) (hk : ∀ k, k ≠ g → L' k = if k ∈ s then none else L k) : Ext φ L n φ L' n w w where
  le := .refl φ
  nx := Nat.le_refl _
  new := fun g h => absurd rfl h
  os := rfl
  tape := rfl
  output := rfl
  size := Nat.le_refl _
  fr := fun _ _ _ => rfl
  live := fun k o im h1 h2 => by
    by_cases hkg : k = g
    · subst hkg
      rw [hL] at h1
      injection h1 with h1
      subst h1
      exact .inr ⟨k, _, im, hg, h2, rfl, fun h => by cases h⟩
    · rw [hk k hkg] at h1
      split at h1
      · cases h1
      · exact .inr ⟨k, o, im, h1, h2, rfl, id⟩
  dom := fun k o h => by
    by_cases hkg : k = g
    · subst hkg; exact .inl ⟨_, hg⟩
    · rw [hk k hkg] at h
      split at h
      · cases h
      · exact .inl ⟨o, h⟩
  men := fun k h => by
    have old : ∀ {t : Nat} {o : Ob}, L' t = some o → t ≠ g → L t = some o := fun {t o} h ht => by
      rw [hk t ht] at h
      split at h
      · cases h
      · exact h
    rcases h with ⟨o, h⟩ | ⟨t, c2, e2, x2, u2, S, h, h2⟩
    · by_cases hkg : k = g
      · subst hkg; exact .inl (.inl ⟨_, hg⟩)
      · exact .inl (.inl ⟨o, old h hkg⟩)
    · by_cases htg : t = g
      · subst htg
        rw [hL] at h
        injection h with h
        injection h with _ _ _ _ h _
        cases h
      · exact .inl (.inr ⟨t, c2, e2, x2, u2, S, old h htg, h2⟩)
/-- The operands of an append are related, too. -/
structure AppArgs (P : Program) (T : Array TypeId) (sT xT e : TypeId) (ei : TypeInfo) (d : TypeDesc) (z : Value) : Prop where
  h0 : T[0]? = some sT
  h1 : T[1]? = some xT
  hs : P.underlying sT = some (.slice e)
  hx : P.underlying xT = some d
  hi : P.info? e = some ei
  hb1 : ei.bytes ≤ 1000000
  hb2 : 1 ≤ ei.bytes
  hz : ∀ w, (zeroValue e).run P w = .ok z w
  hzs : z.cells.size = ei.size
/-- The row has to grow: it gives its place up or not. -/
theorem forkK_ok {m : Mem} {T : Array TypeId} {rt sT xT e : TypeId} {ei : TypeInfo} {d : TypeDesc} {z : Value} (A : AppArgs P T sT xT e ei d z) {g off sl sc n : Nat} {new : List Value} {K : Value → Mem → Bool} (hnl : new.length = n * ei.size) (hcb : ∀ v ∈ new, cellB v = true) (hn6 : sl + n ≤ 1000000) (hfit : ¬ sl + n ≤ sc) (hn : 0 < n) (h : forkK m e ei.size g off sl (sl + n) new K = true) : ∃ v m', K v m' = true ∧ m.next ≤ m'.next ∧
    ∀ (φ : Phi) (w : World) (s' x' : Value) (new' : Array Value), RV φ (.slice (some ⟨g, off, none⟩) sl sc) s' → RVs φ new new'.toList → (∀ w2 : World, w2.heap = w.heap → Src P d e ei.size x' n new' w2) → Rep φ m.t.get w → Free φ m.next m'.next →
      ∃ v' w' φ', (Builtin.append_ T rt #[s', x']).run P w = .ok v' w' ∧ RV φ' v v' ∧ Rep φ' m'.t.get w' ∧ Ext φ m.t.get m.next φ' m'.t.get m'.next w w' := by
  unfold forkK at h
  obtain ⟨c, el, ex, un, top, st, hg, h⟩ := rowOf_ok h
  obtain ⟨h, hold⟩ := takeL_ok _ _ _ _ h
  have h := catL_ok _ _ _ h
  have hlen : ((c.drop off).take (sl * ei.size) ++ new).length = (sl + n) * ei.size := by
    rw [List.length_append, hnl, Nat.add_mul, List.length_take, List.length_drop]
    rcases hold with h | h <;> omega
  cases ex with
  | true =>
    obtain ⟨m', h, g1, g2, g3⟩ := newK_ok h
    refine ⟨_, m', h, by omega, fun φ w s' x' new' hs' hnew hsrc hr hf => ?_⟩
    have hφ := hf m.next (Nat.le_refl _) (by omega)
    have hs2 := hs'
    obtain ⟨im, o', c', hi', rfl, a1, a2, a3, a4⟩ := hs2.sli_inv
    obtain ⟨im', k1, k2, k3, k4, k5⟩ := hr.ob _ _ hg
    rw [hi'] at k1
    injection k1 with k1
    subst k1
    have hc' := a3 k2
    subst hc'
    obtain ⟨old, b1, b2⟩ := first_ok (P := P) (size := ei.size) hr hg hs' (Nat.le_refl _) hold
    obtain ⟨cap, q1, q2⟩ := run_append_new (rt := rt) A.h0 A.h1 A.hs A.hx A.hi A.hb1 A.hb2 (hsrc w rfl) (hsrc (drewW w) rfl) hfit hn6 (b1 (drewW w) rfl) A.hz
    obtain ⟨φ', r1, r2, r3⟩ := grown_new (n := m.next) (C := old ++ new' ++ Builtin.zeroCells z.cells (cap - (sl + n))) (new := old ++ new') hr hφ g2 g3 (Nat.le_refl _) rfl (by rw [Array.toList_append]; exact b2.app hnew) hlen A.hzs q1 (fun k hk => by cases hk)
    exact ⟨_, _, φ', q2, r1, r2, r3 _ (by omega)⟩
  | false =>
    cases top with
    | false => cases h
    | true =>
      simp only [] at h
      rw [bif_t, bif_t] at h
      obtain ⟨hel, hun, h⟩ := h
      have hel := beq_t.1 hel
      have hun := beq_t.1 hun
      subst hel
      obtain ⟨h, hpre⟩ := takeL_ok _ _ _ _ h
      obtain ⟨t1, h, k1⟩ := killK_ok h
      obtain ⟨t2, h, k2, k3⟩ := putT_ok h
      obtain ⟨m', h, g1, g2, g3⟩ := newK_ok h
      simp only [] at g1 g2 g3 h
      rw [List.drop_zero] at k2
      have hk : ∀ k, k ≠ g → t2.get k = if k ∈ st then none else m.t.get k := fun k hk => by rw [k3 k hk, k1]
      have hp : ∀ (j : Nat) (v : Value), (c.take (off + sl * ei.size))[j]? = some v → c[j]? = some v := fun j v hj => by
        rw [List.getElem?_take] at hj
        split at hj
        · exact hj
        · cases hj
      have hpl : (c.take (off + sl * ei.size)).length ≤ c.length := by rw [List.length_take]; omega
      have hpl2 : (c.take (off + sl * ei.size)).length = off + sl * ei.size ∨ off + sl * ei.size = 0 := by
        rw [List.length_take]
        rcases hpre with h | h <;> omega
      have hpl3 : (c.take (off + sl * ei.size)).length = off + sl * ei.size := by
        rcases hpl2 with h | h
        · exact h
        · rw [h]; rfl
      refine ⟨_, m', h, by omega, fun φ w s' x' new' hs' hnew hsrc hr hf => ?_⟩
      have hφ := hf m.next (Nat.le_refl _) (by omega)
      have hs2 := hs'
      obtain ⟨im, o', c', hi', rfl, a1, a2, a3, a4⟩ := hs2.sli_inv
      obtain ⟨r1, far⟩ := rep_cut (L' := t2.get) hr hg hi' k2 hk hp hpl
      have hcut := Ext.cut (φ := φ) (w := w) (n := m.next) hg k2 hk
      by_cases hroom : sl + n ≤ c'
      · -- in its place
        obtain ⟨im', b1, b2, b3, b4, C, fr, b5, b6, b7, b8, b9⟩ := hr.ob g _ hg
        rw [hi'] at b1
        injection b1 with b1
        subst b1
        have hun2 := b3 rfl
        have ⟨ho', hsp⟩ : o' = im.d + off ∧ o' + c' * im.un ≤ im.sz := by
          rcases a4 with ⟨a4, a5⟩ | a4
          · exact ⟨a4, a5 b2⟩
          · omega
        rw [hun2, hun, b7] at hsp
        have hspace : (sl + n) * ei.size ≤ c' * ei.size := Nat.mul_le_mul_right _ hroom
        rw [Nat.add_mul] at hspace
        have hnl' : new'.toList.length = n * ei.size := by rw [← hnew.len, hnl]
        obtain ⟨w', d1, d2⟩ := run_storeCells (P := P) (off := im.d + off + sl * ei.size) new'.toList 0 w C b5 b6 (.inr (by omega)) (hnew.cellB hcb)
        have haddr : (⟨im.b, o', none⟩ : Addr).add (sl * ei.size) = ⟨im.b, im.d + off + sl * ei.size, none⟩ := by
          unfold Addr.add
          split
          · rename_i h0; rw [h0, ho']; simp
          · rw [ho']
        have hrun := run_append_in (rt := rt) (base := some ⟨im.b, o', none⟩) (w' := w') A.h0 A.h1 A.hs A.hx A.hi A.hb1 (hsrc w rfl) hroom (fun a ha => by
          injection ha with ha
          subst ha
          rw [haddr]
          exact d1) (fun ha => by cases ha)
        obtain ⟨C', hC'⟩ : ∃ C', C' = (putV C.toList (im.d + off + sl * ei.size + 0) new'.toList).toArray := ⟨_, rfl⟩
        rw [← hC'] at d2
        have hsz' : C'.size = C.size := by rw [hC', ← Array.length_toList]; simp [putV_len]
        have hget : ∀ j, C'[j]? = if im.d + off + sl * ei.size ≤ j ∧ j < im.d + off + sl * ei.size + new'.toList.length then new'.toList[j - (im.d + off + sl * ei.size)]? else C[j]? := fun j => by
          rw [hC']
          have hg2 := putV_get new'.toList C.toList (im.d + off + sl * ei.size + 0) j (.inl (by have h9 : C.toList.length = C.size := Array.length_toList; omega))
          simp only [Nat.add_zero] at hg2 ⊢
          rw [List.getElem?_toArray, hg2, Array.getElem?_toList (xs := C)]
        have hrep := rep_join (L' := m'.t.get) (g' := m.next) (d := im.d + off) (cells := (c.drop off).take (sl * ei.size) ++ new) (C' := C') (w' := w') r1 k2 hi' far hφ (by rw [hun] at g2 ⊢; exact g2) g3 b5 d2 b6 hun2 hsz' b7 (fun j hj => by
          rw [hget, if_neg (by rw [hpl3] at hj; omega)]) (by rw [hpl3, hlen, Nat.add_mul]; omega) (by rw [hlen, Nat.add_mul]; omega) (fun j v hj => by
          rw [hget]
          by_cases hjl : j < ((c.drop off).take (sl * ei.size)).length
          · rw [List.getElem?_append_left hjl] at hj
            rw [List.length_take] at hjl
            rw [if_neg (by omega)]
            rw [List.getElem?_take, if_pos (by omega), List.getElem?_drop] at hj
            rw [show im.d + off + j = im.d + (off + j) by omega]
            exact b9 _ _ hj
          · have hol : ((c.drop off).take (sl * ei.size)).length = sl * ei.size := by
              rw [List.length_append, hnl, Nat.add_mul] at hlen
              omega
            rw [List.getElem?_append_right (by omega), hol] at hj
            have hjn := (List.getElem?_eq_some_iff.1 hj).1
            rw [if_pos (by rw [hnl']; omega), show im.d + off + j - (im.d + off + sl * ei.size) = j - sl * ei.size by omega]
            exact hnew.get hj)
        refine ⟨_, w', _, hrun, ?_, hrep, ?_⟩
        · rw [ho']
          exact .sli (off := 0) (im := ⟨im.b, im.d + off, C.size, un, false⟩) (Phi.set_self φ m.next ⟨im.b, im.d + off, C.size, un, false⟩) hroom hroom (fun h => by cases h) (.inl ⟨rfl, fun _ => by show im.d + off + c' * un ≤ C.size; rw [hun]; omega⟩)
        · refine ⟨Phi.le_set hφ, by omega, fun k hk2 => ?_, d2.os, d2.tape, d2.output, by rw [d2.size]; exact Nat.le_refl _, fun b hb hn2 => ?_, fun k q i h1 h2 => ?_, fun k q h1 => ?_, fun k h1 => ?_⟩
          · by_cases hkg : k = m.next
            · omega
            · exact absurd (Phi.set_ne hkg) hk2
          · exact d2.other b fun e1 => hn2 g _ im hg rfl hi' e1.symm
          · by_cases hkg : k = m.next
            · subst hkg
              rw [Phi.set_self] at h2
              injection h2 with h2
              subst h2
              exact .inr ⟨g, _, im, hg, hi', rfl, fun _ => rfl⟩
            · rw [g3 k hkg] at h1
              rw [Phi.set_ne hkg] at h2
              exact hcut.live k q i h1 h2
          · by_cases hkg : k = m.next
            · exact .inr (by omega)
            · rw [g3 k hkg] at h1
              rcases hcut.dom k q h1 with h2 | h2
              · exact .inl h2
              · omega
          · rcases h1 with ⟨o, h1⟩ | ⟨t, c3, e3, x3, u3, S, h1, h2⟩
            · by_cases hkg : k = m.next
              · exact .inr (by omega)
              · rw [g3 k hkg] at h1
                rcases hcut.men k (.inl ⟨o, h1⟩) with h2 | h2
                · exact .inl h2
                · omega
            · by_cases htg : t = m.next
              · subst htg
                rw [g2] at h1
                injection h1 with h1
                injection h1 with _ _ _ _ _ h1
                subst h1
                have hkg : k = g := by simpa using h2
                subst hkg
                exact .inl (.inl ⟨_, hg⟩)
              · rw [g3 t htg] at h1
                rcases hcut.men k (.inr ⟨t, c3, e3, x3, u3, S, h1, h2⟩) with h2 | h2
                · exact .inl h2
                · omega
      · obtain ⟨old, b1, b2⟩ := first_ok (P := P) (size := ei.size) hr hg hs' (Nat.le_refl _) hold
        obtain ⟨cap, q1, q2⟩ := run_append_new (rt := rt) A.h0 A.h1 A.hs A.hx A.hi A.hb1 A.hb2 (hsrc w rfl) (hsrc (drewW w) rfl) hroom hn6 (b1 (drewW w) rfl) A.hz
        obtain ⟨φ', p1, p2, p3⟩ := grown_new (n := m.next) (C := old ++ new' ++ Builtin.zeroCells z.cells (cap - (sl + n))) (new := old ++ new') r1 hφ (by rw [hun] at g2; exact g2) g3 (Nat.le_refl _) rfl (by rw [Array.toList_append]; exact b2.app hnew) hlen A.hzs q1 (fun k hk3 => by
          have hkg : k = g := by simpa using hk3
          subst hkg
          refine ⟨(fun e1 => by rw [e1, hφ] at hi'; cases hi'), (by rw [hi']; simp), _, _, _, _, _, k2⟩)
        exact ⟨_, _, φ', q2, p1, p2, hcut.trans (p3 _ (by omega))⟩
end
section
variable {P : Program}
/-- What a call of a builtin that writes does. -/
def BltOk (P : Program) (m m' : Mem) (v : Value) (x y : Value) (s : Value → Value → Sem Value) : Prop :=
  ∀ (φ : Phi) (w : World) (x' y' : Value), RV φ x x' → RV φ y y' → Rep φ m.t.get w → Free φ m.next m'.next → ∃ v' w' φ', (s x' y').run P w = .ok v' w' ∧ RV φ' v v' ∧ Rep φ' m'.t.get w' ∧ Ext φ m.t.get m.next φ' m'.t.get m'.next w w'
theorem appendK_ok {m : Mem} {T : Array TypeId} {rt : TypeId} {s x : Value} {K : Value → Mem → Bool} (h : appendK P m T.toList s x K = true) : ∃ v m', K v m' = true ∧ m.next ≤ m'.next ∧ BltOk P m m' v s x (fun s' x' => Builtin.append_ T rt #[s', x']) := by
  unfold appendK at h
  cases hT : T.toList with
  | nil => rw [hT] at h; cases h
  | cons sT T1 =>
    rw [hT] at h
    cases T1 with
    | nil => cases h
    | cons xT T2 =>
      have h0 : T[0]? = some sT := by rw [← Array.getElem?_toList, hT]; rfl
      have h1 : T[1]? = some xT := by rw [← Array.getElem?_toList, hT]; rfl
      obtain ⟨e, hs, h⟩ := sliceK_ok h
      split at h
      · cases h
      · rename_i ei hi
        rw [bif_t, bif_t] at h
        obtain ⟨hb1, hb2, h⟩ := h
        have hb1 := ble_t.1 hb1
        have hb2 := ble_t.1 hb2
        obtain ⟨z, h, hz, hzr⟩ := zeroK_ok h
        rw [bif_t, lenL_eq] at h
        obtain ⟨hzl, h⟩ := h
        have hzl := beq_t.1 hzl
        have hzs : z.cells.size = ei.size := by rw [← Array.length_toList, cells_eq, hzl]
        obtain ⟨n, new, d, h, hx, hsrc⟩ := srcK_ok h
        rw [bif_t, bif_t, lenL_eq] at h
        obtain ⟨hnl, hcb, h⟩ := h
        have hnl := beq_t.1 hnl
        have hcb := allL_ok _ hcb
        have A : AppArgs P T sT xT e ei d z := ⟨h0, h1, hs, hx, hi, hb1, hb2, hzr, hzs⟩
        cases n with
        | zero =>
          have hnil : new = [] := List.eq_nil_of_length_eq_zero (by rw [hnl]; simp)
          subst hnil
          simp only [] at h
          rcases asSli_ok h with ⟨l, c, e0, h⟩ | ⟨g, off, l, c, e0, h⟩
          · rw [bif_t] at h
            obtain ⟨hlc, h⟩ := h
            have hlc := ble_t.1 hlc
            refine ⟨_, m, h, Nat.le_refl _, fun φ w s' x' hs' hx' hr hf => ?_⟩
            rw [e0] at hs'
            obtain ⟨new', k1, k2⟩ := hsrc φ w x' hx' hr
            refine ⟨_, w, φ, ?_, .nils l c, hr, .refl _ _ _ _⟩
            simp only [hs'.nils_inv]
            rw [run_append_in h0 h1 hs hx hi hb1 (k2 w rfl) (by omega) (fun a ha => by cases ha) (fun _ => rfl)]
            rfl
          · refine ⟨_, m, h, Nat.le_refl _, fun φ w s' x' hs' hx' hr hf => ?_⟩
            rw [e0] at hs'
            obtain ⟨new', k1, k2⟩ := hsrc φ w x' hx' hr
            have hn' : new'.toList = [] := by
              have := k1.len
              exact List.eq_nil_of_length_eq_zero (by simpa using this.symm)
            have hs2 := hs'
            obtain ⟨im, o', c', hi', rfl, a1, a2, a3, a4⟩ := hs'.sli_inv
            refine ⟨_, w, φ, ?_, hs2, hr, .refl _ _ _ _⟩
            rw [run_append_in (w' := w) h0 h1 hs hx hi hb1 (k2 w rfl) (by omega) (fun a ha => by rw [hn']; rfl) (fun ha => by cases ha)]
            rfl
        | succ n =>
          simp only [] at h
          rcases asSli_ok h with ⟨l, c, e0, h⟩ | ⟨g, off, sl, sc, e0, h⟩
          · rw [bif_t, bif_t, bif_t] at h
            obtain ⟨hl, hc, hn6, h⟩ := h
            have hl := beq_t.1 hl
            have hc := beq_t.1 hc
            have hn6 := ble_t.1 hn6
            obtain ⟨m', h, g1, g2, g3⟩ := newK_ok h
            refine ⟨_, m', h, by omega, fun φ w s' x' hs' hx' hr hf => ?_⟩
            have hφ := hf m.next (Nat.le_refl _) (by omega)
            rw [e0, hl, hc] at hs'
            simp only [hs'.nils_inv]
            obtain ⟨new', k1, k2⟩ := hsrc φ w x' hx' hr
            obtain ⟨cap, q1, q2⟩ := run_append_new (rt := rt) (base := none) (sl := 0) (sc := 0) (old := #[]) h0 h1 hs hx hi hb1 hb2 (k2 w rfl) (k2 (drewW w) rfl) (by omega) (by omega) rfl hzr
            rw [Nat.zero_add] at q1 q2
            obtain ⟨φ', p1, p2, p3⟩ := grown_new (n := m.next) (C := #[] ++ new' ++ Builtin.zeroCells z.cells (cap - (n + 1))) (new := #[] ++ new') hr hφ g2 g3 (Nat.le_refl _) rfl (by simpa using k1) (by rw [hnl]) hzs q1 (fun k hk => by cases hk)
            exact ⟨_, _, φ', q2, p1, p2, p3 _ (by omega)⟩
          · have h := forceN_ok h
            rw [bif_t] at h
            obtain ⟨hn6, h⟩ := h
            have hn6 := ble_t.1 hn6
            rcases bif_cases h with ⟨hin, h⟩ | ⟨hout, h⟩
            · have hin := ble_t.1 hin
              obtain ⟨m', h, hnx, hw⟩ := writeK_ok (P := P) h
              refine ⟨_, m', h, by omega, fun φ w s' x' hs' hx' hr hf => ?_⟩
              rw [e0] at hs'
              obtain ⟨new', k1, k2⟩ := hsrc φ w x' hx' hr
              obtain ⟨im, o', c', hi', rfl, a1, a2, a3, a4⟩ := hs'.sli_inv
              have ho' : o' = im.d + off := by rcases a4 with a4 | a4; exact a4.1; omega
              obtain ⟨w', b1, b2, b3⟩ := hw φ w im new'.toList hi' k1 hr
              have haddr : (⟨im.b, o', none⟩ : Addr).add (sl * ei.size) = ⟨im.b, im.d + (off + sl * ei.size), none⟩ := by
                unfold Addr.add
                split
                · rename_i h0; rw [h0, ho']; simp
                · rw [ho']; simp [Nat.add_assoc]
              have hrun := run_append_in (rt := rt) (base := some ⟨im.b, o', none⟩) (w' := w') h0 h1 hs hx hi hb1 (k2 w rfl) (by omega : sl + (n + 1) ≤ c') (fun a ha => by
                injection ha with ha
                subst ha
                rw [haddr]
                exact b1) (fun ha => by cases ha)
              exact ⟨_, w', φ, hrun, .sli hi' (by omega) a2 a3 a4, b2, by rw [hnx] at b3 ⊢; exact b3⟩
            · have hout : ¬ sl + (n + 1) ≤ sc := fun e1 => by rw [ble_t.2 e1] at hout; cases hout
              obtain ⟨v, m', hv, hnx, hk⟩ := forkK_ok (rt := rt) A hnl hcb hn6 hout (by omega) h
              refine ⟨v, m', hv, hnx, fun φ w s' x' hs' hx' hr hf => ?_⟩
              rw [e0] at hs'
              obtain ⟨new', k1, k2⟩ := hsrc φ w x' hx' hr
              exact hk φ w s' x' new' hs' k1 k2 hr hf
theorem byteL_ok : ∀ {cs : List Value} {K : List UInt8 → Bool}, byteL cs K = true → ∃ l, K l = true ∧ cs = l.map fun b => Value.int .u8 b.toNat
  | [], K, h => ⟨[], h, rfl⟩
  | v :: cs, K, h => by
    unfold byteL at h
    split at h
    · split at h
      · split at h
        · rename_i n
          rw [bif_t] at h
          obtain ⟨h1, h⟩ := h
          have h1 := ble_t.1 h1
          obtain ⟨l, h2, rfl⟩ := byteL_ok h
          refine ⟨_, h2, ?_⟩
          simp only [List.map_cons]
          congr 2
          rw [UInt8.toNat_ofNat']
          rw [Nat.mod_eq_of_lt (by omega)]
          rfl
        · cases h
      · cases h
    · cases h
/-- A row and its group are given up. -/
theorem rep_kill {φ : Phi} {L L' : Look} {w : World} {n g : Nat} {c : List Value} {e : TypeId} {x : Bool} {u : Nat} {s : List Nat} (hr : Rep φ L w) (hg : L g = some (.row c e x u true s)) (hk : ∀ k, L' k = if k ∈ g :: s then none else L k) :
    Rep φ L' w ∧ Ext φ L n φ L' n w w ∧ ∀ {k : Nat} {q : Ob} {i im : Im}, L' k = some q → φ g = some im → φ k = some i → i.b ≠ im.b := by
  have old : ∀ {k : Nat} {q : Ob}, L' k = some q → k ≠ g ∧ k ∉ s ∧ L k = some q := fun {k q} h => by
    rw [hk k] at h
    split at h
    · cases h
    · rename_i hn
      exact ⟨fun e1 => hn (by rw [e1]; simp), fun e1 => hn (List.mem_cons_of_mem _ e1), h⟩
  refine ⟨⟨fun k q h => hr.ob k q (old h).2.2, ?_, ?_, fun t c2 e2 x2 u2 S h => hr.out t c2 e2 x2 u2 S (old h).2.2, hr.glob⟩, ⟨.refl φ, Nat.le_refl _, fun g h => absurd rfl h, rfl, rfl, rfl, Nat.le_refl _, fun _ _ _ => rfl, fun k q i h1 h2 => .inr ⟨k, q, i, (old h1).2.2, h2, rfl, id⟩, fun k q h => .inl ⟨q, (old h).2.2⟩, fun k h => .inl (h.elim (fun ⟨q, h⟩ => .inl ⟨q, (old h).2.2⟩) fun ⟨t, c, e, x, u, S, h, h2⟩ => .inr ⟨t, c, e, x, u, S, (old h).2.2, h2⟩)⟩, ?_⟩
  · intro g1 g2 o1 o2 i1 i2 h1 h2 h3 h4 hb
    obtain ⟨a1, a2, a3⟩ := old h1
    obtain ⟨b1, b2, b3⟩ := old h2
    rcases hr.sep g1 g2 o1 o2 i1 i2 a3 b3 h3 h4 hb with h | ⟨t, c2, e3, x2, u2, S, k1, k2, k3⟩
    · exact .inl h
    · have htg : t ≠ g := by
        intro et
        subst et
        rw [hg] at k1
        injection k1 with k1
        injection k1 with _ _ _ _ _ k1
        subst k1
        rcases k2 with k2 | k2
        · exact a1 k2
        · exact a2 k2
      have hts : t ∉ s := by
        intro hts
        obtain ⟨it, hit, _⟩ := (hr.ob t _ k1).img
        obtain ⟨im, him, _⟩ := (hr.ob g _ hg).img
        obtain ⟨c3, e4, x3, u3, S3, e5, _⟩ := hr.grp g c e x u s t _ im it hg hts k1 him hit
        injection e5 with _ _ _ _ e5 _
        cases e5
      exact .inr ⟨t, c2, e3, x2, u2, S, by rw [hk t, if_neg (by simp [htg, hts])]; exact k1, k2, k3⟩
  · intro t c2 e2 x2 u2 S k q i1 i2 h1 h2 h3 h4 h5
    exact hr.grp t c2 e2 x2 u2 S k q i1 i2 (old h1).2.2 h2 (old h3).2.2 h4 h5
  · intro k q i im h hi hik e1
    obtain ⟨a1, a2, a3⟩ := old h
    rcases hr.sep k g q _ i im a3 hg hik hi e1 with h3 | ⟨t, c2, e2, x2, u2, S, k1, k2, k3⟩
    · exact a1 h3
    · rcases k3 with rfl | k3
      · rw [hg] at k1
        injection k1 with k1
        injection k1 with _ _ _ _ _ k1
        subst k1
        rcases k2 with k2 | k2
        · exact a1 k2
        · exact a2 k2
      · obtain ⟨it, hit, _⟩ := (hr.ob t _ k1).img
        obtain ⟨c3, e3, x3, u3, S3, e4, _⟩ := hr.grp t c2 e2 x2 u2 S g _ it im k1 k3 hg hit hi
        injection e4 with _ _ _ _ e4 _
        cases e4
/-- A block changes that nothing points to that is still in use. -/
theorem rep_other {φ : Phi} {L : Look} {w w' : World} {b : Nat} (hr : Rep φ L w) (hb : ∀ {k : Nat} {q : Ob} {i : Im}, L k = some q → φ k = some i → i.b ≠ b) (ho : ∀ k, k ≠ b → w'.heap[k]? = w.heap[k]?) : Rep φ L w' :=
  ⟨fun k q h => by obtain ⟨i, hi, _⟩ := (hr.ob k q h).img; exact (hr.ob k q h).keep hi (.refl φ) (ho _ (hb h hi)), hr.sep, hr.grp, hr.out, hr.glob⟩
end
section
variable {P : Program}
theorem run_loadBytes {w : World} {b : Nat} {C : Array Value} {el : TypeId} {fr : Nat × Nat} (hb : w.heap[b]? = some (.cells C el fr)) : ∀ (l : List UInt8) (off : Nat) (acc : ByteArray), (∀ (j : Nat) (u : UInt8), l[j]? = some u → C[off + j]? = some (.int .u8 u.toNat)) →
    (loadBytes ⟨b, off, none⟩ acc l.length).run P w = .ok ⟨⟨bytesOf acc ++ l⟩⟩ w
  | [], off, acc, h => by
    have : acc = ⟨⟨bytesOf acc ++ []⟩⟩ := bytes_eq (by simp)
    simp only [List.length_nil, loadBytes, Sem.run_pure]
    rw [← this]
  | u :: l, off, acc, h => by
    have hc : w.cell? ⟨b, off, none⟩ = some (.int .u8 u.toNat) := by
      have := h 0 u (by simp)
      unfold World.cell?
      simp only [hb]
      simpa using this
    have hl : (load (⟨b, off, none⟩ : Addr)).run P w = .ok (.int .u8 u.toNat) w := by simp [load, Sem.run, hc]
    rw [List.length_cons, loadBytes, Sem.run_bind, hl]
    simp only [Result.andThen_ok]
    have ha : (⟨b, off, none⟩ : Addr).add 1 = ⟨b, off + 1, none⟩ := rfl
    rw [ha, run_loadBytes hb l (off + 1) _ (fun j v hj => by
      rw [show off + 1 + j = off + (j + 1) by omega]
      exact h (j + 1) v (by simpa using hj))]
    congr 3
    have hu : ((u.toNat : Int)).toNat.toUInt8 = u := by simp
    rw [hu]
    have : bytesOf (acc.push u) = bytesOf acc ++ [u] := by
      unfold bytesOf
      rw [ByteArray.data_push, Array.toList_push]
    rw [this]
    simp
theorem ustrE_ok {m : Mem} {T : Array TypeId} {rt ty : TypeId} {p n : Value} {K : Value → Mem → Bool} (hT : T[0]? = some ty) (h : ustrE P m ty p n K = true) : ∃ v m', K v m' = true ∧ m.next ≤ m'.next ∧ BltOk P m m' v p n (fun p' n' => Builtin.unsafeString_ T rt #[p', n']) := by
  unfold ustrE at h
  obtain ⟨k, nn, e0, h⟩ := asNat_ok h
  have hempty : ByteArray.empty = ⟨⟨[]⟩⟩ := rfl
  cases p with
  | pointer a =>
    simp only [] at h
    cases nn with
    | zero =>
      refine ⟨_, m, h, Nat.le_refl _, fun φ w p' n' hp hn hr hf => ⟨_, w, φ, ?_, .string _, hr, .refl _ _ _ _⟩⟩
      obtain ⟨a', rfl, _⟩ := hp.pointer_inv
      rw [e0] at hn
      rw [hn.int_inv]
      change Sem.run P (Bind.bind (Go.asInt (.int k (Int.ofNat 0))) _) w = _
      simp only [Go.asInt, asIntOf, Sem.run_bind, Sem.run_pure, Result.andThen_ok, hT]
      have hm : IntKind.i64.max = 9223372036854775807 := by decide
      rw [if_neg (by simp)]
      rw [if_neg (by rw [hm]; simp)]
      cases a' with
      | none => rfl
      | some a' => rfl
    | succ q =>
      simp only [] at h
      rw [bif_t] at h
      obtain ⟨hq6, h⟩ := h
      have hq6 := ble_t.1 hq6
      cases a with
      | none => cases h
      | some a =>
        obtain ⟨ea, h⟩ := addrK_ok h
        split at h
        · rename_i d hd
          split at h
          · rename_i e
            split at h
            · rename_i d2 hd2
              split at h
              · obtain ⟨z, h, ⟨ti, hti, hsz⟩, _⟩ := sizeK_ok h
                rw [bif_t] at h
                obtain ⟨hz1, h⟩ := h
                have hz1 := beq_t.1 hz1
                obtain ⟨c, el, ex, un, top, st, hg, h⟩ := rowOf_ok h
                cases top with
                | false => cases h
                | true =>
                  simp only [] at h
                  rw [bif_t] at h
                  obtain ⟨hel, h⟩ := h
                  have hel := beq_t.1 hel
                  rw [hel] at hg
                  obtain ⟨h, hin⟩ := takeL_ok _ _ _ _ h
                  obtain ⟨l, h, hl⟩ := byteL_ok h
                  obtain ⟨t', h, hk⟩ := killK_ok h
                  have hin : a.off + (q + 1) ≤ c.length := by rcases hin with h | h; cases h; exact h
                  have hll : l.length = q + 1 := by
                    have := congrArg List.length hl
                    rw [List.length_take, List.length_drop, List.length_map] at this
                    omega
                  refine ⟨_, _, h, Nat.le_refl _, fun φ w p' n' hp hn hr hf => ?_⟩
                  rw [ea] at hp
                  obtain ⟨im, hi, rfl⟩ := hp.ptr_inv
                  rw [e0] at hn
                  obtain ⟨im', a1, a2, a3, a4, C, fr, a5, a6, a7, a8, a9⟩ := hr.ob _ _ hg
                  rw [hi] at a1
                  injection a1 with a1
                  subst a1
                  obtain ⟨r1, r2, r3⟩ := rep_kill (n := m.next) hr hg hk
                  have hlb := run_loadBytes (P := P) a5 l (im.d + a.off) .empty (fun j u hj => by
                    have h1 : ((c.drop a.off).take (q + 1))[j]? = some (.int .u8 u.toNat) := by rw [hl, List.getElem?_map, hj]; rfl
                    rw [List.getElem?_take] at h1
                    split at h1
                    · rw [List.getElem?_drop] at h1
                      obtain ⟨v', b1, b2⟩ := a9 _ _ h1
                      rw [show im.d + a.off + j = im.d + (a.off + j) by omega, b1, b2.int_inv]
                    · cases h1)
                  rw [hll] at hlb
                  obtain ⟨w', hw'⟩ : ∃ w', w' = w.freeze ⟨im.b, im.d + a.off, none⟩ (q + 1) := ⟨_, rfl⟩
                  have hfz : (freeze ⟨im.b, im.d + a.off, none⟩ (q + 1)).run P w = .ok () w' := by rw [hw']; rfl
                  have hoth : ∀ k, k ≠ im.b → w'.heap[k]? = w.heap[k]? := fun k hk => by
                    rw [hw']
                    unfold World.freeze
                    rw [if_neg (by omega)]
                    show (w.heap.modify im.b _)[k]? = _
                    rw [Array.getElem?_modify, if_neg (fun e => hk e.symm)]
                  have hsame : w'.os = w.os ∧ w'.tape = w.tape ∧ w'.output = w.output ∧ w'.heap.size = w.heap.size := by
                    rw [hw']
                    unfold World.freeze
                    rw [if_neg (by omega)]
                    exact ⟨rfl, rfl, rfl, by simp⟩
                  have hva : (variablesAt ⟨im.b, im.d + a.off, none⟩ e (q + 1)).run P w = .ok true w := by
                    have hsh : (shape im.b).run P w = .ok (some (e, C.size)) w := by simp [shape, Sem.run, World.shape?, a5]
                    have hco : P.cellsOf e = 1 := by unfold Program.cellsOf; rw [hti]; simp [hsz, hz1]
                    obtain ⟨D, hD⟩ : ∃ D, P.depth = D + 1 := ⟨2 * (P.types.size + Made.depth) + 1, rfl⟩
                    unfold variablesAt
                    simp only [Sem.run_bind, program, Sem.run, hsh, Result.andThen_ok, Sem.run_pure]
                    have : liesAt P P.depth e (C.size / P.cellsOf e) (im.d + a.off) e (q + 1) = true := by
                      rw [hD, liesAt, hD, rowAt, hco]
                      simp only [Nat.one_ne_zero, if_false, Nat.div_one, Nat.mod_one]
                      have hs : sameLayout P (D + 1) e e = true := by
                        rw [sameLayout]; simp
                      rw [hs]
                      have : decide (im.d + a.off + (q + 1) ≤ C.size) = true := decide_eq_true (by omega)
                      simp [this]
                    rw [this]
                  refine ⟨_, w', φ, ?_, .string _, rep_other r1 (fun h1 h2 => r3 h1 hi h2) hoth, ?_⟩
                  · have hm : IntKind.i64.max = 9223372036854775807 := by decide
                    rw [hn.int_inv]
                    change Sem.run P (Bind.bind (Go.asInt (.int k (Int.ofNat (q + 1)))) _) w = _
                    simp only [Go.asInt, asIntOf, Sem.run_bind, Sem.run_pure, Result.andThen_ok, hT]
                    rw [if_neg (by simp only [Int.ofNat_eq_natCast]; omega)]
                    rw [if_neg (by rw [hm]; simp only [Int.ofNat_eq_natCast]; omega)]
                    rw [if_neg (by simp only [Int.ofNat_eq_natCast]; omega)]
                    simp only [Sem.run_bind, elemOf, run_und hd, Result.andThen_ok, Sem.run_pure, Int.ofNat_eq_natCast, Int.toNat_natCast, hva, if_true, hlb, hfz]
                    rfl
                  · refine ⟨r2.le, r2.nx, r2.new, hsame.1, hsame.2.1, hsame.2.2.1, by rw [hsame.2.2.2]; exact Nat.le_refl _, fun b hb hn2 => hoth b fun e1 => hn2 _ _ im hg rfl hi e1.symm, r2.live, r2.dom, r2.men⟩
              · cases h
            · cases h
          · cases h
        · cases h
  | _ => cases h
end
end AC.Ev

