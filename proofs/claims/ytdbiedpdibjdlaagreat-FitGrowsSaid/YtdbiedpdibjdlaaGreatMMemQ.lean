/-
  Words for memory: rows of rational numbers that the call makes.
-/
import Derived.Test.YtdbiedpdibjdlaaGreatMWalkT
import Derived.Deep.CutBlock
import Derived.Deep.DeepCutAuto
namespace Go.Proofs.YtdbiedpdibjdlaaGreat
open Go.RowKit AC
set_option linter.unusedVariables false
set_option linter.unusedSimpArgs false

theorem info_rat : (Tryz.prog.info? 46).map (fun i => (i.zero, i.size, i.bytes)) = some (some (.agg #[.bool false, .slice none 0 0, .slice none 0 0]), 3, 56) := by kernel_rfl

/-- Block b is a row of k structs; the first n hold r 0, r 1, .. in their canonical form, in memory behind b. -/
def RowQ (w : World) (b k n : Nat) (r : Nat → Rat) : Prop :=
  ∃ f : Nat → Value, w.rowIs b 46 (k * 3) f ∧ ∀ j, j < n → ∃ s An kn cn Ad kd cd, f (j * 3) = .bool s ∧ f (j * 3 + 1) = .slice An kn cn ∧ f (j * 3 + 2) = .slice Ad kd cd ∧ RatR w (b + 1) (.agg #[.bool s, .slice An kn cn, .slice Ad kd cd]) (r j)

section
variable {w w' : World} {b k n : Nat} {r : Nat → Rat}
theorem RowQ.lt (h : RowQ w b k n r) : b < w.heap.size := by obtain ⟨f, h1, _⟩ := h; exact h1.lt
theorem RowQ.below (h : RowQ w b k n r) (hb : Below w.heap.size w w') : RowQ w' b k n r := by
  obtain ⟨f, h1, h2⟩ := h
  refine ⟨f, h1.of_block (hb.block b h1.lt), fun j hj => ?_⟩
  obtain ⟨s, An, kn, cn, Ad, kd, cd, e1, e2, e3, e4⟩ := h2 j hj
  exact ⟨s, An, kn, cn, Ad, kd, cd, e1, e2, e3, e4.below hb⟩
theorem RowQ.there (h : RowQ w b k n r) {i : Nat} (hi : i < k * 3) : ∃ u, w.cell? ⟨b, i, none⟩ = some u := by
  obtain ⟨f, h1, _⟩ := h
  exact ⟨_, h1.cell hi⟩
theorem RowQ.frozen (h : RowQ w b k n r) (i : Nat) : w.frozen? ⟨b, i, none⟩ = false := by
  obtain ⟨f, h1, _⟩ := h
  exact h1.frozen i
theorem RowQ.store (h : RowQ w b k n r) {s : Bool} {An Ad : Option Addr} {kn cn kd cd : Nat} (hr : RatR w (b + 1) (.agg #[.bool s, .slice An kn cn, .slice Ad kd cd]) (r n)) :
    RowQ (((w.setCell ⟨b, n * 3, none⟩ (.bool s)).setCell ⟨b, n * 3 + 1, none⟩ (.slice An kn cn)).setCell ⟨b, n * 3 + 2, none⟩ (.slice Ad kd cd)) b k (n + 1) r := by
  obtain ⟨f, h1, h2⟩ := h
  have keep : ∀ v q, RatR w (b + 1) v q → RatR (((w.setCell ⟨b, n * 3, none⟩ (.bool s)).setCell ⟨b, n * 3 + 1, none⟩ (.slice An kn cn)).setCell ⟨b, n * 3 + 2, none⟩ (.slice Ad kd cd)) (b + 1) v q := by
    rintro v q ⟨vn, vd, rfl, g1, g2⟩
    exact ⟨vn, vd, rfl, ((Limbs.setCell g1 (by simp) _).setCell (by simp) _).setCell (by simp) _, ((Limbs.setCell g2 (by simp) _).setCell (by simp) _).setCell (by simp) _⟩
  refine ⟨_, ((h1.set (n * 3) (.bool s)).set (n * 3 + 1) (.slice An kn cn)).set (n * 3 + 2) (.slice Ad kd cd), fun j hj => ?_⟩
  rcases Nat.lt_or_ge j n with hjn | hjn
  · obtain ⟨s', An', kn', cn', Ad', kd', cd', e1, e2, e3, e4⟩ := h2 j hjn
    refine ⟨s', An', kn', cn', Ad', kd', cd', ?_, ?_, ?_, keep _ _ e4⟩
    · rw [if_neg (by omega), if_neg (by omega), if_neg (by omega)]; exact e1
    · rw [if_neg (by omega), if_neg (by omega), if_neg (by omega)]; exact e2
    · rw [if_neg (by omega), if_neg (by omega), if_neg (by omega)]; exact e3
  · obtain rfl : j = n := by omega
    refine ⟨s, An, kn, cn, Ad, kd, cd, ?_, ?_, ?_, keep _ _ hr⟩
    · rw [if_neg (by omega), if_neg (by omega), if_pos rfl]
    · rw [if_neg (by omega), if_pos rfl]
    · rw [if_pos rfl]
theorem RowQ.toV (h : RowQ w b k n r) {lo K : Nat} (hn : n ≤ k) (hl : lo ≤ b) (hk : k ≤ 4294967296) (hK : ∀ j, j < n → sz (r j) ≤ K) : RatsV w lo (.slice (some ⟨b, 0, none⟩) n k) n K r := by
  have hlt := h.lt
  obtain ⟨f, h1, h2⟩ := h
  refine ⟨_, k, rfl, hn, by unfold maxLen; omega, fun _ => ⟨b, 0, rfl, hl, hlt, fun i hi => ?_⟩⟩
  obtain ⟨s, An, kn, cn, Ad, kd, cd, e1, e2, e3, e4⟩ := h2 i hi
  refine ⟨s, An, kn, cn, Ad, kd, cd, ?_, ?_, ?_, (e4.toV (hK i hi)).lower (by omega)⟩
  · rw [Nat.zero_add, h1.cell (by omega), e1]
  · rw [Nat.zero_add, h1.cell (by omega), e2]
  · rw [Nat.zero_add, h1.cell (by omega), e3]
end

/-- 'make([]api.Rat, n)'. -/
theorem wpList_mkQ (w : World) {ops : Array Oper} {rest : List Oper} {o : Oper} {a : Act} {Q : Exit → Act → World → Prop}
    (hg : o.guard = none) (l c : Operand) (hop : o.op = Op.makeSlice 37 l c)
    (kl kc : IntKind) (L C : Int) (n : Nat) (hl : a.eval l = .int kl L) (hc : a.eval c = .int kc C) (hL : L = (n : Int)) (hC : C = (n : Int)) (hn : n ≤ 4294967296)
    (base : Nat) (w0 : World) (hb : Below base w0 w) (hbase : base ≤ w.heap.size)
    (hK : ∀ b w', base ≤ b → w.heap.size ≤ b → (∀ r, RowQ w' b n 0 r) → Below base w0 w' → Below w.heap.size w w' → wpList Tryz.prog ops Q rest (a.put o.dst (.slice (some ⟨b, 0, none⟩) n n)) w') :
    wpList Tryz.prog ops Q (o :: rest) a w := by
  obtain ⟨i, hi, hz0, hs1, hb4⟩ := info_parts info_rat
  subst hL
  subst hC
  refine wpList_plain hg fun K hK' => ?_
  have hrun := run_make (P := Tryz.prog) w 37 46 i _ Tryz.underlying37 hi hz0 kl kc n n (by omega) (by omega) (by rw [hb4]; omega) (by omega)
  simp only [Int.toNat_natCast] at hrun
  unfold Oper.wp
  simp only [execOp, hop, hl, hc]
  simp [hrun, Result.andThen]
  refine hK' _ _ (hK _ _ hbase (Nat.le_refl _) (fun r => ?_) (hb.alloc hbase _) ((Below.refl _ _).alloc (Nat.le_refl _) _))
  refine ⟨fun j => (madeCells (Value.cells (.agg #[.bool false, .slice none 0 0, .slice none 0 0])) (n * 3))[j]?.getD undef, ⟨_, heap_alloc_new _ _, ?_, fun j hj => ?_⟩, fun j hj => absurd hj (by omega)⟩
  · rw [size_madeCells, hs1]
  · rw [hs1]
    have : j < (madeCells (Value.cells (.agg #[.bool false, .slice none 0 0, .slice none 0 0])) (n * 3)).size := by rw [size_madeCells]; exact hj
    simp only [Array.getElem?_eq_getElem this, Option.getD_some]

end Go.Proofs.YtdbiedpdibjdlaaGreat

/-
  The walk of binomial's Canonical.
-/
namespace Go.Proofs.YtdbiedpdibjdlaaGreat
open Go.RowKit AC
set_option linter.unusedVariables false
set_option linter.unusedSimpArgs false

/-- How many numbers are left without the zeros at the end. -/
def cutQ (r : Nat → Rat) : Nat → Nat
  | 0 => 0
  | n + 1 => if r n = 0 then cutQ r n else n + 1
theorem cutQ_le (r : Nat → Rat) : ∀ n, cutQ r n ≤ n
  | 0 => Nat.le_refl _
  | n + 1 => by unfold cutQ; split; · exact Nat.le_trans (cutQ_le r n) (by omega)
                · omega
theorem sgnQ_zero {q : Rat} : sgnQ q = 0 ↔ q = 0 := by
  unfold sgnQ
  rw [Int.sign_eq_zero_iff_zero]
  exact Rat.num_eq_zero

/-- One element of a list of numbers, read later. -/
theorem RatsV.at_ {w wr : World} {lo : Nat} {A : Option Addr} {c k K : Nat} {r : Nat → Rat} (h : RatsV w lo (.slice A k c) k K r) (hb : Below w.heap.size w wr) {i : Nat} (hi : i < k) :
    ∃ b off s An kn cn Ad kd cd, A = some ⟨b, off, none⟩ ∧ b < w.heap.size ∧ wr.cell? ⟨b, off + i * 3, none⟩ = some (.bool s) ∧ wr.cell? ⟨b, off + i * 3 + 1, none⟩ = some (.slice An kn cn) ∧ wr.cell? ⟨b, off + i * 3 + 2, none⟩ = some (.slice Ad kd cd) ∧
      RatV wr lo (.agg #[.bool s, .slice An kn cn, .slice Ad kd cd]) K (r i) := by
  obtain ⟨A', c', e, _, _, h3⟩ := h
  injection e with e1 e2 e3
  subst e1
  obtain ⟨b, off, rfl, h4, h5, h6⟩ := h3 (by omega)
  obtain ⟨s, An, kn, cn, Ad, kd, cd, g1, g2, g3, g4⟩ := h6 i hi
  exact ⟨b, off, s, An, kn, cn, Ad, kd, cd, rfl, h5, (hb.cell (p := ⟨b, _, none⟩) h5).trans g1, (hb.cell (p := ⟨b, _, none⟩) h5).trans g2, (hb.cell (p := ⟨b, _, none⟩) h5).trans g3, g4.below hb⟩

theorem RatsV.form {w : World} {lo : Nat} {v : Value} {k K : Nat} {r : Nat → Rat} (h : RatsV w lo v k K r) : ∃ A c, v = .slice A k c ∧ k ≤ c ∧ c ≤ 9223372036854775807 := by
  obtain ⟨A, c, rfl, h1, h2, _⟩ := h
  unfold maxLen at h2
  exact ⟨A, c, rfl, h1, by omega⟩

theorem RatsV.size {w : World} {lo : Nat} {v : Value} {k K : Nat} {r : Nat → Rat} (h : RatsV w lo v k K r) {i : Nat} (hi : i < k) : sz (r i) ≤ K + 1 := by
  obtain ⟨A, c, rfl, h1, h2, _⟩ := id h
  obtain ⟨_, _, _, _, _, _, _, _, _, _, _, _, _, _, h5⟩ := h.at_ (Below.refl _ _) hi
  exact h5.size

set_option maxHeartbeats 2000000 in
theorem canonicalL_any (w : World) (lo : Nat) (v : Value) (k K : Nat) (r : Nat → Rat) (hv : RatsV w lo v k K r) (hk : k ≤ 4294967296) (hK : K ≤ 4000000000) :
    Calls Tryz.prog 51 #[v] w (Ret fun v2 w' => RatsV w' w.heap.size v2 (cutQ r k) (K + 1) r ∧ Below w.heap.size w w') := by
  have HV := Lib.hid hv
  obtain ⟨A, c, rfl, hkc, hcm⟩ := hv.form
  clear hv
  go_enter Tryz.func51, Tryz.ntmps51
  go_upto_block 0 with (fail)
  go_cut [3] (fun nv wx => nv = .int .i64 ((cutQ r k : Nat) : Int) ∧ Below w.heap.size w wx)
  case first =>
    go_wp2
    go_loopw [3] (fun nv wr => ∃ m : Nat, m ≤ k ∧ nv = .int .i64 m ∧ Hid (cutQ r k = cutQ r m) ∧ Below w.heap.size w wr) (fun nv _ => (intOf nv).toNat)
    case atStart => exact ⟨k, Nat.le_refl _, rfl, rfl, Below.refl _ _⟩
    case round =>
      obtain ⟨m, hm, rfl, hcut, hbw⟩ := hrel
      by_cases hgo : ∃ m', m = m' + 1 ∧ r m' = 0
      · obtain ⟨m, rfl, hz⟩ := hgo
        obtain ⟨b, off, s, An, kn, cn, Ad, kd, cd, rfl, hbb, g1, g2, g3, g4⟩ := HV.out.at_ hbw (i := m) (by omega)
        have HE := Lib.hid g4
        have hgt : decide ((0 : Int) < (m : Int) + 1) = true := by rw [decide_eq_true_iff]; omega
        have hcn : Hid (cutQ r k = cutQ r m) := by
          show _ = _
          rw [hcut.out]
          show (if r m = 0 then cutQ r m else m + 1) = _
          rw [if_pos hz]
        have HZ := Lib.hid (sgnQ_zero.2 hz)
        clear g4 hz
        go_wp2_with fail
        refine (Sign_any _ lo _ K (r m) HE.out (by omega)).mono ?_
        rintro e w1 ⟨rfl, hb1⟩
        rw [HZ.out]
        go_wp2
        go_roundw
        case rel => exact ⟨m, by omega, by go_num, hcn, hbw.trans (hb1.mono hbw.size)⟩
        case measure => simp [intOf]
      · have hfin : Hid (cutQ r k = m) := by
          show _ = _
          rw [hcut.out]
          rcases m with _ | m
          · rfl
          · show (if r m = 0 then cutQ r m else m + 1) = _
            rw [if_neg (fun h => hgo ⟨m, rfl, h⟩)]
        rcases m with _ | m
        · go_wp2
          go_meet
          exact ⟨by rw [hfin.out], hbw⟩
        · obtain ⟨b, off, s, An, kn, cn, Ad, kd, cd, rfl, hbb, g1, g2, g3, g4⟩ := HV.out.at_ hbw (i := m) (by omega)
          have HE := Lib.hid g4
          have hgt : decide ((0 : Int) < (m : Int) + 1) = true := by rw [decide_eq_true_iff]; omega
          have hz : r m ≠ 0 := fun h => hgo ⟨m, rfl, h⟩
          obtain ⟨si, hsi⟩ : ∃ si, Hid (si = sgnQ (r m)) := ⟨_, rfl⟩
          have hsz : (si == 0) = false := by rw [beq_eq_false_iff_ne, hsi.out]; exact fun h => hz (sgnQ_zero.1 h)
          clear g4 hz hgo
          go_wp2_with fail
          refine (Sign_any _ lo _ K (r m) HE.out (by omega)).mono ?_
          rintro e w1 ⟨rfl, hb1⟩
          rw [← hsi.out]
          go_wp2
          go_meet
          exact ⟨by rw [hfin.out]; rfl, hbw.trans (hb1.mono hbw.size)⟩
  case rest =>
    obtain ⟨rfl, hbc⟩ := hcut
    have hcl := cutQ_le r k
    obtain ⟨n, hn⟩ : ∃ n, Hid (n = cutQ r k) := ⟨_, rfl⟩
    rw [← hn.out] at hcl ⊢
    go_wp2_with (at_make; refine wpList_mkQ _ rfl _ _ rfl _ _ _ _ n (by rfl) (by rfl) rfl rfl (by omega) w.heap.size w hbc hbc.size ?_; intro b w1 hlb1 hlb2 hrow1 hbw1 hbw2)
    go_loopw [25] (fun iv wr => ∃ i : Nat, i ≤ n ∧ iv = .int .i64 i ∧ RowQ wr b n i r ∧ Below w.heap.size w wr) (fun iv _ => n - (intOf iv).toNat)
    case atStart => exact ⟨0, by omega, rfl, hrow1 r, hbw1⟩
    case round =>
      obtain ⟨i, hi, rfl, hrow, hbw⟩ := hrel
      by_cases hlt : i < n
      · obtain ⟨ba, off, s, An, kn, cn, Ad, kd, cd, rfl, hbb, g1, g2, g3, g4⟩ := HV.out.at_ hbw (i := i) (by omega)
        have HE := Lib.hid g4
        clear g4
        go_wp2_with fail
        refine (canonical_any _ lo _ K (r i) HE.out (by omega)).mono ?_
        rintro e w2 ⟨v2, rfl, hr2, hb2⟩
        have hrow2 := hrow.below hb2
        obtain ⟨u0, hu0⟩ := hrow2.there (i := i * 3) (by omega)
        obtain ⟨u1, hu1⟩ := hrow2.there (i := i * 3 + 1) (by omega)
        obtain ⟨u2, hu2⟩ := hrow2.there (i := i * 3 + 2) (by omega)
        have f0 := hrow2.frozen (i * 3)
        have f1 := hrow2.frozen (i * 3 + 1)
        have f2 := hrow2.frozen (i * 3 + 2)
        have hlr := hrow.lt
        have hst := Lib.hid (hr2.lower (show b + 1 ≤ wr.heap.size by omega))
        obtain ⟨A2, c2, A3, c3, rfl, _, _⟩ := FracR.form hr2
        have hbq := hbw.trans (hb2.mono hbw.size)
        have HROW := Lib.hid hrow2
        clear hrow hrow2 hr2 hb2
        go_wp2
        go_roundw
        case rel => exact ⟨i + 1, by omega, by go_num, RowQ.store HROW.out hst.out, ((hbq.setCell (p := ⟨b, _, none⟩) hlb1 _).setCell (p := ⟨b, _, none⟩) hlb1 _).setCell (p := ⟨b, _, none⟩) hlb1 _⟩
        case measure => simp [intOf]; omega
      · obtain rfl : i = n := by omega
        go_wp2
        go_ret
        refine ⟨.slice (some ⟨b, 0, none⟩) i i, rfl, ?_, hbw⟩
        rw [← hn.out]
        exact hrow.toV (Nat.le_refl _) hlb1 (by omega) (fun j hj => HV.out.size (by omega))

end Go.Proofs.YtdbiedpdibjdlaaGreat

/-
  The walk of binomial's combine with rational.Sub.
-/
namespace Go.Proofs.YtdbiedpdibjdlaaGreat
open Go.RowKit AC
set_option linter.unusedVariables false
set_option linter.unusedSimpArgs false

set_option maxHeartbeats 2000000 in
theorem combine_any (w : World) (lo lo' : Nat) (v v' : Value) (k K K' : Nat) (r r' : Nat → Rat) (hv : RatsV w lo v k K r) (hv' : RatsV w lo' v' k K' r') (hk : k ≤ 4294967296) (hK : K + K' ≤ 4000000000) :
    Calls Tryz.prog 49 #[v, v', .func (.func 50) #[] #[]] w (Ret fun v2 w' => RatsV w' w.heap.size v2 k (K + K' + 3) (fun i => r i - r' i) ∧ Below w.heap.size w w') := by
  have HV := Lib.hid hv
  have HV' := Lib.hid hv'
  obtain ⟨A, c, rfl, hkc, hcm⟩ := hv.form
  obtain ⟨A', c', rfl, hkc', hcm'⟩ := hv'.form
  clear hv hv'
  go_enter Tryz.func49, Tryz.ntmps49
  go_wp2_with (at_make; refine wpList_mkQ _ rfl _ _ rfl _ _ _ _ k (by rfl) (by rfl) (by first | rfl | simp) (by first | rfl | simp) (by omega) w.heap.size w (Below.refl _ _) (Nat.le_refl _) ?_; intro b w1 hlb1 hlb2 hrow1 hbw1 hbw2)
  go_loopw [19] (fun iv wr => ∃ i : Nat, i ≤ k ∧ iv = .int .i64 i ∧ RowQ wr b k i (fun i => r i - r' i) ∧ Below w.heap.size w wr) (fun iv _ => k - (intOf iv).toNat)
  case atStart => exact ⟨0, by omega, rfl, hrow1 _, hbw1⟩
  case round =>
    obtain ⟨i, hi, rfl, hrow, hbw⟩ := hrel
    by_cases hlt : i < k
    · obtain ⟨ba, off, s, An, kn, cn, Ad, kd, cd, rfl, hbb, g1, g2, g3, g4⟩ := HV.out.at_ hbw (i := i) (by omega)
      obtain ⟨ba', off', s', An', kn', cn', Ad', kd', cd', rfl, hbb', g1', g2', g3', g4'⟩ := HV'.out.at_ hbw (i := i) (by omega)
      have HE := Lib.hid g4
      have HE' := Lib.hid g4'
      clear g4 g4'
      have hws := hbw.size
      have hz1 : ba < wr.heap.size := by omega
      have hz2 : ba' < wr.heap.size := by omega
      go_wp2_with fail
      refine (sub_any' _ lo lo' _ _ K K' (r i) (r' i) (HE.out.below (bel2 _ _ _)) (HE'.out.below (bel2 _ _ _)) (by omega)).mono ?_
      rintro e w2 ⟨v2, rfl, hr2, hb2⟩
      have hrow2 := (hrow.below (bel2 _ _ _)).below hb2
      obtain ⟨u0, hu0⟩ := hrow2.there (i := i * 3) (by omega)
      obtain ⟨u1, hu1⟩ := hrow2.there (i := i * 3 + 1) (by omega)
      obtain ⟨u2, hu2⟩ := hrow2.there (i := i * 3 + 2) (by omega)
      have f0 := hrow2.frozen (i * 3)
      have f1 := hrow2.frozen (i * 3 + 1)
      have f2 := hrow2.frozen (i * 3 + 2)
      have hlr := hrow.lt
      obtain ⟨q3, hq3⟩ : ∃ q3, Hid (q3 = r i - r' i) := ⟨_, rfl⟩
      rw [← hq3.out] at hr2
      have hst := Lib.hid (hr2.lower (lo' := b + 1) (by simp; omega))
      obtain ⟨A2, c2, A3, c3, rfl, _, _⟩ := FracR.form hr2
      have hbq := (hbw.trans ((bel2 wr _ _).mono hws)).trans (hb2.mono (by simp; omega))
      have HROW := Lib.hid hrow2
      clear hrow hrow2 hr2 hb2
      go_wp2
      go_roundw
      case rel => exact ⟨i + 1, by omega, by go_num, RowQ.store HROW.out (by rw [hq3.out] at hst ⊢; exact hst.out), ((hbq.setCell (p := ⟨b, _, none⟩) hlb1 _).setCell (p := ⟨b, _, none⟩) hlb1 _).setCell (p := ⟨b, _, none⟩) hlb1 _⟩
      case measure => simp [intOf]; omega
    · obtain rfl : i = k := by omega
      go_wp2
      go_ret
      refine ⟨.slice (some ⟨b, 0, none⟩) i i, rfl, ?_, hbw⟩
      refine hrow.toV (Nat.le_refl _) hlb1 (by omega) (fun j hj => ?_)
      have h1 := HV.out.size hj
      have h2 := HV'.out.size hj
      have h3 := sz_sub (r j) (r' j)
      omega

end Go.Proofs.YtdbiedpdibjdlaaGreat

