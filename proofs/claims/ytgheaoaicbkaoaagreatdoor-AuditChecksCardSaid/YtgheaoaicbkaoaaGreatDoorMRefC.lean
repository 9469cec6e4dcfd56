/-
  The walk of the reference's natMul.
-/
import Derived.Test.YtgheaoaicbkaoaaGreatDoorMRefB
import Derived.Laws.FloatArith
namespace Go.Proofs.YtgheaoaicbkaoaaGreatDoor
open Go.RowKit AC
set_option linter.unusedVariables false
set_option linter.unusedSimpArgs false

/-- The inner loop of natMul: under way, or one step behind the end. -/
def MulIn (w : World) (b i n m : Nat) (cv jv : Value) (wr : World) : Prop :=
  (∃ (j c : Nat) (g : Nat → Nat), j ≤ dl m ∧ c < 1000000000 ∧ jv = .int .i64 j ∧ cv = .int .u64 c ∧ Hid (∀ t, t < dl n + dl m + 1 → g t < B) ∧
          Hid (∀ t, i + j ≤ t → t < dl n + dl m + 1 → g t = dg (n % B ^ i * m) t) ∧ Hid (vs g (i + j) + c * B ^ (i + j) = (n % B ^ i * m) % B ^ (i + j) + dg n i * (m % B ^ j) * B ^ i) ∧
          RowU wr b 120 (dl n + dl m + 1) g ∧ Below w.heap.size w wr) ∨
  (jv = .int .i64 ((dl m : Int) + 1) ∧ cv = .int .u64 0 ∧ RowU wr b 120 (dl n + dl m + 1) (dg (n % B ^ (i + 1) * m)) ∧ Below w.heap.size w wr)

set_option maxHeartbeats 2000000 in
theorem natMul_any (w : World) (lo lo' : Nat) (v v' : Value) (n m : Nat) (hv : NatR w lo v n) (hv' : NatR w lo' v' m) (hk : dl n ≤ 4294967296) (hk' : dl m ≤ 4294967296) :
    Calls Tryz.prog 72 #[v, v'] w (Ret fun v2 w' => NatR w' w.heap.size v2 (n * m) ∧ Below w.heap.size w w') := by
  obtain ⟨_, A, c, rfl, hkc, hcm, hb⟩ := hv
  obtain ⟨_, A', c', rfl, hkc', hcm', hb'⟩ := hv'
  unfold maxLen at hcm hcm'
  have HB := Lib.hid hb
  have HB' := Lib.hid hb'
  clear hb hb'
  go_enter Tryz.func72, Tryz.ntmps72
  go_wp2_with (at_make; refine wpList_mkn _ rfl _ _ 25 rfl w.heap.size 120 Tryz.underlying25 info_u32 _ _ _ _ (dl n + dl m + 1) (by rfl) (by rfl) (by omega) (by omega) (by omega) w (Below.refl _ _) (Nat.le_refl _) ?_; intro b w1 hlb1 _ hrow1 hbw1 _)
  go_loopw [6] (fun i wr => ∃ i0 : Nat, i0 ≤ dl n ∧ i = .int .i64 i0 ∧ RowU wr b 120 (dl n + dl m + 1) (dg (n % B ^ i0 * m)) ∧ Below w.heap.size w wr) (fun i _ => dl n - (intOf i).toNat)
  case atStart =>
    refine ⟨0, by omega, rfl, hrow1.congr fun t _ => ?_, hbw1⟩
    rw [Nat.pow_zero, Nat.mod_one, Nat.zero_mul]; unfold dg; simp
  case round =>
    obtain ⟨i, hi, rfl, hrow, hbw⟩ := hrel
    by_cases hlt : i < dl n
    · obtain ⟨ba, off, rfl, hlb, hbb, hcell⟩ := HB.out (by omega)
      have hca : Hid (∀ wx, Below w.heap.size w wx → wx.cell? ⟨ba, off + i, none⟩ = some (.int .u32 ((dg n i : Nat) : Int))) := fun wx hx => (hx.cell (p := ⟨ba, off + i, none⟩) hbb).trans (hcell i hlt)
      have hda : dg n i < 1000000000 := dg_lt n i
      clear hcell
      go_wp2
      go_loopw [7, 8] (fun cv jv wr => MulIn w b i n m cv jv wr) (fun _ jv _ => dl m + 1 - (intOf jv).toNat)
      case atStart =>
        refine .inl ⟨0, 0, dg (n % B ^ i * m), by omega, by omega, rfl, rfl, fun t _ => dg_lt _ _, fun _ _ _ => rfl, ?_, hrow, hbw⟩
        show _ = _
        rw [vs_dg, Nat.pow_zero, Nat.mod_one]; simp
      case round =>
        rcases hrel with ⟨j, c, g, hj, hc, rfl, rfl, hgB, hghi, hgv, hrow', hbw'⟩ | ⟨rfl, rfl, hrow', hbw'⟩
        · by_cases hjm : j < dl m
          · obtain ⟨bb, off', rfl, hlb', hbb', hcell'⟩ := HB'.out (by omega)
            have hc1 := hca.out wr hbw'
            have hc2 := (hbw'.cell (p := ⟨bb, off' + j, none⟩) hbb').trans (hcell' j hjm)
            have hc3 := hrow'.cell (i := i + j) (by omega)
            have hfz := hrow'.frozen (i + j)
            rw [hghi.out (i + j) (Nat.le_refl _) (by omega)] at hc3
            have hdb : dg m j < 1000000000 := dg_lt m j
            have hdt : dg (n % B ^ i * m) (i + j) < 1000000000 := dg_lt _ _
            obtain ⟨x, hxe⟩ : ∃ x, Hid (x = dg n i) := ⟨_, rfl⟩
            obtain ⟨y, hye⟩ : ∃ y, Hid (y = dg m j) := ⟨_, rfl⟩
            obtain ⟨t, hte⟩ : ∃ t, Hid (t = dg (n % B ^ i * m) (i + j)) := ⟨_, rfl⟩
            rw [← hxe.out] at hc1 hda
            rw [← hye.out] at hc2 hdb
            rw [← hte.out] at hc3 hdt
            have hmb := mul_bound hda hdb hdt hc
            have hm1 : ((x : Int) * y) ≤ 999999998000000001 := by have := hmb.1; omega
            have hm0 : 0 ≤ ((x : Int) * y) := by omega
            clear hmb hcell'
            go_wp2
            go_quiet (fail)
            go_wp2
            go_roundw
            case rel =>
              have hs := (mul_bound hda hdb hdt hc).2
              have h9 : (x * y + t + c) / 1000000000 < 1000000000 := by omega
              refine .inl ⟨j + 1, (x * y + t + c) / 1000000000, upd g (i + j) ((x * y + t + c) % 1000000000), by omega, h9, by go_num, by go_num, ?_, ?_, ?_, RowU.set (RowU.drewN hrow' _) (i + j) (by go_num), Below.setCell (hbw'.drewN _) hlb1 _⟩
              · intro t' ht'
                by_cases e : t' = i + j
                · subst e; rw [upd_same]; exact Nat.mod_lt _ B_pos
                · rw [upd_other g _ e]; exact hgB.out t' ht'
              · intro t' h1 h2
                rw [upd_other g _ (by omega)]; exact hghi.out t' (by omega) h2
              · have h1 := mul_step (g := g) (T := n % B ^ i * m) (x := x) (y := y) (c := c) (K := i + j) (s := x * y + t + c) (by rw [hte.out]) hgv.out
                show vs _ (i + (j + 1)) + _ * B ^ (i + (j + 1)) = _
                rw [show i + (j + 1) = i + j + 1 by omega, h1, ← mul_part, hxe.out, hye.out]
            case measure => simp [intOf]; omega
          · obtain rfl : j = dl m := by omega
            have hfz := hrow'.frozen (i + dl m)
            have hc3 := hrow'.cell (i := i + dl m) (by omega)
            have hT : n % B ^ i * m < B ^ (i + dl m) := by
              rw [Nat.pow_add]
              have h1 := Nat.mod_lt n (Bp_pos i)
              have h2 := lt_dl m
              rcases Nat.eq_zero_or_pos m with h0 | h0
              · subst h0; rw [Nat.mul_zero]; exact Nat.mul_pos (Bp_pos _) (Bp_pos _)
              · exact Nat.mul_lt_mul_of_lt_of_le h1 (Nat.le_of_lt h2) (Bp_pos _)
            have hg0 : g (i + dl m) = 0 := (hghi.out (i + dl m) (Nat.le_refl _) (by omega)).trans (dg_far hT)
            have HDN := Lib.hid (mul_done hgB.out hc (by omega) hghi.out hgv.out)
            rw [hg0] at hc3
            have HG := Lib.hid hg0
            clear hT hg0
            by_cases hc0 : 0 < c
            · go_wp2
              go_roundw
              case rel =>
                refine .inr ⟨by go_num, by go_num, RowU.congr (RowU.set hrow' (i + dl m) (z := c) (by go_num)) HDN.out, Below.setCell hbw' hlb1 _⟩
              case measure => simp [intOf]
            · obtain rfl : c = 0 := by omega
              go_wp2
              go_roundw
              case rel =>
                refine ⟨i + 1, by omega, by go_num, RowU.congr hrow' fun t ht => ?_, hbw'⟩
                rw [← HDN.out t ht]
                by_cases e : t = i + dl m
                · subst e; rw [upd_same, HG.out]
                · rw [upd_other g _ e]
              case measure => simp [intOf]; omega
        · go_wp2
          go_roundw
          case rel => exact ⟨i + 1, by omega, by go_num, hrow', hbw'⟩
          case measure => simp [intOf]; omega
    · obtain rfl : i = dl n := by omega
      have hT : Hid (n % B ^ dl n * m = n * m) := by show _ = _; rw [Nat.mod_eq_of_lt (lt_dl n)]
      rw [hT.out] at hrow
      have hlt2 : Hid (n * m < B ^ (dl n + dl m + 1)) := Nat.lt_of_lt_of_le (lt_dl _) (Nat.pow_le_pow_right B_pos (Nat.le_succ_of_le (dl_mul_le n m)))
      go_wp2_with fail
      refine (cut_any _ _ _ _ _ (hrow.limbs hlb1 (by omega) fun i _ => Nat.lt_trans (dg_lt _ i) (by decide)) hlt2.out (by omega)).mono ?_
      rintro e w' ⟨v', rfl, hnat, hb2⟩
      go_wp2
      go_ret
      exact ⟨v', rfl, hnat.lower hbw.size, hbw.trans (hb2.mono hbw.size)⟩

end Go.Proofs.YtgheaoaicbkaoaaGreatDoor

/-
  The walk of the reference's guess: only its bound counts.
-/
namespace Go.Proofs.YtgheaoaicbkaoaaGreatDoor
open Go.RowKit AC
set_option linter.unusedVariables false
set_option linter.unusedSimpArgs false

/-- What an operation on floats gives, and how often it asks: nothing is said about the bits. -/
def flW (op : BinOp) (k : FloatKind) (x y : Nat) (w : World) : Nat × Nat :=
  match floatBits op k x y with
  | some r => (r, 0)
  | none => ((Question.nanBits k x y).cut (w.tape w.drawn (.nanBits k x y)), 1)
theorem run_fl (P : Program) (w : World) (op : BinOp) (hop : op = .mul ∨ op = .add ∨ op = .quo) (t : TypeId) (k : FloatKind) (x y : Nat) :
    (binOp op t (.float k x) (.float k y)).run P w = .ok (.float k (flW op k x y w).1) (w.drewN (flW op k x y w).2) := by
  cases h : floatBits op k x y with
  | some r => rw [run_float_arith w op t k x y r h]; simp [flW, h]; rfl
  | none =>
    rcases hop with rfl | rfl | rfl <;> (simp only [floatBits] at h; simp [binOp, Op.floatArith, h, flW, floatBits]; rfl)
/-- The same for a conversion to uint64. -/
def cvW (b : Nat) (w : World) : Int × Nat :=
  match floatToIntVal .f64 b .u64 with
  | some n => (n, 0)
  | none => (IntKind.u64.wrap ((Question.floatToInt .f64 b .u64).cut (w.tape w.drawn (.floatToInt .f64 b .u64))), 1)
theorem run_cv (P : Program) (w : World) (src dst : TypeId) (b : Nat) (hs : (P.underlying src).isSome = true) (hd : P.underlying dst = some (.int .u64)) :
    (convert src dst (.float .f64 b)).run P w = .ok (.int .u64 (cvW b w).1) (w.drewN (cvW b w).2) := by
  cases h : floatToIntVal .f64 b .u64 with
  | some n => rw [run_convert_float_int w src dst .f64 .u64 b n hs hd h]; simp [cvW, h]; rfl
  | none =>
    obtain ⟨u, hs'⟩ := Option.isSome_iff_exists.1 hs
    have h2 : (Conv.floatToInt .f64 b .u64).run P w = .ok (.int .u64 (cvW b w).1) (w.drewN (cvW b w).2) := by
      simp only [cvW, h]
      unfold floatToIntVal at h
      unfold Conv.floatToInt
      split at h
      · rename_i m he
        split at h
        · cases h
        · rename_i hb
          simp [he, hb]; rfl
      · rename_i he
        simp [he]; rfl
    cases u <;> simp [convert, run_underlying hs', run_underlying hd, h2]
theorem guess_fin (w w' : World) (x : Int) (h : IntKind.u64.wrap x ≤ 999999999) (hq : Qt w w') : ∃ d : Nat, d ≤ 999999999 ∧ Ending.returned (.int .u64 (IntKind.u64.wrap x)) = .returned (.int .u64 d) ∧ Qt w w' := by
  have h0 : 0 ≤ IntKind.u64.wrap x := by
    simp [IntKind.wrap, IntKind.bits, IntKind.signed]
    omega
  refine ⟨(IntKind.u64.wrap x).toNat, by omega, ?_, hq⟩
  rw [Int.toNat_of_nonneg h0]

set_option maxHeartbeats 2000000 in
theorem guess_any (w : World) (lo lo' : Nat) (v v' : Value) (n m : Nat) (hv : NatR w lo v n) (hv' : NatR w lo' v' m) (hm2 : 2 ≤ dl m) (hnm : dl n ≤ dl m + 1) :
    Calls Tryz.prog 123 #[v, v'] w (fun e w' => ∃ d : Nat, d ≤ 999999999 ∧ e = .returned (.int .u64 d) ∧ Qt w w') := by
  obtain ⟨_, A, c, rfl, hkc, hcm, hb⟩ := hv
  obtain ⟨_, A', c', rfl, hkc', hcm', hb'⟩ := hv'
  unfold maxLen at hcm hcm'
  obtain ⟨b', off', rfl, hlb', hbb', hcell'⟩ := hb' (by omega)
  have hc1 := hcell' (dl m - 1) (by omega)
  have hc2 := hcell' (dl m - 2) (by omega)
  have hd1 : dg m (dl m - 1) < 1000000000 := dg_lt _ _
  have hd2 : dg m (dl m - 2) < 1000000000 := dg_lt _ _
  have hd0 : 0 < dg m (dl m - 1) := Nat.pos_of_ne_zero (dg_top (by intro h; rw [h, dl_zero] at hm2; omega))
  clear hcell' hb'
  by_cases hlt : dl n < dl m
  · go_enter Tryz.func123, Tryz.ntmps123
    go_wp2
    go_ret
    exact ⟨0, by omega, rfl, Qt.refl _⟩
  · obtain ⟨b, off, rfl, hlb, hbb, hcell⟩ := hb (by omega)
    have hc3 := hcell (dl m - 1) (by omega)
    have hc4 := hcell (dl m - 2) (by omega)
    have hd3 : dg n (dl m - 1) < 1000000000 := dg_lt _ _
    have hd4 : dg n (dl m - 2) < 1000000000 := dg_lt _ _
    have hd5 : dg n (dl m) < 1000000000 := dg_lt _ _
    obtain ⟨x1, hx1⟩ : ∃ x, x = dg m (dl m - 1) := ⟨_, rfl⟩
    obtain ⟨x2, hx2⟩ : ∃ x, x = dg m (dl m - 2) := ⟨_, rfl⟩
    obtain ⟨x3, hx3⟩ : ∃ x, x = dg n (dl m - 1) := ⟨_, rfl⟩
    obtain ⟨x4, hx4⟩ : ∃ x, x = dg n (dl m - 2) := ⟨_, rfl⟩
    obtain ⟨x5, hx5⟩ : ∃ x, x = dg n (dl m) := ⟨_, rfl⟩
    have hc5 := fun h => hcell (dl m) h
    rw [← hx1] at hc1 hd1 hd0
    rw [← hx2] at hc2 hd2
    rw [← hx3] at hc3 hd3
    rw [← hx4] at hc4 hd4
    rw [← hx5] at hd5 hc5
    obtain ⟨k, hk⟩ : ∃ k, dl m = k + 2 := ⟨dl m - 2, by omega⟩
    rw [hk] at hc1 hc2 hc3 hc4 hc5 hkc' hnm hlt ⊢
    have e1 : k + 2 - 1 = k + 1 := rfl
    have e2 : k + 2 - 2 = k := rfl
    rw [e1] at hc1 hc3
    rw [e2] at hc2 hc4
    clear hcell hb hx1 hx2 hx3 hx4 hx5 hk
    by_cases heq : dl n = k + 2
    · rw [heq]
      clear hc5
      have hee : (((k : Int) + 2) == ((k : Int) + 2)) = true := by simp
      go_enter Tryz.func123, Tryz.ntmps123
      go_wp2
      go_quiet (fail)
      go_wp2
      go_quiet (fail)
      go_wp2
      go_ret
      refine ⟨(x3 * 1000000000 + x4) / (x1 * 1000000000 + x2), ?_, by go_num, Qt.of _ _⟩
      have : (x3 * 1000000000 + x4) / (x1 * 1000000000 + x2) < 1000000000 := by
        rw [Nat.div_lt_iff_lt_mul (by omega)]
        omega
      omega
    · obtain ⟨h5⟩ : Nonempty (dl n = k + 3) := ⟨by omega⟩
      rw [h5] at hc5 ⊢
      have hc6 := hc5 (by omega)
      clear hc5 heq
      have hee : (((k : Int) + 3) == ((k : Int) + 2)) = false := by rw [beq_eq_false_iff_ne]; omega
      go_enter Tryz.func123, Tryz.ntmps123
      go_wp2
      go_quiet (fail)
      go_wp2
      go_quiet (fail)
      go_wp2_with (first | (simp only [run_fl Tryz.prog _ .mul (.inl rfl), run_fl Tryz.prog _ .add (.inr (.inl rfl)), run_fl Tryz.prog _ .quo (.inr (.inr rfl))]) | (simp only [run_cv Tryz.prog _ 286 129 _ (by rw [Tryz.underlying286]; rfl) Tryz.underlying129]))
      all_goals go_ret
      · exact ⟨999999999, Nat.le_refl _, rfl, Qt.of _ _⟩
      · exact guess_fin _ _ _ (by omega) (Qt.of _ _)

end Go.Proofs.YtgheaoaicbkaoaaGreatDoor

/-
  The walk of the reference's natDiv.
-/
namespace Go.Proofs.YtgheaoaicbkaoaaGreatDoor
open Go.RowKit AC
set_option linter.unusedVariables false
set_option linter.unusedSimpArgs false

theorem row_cons (f : Nat → Nat) (z k : Nat) : row (fun i => if i = 0 then z else f (i - 1)) (k + 1) = .int .u32 ((z : Nat) : Int) :: row f k := by
  unfold row
  rw [List.range_succ_eq_map, List.map_cons, List.map_map]
  rfl

/-- 'append([]uint32{z}, x...)'. -/
theorem wpList_cons {P : Program} (wr : World) {z : Nat} {ops : Array Oper} {rest : List Oper} {o : Oper} {a : Act} {Q : Exit → Act → World → Prop} (hgd : o.guard = none) (s x : Operand) (t : TypeId)
    (ho : o.op = .call { callee := .builtin .append, args := #[s, x], argTypes := #[t, t] })
    (e : TypeId) (ht : P.underlying t = some (.slice e)) (hinfo : (P.info? e).map (fun i => (i.zero, i.size, i.bytes)) = some (some (.int .u32 0), 1, 4))
    (hs : a.eval s = .slice (some ⟨wr.heap.size, 0, none⟩) 1 1) (A : Option Addr) (k c : Nat) (f : Nat → Nat) (hx : a.eval x = .slice A k c) (lo : Nat) (hl : Limbs wr lo (.slice A k c) k f)
    (hk : k ≤ 4294967296000)
    (h : ∀ v' w', Own w' wr.heap.size e v' (k + 1) (fun i => if i = 0 then z else f (i - 1)) → Below wr.heap.size wr w' → wpList P ops Q rest (a.put o.dst v') w') : wpList P ops Q (o :: rest) a (wr.alloc (.cells #[.int .u32 ((z : Nat) : Int)] e)) := by
  obtain ⟨i, hi, hzz⟩ := Option.map_eq_some_iff.1 hinfo
  simp only [Prod.mk.injEq] at hzz
  obtain ⟨hz0, hs1, hb4⟩ := hzz
  obtain ⟨_, A', c', hv, _, _, hcell⟩ := Limbs.alloc hl (.cells #[.int .u32 ((z : Nat) : Int)] e)
  injection hv with hA _ hc
  subst hA
  subst hc
  have hown : (wr.alloc (.cells #[.int .u32 ((z : Nat) : Int)] e)).ownsRow wr.heap.size e 1 (.slice (some ⟨wr.heap.size, 0, none⟩) 1 1) 1 [.int .u32 ((z : Nat) : Int)] :=
    ⟨rfl, .inr ⟨wr.heap.size, 1, _, rfl, Nat.le_refl _, heap_alloc_new _ _, Nat.le_refl _, by unfold maxLen; omega, rfl, rfl⟩⟩
  have hbw : Below wr.heap.size wr (wr.alloc (.cells #[.int .u32 ((z : Nat) : Int)] e)) := (Below.refl _ _).alloc (Nat.le_refl _) _
  cases A with
  | none =>
    have hk0 : k = 0 := by
      rcases Nat.eq_zero_or_pos k with h0 | h0
      · exact h0
      · obtain ⟨b, off, hA, _⟩ := hcell h0
        cases hA
    subst hk0
    refine wpList_plain hgd fun K hK => ?_
    have hrun : (Builtin.append_ #[t, t] o.type #[.slice (some ⟨wr.heap.size, 0, none⟩) 1 1, .slice none 0 c]).run P (wr.alloc (.cells #[.int .u32 ((z : Nat) : Int)] e)) = .ok (.slice (some ⟨wr.heap.size, 0, none⟩) 1 1) (wr.alloc (.cells #[.int .u32 ((z : Nat) : Int)] e)) := by
      simp [Builtin.append_, run_underlying ht, Go.sizeOf, typeInfo, hi, Builtin.lenOf, Builtin.firstCells, storeCells]
    unfold Oper.wp
    simp only [execOp, ho, resolve, invoke, builtin, Sem.run_bind, Sem.run_pure, Result.andThen_ok, List.map_toArray, List.map_cons, List.map_nil, hs, hx, hrun]
    refine hK _ _ (h _ _ ?_ hbw)
    unfold Own
    rw [row_cons]
    exact hown
  | some ad =>
    refine wpList_append_own _ hgd s x t ho wr.heap.size e i (.int .u32 0) 1 4 ht hi hz0 hs1 hb4 rfl (by omega) _ 1 _ hs hown ad k c (row f k) hx (by rw [row_length, Nat.mul_one]) ?_ ?_ (by unfold maxLen; omega) (by omega) (by simp) ?_
    · intro j u hu
      have hj : j < k := by
        rcases Nat.lt_or_ge j k with h1 | h1
        · exact h1
        · rw [List.getElem?_eq_none (by rw [row_length]; exact h1)] at hu; cases hu
      rw [row_at f hj] at hu
      obtain ⟨b, off, hA, _, _, hc⟩ := hcell (by omega)
      injection hA with hA
      subst hA
      rw [Addr.add_lit, hc j hj]
      exact hu
    · intro u hu
      obtain ⟨_, _, rfl⟩ := List.mem_map.1 hu
      rfl
    · intro v' w' hown' hg _
      refine h v' w' ?_ (hbw.grown hg (by simp) (by simp [Value.ownBlock]))
      unfold Own
      rw [row_cons, Nat.add_comm k 1]
      exact hown'

theorem dg_cons {z r : Nat} (hz : z < B) : ∀ i, (if i = 0 then z else dg r (i - 1)) = dg (z + B * r) i := by
  intro i
  unfold dg
  rcases i with _ | i
  · rw [if_pos rfl, Nat.pow_zero, Nat.div_one, Nat.add_mul_mod_self_left, Nat.mod_eq_of_lt hz]
  · rw [if_neg (by omega), Nat.add_sub_cancel, Nat.pow_succ, Nat.mul_comm _ B, ← Nat.div_div_eq_div_mul, Nat.add_mul_div_left _ _ B_pos, Nat.div_eq_of_lt hz, Nat.zero_add]

/-- The two results of a division. -/
def DivP (w : World) (n m : Nat) (e : Ending) (w' : World) : Prop :=
  ∃ v2 v3, e = .returned (.tuple #[v2, v3]) ∧ NatR w' w.heap.size v2 (n / m) ∧ NatR w' w.heap.size v3 (n % m) ∧ Below w.heap.size w w'

set_option maxHeartbeats 1000000 in
theorem natDiv_less (w : World) (lo lo' : Nat) (v v' : Value) (n m : Nat) (hv : NatR w lo v n) (hv' : NatR w lo' v' m) (hk : dl n ≤ 4294967296) (hlt : n < m) :
    Calls Tryz.prog 71 #[v, v'] w (DivP w n m) := by
  have HV := Lib.hid hv
  have HV' := Lib.hid hv'
  obtain ⟨A, c, rfl⟩ := Limbs.len hv
  obtain ⟨A', c', rfl⟩ := Limbs.len hv'
  have HC := Lib.hid (cmpI_lt hlt)
  clear hv hv'
  go_enter Tryz.func71, Tryz.ntmps71
  go_wp2_with fail
  refine (natCmp_any _ lo lo' _ _ n m HV.out HV'.out).mono ?_
  rintro e w1 ⟨rfl, hq1⟩
  rw [HC.out]
  go_wp2_with fail
  refine (cut_any _ lo _ (dl n) n (Limbs.below HV.out (hq1.below _)) (lt_dl n) (by omega)).mono ?_
  rintro e w2 ⟨v2, rfl, hn2, hb2⟩
  go_wp2
  go_ret2
  exact ⟨_, v2, rfl, by rw [Nat.div_eq_of_lt hlt]; exact NatR.zero _ _, by rw [Nat.mod_eq_of_lt hlt]; exact hn2.lower (hq1.below w.heap.size).size, (hq1.below _).trans (hb2.mono (hq1.below w.heap.size).size)⟩

set_option maxHeartbeats 1000000 in
theorem natDiv_small (w : World) (lo lo' : Nat) (v v' : Value) (n m : Nat) (hv : NatR w lo v n) (hv' : NatR w lo' v' m) (hk : dl n ≤ 4294967296) (hm1 : dl m = 1) (hge : m ≤ n) :
    Calls Tryz.prog 71 #[v, v'] w (DivP w n m) := by
  have HV := Lib.hid hv
  have HV' := Lib.hid hv'
  have hmB : m < 1000000000 := by have := lt_dl m; rw [hm1] at this; simpa [B_eq] using this
  have hm0 : 0 < m := by
    rcases Nat.eq_zero_or_pos m with h | h
    · rw [h, dl_zero] at hm1; omega
    · exact h
  obtain ⟨A, c, rfl⟩ := Limbs.len hv
  obtain ⟨_, A', c', rfl, _, _, hb⟩ := hv'
  obtain ⟨b, off, rfl, hlb, hbb, hcell⟩ := hb (by omega)
  have hcl := hcell 0 (by omega)
  have hd0 : dg m 0 = m := dg_zero_of hmB
  rw [hd0, Nat.add_zero] at hcl
  have HC : Hid (0 ≤ cmpI n m) := by
    show 0 ≤ cmpI n m
    rcases Nat.lt_or_ge m n with h | h
    · rw [cmpI_gt h]; omega
    · rw [cmpI_eq (by omega)]; omega
  obtain ⟨z, hz⟩ : ∃ z, z = cmpI n m := ⟨_, rfl⟩
  rw [← hz] at HC
  have HZ := Lib.hid hz
  have hz0 := HC.out
  rw [hm1] at HV' ⊢
  clear hv hb hcell hz
  go_enter Tryz.func71, Tryz.ntmps71
  go_wp2_with fail
  refine (natCmp_any _ lo lo' _ _ n m HV.out HV'.out).mono ?_
  rintro e w1 ⟨rfl, hq1⟩
  rw [← HZ.out]
  have hcl1 := ((hq1.below w.heap.size).cell (p := ⟨b, off, none⟩) hbb).trans hcl
  go_wp2_with fail
  refine (natSmall_any _ lo _ n m (Limbs.below HV.out (hq1.below _)) (by omega) hmB hm0).mono ?_
  rintro e w2 ⟨v2, rfl, hn2, hb2⟩
  have hmod : n % m < 1000000000 := Nat.lt_trans (Nat.mod_lt _ hm0) hmB
  go_wp2_with fail
  refine (limbs_any _ (n % m) (by omega)).mono ?_
  rintro e w3 ⟨v3, rfl, hn3, hb3⟩
  go_wp2
  go_ret2
  have s1 := (hq1.below w.heap.size).size
  have s2 := hb2.size
  exact ⟨v2, v3, rfl, (hn2.below hb3).lower s1, hn3.lower (by omega), ((hq1.below _).trans (hb2.mono s1)).trans (hb3.mono (by omega))⟩

end Go.Proofs.YtgheaoaicbkaoaaGreatDoor

