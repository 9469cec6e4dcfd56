/-
  The walk of the reference's natDiv.
-/
import Derived.Test.YtafhbipafbchcaaRefD
namespace Go.Proofs.Ytafhbipafbchcaa
open Go.RowKit AC
set_option linter.unusedVariables false
set_option linter.unusedSimpArgs false

theorem row_cons (f : Nat → Nat) (z k : Nat) : row (fun i => if i = 0 then z else f (i - 1)) (k + 1) = .int .u32 ((z : Nat) : Int) :: row f k := by
  unfold row
  rw [List.range_succ_eq_map, List.map_cons, List.map_map]
  rfl

/-- 'append([]uint32{z}, x...)'. -/
theorem wpList_cons {P : Program} (wr : World) {z : Nat} {ops : Array Oper} {rest : List Oper} {o : Oper} {a : Act} {Q : Exit → Act → World → Prop} (hgd : o.guard = none) (s x : Operand) (t : TypeId)
    (ho : o.op = .call { callee := .builtin .append, args := #[s, x], argTypes := #[t, t] })
    (e : TypeId) (ht : P.underlying t = some (.slice e)) (hinfo : (P.info? e).map (fun i => (i.zero, i.size, i.bytes)) = some (some (.int .u32 0), 1, 4))
    (hs : a.eval s = .slice (some ⟨wr.heap.size, 0, none⟩) 1 1) (A : Option Addr) (k c : Nat) (f : Nat → Nat) (hx : a.eval x = .slice A k c) (lo : Nat) (hl : Limbs wr lo (.slice A k c) k f)
    (hk : k ≤ 4294967296000)
    (h : ∀ v' w', Own w' wr.heap.size e v' (k + 1) (fun i => if i = 0 then z else f (i - 1)) → Below wr.heap.size wr w' → wpList P ops Q rest (a.put o.dst v') w') : wpList P ops Q (o :: rest) a (wr.alloc (.cells #[.int .u32 ((z : Nat) : Int)] e)) := by
  obtain ⟨i, hi, hzz⟩ := Option.map_eq_some_iff.1 hinfo
  simp only [Prod.mk.injEq] at hzz
  obtain ⟨hz0, hs1, hb4⟩ := hzz
  obtain ⟨_, A', c', hv, _, _, hcell⟩ := Limbs.alloc hl (.cells #[.int .u32 ((z : Nat) : Int)] e)
  injection hv with hA _ hc
  subst hA
  subst hc
  have hown : (wr.alloc (.cells #[.int .u32 ((z : Nat) : Int)] e)).ownsRow wr.heap.size e 1 (.slice (some ⟨wr.heap.size, 0, none⟩) 1 1) 1 [.int .u32 ((z : Nat) : Int)] :=
    ⟨rfl, .inr ⟨wr.heap.size, 1, _, rfl, Nat.le_refl _, heap_alloc_new _ _, Nat.le_refl _, by unfold maxLen; omega, rfl, rfl⟩⟩
  have hbw : Below wr.heap.size wr (wr.alloc (.cells #[.int .u32 ((z : Nat) : Int)] e)) := (Below.refl _ _).alloc (Nat.le_refl _) _
  cases A with
  | none =>
    have hk0 : k = 0 := by
      rcases Nat.eq_zero_or_pos k with h0 | h0
      · exact h0
      · obtain ⟨b, off, hA, _⟩ := hcell h0
        cases hA
    subst hk0
    refine wpList_plain hgd fun K hK => ?_
    have hrun : (Builtin.append_ #[t, t] o.type #[.slice (some ⟨wr.heap.size, 0, none⟩) 1 1, .slice none 0 c]).run P (wr.alloc (.cells #[.int .u32 ((z : Nat) : Int)] e)) = .ok (.slice (some ⟨wr.heap.size, 0, none⟩) 1 1) (wr.alloc (.cells #[.int .u32 ((z : Nat) : Int)] e)) := by
      simp [Builtin.append_, run_underlying ht, Go.sizeOf, typeInfo, hi, Builtin.lenOf, Builtin.firstCells, storeCells]
    unfold Oper.wp
    simp only [execOp, ho, resolve, invoke, builtin, Sem.run_bind, Sem.run_pure, Result.andThen_ok, List.map_toArray, List.map_cons, List.map_nil, hs, hx, hrun]
    refine hK _ _ (h _ _ ?_ hbw)
    unfold Own
    rw [row_cons]
    exact hown
  | some ad =>
    refine wpList_append_own _ hgd s x t ho wr.heap.size e i (.int .u32 0) 1 4 ht hi hz0 hs1 hb4 rfl (by omega) _ 1 _ hs hown ad k c (row f k) hx (by rw [row_length, Nat.mul_one]) ?_ ?_ (by unfold maxLen; omega) (by omega) (by simp) ?_
    · intro j u hu
      have hj : j < k := by
        rcases Nat.lt_or_ge j k with h1 | h1
        · exact h1
        · rw [List.getElem?_eq_none (by rw [row_length]; exact h1)] at hu; cases hu
      rw [row_at f hj] at hu
      obtain ⟨b, off, hA, _, _, hc⟩ := hcell (by omega)
      injection hA with hA
      subst hA
      rw [Addr.add_lit, hc j hj]
      exact hu
    · intro u hu
      obtain ⟨_, _, rfl⟩ := List.mem_map.1 hu
      rfl
    · intro v' w' hown' hg _
      refine h v' w' ?_ (hbw.grown hg (by simp) (by simp [Value.ownBlock]))
      unfold Own
      rw [row_cons, Nat.add_comm k 1]
      exact hown'

theorem dg_cons {z r : Nat} (hz : z < B) : ∀ i, (if i = 0 then z else dg r (i - 1)) = dg (z + B * r) i := by
  intro i
  unfold dg
  rcases i with _ | i
  · rw [if_pos rfl, Nat.pow_zero, Nat.div_one, Nat.add_mul_mod_self_left, Nat.mod_eq_of_lt hz]
  · rw [if_neg (by omega), Nat.add_sub_cancel, Nat.pow_succ, Nat.mul_comm _ B, ← Nat.div_div_eq_div_mul, Nat.add_mul_div_left _ _ B_pos, Nat.div_eq_of_lt hz, Nat.zero_add]

/-- The two results of a division. -/
def DivP (w : World) (n m : Nat) (e : Ending) (w' : World) : Prop :=
  ∃ v2 v3, e = .returned (.tuple #[v2, v3]) ∧ NatR w' w.heap.size v2 (n / m) ∧ NatR w' w.heap.size v3 (n % m) ∧ Below w.heap.size w w'

set_option maxHeartbeats 1000000 in
theorem natDiv_less (w : World) (lo lo' : Nat) (v v' : Value) (n m : Nat) (hv : NatR w lo v n) (hv' : NatR w lo' v' m) (hk : dl n ≤ 4294967296) (hlt : n < m) :
    Calls Try.prog 42 #[v, v'] w (DivP w n m) := by
  have HV := Lib.hid hv
  have HV' := Lib.hid hv'
  obtain ⟨A, c, rfl⟩ := Limbs.len hv
  obtain ⟨A', c', rfl⟩ := Limbs.len hv'
  have HC := Lib.hid (cmpI_lt hlt)
  clear hv hv'
  go_enter Try.func42, Try.ntmps42
  go_wp2_with fail
  refine (natCmp_any _ lo lo' _ _ n m HV.out HV'.out).mono ?_
  rintro e w1 ⟨rfl, hq1⟩
  rw [HC.out]
  go_wp2_with fail
  refine (cut_any _ lo _ (dl n) n (Limbs.below HV.out (hq1.below _)) (lt_dl n) (by omega)).mono ?_
  rintro e w2 ⟨v2, rfl, hn2, hb2⟩
  go_wp2
  go_ret2
  exact ⟨_, v2, rfl, by rw [Nat.div_eq_of_lt hlt]; exact NatR.zero _ _, by rw [Nat.mod_eq_of_lt hlt]; exact hn2.lower (hq1.below w.heap.size).size, (hq1.below _).trans (hb2.mono (hq1.below w.heap.size).size)⟩

set_option maxHeartbeats 1000000 in
theorem natDiv_small (w : World) (lo lo' : Nat) (v v' : Value) (n m : Nat) (hv : NatR w lo v n) (hv' : NatR w lo' v' m) (hk : dl n ≤ 4294967296) (hm1 : dl m = 1) (hge : m ≤ n) :
    Calls Try.prog 42 #[v, v'] w (DivP w n m) := by
  have HV := Lib.hid hv
  have HV' := Lib.hid hv'
  have hmB : m < 1000000000 := by have := lt_dl m; rw [hm1] at this; simpa [B_eq] using this
  have hm0 : 0 < m := by
    rcases Nat.eq_zero_or_pos m with h | h
    · rw [h, dl_zero] at hm1; omega
    · exact h
  obtain ⟨A, c, rfl⟩ := Limbs.len hv
  obtain ⟨_, A', c', rfl, _, _, hb⟩ := hv'
  obtain ⟨b, off, rfl, hlb, hbb, hcell⟩ := hb (by omega)
  have hcl := hcell 0 (by omega)
  have hd0 : dg m 0 = m := dg_zero_of hmB
  rw [hd0, Nat.add_zero] at hcl
  have HC : Hid (0 ≤ cmpI n m) := by
    show 0 ≤ cmpI n m
    rcases Nat.lt_or_ge m n with h | h
    · rw [cmpI_gt h]; omega
    · rw [cmpI_eq (by omega)]; omega
  obtain ⟨z, hz⟩ : ∃ z, z = cmpI n m := ⟨_, rfl⟩
  rw [← hz] at HC
  have HZ := Lib.hid hz
  have hz0 := HC.out
  rw [hm1] at HV' ⊢
  clear hv hb hcell hz
  go_enter Try.func42, Try.ntmps42
  go_wp2_with fail
  refine (natCmp_any _ lo lo' _ _ n m HV.out HV'.out).mono ?_
  rintro e w1 ⟨rfl, hq1⟩
  rw [← HZ.out]
  have hcl1 := ((hq1.below w.heap.size).cell (p := ⟨b, off, none⟩) hbb).trans hcl
  go_wp2_with fail
  refine (natSmall_any _ lo _ n m (Limbs.below HV.out (hq1.below _)) (by omega) hmB hm0).mono ?_
  rintro e w2 ⟨v2, rfl, hn2, hb2⟩
  have hmod : n % m < 1000000000 := Nat.lt_trans (Nat.mod_lt _ hm0) hmB
  go_wp2_with fail
  refine (limbs_any _ (n % m) (by omega)).mono ?_
  rintro e w3 ⟨v3, rfl, hn3, hb3⟩
  go_wp2
  go_ret2
  have s1 := (hq1.below w.heap.size).size
  have s2 := hb2.size
  exact ⟨v2, v3, rfl, (hn2.below hb3).lower s1, hn3.lower (by omega), ((hq1.below _).trans (hb2.mono s1)).trans (hb3.mono (by omega))⟩

end Go.Proofs.Ytafhbipafbchcaa
