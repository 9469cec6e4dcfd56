/-
  The walks of the reference's Sub and Cmp, and of keep2's Rat and Rats.
-/
import Derived.Test.YtdbiedpdibjdlaaGreatMRefK
import Derived.Test.YtdbiedpdibjdlaaGreatMMemP
import Derived.Deep.AppendLies
namespace Go.Proofs.YtdbiedpdibjdlaaGreat
open Go.RowKit AC
set_option linter.unusedVariables false
set_option linter.unusedSimpArgs false

set_option maxHeartbeats 2000000 in
theorem rSub_any (w : World) (lo lo' : Nat) (v v' : Value) (K K' : Nat) (q q' : Rat) (hv : RatV w lo v K q) (hv' : RatV w lo' v' K' q') (hK : K + K' ≤ 2000000000) :
    Calls Tryz.prog 31 #[v, v'] w (RetQ w (q - q')) := by
  have hsz : sz q' ≤ K' + 1 := hv'.size
  have HV := Lib.hid hv
  have HV' := Lib.hid hv'
  obtain ⟨s, A, k, c, A', k', c', rfl⟩ := hv.form
  obtain ⟨s2, A2, k2, c2, A3, k3, c3, rfl⟩ := hv'.form
  obtain ⟨Q, hQ⟩ : ∃ Q, Hid (Q = q + (-q')) := ⟨_, rfl⟩
  rw [Rat.sub_eq_add_neg, ← hQ.out]
  clear hv hv'
  go_enter Tryz.func31, Tryz.ntmps31
  go_upto_region 1 with (fail)
  obtain ⟨W, hW⟩ : ∃ W, W = (((w.alloc (.cells #[.bool s, .slice A k c, .slice A' k' c'] 46)).alloc (.cells #[.bool s2, .slice A2 k2 c2, .slice A3 k3 c3] 46)).alloc (.cells zero3 46)) := ⟨_, rfl⟩
  have hbW : Below w.heap.size w W := by rw [hW]; exact bel3 _ _ _ _
  have hFW : Bk W w.heap.size 46 #[.bool s, .slice A k c, .slice A' k' c'] := by rw [hW]; exact ((Bk.new _ _ _).alloc _).alloc _
  have hGW : Bk W (w.heap.size + 1) 46 #[.bool s2, .slice A2 k2 c2, .slice A3 k3 c3] := by
    rw [hW]; have := (Bk.new (w.alloc (.cells #[.bool s, .slice A k c, .slice A' k' c'] 46)) 46 #[.bool s2, .slice A2 k2 c2, .slice A3 k3 c3]).alloc (.cells zero3 46); simpa using this
  have hRW : Bk W (w.heap.size + 1 + 1) 46 zero3 := by
    rw [hW]; have := (Bk.new ((w.alloc (.cells #[.bool s, .slice A k c, .slice A' k' c'] 46)).alloc (.cells #[.bool s2, .slice A2 k2 c2, .slice A3 k3 c3] 46)) 46 zero3); simpa using this
  have hW' := hW
  simp only [zero3] at hW'
  rw [← hW']
  clear hW hW'
  refine wp_region_stable (by kernel_rfl) (by kernel_rfl) [5, 6, 7, 8] 3 (by kernel_rfl) (fun i lo hi v x => match i with
    | 0 => v = .agg #[.bool s, .slice A k c, .slice A' k' c']
    | 1 => v = .agg #[.bool s2, .slice A2 k2 c2, .slice A3 k3 c3]
    | 2 => RatR x W.heap.size v (-q')
    | _ => RatR x W.heap.size v Q) ?_ ?_ ?_
  · intro i lo hi v x x' hi h hb
    rcases i with _ | _ | _ | i
    · exact h
    · exact h
    · exact RatR.below h hb
    · exact RatR.below h hb
  · intro i o S x ho hi hbx hdep
    rcases i with _ | _ | _ | _ | i
    · cases ho
      obtain ⟨hcF, hfF, hzF⟩ := (hFW.below hbx hFW.lt).facts
      refine wpOp_plain rfl rfl fun KK hKK => ?_
      have HK := Lib.hid hKK
      clear hKK hdep hi
      simp only [putAll, Act.put, List.setIfInBounds_toArray, List.set_cons_succ, List.set_cons_zero, List.getD_cons_zero, List.getD_cons_succ, Nat.zero_add, Nat.reduceAdd] at HK ⊢
      go_wp2
      exact HK.out _ _ ⟨_, rfl, rfl, Below.refl _ _⟩
    · cases ho
      obtain ⟨hcG, hfG, hzG⟩ := (hGW.below hbx hGW.lt).facts
      refine wpOp_plain rfl rfl fun KK hKK => ?_
      have HK := Lib.hid hKK
      clear hKK hdep hi
      simp only [putAll, Act.put, List.setIfInBounds_toArray, List.set_cons_succ, List.set_cons_zero, List.getD_cons_zero, List.getD_cons_succ, Nat.zero_add, Nat.reduceAdd] at HK ⊢
      go_wp2
      exact HK.out _ _ ⟨_, rfl, rfl, Below.refl _ _⟩
    · cases ho
      obtain ⟨_, _, h1⟩ := hdep 1 (by kernel_rfl) (by decide)
      refine wpOp_plain rfl rfl fun KK hKK => ?_
      have HK := Lib.hid hKK
      clear hKK hdep hi
      simp only [putAll, Act.put, List.setIfInBounds_toArray, List.set_cons_succ, List.set_cons_zero, List.getD_cons_zero, List.getD_cons_succ, Nat.zero_add, Nat.reduceAdd] at HK ⊢
      generalize S 1 = t1 at *
      subst h1
      go_wp2_with fail
      refine (rNeg_any _ lo' _ K' q' (HV'.out.below (hbW.trans (hbx.mono hbW.size))) (by omega)).mono ?_
      rintro e xN ⟨vN, rfl, hrN, hbN⟩
      exact HK.out _ _ ⟨_, rfl, RatR.lower hrN hbx.size, hbN⟩
    · cases ho
      obtain ⟨_, _, h0⟩ := hdep 0 (by kernel_rfl) (by decide)
      obtain ⟨_, _, h2⟩ := hdep 2 (by kernel_rfl) (by decide)
      replace h2 : RatR x W.heap.size (S 2) (-q') := h2
      have H2 := Lib.hid h2
      clear h2
      refine wpOp_plain rfl rfl fun KK hKK => ?_
      have HK := Lib.hid hKK
      clear hKK hdep hi
      simp only [putAll, Act.put, List.setIfInBounds_toArray, List.set_cons_succ, List.set_cons_zero, List.getD_cons_zero, List.getD_cons_succ, Nat.zero_add, Nat.reduceAdd] at HK ⊢
      generalize S 0 = t0 at *
      subst h0
      go_wp2_with fail
      refine (rAdd_any _ lo W.heap.size _ _ K (K' + 1) q (-q') (HV.out.below (hbW.trans (hbx.mono hbW.size))) (RatR.toV H2.out (by rw [sz_neg]; exact hsz)) (by omega)).mono ?_
      rintro e xN ⟨vN, rfl, hrN, hbN⟩
      exact HK.out _ _ ⟨_, rfl, (by rw [hQ.out]; exact RatR.lower hrN hbx.size), hbN⟩
    · exact absurd hi (by simp)
  · intro S lo1 hi1 x hbx hF hdis
    have g0 : S 0 = .agg #[.bool s, .slice A k c, .slice A' k' c'] := (hF 0 (by decide)).1
    have g1 : S 1 = .agg #[.bool s2, .slice A2 k2 c2, .slice A3 k3 c3] := (hF 1 (by decide)).1
    have g2 : RatR x W.heap.size (S 2) (-q') := (hF 2 (by decide)).1
    have g3 : RatR x W.heap.size (S 3) Q := (hF 3 (by decide)).1
    clear hF hdis
    simp only [putAll, Act.put, List.setIfInBounds_toArray, List.set_cons_succ, List.set_cons_zero, List.getD_cons_zero, List.getD_cons_succ, Nat.zero_add, Nat.reduceAdd, List.length_cons, List.length_nil, List.drop_succ_cons, List.drop_zero]
    generalize S 0 = t0 at *
    subst g0
    generalize S 1 = t1 at *
    subst g1
    generalize S 2 = t2 at *
    generalize S 3 = t3 at *
    have HQ := Lib.hid g3
    obtain ⟨A1, c1, B1, e1, rfl, _, _⟩ := FracR.form g3
    have hR2 := hRW.below hbx hRW.lt
    have hbxw := hbW.trans (hbx.mono hbW.size)
    have hzx := hbx.size
    have hzW := hRW.lt
    obtain ⟨hcR, hfR, hzR⟩ := hR2.facts
    simp only [zero3] at hcR
    clear g2 g3
    go_wp2
    exact bodyPost_ret (v := .agg #[.bool (decide (Q.num < 0)), .slice A1 (dl Q.num.natAbs) c1, .slice B1 (dl Q.den) e1]) (by simp [results, Tryz.results31, go_sem, hcR]) rfl ⟨_, rfl, RatR.lower (rat_set3 HQ.out (by omega) _ _ _) (by omega), below_set3 hbxw (by omega) _ _ _⟩

set_option maxHeartbeats 2000000 in
theorem rCmp_any (w : World) (lo lo' : Nat) (v v' : Value) (K K' : Nat) (q q' : Rat) (hv : RatV w lo v K q) (hv' : RatV w lo' v' K' q') (hK : K + K' ≤ 2000000000) :
    Calls Tryz.prog 12 #[v, v'] w (fun e w' => e = .returned (.int .i64 (cmpQ q q')) ∧ Below w.heap.size w w') := by
  have hsz : sz (q - q') ≤ K + K' + 3 := by have h1 := hv.size; have h2 := hv'.size; have h3 := sz_sub q q'; omega
  have HV := Lib.hid hv
  have HV' := Lib.hid hv'
  obtain ⟨s, A, k, c, A', k', c', rfl⟩ := hv.form
  obtain ⟨s2, A2, k2, c2, A3, k3, c3, rfl⟩ := hv'.form
  clear hv hv'
  go_enter Tryz.func12, Tryz.ntmps12
  go_wp2_with fail
  refine (rSub_any _ lo lo' _ _ K K' q q' (HV.out.below (bel2 w _ _)) (HV'.out.below (bel2 w _ _)) (by omega)).mono ?_
  rintro e w1 ⟨v1, rfl, hr1, hb1⟩
  have HR1 := Lib.hid hr1
  have hbw1 := (bel2 w _ _).trans (hb1.mono (by simp; omega))
  clear hr1 hb1
  go_wp2_with fail
  refine (rSign_any _ _ _ (K + K' + 3) (q - q') (RatR.toV HR1.out hsz) (by omega)).mono ?_
  rintro e w2 ⟨rfl, hb2⟩
  go_wp2
  go_ret
  exact ⟨rfl, hbw1.trans (hb2.mono hbw1.size)⟩

/-- Both lists of limbs are short. -/
def shortB (k k' : Nat) : Bool := decide (k ≤ 2) && decide (k' ≤ 2)

theorem RatV.short {w : World} {lo : Nat} {s : Bool} {An Ad : Option Addr} {kn cn kd cd K : Nat} {q : Rat} (h : RatV w lo (.agg #[.bool s, .slice An kn cn, .slice Ad kd cd]) K q) (h1 : shortB kn kd = true) : RatV w lo (.agg #[.bool s, .slice An kn cn, .slice Ad kd cd]) 2 q := by
  obtain ⟨neg, kn', kd', fn, fd, vn, vd, e, h2, h3, h4, h5, h6⟩ := h
  simp only [Value.agg.injEq, Array.mk.injEq, List.cons.injEq, and_true] at e
  obtain ⟨e1, rfl, rfl⟩ := e
  obtain ⟨A1, c1, e2⟩ := h2.len
  obtain ⟨A2, c2, e3⟩ := h3.len
  injection e2 with _ e2 _
  injection e3 with _ e3 _
  subst e2
  subst e3
  simp only [shortB, Bool.and_eq_true, decide_eq_true_eq] at h1
  refine ⟨neg, kn, kd, fn, fd, _, _, ?_, h2, h3, h1.1, h1.2, h6⟩
  rw [e1]
theorem RatsV.snoc {w : World} {lo b off i c K : Nat} {r : Nat → Rat} (h : RatsV w lo (.slice (some ⟨b, off, none⟩) i c) i K r) (hb : lo ≤ b) (hlt : b < w.heap.size) (hic : i + 1 ≤ c) {s : Bool} {An Ad : Option Addr} {kn cn kd cd : Nat}
    (e1 : w.cell? ⟨b, off + i * 3, none⟩ = some (.bool s)) (e2 : w.cell? ⟨b, off + i * 3 + 1, none⟩ = some (.slice An kn cn)) (e3 : w.cell? ⟨b, off + i * 3 + 2, none⟩ = some (.slice Ad kd cd)) (e4 : RatV w lo (.agg #[.bool s, .slice An kn cn, .slice Ad kd cd]) K (r i)) :
    RatsV w lo (.slice (some ⟨b, off, none⟩) (i + 1) c) (i + 1) K r := by
  obtain ⟨A', c', e, h1, h2, h3⟩ := h
  injection e with eA _ ec
  subst eA
  subst ec
  refine ⟨_, _, rfl, hic, h2, fun _ => ⟨b, off, rfl, hb, hlt, fun j hj => ?_⟩⟩
  rcases Nat.lt_or_ge j i with h | h
  · obtain ⟨b', off', e', h4, h5, h6⟩ := h3 (by omega)
    injection e' with e'
    injection e' with e5 e6
    subst e5
    subst e6
    exact h6 j h
  · obtain rfl : j = i := by omega
    exact ⟨s, An, kn, cn, Ad, kd, cd, e1, e2, e3, e4⟩
theorem RatsV.empty (w : World) (lo c K : Nat) (A : Option Addr) (r : Nat → Rat) (hc : c ≤ 9223372036854775807) : RatsV w lo (.slice A 0 c) 0 K r :=
  ⟨A, c, rfl, Nat.zero_le _, by unfold maxLen; omega, fun h => absurd h (by omega)⟩

theorem RatsV.elem {w : World} {lo : Nat} {A : Option Addr} {c k K : Nat} {r : Nat → Rat} (h : RatsV w lo (.slice A k c) k K r) {i : Nat} (hi : i < k) :
    ∃ b off s An kn cn Ad kd cd, A = some ⟨b, off, none⟩ ∧ lo ≤ b ∧ b < w.heap.size ∧ w.cell? ⟨b, off + i * 3, none⟩ = some (.bool s) ∧ w.cell? ⟨b, off + i * 3 + 1, none⟩ = some (.slice An kn cn) ∧ w.cell? ⟨b, off + i * 3 + 2, none⟩ = some (.slice Ad kd cd) ∧
      RatV w lo (.agg #[.bool s, .slice An kn cn, .slice Ad kd cd]) K (r i) ∧ kn ≤ 9223372036854775807 ∧ kd ≤ 9223372036854775807 := by
  obtain ⟨A', c', e, _, _, h3⟩ := h
  injection e with e1 e2 e3
  subst e1
  obtain ⟨b, off, rfl, h4, h5, h6⟩ := h3 (by omega)
  obtain ⟨s, An, kn, cn, Ad, kd, cd, g1, g2, g3, g4⟩ := h6 i hi
  refine ⟨b, off, s, An, kn, cn, Ad, kd, cd, rfl, h4, h5, g1, g2, g3, g4, ?_⟩
  obtain ⟨neg, kn', kd', fn, fd, vn, vd, e, h2, h3, _⟩ := g4
  simp only [Value.agg.injEq, Array.mk.injEq, List.cons.injEq, and_true] at e
  obtain ⟨_, rfl, rfl⟩ := e
  have q1 := h2.short
  have q2 := h3.short
  obtain ⟨_, _, e2⟩ := h2.len
  obtain ⟨_, _, e3⟩ := h3.len
  injection e2 with _ e2 _
  injection e3 with _ e3 _
  omega

/-- What Rats says. -/
def KeptR (w : World) (lo : Nat) (v : Value) (k n : Nat) (r : Nat → Rat) (e : Ending) (w' : World) : Prop :=
  ∃ b, e = .returned (.bool b) ∧ (b = true → k ≤ n ∧ RatsV w lo v k 2 r) ∧ Below w.heap.size w w'
theorem KeptR.no {w w' : World} {lo : Nat} {v : Value} {k n : Nat} {r : Nat → Rat} (h : Below w.heap.size w w') : KeptR w lo v k n r (.returned (.bool false)) w' := ⟨false, rfl, (fun h => by cases h), h⟩
theorem KeptR.yes {w w' : World} {lo : Nat} {v : Value} {k n : Nat} {r : Nat → Rat} (h : Below w.heap.size w w') (h1 : k ≤ n) (h2 : RatsV w lo v k 2 r) : KeptR w lo v k n r (.returned (.bool true)) w' := ⟨true, rfl, (fun _ => ⟨h1, h2⟩), h⟩

end Go.Proofs.YtdbiedpdibjdlaaGreat

/-
  Words for memory: a list of numbers that the call appends to.
-/
namespace Go.Proofs.YtdbiedpdibjdlaaGreat
open Go.RowKit AC
set_option linter.unusedVariables false
set_option linter.unusedSimpArgs false

/-- v is a slice of the call's own of n structs, which hold r 0, r 1, ..; the row and the numbers lie from base on, the numbers in other blocks than the row. -/
def OwnQ (w : World) (base : Nat) (v : Value) (n K : Nat) (r : Nat → Rat) : Prop :=
  ∃ xs, w.ownsRow base 46 3 v n xs ∧ ∀ j, j < n → ∃ s An kn cn Ad kd cd, xs[j * 3]? = some (.bool s) ∧ xs[j * 3 + 1]? = some (.slice An kn cn) ∧ xs[j * 3 + 2]? = some (.slice Ad kd cd) ∧ RatVP w (fun b => base ≤ b ∧ some b ≠ v.ownBlock) (.agg #[.bool s, .slice An kn cn, .slice Ad kd cd]) K (r j)

section
variable {w w' : World} {base : Nat} {v : Value} {n K : Nat} {r : Nat → Rat}
theorem OwnQ.nil (w : World) (base K : Nat) (r : Nat → Rat) : OwnQ w base (.slice none 0 0) 0 K r := ⟨[], World.ownsRow_nil _ _ _ _, fun j hj => absurd hj (by omega)⟩
theorem OwnQ.keep (h : OwnQ w base v n K r) (hs : w.heap.size ≤ w'.heap.size) (hk : ∀ b, base ≤ b → b < w.heap.size → w'.heap[b]? = w.heap[b]?) : OwnQ w' base v n K r := by
  obtain ⟨xs, h1, h2⟩ := h
  refine ⟨xs, ⟨h1.1, ?_⟩, fun j hj => ?_⟩
  · rcases h1.2 with hn | ⟨g, cap, cur, rfl, hb, hgg, rest⟩
    · exact .inl hn
    · exact .inr ⟨g, cap, cur, rfl, hb, (hk g hb (Array.getElem?_eq_some_iff.1 hgg).1).trans hgg, rest⟩
  · obtain ⟨s, An, kn, cn, Ad, kd, cd, e1, e2, e3, e4⟩ := h2 j hj
    exact ⟨s, An, kn, cn, Ad, kd, cd, e1, e2, e3, e4.keep hs fun b hb hlt => ⟨hk b hb.1 hlt, hb⟩⟩
theorem OwnQ.below (h : OwnQ w base v n K r) (hb : Below w.heap.size w w') : OwnQ w' base v n K r := h.keep hb.size fun b _ hlt => hb.block b hlt
theorem OwnQ.alloc (h : OwnQ w base v n K r) (o : Obj) : OwnQ (w.alloc o) base v n K r := h.below ((Below.refl _ _).alloc (Nat.le_refl _) o)
theorem OwnQ.congr {r' : Nat → Rat} (h : OwnQ w base v n K r) (e : ∀ j, j < n → r j = r' j) : OwnQ w base v n K r' := by
  obtain ⟨xs, h1, h2⟩ := h
  exact ⟨xs, h1, fun j hj => by rw [← e j hj]; exact h2 j hj⟩
theorem OwnQ.form (h : OwnQ w base v n K r) : ∃ A c, v = .slice A n c ∧ n ≤ c ∧ c ≤ 9223372036854775807 := by
  obtain ⟨xs, h1, _⟩ := h
  rcases h1.2 with ⟨rfl, rfl⟩ | ⟨g, cap, cur, rfl, hb, hgg, h3, h4, _⟩
  · exact ⟨none, 0, rfl, Nat.le_refl _, by omega⟩
  · unfold maxLen at h4; exact ⟨_, cap, rfl, h3, by omega⟩
theorem OwnQ.toV (h : OwnQ w base v n K r) : RatsV w base v n K r := by
  obtain ⟨xs, h1, h2⟩ := h
  have hc := fun b (hb : v.ownBlock = some b) => h1.cells hb
  have hl := h1.lt
  rcases h1.2 with ⟨rfl, rfl⟩ | ⟨g, cap, cur, rfl, hb, hgg, h3, h4, _⟩
  · exact ⟨none, 0, rfl, Nat.le_refl _, Nat.zero_le _, fun h => absurd h (by omega)⟩
  · refine ⟨_, cap, rfl, h3, h4, fun _ => ⟨g, 0, rfl, hb, (hl g rfl).2, fun i hi => ?_⟩⟩
    obtain ⟨s, An, kn, cn, Ad, kd, cd, e1, e2, e3, e4⟩ := h2 i hi
    refine ⟨s, An, kn, cn, Ad, kd, cd, ?_, ?_, ?_, RatVP.toV (e4.keep (Nat.le_refl _) fun b hb _ => ⟨rfl, hb.1⟩)⟩
    · have := hc g rfl _ _ e1; rw [Addr.add_lit] at this; exact this
    · have := hc g rfl _ _ e2; rw [Addr.add_lit, ← Nat.add_assoc] at this; exact this
    · have := hc g rfl _ _ e3; rw [Addr.add_lit, ← Nat.add_assoc] at this; exact this

/-- 'append(out, x)': the element lies in the block that was laid last. -/
theorem wpList_pushQ (wr : World) {ops : Array Oper} {rest : List Oper} {o : Oper} {a : Act} {Q : Exit → Act → World → Prop} (hgd : o.guard = none) (s x : Operand)
    (ho : o.op = .call { callee := .builtin .append, args := #[s, x], argTypes := #[37, 37] })
    (base : Nat) (v : Value) (n K : Nat) (r : Nat → Rat) (hs : a.eval s = v) (hown : OwnQ wr base v n K r)
    (sg : Bool) (An Ad : Option Addr) (kn cn kd cd lo : Nat) (hr : RatV wr lo (.agg #[.bool sg, .slice An kn cn, .slice Ad kd cd]) K (r n)) (hlo : base ≤ lo) (hfar : ∀ g, v.ownBlock = some g → g < lo)
    (hx : a.eval x = .slice (some ⟨wr.heap.size, 0, none⟩) 1 1) (w0 : World) (hb : Below base w0 wr) (hbase : base ≤ wr.heap.size) (hn : n ≤ 1000000)
    (h : ∀ v' w', OwnQ w' base v' (n + 1) K r → Below base w0 w' → (∀ g, v'.ownBlock = some g → g < w'.heap.size) → wr.heap.size ≤ w'.heap.size → (∀ b, b < wr.heap.size → some b ≠ v.ownBlock → w'.heap[b]? = wr.heap[b]?) → wpList Tryz.prog ops Q rest (a.put o.dst v') w') :
    wpList Tryz.prog ops Q (o :: rest) a (wr.alloc (.cells #[.bool sg, .slice An kn cn, .slice Ad kd cd] 46)) := by
  obtain ⟨i, hi, hz0, hs1, hb4⟩ := info_parts info_rat
  obtain ⟨xs, h1, h2⟩ := hown
  refine wpList_append_lies _ hgd s x 37 ho base 46 i _ 3 56 Tryz.underlying37 hi hz0 hs1 hb4 rfl (by omega) v n xs hs (h1.alloc _) ⟨wr.heap.size, 0, none⟩ 1 1 [.bool sg, .slice An kn cn, .slice Ad kd cd] hx rfl ?_ ?_ (by omega) (by unfold maxLen; omega) (by omega) (by simp; omega) (wr.heap.size + 1) (by simp) ?_
  · intro j u hu
    rw [Addr.add_lit, World.cell?_alloc_at _ _ _ _ rfl]
    rcases j with _ | _ | _ | j <;> simp at hu <;> subst hu <;> rfl
  · intro u hu
    simp at hu
    rcases hu with rfl | rfl | rfl <;> rfl
  · intro g cap w' hown' hg hgb hglt
    have hsz : wr.heap.size + 1 ≤ w'.heap.size := by have := hg.size; simpa using this
    have hold : ∀ b, b < wr.heap.size → some b ≠ v.ownBlock → w'.heap[b]? = wr.heap[b]? := by
      intro b hb hne
      exact (hg.block b (by simp; omega) hne).trans (Below.heap_alloc wr _ b hb)
    have hvlt := h1.lt
    have hne' : ∀ b, b < wr.heap.size → some b ≠ v.ownBlock → some b ≠ (Value.slice (some ⟨g, 0, none⟩) (n + 1) cap).ownBlock := by
      intro b hb hne e
      have e' : b = g := by simpa [Value.ownBlock] using e
      subst e'
      rcases hgb with h | h
      · exact hne h.symm
      · omega
    refine h _ w' ⟨xs ++ [.bool sg, .slice An kn cn, .slice Ad kd cd], hown', fun j hj => ?_⟩ ?_ ?_ (by omega) hold
    · have hxl := h1.1
      rcases Nat.lt_or_ge j n with hjn | hjn
      · obtain ⟨s, An', kn', cn', Ad', kd', cd', e1, e2, e3, e4⟩ := h2 j hjn
        refine ⟨s, An', kn', cn', Ad', kd', cd', ?_, ?_, ?_, e4.keep (by omega) fun b hb hlt => ⟨hold b hlt hb.2, hb.1, hne' b hlt hb.2⟩⟩
        · rw [List.getElem?_append_left (by omega)]; exact e1
        · rw [List.getElem?_append_left (by omega)]; exact e2
        · rw [List.getElem?_append_left (by omega)]; exact e3
      · obtain rfl : j = n := by omega
        refine ⟨sg, An, kn, cn, Ad, kd, cd, ?_, ?_, ?_, hr.toP.keep (by omega) fun b hb hlt => ?_⟩
        · rw [List.getElem?_append_right (by omega), show j * 3 - xs.length = 0 from by omega]; rfl
        · rw [List.getElem?_append_right (by omega), show j * 3 + 1 - xs.length = 1 from by omega]; rfl
        · rw [List.getElem?_append_right (by omega), show j * 3 + 2 - xs.length = 2 from by omega]; rfl
        · have hne : some b ≠ v.ownBlock := fun e => by have := hfar b e.symm; omega
          exact ⟨hold b hlt hne, by omega, hne' b hlt hne⟩
    · exact (hb.alloc hbase _).grown hg (by simp; omega) fun g' hg' => (hvlt g' hg').1
    · intro g' hg'
      have : g = g' := by simpa [Value.ownBlock] using hg'
      omega
end

/-- 'make([]api.Rat, 0, n)'. -/
theorem wpList_mkO (w : World) {ops : Array Oper} {rest : List Oper} {o : Oper} {a : Act} {Q : Exit → Act → World → Prop}
    (hg : o.guard = none) (l c : Operand) (hop : o.op = Op.makeSlice 37 l c)
    (kl kc : IntKind) (C : Int) (n : Nat) (hl : a.eval l = .int kl 0) (hc : a.eval c = .int kc C) (hC : C = (n : Int)) (hn : n ≤ 1000000)
    (base : Nat) (w0 : World) (hb : Below base w0 w) (hbase : base ≤ w.heap.size)
    (hK : ∀ v w', (∀ K r, OwnQ w' base v 0 K r) → Below base w0 w' → Below w.heap.size w w' → (∀ g, v.ownBlock = some g → g < w'.heap.size) → wpList Tryz.prog ops Q rest (a.put o.dst v) w') :
    wpList Tryz.prog ops Q (o :: rest) a w := by
  obtain ⟨i, hi, hz0, hs1, hb4⟩ := info_parts info_rat
  refine wpList_make_own w hg l c 37 hop base 46 i _ 3 Tryz.underlying37 hi hz0 hs1 kl kc C n hl hc hC (by rw [hb4]; omega) (by unfold maxLen; omega) hbase ?_
  intro w' hown hgr
  have hbel : Below w.heap.size w w' := (Below.refl _ _).grown hgr (Nat.le_refl _) (by simp)
  exact hK _ w' (fun K r => ⟨[], hown, fun j hj => absurd hj (by omega)⟩) (hb.grown hgr hbase (by simp)) hbel (fun g hg => (hown.lt g hg).2)

end Go.Proofs.YtdbiedpdibjdlaaGreat

/-
  The walk of the law's rats.
-/
namespace Go.Proofs.YtdbiedpdibjdlaaGreat
open Go.RowKit AC
set_option linter.unusedVariables false
set_option linter.unusedSimpArgs false

set_option maxHeartbeats 1000000 in
theorem lrats_any (w : World) (A : Option Addr) (k c : Nat) (f : Nat → Int) (hf : ∀ i, i < k → 0 ≤ f i ∧ f i ≤ 1000000) (hkc : k ≤ c) (hk : k ≤ 1000)
    (hc : ∀ i, i < k → ∃ b off, A = some ⟨b, off, none⟩ ∧ b < w.heap.size ∧ w.cell? ⟨b, off + i, none⟩ = some (.int .i64 (f i))) :
    Calls Tryz.prog 10 #[.slice A k c] w (Ret fun v w' => RatsV w' w.heap.size v k 4 (fun i => mkRat (f i) 1) ∧ Below w.heap.size w w') := by
  have HC := Lib.hid hc
  have HF := Lib.hid hf
  clear hc hf
  go_enter Tryz.func10, Tryz.ntmps10
  go_wp2_with (at_make; refine wpList_mkO _ rfl _ _ rfl _ _ _ k (by rfl) (by rfl) rfl (by omega) w.heap.size w (Below.refl _ _) (Nat.le_refl _) ?_; intro v0 w1 hown0 hbw1 hbw2 hlt0; obtain ⟨A0, c0, rfl, _, _⟩ := (hown0 0 (fun _ => 0)).form; have HO := Lib.hid hown0; have HL := Lib.hid hlt0; clear hown0 hlt0)
  go_loopw [3, 11] (fun ov iv wr => ∃ i : Nat, i ≤ k ∧ iv = .int .i64 i ∧ Hid (OwnQ wr w.heap.size ov i 4 (fun i => mkRat (f i) 1)) ∧ Hid (∀ g, ov.ownBlock = some g → g < wr.heap.size) ∧ Below w.heap.size w wr) (fun _ iv _ => k - (intOf iv).toNat)
  case atStart => exact ⟨0, by omega, rfl, HO.out _ _, HL.out, hbw1⟩
  case round =>
    obtain ⟨i, hi, rfl, hown, hlt', hbw⟩ := hrel
    obtain ⟨A1, c1, rfl, _, _⟩ := hown.out.form
    by_cases hlt : i < k
    · obtain ⟨b, off, rfl, hbb, hcl⟩ := HC.out i hlt
      have hcl' := (hbw.cell (p := ⟨b, off + i, none⟩) hbb).trans hcl
      have hfi := HF.out i hlt
      obtain ⟨z, hz⟩ : ∃ z, z = f i := ⟨_, rfl⟩
      rw [← hz] at hcl' hfi
      have HZ := Lib.hid hz
      clear hcl hz
      go_wp2_with fail
      refine (rFromInt_any _ z (by omega) (by omega)).mono ?_
      rintro e w2 ⟨v2, rfl, hr2, hb2⟩
      have hsz := sz_small z 1 (by omega) (by omega) (by omega)
      obtain ⟨q, hq⟩ : ∃ q, Hid (q = mkRat z 1) := ⟨_, rfl⟩
      rw [← hq.out] at hr2 hsz
      have HR := Lib.hid (hr2.toV (K := 4) (by omega))
      obtain ⟨A2, c2, A3, c3, rfl, _, _⟩ := FracR.form hr2
      have HO2 := Lib.hid (hown.out.below hb2)
      have hbw3 := hbw.trans (hb2.mono hbw.size)
      have hqe : Hid (q = (fun i => mkRat (f i) 1) i) := by show _ = _; rw [hq.out, HZ.out]
      clear hr2 hb2 hsz
      go_wp2_with (at_builtin; refine wpList_pushQ w2 rfl _ _ rfl w.heap.size _ i 4 (fun i => mkRat (f i) 1) (by rfl) HO2.out _ _ _ _ _ _ _ wr.heap.size (by rw [← hqe.out]; exact HR.out) hbw.size hlt'.out (by rfl) w hbw3 hbw3.size (by omega) ?_; intro v3 w3 hown3 hb3 hlt3 _ _; obtain ⟨A4, c4, rfl, _, _⟩ := hown3.form; have HO3 := Lib.hid hown3; have HL3 := Lib.hid hlt3; clear hown3 hlt3)
      go_roundw
      case rel => exact ⟨i + 1, by omega, by go_num, HO3.out, HL3.out, hb3⟩
      case measure => simp [intOf]; omega
    · obtain rfl : i = k := by omega
      go_wp2
      go_ret
      exact ⟨_, rfl, hown.out.toV, hbw⟩

end Go.Proofs.YtdbiedpdibjdlaaGreat

