/-
  The walk of the law FitFinds.
-/
import Derived.Test.YtafhbipafbchcaaLawB
import Derived.Test.YtafhbipafbchcaaNewton
namespace Go.Proofs.Ytafhbipafbchcaa
open Go.RowKit AC
set_option linter.unusedVariables false
set_option linter.unusedSimpArgs false

theorem cmpQ_self (q : Rat) : cmpQ q q = 0 := by unfold cmpQ sgnQ; rw [Rat.sub_self]; rfl

/-- wpList_pushQ, the new block's number under a name. -/
theorem wpList_pushH (wr : World) (H : Nat) (hH : wr.heap.size = H) {ops : Array Oper} {rest : List Oper} {o : Oper} {a : Act} {Q : Exit → Act → World → Prop} (hgd : o.guard = none) (s x : Operand)
    (ho : o.op = .call { callee := .builtin .append, args := #[s, x], argTypes := #[22, 22] })
    (base : Nat) (v : Value) (n K : Nat) (r : Nat → Rat) (hs : a.eval s = v) (hown : OwnQ wr base v n K r)
    (sg : Bool) (An Ad : Option Addr) (kn cn kd cd lo : Nat) (hr : RatV wr lo (.agg #[.bool sg, .slice An kn cn, .slice Ad kd cd]) K (r n)) (hlo : base ≤ lo) (hfar : ∀ g, v.ownBlock = some g → g < lo)
    (hx : a.eval x = .slice (some ⟨H, 0, none⟩) 1 1) (w0 : World) (hb : Below base w0 wr) (hbase : base ≤ wr.heap.size) (hn : n ≤ 1000000)
    (h : ∀ v' w', OwnQ w' base v' (n + 1) K r → Below base w0 w' → (∀ g, v'.ownBlock = some g → g < w'.heap.size) → wr.heap.size ≤ w'.heap.size → (∀ b, b < wr.heap.size → some b ≠ v.ownBlock → w'.heap[b]? = wr.heap[b]?) → wpList Try.prog ops Q rest (a.put o.dst v') w') :
    wpList Try.prog ops Q (o :: rest) a (wr.alloc (.cells #[.bool sg, .slice An kn cn, .slice Ad kd cd] 29)) := by
  subst hH
  exact wpList_pushQ wr hgd s x ho base v n K r hs hown sg An Ad kn cn kd cd lo hr hlo hfar hx w0 hb hbase hn h

theorem RatsV.congr {w : World} {lo : Nat} {v : Value} {k K : Nat} {r r' : Nat → Rat} (h : RatsV w lo v k K r) (e : ∀ j, j < k → r j = r' j) : RatsV w lo v k K r' := by
  obtain ⟨A, c, h1, h2, h3, h4⟩ := h
  refine ⟨A, c, h1, h2, h3, fun h0 => ?_⟩
  obtain ⟨b, off, h5, h6, h7, h8⟩ := h4 h0
  exact ⟨b, off, h5, h6, h7, fun i hi => by rw [← e i hi]; exact h8 i hi⟩

set_option maxHeartbeats 2000000 in
theorem finds_any (w : World) (v : Value) (k K : Nat) (r : Nat → Rat) (d : Int) (hv : RatsV w 0 v k K r) (hd0 : 0 ≤ d) (hd1 : d ≤ 255) :
    Calls Try.prog 4 #[v, .int .u8 d] w (fun e w' => e = .returned (.bool true) ∧ Below w.heap.size w w') := by
  have HV := Lib.hid hv
  obtain ⟨A, c, rfl, hkc, hcm⟩ := hv.form
  clear hv
  go_enter Try.func4, Try.ntmps4
  go_wp2_with fail
  refine (sane_any _).mono ?_
  rintro e w1 ⟨rfl, hb1⟩
  have HV1 := Lib.hid (HV.out.below hb1)
  go_wp2_with fail
  refine (kRats_any _ 0 _ k K 6 r HV1.out (by omega)).mono ?_
  rintro e w2 ⟨t, rfl, ht, hb2⟩
  have hb2' := hb1.trans (hb2.mono hb1.size)
  cases t with
  | false =>
    clear ht
    go_wp2
    go_ret
    exact ⟨rfl, hb2'⟩
  | true =>
    obtain ⟨hk, hv2⟩ := ht rfl
    have HV2 := Lib.hid (hv2.below hb2)
    have hD0 : 0 ≤ d % 4 := by omega
    have hD1 : d % 4 ≤ 3 := by omega
    obtain ⟨m, hm⟩ : ∃ m : Nat, Hid (d % 4 = (m : Int)) := ⟨(d % 4).toNat, by show _ = _; omega⟩
    have hm3 : m ≤ 3 := by have := hm.out; omega
    have hme : Hid ((m : Int) = d % 4) := hm.out.symm
    obtain ⟨R, hR⟩ : ∃ R : Nat → Rat, Hid (R = fun i => evalQ r (i : Nat) k) := ⟨_, rfl⟩
    have hszR : Hid (∀ i, i ≤ 100 → sz (R i) ≤ 2000) := by
      intro i hi
      have h1 := sz_eval (r := r) (n := (i : Nat)) (K := 3) (by omega) (by omega) k (by omega) (fun j hj => HV2.out.size hj)
      rw [hR.out]
      have h2 : k * (3 + 302) ≤ 6 * 305 := Nat.mul_le_mul_right _ hk
      show sz (evalQ r (i : Nat) k) ≤ 2000
      omega
    clear ht hv2 HV1 hb1 hb2 HV
    go_wp2
    go_loopw [5, 6] (fun ov iv wr => ∃ i : Nat, i ≤ k + m ∧ iv = .int .i64 i ∧ Hid (OwnQ wr w2.heap.size ov i 2000 R) ∧ Hid (∀ g, ov.ownBlock = some g → g < wr.heap.size) ∧ Below w2.heap.size w2 wr) (fun _ iv _ => k + m - (intOf iv).toNat)
    case atStart => exact ⟨0, by omega, rfl, OwnQ.nil _ _ _ _, (fun g hg => by cases hg), Below.refl _ _⟩
    case round =>
      obtain ⟨i, hi, rfl, hown, hlt', hbw⟩ := hrel
      obtain ⟨A1, c1, rfl, hc1, hc1'⟩ := hown.out.form
      by_cases hlt : i < k + m
      · have hgo : (i : Int) < (k : Int) + d % 4 := by rw [hm.out]; omega
        go_wp2_with fail
        refine (Eval_any _ _ _ k 2 r i (HV2.out.below hbw) (by omega) (by omega) (by omega)).mono ?_
        rintro e w4 ⟨v4, rfl, hr4, hb4⟩
        have hszq := hszR.out i (by omega)
        obtain ⟨q, hq⟩ : ∃ q, Hid (q = R i) := ⟨_, rfl⟩
        have hq4 : Hid (q = evalQ r (i : Nat) k) := by show _ = _; rw [hq.out, hR.out]
        rw [← hq4.out] at hr4
        rw [← hq.out] at hszq
        have hbw4 := hbw.trans (hb4.mono hbw.size)
        have HO4 := Lib.hid (hown.out.below hb4)
        have HR4 := Lib.hid (hr4.toV hszq)
        obtain ⟨A2, c2, A3, c3, rfl, _, _⟩ := FracR.form hr4
        clear hr4 hb4 hszq
        go_wp2_with (at_builtin; refine wpList_pushH (w4.alloc _) (w4.heap.size + 1) (World.size_alloc _ _) rfl _ _ rfl w2.heap.size _ i 2000 R (by rfl) (HO4.out.alloc _) _ _ _ _ _ _ _ wr.heap.size (by rw [← hq.out]; exact HR4.out.below (bel1 _ _)) hbw.size hlt'.out (by rfl) w2 (hbw4.alloc hbw4.size _) (hbw4.alloc hbw4.size _).size (by omega) ?_; intro v5 w5 hown5 hb5 hlt5 _ _; obtain ⟨A5, c5, rfl, hc5, hc5'⟩ := hown5.form; have HO5 := Lib.hid hown5; have HL5 := Lib.hid hlt5; clear hown5 hlt5)
        go_roundw
        case rel => exact ⟨i + 1, by omega, by go_num, HO5.out, HL5.out, hb5⟩
        case measure => simp [intOf]; omega
      · obtain rfl : i = k + m := by omega
        have hge : ¬ (((k + m : Nat) : Int) < (k : Int) + d % 4) := by rw [hm.out]; omega
        obtain ⟨n, hn⟩ : ∃ n, Hid (n = cutQ r k) := ⟨_, rfl⟩
        have hnk : n ≤ k := by rw [hn.out]; exact cutQ_le _ _
        have hcut : Hid (cutQ (fun j => dif R j 0) (k + m) = n) := by show _ = _; rw [hn.out, hR.out]; exact cut_finds r k m
        have hKD : Hid (KD 2000 (k + m) ≤ 1900000000) := Nat.le_trans (KD_mono 2000 (j := 9) (by omega)) (by decide)
        have hKD' : Hid (KD 2000 (k + m) + 1 ≤ 100000000) := Nat.le_trans (Nat.succ_le_succ (KD_mono 2000 (j := 9) (by omega))) (by decide)
        have HVF := Lib.hid hown.out.toV
        go_wp2_with fail
        refine (Fit_yes _ w2.heap.size _ (k + m) 2000 R ((k : Int) - 1) HVF.out (by omega) hKD.out (by rw [hcut.out]; omega)).mono ?_
        rintro e w6 ⟨v6, rfl, hr6, hb6⟩
        rw [hcut.out] at hr6
        have hb6' := hbw.trans (hb6.mono hbw.size)
        have HQ6 := Lib.hid (RatsP.toV (RatsP.more (RatsV.toP ((hr6.congr (r' := r) fun j hj => by rw [hR.out, dif_finds, if_pos (by omega)]).lowr (Nat.zero_le _))) hKD'.out))
        obtain ⟨A9, c9, rfl, hc9, hc9'⟩ := hr6.form
        have HV6 := Lib.hid (HV2.out.below hb6')
        clear hr6 hb6 HVF hown hlt' hszR hge
        go_wp2_with fail
        refine (canonicalL_any _ 0 _ k 2 r HV6.out (by omega) (by omega)).mono ?_
        rintro e w7 ⟨v7, rfl, hr7, hb7⟩
        rw [← hn.out] at hr7
        have hb7' := hb6'.trans (hb7.mono hb6'.size)
        have HQ7 := Lib.hid (HQ6.out.below hb7)
        have HW7 := Lib.hid (hr7.lowr (Nat.zero_le _))
        obtain ⟨A11, c11, rfl, hc11, hc11'⟩ := hr7.form
        clear hr7 hb7 HQ6 HV6
        go_wp2
        go_loopw [61] (fun iv wr => ∃ i : Nat, i ≤ n ∧ iv = .int .i64 i ∧ Below w7.heap.size w7 wr) (fun iv _ => n - (intOf iv).toNat)
        case atStart => exact ⟨0, by omega, rfl, Below.refl _ _⟩
        case round =>
          obtain ⟨i, hi, rfl, hbw⟩ := hrel
          by_cases hlt : i < n
          · obtain ⟨b, off, s, An, kn, cn, Ad, kd, cd, rfl, _, hbb, g1, g2, g3, g4, _, _⟩ := (HQ7.out.below hbw).elem (i := i) hlt
            obtain ⟨b2, off2, s2, An2, kn2, cn2, Ad2, kd2, cd2, rfl, _, hbb2, e1, e2, e3, e4, _, _⟩ := (HW7.out.below hbw).elem (i := i) hlt
            have HE := Lib.hid g4
            have HE2 := Lib.hid e4
            clear g4 e4
            go_upto_region 20 with (fail)
            refine wp_region_facts (by kernel_rfl) (by kernel_rfl) [64, 65, 66, 67, 68, 69, 70, 71, 72, 73] 3 (by kernel_rfl) (fun io v x => match io with
              | 0 => v = .slice (some ⟨b, off, none⟩) n c9
              | 1 => v = .int .i64 i
              | 2 => v = .pointer (some ⟨b, off + i * 3, none⟩)
              | 3 => v = .agg #[.bool s, .slice An kn cn, .slice Ad kd cd]
              | 4 => v = .slice (some ⟨b2, off2, none⟩) n c11
              | 5 => v = .int .i64 i
              | 6 => v = .pointer (some ⟨b2, off2 + i * 3, none⟩)
              | 7 => v = .agg #[.bool s2, .slice An2 kn2 cn2, .slice Ad2 kd2 cd2]
              | 8 => v = .int .i64 0
              | _ => v = .bool false) ?_ ?_ ?_
            · intro io v x x' hio h hb
              rcases io with _ | _ | _ | _ | _ | _ | _ | _ | _ | io
              · exact h
              · exact h
              · exact h
              · exact h
              · exact h
              · exact h
              · exact h
              · exact h
              · exact h
              · exact h
            · intro io oo S x ho hio hbx hdep
              rcases io with _ | _ | _ | _ | _ | _ | _ | _ | _ | _ | io
              · cases ho
                refine opOk_plain rfl rfl fun KK hKK => ?_
                have HK := Lib.hid hKK
                clear hKK hdep hio
                simp only [putAll, Act.put, List.setIfInBounds_toArray, List.set_cons_succ, List.set_cons_zero, List.getD_cons_zero, List.getD_cons_succ, Nat.zero_add, Nat.reduceAdd] at HK ⊢
                go_wp2
                exact HK.out _ _ ⟨_, rfl, rfl, Below.refl _ _⟩
              · cases ho
                refine opOk_plain rfl rfl fun KK hKK => ?_
                have HK := Lib.hid hKK
                clear hKK hdep hio
                simp only [putAll, Act.put, List.setIfInBounds_toArray, List.set_cons_succ, List.set_cons_zero, List.getD_cons_zero, List.getD_cons_succ, Nat.zero_add, Nat.reduceAdd] at HK ⊢
                go_wp2
                exact HK.out _ _ ⟨_, rfl, rfl, Below.refl _ _⟩
              · cases ho
                have h0 : S 0 = .slice (some ⟨b, off, none⟩) n c9 := hdep 0 (by kernel_rfl) (by decide)
                have h1 : S 1 = .int .i64 i := hdep 1 (by kernel_rfl) (by decide)
                refine opOk_plain rfl rfl fun KK hKK => ?_
                have HK := Lib.hid hKK
                clear hKK hdep hio
                simp only [putAll, Act.put, List.setIfInBounds_toArray, List.set_cons_succ, List.set_cons_zero, List.getD_cons_zero, List.getD_cons_succ, Nat.zero_add, Nat.reduceAdd] at HK ⊢
                generalize S 0 = t0 at *
                subst h0
                generalize S 1 = t1 at *
                subst h1
                go_wp2
                exact HK.out _ _ ⟨_, rfl, rfl, Below.refl _ _⟩
              · cases ho
                have h2 : S 2 = .pointer (some ⟨b, off + i * 3, none⟩) := hdep 2 (by kernel_rfl) (by decide)
                have l1 := (hbx.cell (p := ⟨b, off + i * 3, none⟩) hbb).trans g1
                have l2 := (hbx.cell (p := ⟨b, off + i * 3 + 1, none⟩) hbb).trans g2
                have l3 := (hbx.cell (p := ⟨b, off + i * 3 + 2, none⟩) hbb).trans g3
                refine opOk_plain rfl rfl fun KK hKK => ?_
                have HK := Lib.hid hKK
                clear hKK hdep hio
                simp only [putAll, Act.put, List.setIfInBounds_toArray, List.set_cons_succ, List.set_cons_zero, List.getD_cons_zero, List.getD_cons_succ, Nat.zero_add, Nat.reduceAdd] at HK ⊢
                generalize S 2 = t2 at *
                subst h2
                go_wp2
                exact HK.out _ _ ⟨_, rfl, rfl, Below.refl _ _⟩
              · cases ho
                refine opOk_plain rfl rfl fun KK hKK => ?_
                have HK := Lib.hid hKK
                clear hKK hdep hio
                simp only [putAll, Act.put, List.setIfInBounds_toArray, List.set_cons_succ, List.set_cons_zero, List.getD_cons_zero, List.getD_cons_succ, Nat.zero_add, Nat.reduceAdd] at HK ⊢
                go_wp2
                exact HK.out _ _ ⟨_, rfl, rfl, Below.refl _ _⟩
              · cases ho
                refine opOk_plain rfl rfl fun KK hKK => ?_
                have HK := Lib.hid hKK
                clear hKK hdep hio
                simp only [putAll, Act.put, List.setIfInBounds_toArray, List.set_cons_succ, List.set_cons_zero, List.getD_cons_zero, List.getD_cons_succ, Nat.zero_add, Nat.reduceAdd] at HK ⊢
                go_wp2
                exact HK.out _ _ ⟨_, rfl, rfl, Below.refl _ _⟩
              · cases ho
                have h4 : S 4 = .slice (some ⟨b2, off2, none⟩) n c11 := hdep 4 (by kernel_rfl) (by decide)
                have h5 : S 5 = .int .i64 i := hdep 5 (by kernel_rfl) (by decide)
                refine opOk_plain rfl rfl fun KK hKK => ?_
                have HK := Lib.hid hKK
                clear hKK hdep hio
                simp only [putAll, Act.put, List.setIfInBounds_toArray, List.set_cons_succ, List.set_cons_zero, List.getD_cons_zero, List.getD_cons_succ, Nat.zero_add, Nat.reduceAdd] at HK ⊢
                generalize S 4 = t4 at *
                subst h4
                generalize S 5 = t5 at *
                subst h5
                go_wp2
                exact HK.out _ _ ⟨_, rfl, rfl, Below.refl _ _⟩
              · cases ho
                have h6 : S 6 = .pointer (some ⟨b2, off2 + i * 3, none⟩) := hdep 6 (by kernel_rfl) (by decide)
                have l1 := (hbx.cell (p := ⟨b2, off2 + i * 3, none⟩) hbb2).trans e1
                have l2 := (hbx.cell (p := ⟨b2, off2 + i * 3 + 1, none⟩) hbb2).trans e2
                have l3 := (hbx.cell (p := ⟨b2, off2 + i * 3 + 2, none⟩) hbb2).trans e3
                refine opOk_plain rfl rfl fun KK hKK => ?_
                have HK := Lib.hid hKK
                clear hKK hdep hio
                simp only [putAll, Act.put, List.setIfInBounds_toArray, List.set_cons_succ, List.set_cons_zero, List.getD_cons_zero, List.getD_cons_succ, Nat.zero_add, Nat.reduceAdd] at HK ⊢
                generalize S 6 = t6 at *
                subst h6
                go_wp2
                exact HK.out _ _ ⟨_, rfl, rfl, Below.refl _ _⟩
              · cases ho
                have h3 : S 3 = .agg #[.bool s, .slice An kn cn, .slice Ad kd cd] := hdep 3 (by kernel_rfl) (by decide)
                have h7 : S 7 = .agg #[.bool s2, .slice An2 kn2 cn2, .slice Ad2 kd2 cd2] := hdep 7 (by kernel_rfl) (by decide)
                refine opOk_plain rfl rfl fun KK hKK => ?_
                have HK := Lib.hid hKK
                clear hKK hdep hio
                simp only [putAll, Act.put, List.setIfInBounds_toArray, List.set_cons_succ, List.set_cons_zero, List.getD_cons_zero, List.getD_cons_succ, Nat.zero_add, Nat.reduceAdd] at HK ⊢
                generalize S 3 = t3 at *
                subst h3
                generalize S 7 = t7 at *
                subst h7
                go_wp2_with fail
                refine (rCmp_any _ 0 0 _ _ 100000000 3 (r i) (r i) (HE.out.below hbx) (HE2.out.below hbx) (by omega)).mono ?_
                rintro e xN ⟨rfl, hbN⟩
                exact HK.out _ _ ⟨_, rfl, (by rw [cmpQ_self]), hbN⟩
              · cases ho
                have h8 : S 8 = .int .i64 0 := hdep 8 (by kernel_rfl) (by decide)
                refine opOk_plain rfl rfl fun KK hKK => ?_
                have HK := Lib.hid hKK
                clear hKK hdep hio
                simp only [putAll, Act.put, List.setIfInBounds_toArray, List.set_cons_succ, List.set_cons_zero, List.getD_cons_zero, List.getD_cons_succ, Nat.zero_add, Nat.reduceAdd] at HK ⊢
                generalize S 8 = t8 at *
                subst h8
                go_wp2
                exact HK.out _ _ ⟨_, rfl, rfl, Below.refl _ _⟩
              · exact absurd hio (by simp)
            · intro S x hbx hF
              have g0 : S 0 = .slice (some ⟨b, off, none⟩) n c9 := hF 0 (by decide)
              have g1 : S 1 = .int .i64 i := hF 1 (by decide)
              have g2 : S 2 = .pointer (some ⟨b, off + i * 3, none⟩) := hF 2 (by decide)
              have g3 : S 3 = .agg #[.bool s, .slice An kn cn, .slice Ad kd cd] := hF 3 (by decide)
              have g4 : S 4 = .slice (some ⟨b2, off2, none⟩) n c11 := hF 4 (by decide)
              have g5 : S 5 = .int .i64 i := hF 5 (by decide)
              have g6 : S 6 = .pointer (some ⟨b2, off2 + i * 3, none⟩) := hF 6 (by decide)
              have g7 : S 7 = .agg #[.bool s2, .slice An2 kn2 cn2, .slice Ad2 kd2 cd2] := hF 7 (by decide)
              have g8 : S 8 = .int .i64 0 := hF 8 (by decide)
              have g9 : S 9 = .bool false := hF 9 (by decide)
              clear hF
              simp only [putAll, Act.put, List.setIfInBounds_toArray, List.set_cons_succ, List.set_cons_zero, List.getD_cons_zero, List.getD_cons_succ, Nat.zero_add, Nat.reduceAdd, List.length_cons, List.length_nil, List.drop_succ_cons, List.drop_zero]
              generalize S 0 = t0 at *
              subst g0
              generalize S 1 = t1 at *
              subst g1
              generalize S 2 = t2 at *
              subst g2
              generalize S 3 = t3 at *
              subst g3
              generalize S 4 = t4 at *
              subst g4
              generalize S 5 = t5 at *
              subst g5
              generalize S 6 = t6 at *
              subst g6
              generalize S 7 = t7 at *
              subst g7
              generalize S 8 = t8 at *
              subst g8
              generalize S 9 = t9 at *
              subst g9
              go_wp2
              go_roundw
              case rel => exact ⟨i + 1, by omega, by go_num, hbw.trans (hbx.mono hbw.size)⟩
              case measure => simp [intOf]; omega
          · obtain rfl : i = n := by omega
            go_wp2
            go_ret
            exact ⟨rfl, hb2'.trans ((hb7'.trans (hbw.mono hb7'.size)).mono hb2'.size)⟩

end Go.Proofs.Ytafhbipafbchcaa
