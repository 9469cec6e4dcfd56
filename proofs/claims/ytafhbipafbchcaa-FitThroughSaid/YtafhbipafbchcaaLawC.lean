/-
  The walk of the law FitThrough.
-/
import Derived.Test.YtafhbipafbchcaaLawB
import Derived.Test.YtafhbipafbchcaaNewton
namespace Go.Proofs.Ytafhbipafbchcaa
open Go.RowKit AC

theorem cmpQ_self (q : Rat) : cmpQ q q = 0 := by unfold cmpQ sgnQ; rw [Rat.sub_self]; rfl
theorem above_never {w w' : World} {e : Ending} {n k : Nat} {p r : Nat → Rat} (h : AboveR w n k p r e w') (hall : ∀ j, j < k → evalQ p (j : Nat) n = r j) :
    ∃ i : Nat, e = .returned (.tuple #[.int .i64 i, .bool false]) ∧ Below w.heap.size w w' := by
  obtain ⟨i, t, rfl, h1, h2, h3⟩ := h
  cases t with
  | false => exact ⟨i, rfl, h3⟩
  | true =>
    obtain ⟨h4, h5⟩ := h1 rfl
    rw [hall i h4, cmpQ_self] at h5
    omega

set_option maxHeartbeats 2000000 in
theorem through_any (w : World) (v : Value) (k K : Nat) (r : Nat → Rat) (d : Int) (hv : RatsV w 0 v k K r) (hd0 : 0 ≤ d) (hd1 : d ≤ 255) :
    Calls Try.prog 3 #[v, .int .u8 d] w (fun e w' => e = .returned (.bool true) ∧ Below w.heap.size w w') := by
  have HV := Lib.hid hv
  obtain ⟨A, c, rfl, hkc, hcm⟩ := hv.form
  clear hv
  go_enter Try.func3, Try.ntmps3
  go_wp2_with fail
  refine (sane_any _).mono ?_
  rintro e w1 ⟨rfl, hb1⟩
  have HV1 := Lib.hid (HV.out.below hb1)
  go_wp2_with fail
  refine (kRats_any _ 0 _ k K 12 r HV1.out (by omega)).mono ?_
  rintro e w2 ⟨t, rfl, ht, hb2⟩
  have hb2' := hb1.trans (hb2.mono hb1.size)
  cases t with
  | false =>
    clear ht
    go_wp2
    go_ret
    exact ⟨rfl, hb2'⟩
  | true =>
    obtain ⟨hk, hv2⟩ := ht rfl
    have HV2 := Lib.hid (hv2.below hb2)
    have hKD : KD 2 k ≤ 1000000 := Nat.le_trans (KD_mono 2 hk) (by decide)
    have hD0 : 0 ≤ d % 12 := by omega
    have hD1 : d % 12 ≤ 11 := by omega
    clear ht hv2 HV1 hb1 hb2 HV
    obtain ⟨n, hn⟩ : ∃ n, Hid (n = cutQ (fun j => dif r j 0) k) := ⟨_, rfl⟩
    have hnk : n ≤ k := by rw [hn.out]; exact cutQ_le _ _
    by_cases hfit : (n : Int) ≤ d % 12 + 1
    · go_wp2_with fail
      refine (Fit_yes _ 0 _ k 2 r (d % 12) HV2.out (by omega) (by omega) (by rw [← hn.out]; exact hfit)).mono ?_
      rintro e w3 ⟨v3, rfl, hr3, hb3⟩
      rw [← hn.out] at hr3
      have hb3' := hb2'.trans (hb3.mono hb2'.size)
      have HP := Lib.hid hr3
      obtain ⟨A3, c3, rfl, hnc3, hcm3⟩ := hr3.form
      have HV3 := Lib.hid (HV2.out.below hb3)
      have hev : Hid (∀ j, j < k → evalQ (fun j => dif r j 0) (j : Nat) n = r j) := fun j hj => by rw [hn.out]; exact fit_through r k j hj
      clear hr3 hb3 HV2
      go_wp2
      go_loopw [32] (fun iv wr => ∃ i : Nat, i ≤ k ∧ iv = .int .i64 i ∧ Below w3.heap.size w3 wr) (fun iv _ => k - (intOf iv).toNat)
      case atStart => exact ⟨0, by omega, rfl, Below.refl _ _⟩
      case round =>
        obtain ⟨i, hi, rfl, hbw⟩ := hrel
        by_cases hlt : i < k
        · go_wp2_with fail
          refine (Eval_any _ _ _ n (KD 2 k + 1) (fun j => dif r j 0) i (HP.out.below hbw) (by omega) (by omega) (by omega)).mono ?_
          rintro e w4 ⟨v4, rfl, hr4, hb4⟩
          rw [hev.out i hlt] at hr4
          have hszq : sz (r i) ≤ 100000000 := by
            have := HV3.out.size hlt
            omega
          obtain ⟨q, hqe⟩ : ∃ q, Hid (q = r i) := ⟨_, rfl⟩
          rw [← hqe.out] at hr4 hszq
          have hbw4 := hbw.trans (hb4.mono hbw.size)
          have HQ4 := Lib.hid ((hr4.toV hszq).lower (Nat.zero_le _))
          obtain ⟨A1, c1, A2, c2, rfl, _, _⟩ := FracR.form hr4
          obtain ⟨b, off, s, An, kn, cn, Ad, kd, cd, rfl, _, hbb', g1', g2', g3', g4', _, _⟩ := (HV3.out.below hbw4).elem (i := i) hlt
          have HE4 := Lib.hid g4'
          clear hr4 hb4 g4' hszq
          go_upto_region 12 with (fail)
          obtain ⟨W, hW⟩ : ∃ W, W = (w4.alloc (.cells #[.bool (decide (q.num < 0)), .slice A1 (dl q.num.natAbs) c1, .slice A2 (dl q.den) c2] 29)) := ⟨_, rfl⟩
          have hb4W : Below w4.heap.size w4 W := by rw [hW]; exact bel1 _ _
          have hbW : Below w3.heap.size w3 W := hbw4.trans (hb4W.mono hbw4.size)
          have hBW : Hid (Bk W w4.heap.size 29 #[.bool (decide (q.num < 0)), .slice A1 (dl q.num.natAbs) c1, .slice A2 (dl q.den) c2]) := by rw [hW]; exact Bk.new _ _ _
          have hbb : b < W.heap.size := Nat.lt_of_lt_of_le hbb' hb4W.size
          have g1 := (hb4W.cell (p := ⟨b, off + i * 3, none⟩) hbb').trans g1'
          have g2 := (hb4W.cell (p := ⟨b, off + i * 3 + 1, none⟩) hbb').trans g2'
          have g3 := (hb4W.cell (p := ⟨b, off + i * 3 + 2, none⟩) hbb').trans g3'
          have HQ := Lib.hid (HQ4.out.below hb4W)
          have HE := Lib.hid (HE4.out.below hb4W)
          rw [← hW]
          clear hW g1' g2' g3' hbb' HQ4 HE4 hbw4 hb4W
          refine wp_region_facts (by kernel_rfl) (by kernel_rfl) [41, 42, 43, 44, 45, 46, 47, 48, 49, 50, 51] 3 (by kernel_rfl) (fun io v x => match io with
            | 0 => v = .bool true
            | 1 => v = .bool false
            | 2 => v = .bool false
            | 3 => v = .agg #[.bool (decide (q.num < 0)), .slice A1 (dl q.num.natAbs) c1, .slice A2 (dl q.den) c2]
            | 4 => v = .slice (some ⟨b, off, none⟩) k c
            | 5 => v = .int .i64 i
            | 6 => v = .pointer (some ⟨b, off + i * 3, none⟩)
            | 7 => v = .agg #[.bool s, .slice An kn cn, .slice Ad kd cd]
            | 8 => v = .int .i64 0
            | 9 => v = .bool false
            | _ => v = .bool false) ?_ ?_ ?_
          · intro io v x x' hio h hb
            rcases io with _ | _ | _ | _ | _ | _ | _ | _ | _ | _ | io
            · exact h
            · exact h
            · exact h
            · exact h
            · exact h
            · exact h
            · exact h
            · exact h
            · exact h
            · exact h
            · exact h
          · intro io oo S x ho hio hbx hdep
            rcases io with _ | _ | _ | _ | _ | _ | _ | _ | _ | _ | _ | io
            · cases ho
              refine opOk_plain rfl rfl fun KK hKK => ?_
              have HK := Lib.hid hKK
              clear hKK hdep hio
              simp only [putAll, Act.put, List.setIfInBounds_toArray, List.set_cons_succ, List.set_cons_zero, List.getD_cons_zero, List.getD_cons_succ, Nat.zero_add, Nat.reduceAdd] at HK ⊢
              go_wp2
              exact HK.out _ _ ⟨_, rfl, rfl, Below.refl _ _⟩
            · cases ho
              have h0 : S 0 = .bool true := hdep 0 (by kernel_rfl) (by decide)
              refine opOk_plain rfl rfl fun KK hKK => ?_
              have HK := Lib.hid hKK
              clear hKK hdep hio
              simp only [putAll, Act.put, List.setIfInBounds_toArray, List.set_cons_succ, List.set_cons_zero, List.getD_cons_zero, List.getD_cons_succ, Nat.zero_add, Nat.reduceAdd] at HK ⊢
              generalize S 0 = t0 at *
              subst h0
              go_wp2
              exact HK.out _ _ ⟨_, rfl, rfl, Below.refl _ _⟩
            · cases ho
              have h1 : S 1 = .bool false := hdep 1 (by kernel_rfl) (by decide)
              refine opOk_plain rfl rfl fun KK hKK => ?_
              have HK := Lib.hid hKK
              clear hKK hdep hio
              simp only [putAll, Act.put, List.setIfInBounds_toArray, List.set_cons_succ, List.set_cons_zero, List.getD_cons_zero, List.getD_cons_succ, Nat.zero_add, Nat.reduceAdd] at HK ⊢
              generalize S 1 = t1 at *
              subst h1
              go_wp2
              exact HK.out _ _ ⟨_, rfl, rfl, Below.refl _ _⟩
            · cases ho
              have h2 : S 2 = .bool false := hdep 2 (by kernel_rfl) (by decide)
              obtain ⟨hcB, hfB, hzB⟩ := (hBW.out.below hbx hBW.out.lt).facts
              refine opOk_guarded rfl rfl 43 (by kernel_rfl) (by simp only [putAll, Act.put, List.setIfInBounds_toArray, List.set_cons_succ, List.set_cons_zero, List.getD_cons_zero, List.getD_cons_succ, Nat.zero_add, Nat.reduceAdd, h2, List.getElem?_toArray, List.getElem?_cons_succ, List.getElem?_cons_zero]) fun KK hKK => ?_
              have HK := Lib.hid hKK
              clear hKK hdep hio
              simp only [putAll, Act.put, List.setIfInBounds_toArray, List.set_cons_succ, List.set_cons_zero, List.getD_cons_zero, List.getD_cons_succ, Nat.zero_add, Nat.reduceAdd] at HK ⊢
              generalize S 2 = t2 at *
              subst h2
              go_wp2
              exact HK.out _ _ ⟨_, rfl, rfl, Below.refl _ _⟩
            · cases ho
              have h2 : S 2 = .bool false := hdep 2 (by kernel_rfl) (by decide)
              refine opOk_guarded rfl rfl 43 (by kernel_rfl) (by simp only [putAll, Act.put, List.setIfInBounds_toArray, List.set_cons_succ, List.set_cons_zero, List.getD_cons_zero, List.getD_cons_succ, Nat.zero_add, Nat.reduceAdd, h2, List.getElem?_toArray, List.getElem?_cons_succ, List.getElem?_cons_zero]) fun KK hKK => ?_
              have HK := Lib.hid hKK
              clear hKK hdep hio
              simp only [putAll, Act.put, List.setIfInBounds_toArray, List.set_cons_succ, List.set_cons_zero, List.getD_cons_zero, List.getD_cons_succ, Nat.zero_add, Nat.reduceAdd] at HK ⊢
              generalize S 2 = t2 at *
              subst h2
              go_wp2
              exact HK.out _ _ ⟨_, rfl, rfl, Below.refl _ _⟩
            · cases ho
              have h2 : S 2 = .bool false := hdep 2 (by kernel_rfl) (by decide)
              refine opOk_guarded rfl rfl 43 (by kernel_rfl) (by simp only [putAll, Act.put, List.setIfInBounds_toArray, List.set_cons_succ, List.set_cons_zero, List.getD_cons_zero, List.getD_cons_succ, Nat.zero_add, Nat.reduceAdd, h2, List.getElem?_toArray, List.getElem?_cons_succ, List.getElem?_cons_zero]) fun KK hKK => ?_
              have HK := Lib.hid hKK
              clear hKK hdep hio
              simp only [putAll, Act.put, List.setIfInBounds_toArray, List.set_cons_succ, List.set_cons_zero, List.getD_cons_zero, List.getD_cons_succ, Nat.zero_add, Nat.reduceAdd] at HK ⊢
              generalize S 2 = t2 at *
              subst h2
              go_wp2
              exact HK.out _ _ ⟨_, rfl, rfl, Below.refl _ _⟩
            · cases ho
              have h2 : S 2 = .bool false := hdep 2 (by kernel_rfl) (by decide)
              have h4 : S 4 = .slice (some ⟨b, off, none⟩) k c := hdep 4 (by kernel_rfl) (by decide)
              have h5 : S 5 = .int .i64 i := hdep 5 (by kernel_rfl) (by decide)
              refine opOk_guarded rfl rfl 43 (by kernel_rfl) (by simp only [putAll, Act.put, List.setIfInBounds_toArray, List.set_cons_succ, List.set_cons_zero, List.getD_cons_zero, List.getD_cons_succ, Nat.zero_add, Nat.reduceAdd, h2, List.getElem?_toArray, List.getElem?_cons_succ, List.getElem?_cons_zero]) fun KK hKK => ?_
              have HK := Lib.hid hKK
              clear hKK hdep hio
              simp only [putAll, Act.put, List.setIfInBounds_toArray, List.set_cons_succ, List.set_cons_zero, List.getD_cons_zero, List.getD_cons_succ, Nat.zero_add, Nat.reduceAdd] at HK ⊢
              generalize S 2 = t2 at *
              subst h2
              generalize S 4 = t4 at *
              subst h4
              generalize S 5 = t5 at *
              subst h5
              go_wp2
              exact HK.out _ _ ⟨_, rfl, rfl, Below.refl _ _⟩
            · cases ho
              have h2 : S 2 = .bool false := hdep 2 (by kernel_rfl) (by decide)
              have h6 : S 6 = .pointer (some ⟨b, off + i * 3, none⟩) := hdep 6 (by kernel_rfl) (by decide)
              have l1 := (hbx.cell (p := ⟨b, off + i * 3, none⟩) hbb).trans g1
              have l2 := (hbx.cell (p := ⟨b, off + i * 3 + 1, none⟩) hbb).trans g2
              have l3 := (hbx.cell (p := ⟨b, off + i * 3 + 2, none⟩) hbb).trans g3
              refine opOk_guarded rfl rfl 43 (by kernel_rfl) (by simp only [putAll, Act.put, List.setIfInBounds_toArray, List.set_cons_succ, List.set_cons_zero, List.getD_cons_zero, List.getD_cons_succ, Nat.zero_add, Nat.reduceAdd, h2, List.getElem?_toArray, List.getElem?_cons_succ, List.getElem?_cons_zero]) fun KK hKK => ?_
              have HK := Lib.hid hKK
              clear hKK hdep hio
              simp only [putAll, Act.put, List.setIfInBounds_toArray, List.set_cons_succ, List.set_cons_zero, List.getD_cons_zero, List.getD_cons_succ, Nat.zero_add, Nat.reduceAdd] at HK ⊢
              generalize S 2 = t2 at *
              subst h2
              generalize S 6 = t6 at *
              subst h6
              go_wp2
              exact HK.out _ _ ⟨_, rfl, rfl, Below.refl _ _⟩
            · cases ho
              have h2 : S 2 = .bool false := hdep 2 (by kernel_rfl) (by decide)
              have h3 : S 3 = .agg #[.bool (decide (q.num < 0)), .slice A1 (dl q.num.natAbs) c1, .slice A2 (dl q.den) c2] := hdep 3 (by kernel_rfl) (by decide)
              have h7 : S 7 = .agg #[.bool s, .slice An kn cn, .slice Ad kd cd] := hdep 7 (by kernel_rfl) (by decide)
              refine opOk_guarded rfl rfl 43 (by kernel_rfl) (by simp only [putAll, Act.put, List.setIfInBounds_toArray, List.set_cons_succ, List.set_cons_zero, List.getD_cons_zero, List.getD_cons_succ, Nat.zero_add, Nat.reduceAdd, h2, List.getElem?_toArray, List.getElem?_cons_succ, List.getElem?_cons_zero]) fun KK hKK => ?_
              have HK := Lib.hid hKK
              clear hKK hdep hio
              simp only [putAll, Act.put, List.setIfInBounds_toArray, List.set_cons_succ, List.set_cons_zero, List.getD_cons_zero, List.getD_cons_succ, Nat.zero_add, Nat.reduceAdd] at HK ⊢
              generalize S 2 = t2 at *
              subst h2
              generalize S 3 = t3 at *
              subst h3
              generalize S 7 = t7 at *
              subst h7
              go_wp2_with fail
              refine (rCmp_any _ 0 0 _ _ 100000000 2 q (r i) (HQ.out.below hbx) (HE.out.below hbx) (by omega)).mono ?_
              rintro e xN ⟨rfl, hbN⟩
              exact HK.out _ _ ⟨_, rfl, (by rw [hqe.out, cmpQ_self]), hbN⟩
            · cases ho
              have h2 : S 2 = .bool false := hdep 2 (by kernel_rfl) (by decide)
              have h8 : S 8 = .int .i64 0 := hdep 8 (by kernel_rfl) (by decide)
              refine opOk_guarded rfl rfl 43 (by kernel_rfl) (by simp only [putAll, Act.put, List.setIfInBounds_toArray, List.set_cons_succ, List.set_cons_zero, List.getD_cons_zero, List.getD_cons_succ, Nat.zero_add, Nat.reduceAdd, h2, List.getElem?_toArray, List.getElem?_cons_succ, List.getElem?_cons_zero]) fun KK hKK => ?_
              have HK := Lib.hid hKK
              clear hKK hdep hio
              simp only [putAll, Act.put, List.setIfInBounds_toArray, List.set_cons_succ, List.set_cons_zero, List.getD_cons_zero, List.getD_cons_succ, Nat.zero_add, Nat.reduceAdd] at HK ⊢
              generalize S 2 = t2 at *
              subst h2
              generalize S 8 = t8 at *
              subst h8
              go_wp2
              exact HK.out _ _ ⟨_, rfl, rfl, Below.refl _ _⟩
            · cases ho
              have h2 : S 2 = .bool false := hdep 2 (by kernel_rfl) (by decide)
              have h9 : S 9 = .bool false := hdep 9 (by kernel_rfl) (by decide)
              refine opOk_plain rfl rfl fun KK hKK => ?_
              have HK := Lib.hid hKK
              clear hKK hdep hio
              simp only [putAll, Act.put, List.setIfInBounds_toArray, List.set_cons_succ, List.set_cons_zero, List.getD_cons_zero, List.getD_cons_succ, Nat.zero_add, Nat.reduceAdd] at HK ⊢
              generalize S 2 = t2 at *
              subst h2
              generalize S 9 = t9 at *
              subst h9
              go_wp2
              exact HK.out _ _ ⟨_, rfl, rfl, Below.refl _ _⟩
            · exact absurd hio (by simp)
          · intro S x hbx hF
            have g0 : S 0 = .bool true := hF 0 (by decide)
            have g1 : S 1 = .bool false := hF 1 (by decide)
            have g2 : S 2 = .bool false := hF 2 (by decide)
            have g3 : S 3 = .agg #[.bool (decide (q.num < 0)), .slice A1 (dl q.num.natAbs) c1, .slice A2 (dl q.den) c2] := hF 3 (by decide)
            have g4 : S 4 = .slice (some ⟨b, off, none⟩) k c := hF 4 (by decide)
            have g5 : S 5 = .int .i64 i := hF 5 (by decide)
            have g6 : S 6 = .pointer (some ⟨b, off + i * 3, none⟩) := hF 6 (by decide)
            have g7 : S 7 = .agg #[.bool s, .slice An kn cn, .slice Ad kd cd] := hF 7 (by decide)
            have g8 : S 8 = .int .i64 0 := hF 8 (by decide)
            have g9 : S 9 = .bool false := hF 9 (by decide)
            have g10 : S 10 = .bool false := hF 10 (by decide)
            clear hF
            simp only [putAll, Act.put, List.setIfInBounds_toArray, List.set_cons_succ, List.set_cons_zero, List.getD_cons_zero, List.getD_cons_succ, Nat.zero_add, Nat.reduceAdd, List.length_cons, List.length_nil, List.drop_succ_cons, List.drop_zero]
            generalize S 0 = t0 at *
            subst g0
            generalize S 1 = t1 at *
            subst g1
            generalize S 2 = t2 at *
            subst g2
            generalize S 3 = t3 at *
            subst g3
            generalize S 4 = t4 at *
            subst g4
            generalize S 5 = t5 at *
            subst g5
            generalize S 6 = t6 at *
            subst g6
            generalize S 7 = t7 at *
            subst g7
            generalize S 8 = t8 at *
            subst g8
            generalize S 9 = t9 at *
            subst g9
            generalize S 10 = t10 at *
            subst g10
            go_wp2
            go_roundw
            case rel => exact ⟨i + 1, by omega, by go_num, hbW.trans (hbx.mono hbW.size)⟩
            case measure => simp [intOf]; omega
        · obtain rfl : i = k := by omega
          have HP4 := Lib.hid (HP.out.below hbw)
          have HV4 := Lib.hid (HV3.out.below hbw)
          have hbw' := hb3'.trans (hbw.mono hb3'.size)
          go_wp2_with fail
          refine (Above_any _ _ _ _ _ n i (KD 2 i + 1) 2 (fun j => dif r j 0) r HP4.out HV4.out (by omega) (by omega) (by omega) (by omega)).mono ?_
          intro e w5 hab
          obtain ⟨i5, rfl, hb5⟩ := above_never hab hev.out
          have hb5' := hbw'.trans (hb5.mono hbw'.size)
          clear hab
          have hle : decide ((n : Int) ≤ d % 12 + 1) = true := by simpa using hfit
          go_wp2
          go_ret
          exact ⟨by first | rfl | simp, hb5'⟩
    · have hno : d % 12 + 1 < (n : Int) := by omega
      go_wp2_with fail
      refine (Fit_no _ 0 _ k 2 r (d % 12) HV2.out (by omega) (by omega) (by rw [← hn.out]; exact hno)).mono ?_
      rintro e w3 ⟨rfl, hb3⟩
      have hb3' := hb2'.trans (hb3.mono hb2'.size)
      go_wp2
      go_ret
      exact ⟨rfl, hb3'⟩

end Go.Proofs.Ytafhbipafbchcaa
