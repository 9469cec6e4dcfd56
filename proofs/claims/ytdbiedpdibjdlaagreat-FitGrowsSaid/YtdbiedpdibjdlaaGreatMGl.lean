/-
  Compare of equal values (printed by gen_g.py).
-/
import Derived.Test.YtdbiedpdibjdlaaGreatMGg
import Derived.Test.YtdbiedpdibjdlaaGreatMGuard
namespace Go.Proofs.YtdbiedpdibjdlaaGreat
open Go.RowKit AC
set_option linter.unusedVariables false
set_option linter.unusedSimpArgs false

def CmpOk (n : Nat) : Prop := ∀ (D D' : Nat → Prop) (t : Tr) (w : World) (v v' : List Value), t.size ≤ n → TrR w D t v → TrR w D' t v' → Calls Tryz.prog 8 #[.agg v.toArray, .agg v'.toArray] w (RetV (.int .i64 0) w)
set_option maxHeartbeats 4000000 in
set_option maxRecDepth 100000 in
theorem compareFunc_any {n : Nat} (ih : CmpOk n) {D D' : Nat → Prop} (l : List Tr) (A A' : Option Addr) (len cap cap' : Nat) (w : World) (hn : ∀ (i : Nat) (h : i < l.length), l[i].size ≤ n) (hs : TrS w D l A len cap) (hs' : TrS w D' l A' len cap') :
    Calls Tryz.prog 26 #[.slice A len cap, .slice A' len cap', .func (.func 8) #[] #[]] w (RetV (.int .i64 0) w) := by
  have hlen : len = l.length := hs.1
  have hcap : cap ≤ maxLen := hs.2.2.1
  have hlc := hs.2.1
  have HLEN := Lib.hid hlen
  have HS := Lib.hid hs
  have HS2 := Lib.hid hs'
  have IH := Lib.hid ih
  have HN := Lib.hid hn
  unfold maxLen at hcap
  clear hs hs' hlen ih hn
  have he := enters_of Tryz.func8 (by kernel_rfl) rfl
  unfold Enters at he
  go_enter Tryz.func26, Tryz.ntmps26
  go_wp2
  go_loopw [13] (fun iv wr => ∃ i : Nat, i ≤ len ∧ iv = .int .i64 i ∧ Hid (Below w.heap.size w wr)) (fun iv _ => len - (intOf iv).toNat)
  case atStart => exact ⟨0, by omega, rfl, Below.refl _ _⟩
  case round =>
    obtain ⟨i, hi, rfl, HB⟩ := hrel
    by_cases hlt : i < len
    · have hil : i < l.length := by have := HLEN.out; omega
      obtain ⟨b, off, A1, len1, cap1, rfl, hb, e0, e1, e2, hrk⟩ := (HS.out.below HB.out).get (i := i) hil
      obtain ⟨b', off', A2, len2, cap2, rfl, hb', f0, f1, f2, hrk'⟩ := (HS2.out.below HB.out).get (i := i) hil
      obtain ⟨W, hW⟩ : ∃ W, W = (wr.alloc (.cells #[.int .i64 l[i].k, .int .i64 l[i].m, .slice A1 len1 cap1] 28)).alloc (.cells #[.int .i64 l[i].k, .int .i64 l[i].m, .slice A2 len2 cap2] 28) := ⟨_, rfl⟩
      have hb2 : Below wr.heap.size wr W := by rw [hW]; exact ((Below.refl _ _).alloc (Nat.le_refl _) _).alloc (by simp) _
      have key := IH.out D D' l[i] W _ _ (HN.out i hil) (hrk.below hb2) (hrk'.below hb2)
      have HB2 := Lib.hid (HB.out.trans (hb2.mono HB.out.size))
      generalize l[i].k = x0 at *
      generalize l[i].m = x1 at *
      have KEY : Hid (Calls Tryz.prog 8 #[.agg #[.int .i64 x0, .int .i64 x1, .slice A1 len1 cap1], .agg #[.int .i64 x0, .int .i64 x1, .slice A2 len2 cap2]] ((wr.alloc (.cells #[.int .i64 x0, .int .i64 x1, .slice A1 len1 cap1] 28)).alloc (.cells #[.int .i64 x0, .int .i64 x1, .slice A2 len2 cap2] 28)) (fun e w2 => e = .returned (.int .i64 0) ∧ Below W.heap.size W w2)) := by rw [← hW]; exact key
      clear hW
      have hlen2 : ¬ len ≤ i := by omega
      clear key hrk hrk' hb2
      go_wp2_with fail
      refine KEY.out.mono ?_
      rintro e w2 ⟨rfl, hb3⟩
      have HB3 := Lib.hid (HB2.out.trans (hb3.mono HB2.out.size))
      clear hb3
      go_wp2
      go_roundw
      case rel => exact ⟨i + 1, by omega, by go_num, HB3⟩
      case measure => simp [intOf]; omega
    · obtain rfl : i = len := by omega
      go_wp2
      go_ret
      exact ⟨rfl, HB.out⟩
set_option maxHeartbeats 8000000 in
set_option maxRecDepth 100000 in
theorem compare_any : ∀ (n : Nat), CmpOk n
  | 0 => fun D D' t w v v' h _ _ => absurd t.size_pos (by omega)
  | n + 1 => fun D D' t w v v' hn hr hr' => by
    have IH := Lib.hid (compare_any n)
    obtain ⟨A, len, cap, rfl, hs, _, _⟩ := hr.form
    obtain ⟨A', len', cap', rfl, hs', _, _⟩ := hr'.form
    have hsz := Tr.size_eq t
    generalize t.kids = l at hs hs' hsz
    have hlen : len = l.length := hs.1
    obtain rfl : len = len' := by rw [hlen]; exact hs'.1.symm
    have HN : Hid (∀ (i : Nat) (h : i < l.length), l[i].size ≤ n) := fun i h => by have := sizes_get h; omega
    have HS := Lib.hid hs
    have HS2 := Lib.hid hs'
    clear hs hs' hr hr' hlen hsz
    obtain ⟨x0, hx0⟩ : ∃ x, t.k = x := ⟨_, rfl⟩
    obtain ⟨x1, hx1⟩ : ∃ x, t.m = x := ⟨_, rfl⟩
    rw [hx0, hx1]
    clear hx0 hx1
    obtain ⟨C, hC⟩ : ∃ C, C = (w.alloc (.cells #[.int .i64 x0, .int .i64 x1, .slice A len cap] 28)).alloc (.cells #[.int .i64 x0, .int .i64 x1, .slice A' len cap'] 28) := ⟨_, rfl⟩
    have HB0 : Hid (Below w.heap.size w C) := by rw [hC]; exact ((Below.refl _ _).alloc (Nat.le_refl _) _).alloc (by simp) _
    have HBX : Hid (Bk C w.heap.size 28 #[.int .i64 x0, .int .i64 x1, .slice A len cap]) := by rw [hC]; exact (Bk.new _ _ _).alloc _
    have HBY : Hid (Bk C (w.heap.size + 1) 28 #[.int .i64 x0, .int .i64 x1, .slice A' len cap']) := by rw [hC]; exact bk_two _ _ _ _
    show Calls Tryz.prog 8 #[.agg #[.int .i64 x0, .int .i64 x1, .slice A len cap], .agg #[.int .i64 x0, .int .i64 x1, .slice A' len cap']] w _
    go_enter Tryz.func8, Tryz.ntmps8
    go_upto_region 1 with (fail)
    rw [← hC]
    clear hC
    refine wp_region_facts (by kernel_rfl) (by kernel_rfl) [6, 7, 8, 9, 10, 11, 12, 13, 14, 15, 16, 17, 18, 19, 20, 21, 22, 23, 24] 4 (by kernel_rfl) (fun io v x => match io with
      | 0 => v = .pointer (some ⟨w.heap.size, 0, none⟩)
      | 1 => v = .int .i64 x0
      | 2 => v = .pointer (some ⟨(w.heap.size + 1), 0, none⟩)
      | 3 => v = .int .i64 x0
      | 4 => v = .int .i64 0
      | 5 => v = .pointer (some ⟨w.heap.size, 1, none⟩)
      | 6 => v = .int .i64 x1
      | 7 => v = .pointer (some ⟨(w.heap.size + 1), 1, none⟩)
      | 8 => v = .int .i64 x1
      | 9 => v = .int .i64 0
      | 10 => v = .pointer (some ⟨w.heap.size, 2, none⟩)
      | 11 => v = .slice A len cap
      | 12 => v = .int .i64 (len : Int)
      | 13 => v = .pointer (some ⟨(w.heap.size + 1), 2, none⟩)
      | 14 => v = .slice A' len cap'
      | 15 => v = .int .i64 (len : Int)
      | 16 => v = .int .i64 0
      | 17 => ∃ n, v = .slice (some ⟨n, 0, none⟩) 3 3 ∧ Bk x n 3 #[.int .i64 0, .int .i64 0, .int .i64 0]
      | _ => v = .int .i64 0) ?_ ?_ ?_
    · intro io v x x' hio h hb
      rcases io with _ | _ | _ | _ | _ | _ | _ | _ | _ | _ | _ | _ | _ | _ | _ | _ | _ | _ | io
      · exact h
      · exact h
      · exact h
      · exact h
      · exact h
      · exact h
      · exact h
      · exact h
      · exact h
      · exact h
      · exact h
      · exact h
      · exact h
      · exact h
      · exact h
      · exact h
      · exact h
      · exact h.imp fun n hn => ⟨hn.1, hn.2.below hb hn.2.lt⟩
      · exact h
    · intro io oo S x ho hio hbx hdep
      rcases io with _ | _ | _ | _ | _ | _ | _ | _ | _ | _ | _ | _ | _ | _ | _ | _ | _ | _ | _ | io
      · cases ho
        refine opOk_plain rfl rfl fun KK hKK => ?_
        have HK := Lib.hid hKK
        clear hKK hdep hio
        simp only [putAll, Act.put, List.setIfInBounds_toArray, List.set_cons_succ, List.set_cons_zero, List.getD_cons_zero, List.getD_cons_succ, Nat.zero_add, Nat.reduceAdd] at HK ⊢
        go_wp2
        exact HK.out _ _ ⟨_, rfl, rfl, Below.refl _ _⟩
      · cases ho
        have h0 : S 0 = .pointer (some ⟨w.heap.size, 0, none⟩) := hdep 0 (by kernel_rfl) (by decide)
        obtain ⟨hcx, _, _⟩ := (HBX.out.below hbx HBX.out.lt).facts
        refine opOk_plain rfl rfl fun KK hKK => ?_
        have HK := Lib.hid hKK
        clear hKK hdep hio
        simp only [putAll, Act.put, List.setIfInBounds_toArray, List.set_cons_succ, List.set_cons_zero, List.getD_cons_zero, List.getD_cons_succ, Nat.zero_add, Nat.reduceAdd] at HK ⊢
        generalize S 0 = t0 at *
        subst h0
        go_wp2
        exact HK.out _ _ ⟨_, rfl, rfl, Below.refl _ _⟩
      · cases ho
        refine opOk_plain rfl rfl fun KK hKK => ?_
        have HK := Lib.hid hKK
        clear hKK hdep hio
        simp only [putAll, Act.put, List.setIfInBounds_toArray, List.set_cons_succ, List.set_cons_zero, List.getD_cons_zero, List.getD_cons_succ, Nat.zero_add, Nat.reduceAdd] at HK ⊢
        go_wp2
        exact HK.out _ _ ⟨_, rfl, rfl, Below.refl _ _⟩
      · cases ho
        have h2 : S 2 = .pointer (some ⟨(w.heap.size + 1), 0, none⟩) := hdep 2 (by kernel_rfl) (by decide)
        obtain ⟨hcy, _, _⟩ := (HBY.out.below hbx HBY.out.lt).facts
        refine opOk_plain rfl rfl fun KK hKK => ?_
        have HK := Lib.hid hKK
        clear hKK hdep hio
        simp only [putAll, Act.put, List.setIfInBounds_toArray, List.set_cons_succ, List.set_cons_zero, List.getD_cons_zero, List.getD_cons_succ, Nat.zero_add, Nat.reduceAdd] at HK ⊢
        generalize S 2 = t2 at *
        subst h2
        go_wp2
        exact HK.out _ _ ⟨_, rfl, rfl, Below.refl _ _⟩
      · cases ho
        have h1 : S 1 = .int .i64 x0 := hdep 1 (by kernel_rfl) (by decide)
        have h3 : S 3 = .int .i64 x0 := hdep 3 (by kernel_rfl) (by decide)
        refine opOk_plain rfl rfl fun KK hKK => ?_
        have HK := Lib.hid hKK
        clear hKK hdep hio
        simp only [putAll, Act.put, List.setIfInBounds_toArray, List.set_cons_succ, List.set_cons_zero, List.getD_cons_zero, List.getD_cons_succ, Nat.zero_add, Nat.reduceAdd] at HK ⊢
        generalize S 1 = t1 at *
        subst h1
        generalize S 3 = t3 at *
        subst h3
        go_wp2_with fail
        refine (cmpI_any _ _).mono ?_
        rintro e xN ⟨rfl, hbN⟩
        exact HK.out _ _ ⟨_, rfl, rfl, hbN⟩
      · cases ho
        refine opOk_plain rfl rfl fun KK hKK => ?_
        have HK := Lib.hid hKK
        clear hKK hdep hio
        simp only [putAll, Act.put, List.setIfInBounds_toArray, List.set_cons_succ, List.set_cons_zero, List.getD_cons_zero, List.getD_cons_succ, Nat.zero_add, Nat.reduceAdd] at HK ⊢
        go_wp2
        exact HK.out _ _ ⟨_, rfl, rfl, Below.refl _ _⟩
      · cases ho
        have h5 : S 5 = .pointer (some ⟨w.heap.size, 1, none⟩) := hdep 5 (by kernel_rfl) (by decide)
        obtain ⟨hcx, _, _⟩ := (HBX.out.below hbx HBX.out.lt).facts
        refine opOk_plain rfl rfl fun KK hKK => ?_
        have HK := Lib.hid hKK
        clear hKK hdep hio
        simp only [putAll, Act.put, List.setIfInBounds_toArray, List.set_cons_succ, List.set_cons_zero, List.getD_cons_zero, List.getD_cons_succ, Nat.zero_add, Nat.reduceAdd] at HK ⊢
        generalize S 5 = t5 at *
        subst h5
        go_wp2
        exact HK.out _ _ ⟨_, rfl, rfl, Below.refl _ _⟩
      · cases ho
        refine opOk_plain rfl rfl fun KK hKK => ?_
        have HK := Lib.hid hKK
        clear hKK hdep hio
        simp only [putAll, Act.put, List.setIfInBounds_toArray, List.set_cons_succ, List.set_cons_zero, List.getD_cons_zero, List.getD_cons_succ, Nat.zero_add, Nat.reduceAdd] at HK ⊢
        go_wp2
        exact HK.out _ _ ⟨_, rfl, rfl, Below.refl _ _⟩
      · cases ho
        have h7 : S 7 = .pointer (some ⟨(w.heap.size + 1), 1, none⟩) := hdep 7 (by kernel_rfl) (by decide)
        obtain ⟨hcy, _, _⟩ := (HBY.out.below hbx HBY.out.lt).facts
        refine opOk_plain rfl rfl fun KK hKK => ?_
        have HK := Lib.hid hKK
        clear hKK hdep hio
        simp only [putAll, Act.put, List.setIfInBounds_toArray, List.set_cons_succ, List.set_cons_zero, List.getD_cons_zero, List.getD_cons_succ, Nat.zero_add, Nat.reduceAdd] at HK ⊢
        generalize S 7 = t7 at *
        subst h7
        go_wp2
        exact HK.out _ _ ⟨_, rfl, rfl, Below.refl _ _⟩
      · cases ho
        have h6 : S 6 = .int .i64 x1 := hdep 6 (by kernel_rfl) (by decide)
        have h8 : S 8 = .int .i64 x1 := hdep 8 (by kernel_rfl) (by decide)
        refine opOk_plain rfl rfl fun KK hKK => ?_
        have HK := Lib.hid hKK
        clear hKK hdep hio
        simp only [putAll, Act.put, List.setIfInBounds_toArray, List.set_cons_succ, List.set_cons_zero, List.getD_cons_zero, List.getD_cons_succ, Nat.zero_add, Nat.reduceAdd] at HK ⊢
        generalize S 6 = t6 at *
        subst h6
        generalize S 8 = t8 at *
        subst h8
        go_wp2_with fail
        refine (cmpL_any _ _).mono ?_
        rintro e xN ⟨rfl, hbN⟩
        exact HK.out _ _ ⟨_, rfl, rfl, hbN⟩
      · cases ho
        refine opOk_plain rfl rfl fun KK hKK => ?_
        have HK := Lib.hid hKK
        clear hKK hdep hio
        simp only [putAll, Act.put, List.setIfInBounds_toArray, List.set_cons_succ, List.set_cons_zero, List.getD_cons_zero, List.getD_cons_succ, Nat.zero_add, Nat.reduceAdd] at HK ⊢
        go_wp2
        exact HK.out _ _ ⟨_, rfl, rfl, Below.refl _ _⟩
      · cases ho
        have h10 : S 10 = .pointer (some ⟨w.heap.size, 2, none⟩) := hdep 10 (by kernel_rfl) (by decide)
        obtain ⟨hcx, _, _⟩ := (HBX.out.below hbx HBX.out.lt).facts
        refine opOk_plain rfl rfl fun KK hKK => ?_
        have HK := Lib.hid hKK
        clear hKK hdep hio
        simp only [putAll, Act.put, List.setIfInBounds_toArray, List.set_cons_succ, List.set_cons_zero, List.getD_cons_zero, List.getD_cons_succ, Nat.zero_add, Nat.reduceAdd] at HK ⊢
        generalize S 10 = t10 at *
        subst h10
        go_wp2
        exact HK.out _ _ ⟨_, rfl, rfl, Below.refl _ _⟩
      · cases ho
        have h11 : S 11 = .slice A len cap := hdep 11 (by kernel_rfl) (by decide)
        refine opOk_plain rfl rfl fun KK hKK => ?_
        have HK := Lib.hid hKK
        clear hKK hdep hio
        simp only [putAll, Act.put, List.setIfInBounds_toArray, List.set_cons_succ, List.set_cons_zero, List.getD_cons_zero, List.getD_cons_succ, Nat.zero_add, Nat.reduceAdd] at HK ⊢
        generalize S 11 = t11 at *
        subst h11
        go_wp2
        exact HK.out _ _ ⟨_, rfl, rfl, Below.refl _ _⟩
      · cases ho
        refine opOk_plain rfl rfl fun KK hKK => ?_
        have HK := Lib.hid hKK
        clear hKK hdep hio
        simp only [putAll, Act.put, List.setIfInBounds_toArray, List.set_cons_succ, List.set_cons_zero, List.getD_cons_zero, List.getD_cons_succ, Nat.zero_add, Nat.reduceAdd] at HK ⊢
        go_wp2
        exact HK.out _ _ ⟨_, rfl, rfl, Below.refl _ _⟩
      · cases ho
        have h13 : S 13 = .pointer (some ⟨(w.heap.size + 1), 2, none⟩) := hdep 13 (by kernel_rfl) (by decide)
        obtain ⟨hcy, _, _⟩ := (HBY.out.below hbx HBY.out.lt).facts
        refine opOk_plain rfl rfl fun KK hKK => ?_
        have HK := Lib.hid hKK
        clear hKK hdep hio
        simp only [putAll, Act.put, List.setIfInBounds_toArray, List.set_cons_succ, List.set_cons_zero, List.getD_cons_zero, List.getD_cons_succ, Nat.zero_add, Nat.reduceAdd] at HK ⊢
        generalize S 13 = t13 at *
        subst h13
        go_wp2
        exact HK.out _ _ ⟨_, rfl, rfl, Below.refl _ _⟩
      · cases ho
        have h14 : S 14 = .slice A' len cap' := hdep 14 (by kernel_rfl) (by decide)
        refine opOk_plain rfl rfl fun KK hKK => ?_
        have HK := Lib.hid hKK
        clear hKK hdep hio
        simp only [putAll, Act.put, List.setIfInBounds_toArray, List.set_cons_succ, List.set_cons_zero, List.getD_cons_zero, List.getD_cons_succ, Nat.zero_add, Nat.reduceAdd] at HK ⊢
        generalize S 14 = t14 at *
        subst h14
        go_wp2
        exact HK.out _ _ ⟨_, rfl, rfl, Below.refl _ _⟩
      · cases ho
        have h12 : S 12 = .int .i64 (len : Int) := hdep 12 (by kernel_rfl) (by decide)
        have h15 : S 15 = .int .i64 (len : Int) := hdep 15 (by kernel_rfl) (by decide)
        refine opOk_plain rfl rfl fun KK hKK => ?_
        have HK := Lib.hid hKK
        clear hKK hdep hio
        simp only [putAll, Act.put, List.setIfInBounds_toArray, List.set_cons_succ, List.set_cons_zero, List.getD_cons_zero, List.getD_cons_succ, Nat.zero_add, Nat.reduceAdd] at HK ⊢
        generalize S 12 = t12 at *
        subst h12
        generalize S 15 = t15 at *
        subst h15
        go_wp2_with fail
        refine (cmpI_any _ _).mono ?_
        rintro e xN ⟨rfl, hbN⟩
        exact HK.out _ _ ⟨_, rfl, rfl, hbN⟩
      · cases ho
        have h4 : (S 4) = .int .i64 0 := hdep 4 (by kernel_rfl) (by decide)
        have h9 : (S 9) = .int .i64 0 := hdep 9 (by kernel_rfl) (by decide)
        have h16 : (S 16) = .int .i64 0 := hdep 16 (by kernel_rfl) (by decide)
        refine opOk_plain rfl rfl fun KK hKK => ?_
        have HK := Lib.hid hKK
        clear hKK hdep hio
        simp only [putAll, Act.put, List.setIfInBounds_toArray, List.set_cons_succ, List.set_cons_zero, List.getD_cons_zero, List.getD_cons_succ, Nat.zero_add, Nat.reduceAdd] at HK ⊢
        generalize S 4 = t4 at *
        subst h4
        generalize S 9 = t9 at *
        subst h9
        generalize S 16 = t16 at *
        subst h16
        go_wp2
        exact HK.out _ _ ⟨_, rfl, ⟨_, rfl, Bk.new _ _ _⟩, (Below.refl _ _).alloc (Nat.le_refl _) _⟩
      · cases ho
        have h17 : ∃ n, (S 17) = .slice (some ⟨n, 0, none⟩) 3 3 ∧ Bk x n 3 #[.int .i64 0, .int .i64 0, .int .i64 0] := hdep 17 (by kernel_rfl) (by decide)
        obtain ⟨n17, e17, b17⟩ := h17
        refine opOk_plain rfl rfl fun KK hKK => ?_
        have HK := Lib.hid hKK
        clear hKK hdep hio
        simp only [putAll, Act.put, List.setIfInBounds_toArray, List.set_cons_succ, List.set_cons_zero, List.getD_cons_zero, List.getD_cons_succ, Nat.zero_add, Nat.reduceAdd] at HK ⊢
        generalize S 17 = t17 at *
        subst e17
        go_wp2_with fail
        refine (or3_any n17 _ _ b17).mono ?_
        rintro e xN ⟨rfl, hbN⟩
        exact HK.out _ _ ⟨_, rfl, rfl, hbN⟩
      · exact absurd hio (by simp)
    · intro S x hbx hF
      have g0 : S 0 = .pointer (some ⟨w.heap.size, 0, none⟩) := hF 0 (by decide)
      have g1 : S 1 = .int .i64 x0 := hF 1 (by decide)
      have g2 : S 2 = .pointer (some ⟨(w.heap.size + 1), 0, none⟩) := hF 2 (by decide)
      have g3 : S 3 = .int .i64 x0 := hF 3 (by decide)
      have g4 : (S 4) = .int .i64 0 := hF 4 (by decide)
      have g5 : S 5 = .pointer (some ⟨w.heap.size, 1, none⟩) := hF 5 (by decide)
      have g6 : S 6 = .int .i64 x1 := hF 6 (by decide)
      have g7 : S 7 = .pointer (some ⟨(w.heap.size + 1), 1, none⟩) := hF 7 (by decide)
      have g8 : S 8 = .int .i64 x1 := hF 8 (by decide)
      have g9 : (S 9) = .int .i64 0 := hF 9 (by decide)
      have g10 : S 10 = .pointer (some ⟨w.heap.size, 2, none⟩) := hF 10 (by decide)
      have g11 : S 11 = .slice A len cap := hF 11 (by decide)
      have g12 : S 12 = .int .i64 (len : Int) := hF 12 (by decide)
      have g13 : S 13 = .pointer (some ⟨(w.heap.size + 1), 2, none⟩) := hF 13 (by decide)
      have g14 : S 14 = .slice A' len cap' := hF 14 (by decide)
      have g15 : S 15 = .int .i64 (len : Int) := hF 15 (by decide)
      have g16 : (S 16) = .int .i64 0 := hF 16 (by decide)
      have g17 : ∃ n, (S 17) = .slice (some ⟨n, 0, none⟩) 3 3 ∧ Bk x n 3 #[.int .i64 0, .int .i64 0, .int .i64 0] := hF 17 (by decide)
      have g18 : (S 18) = .int .i64 0 := hF 18 (by decide)
      clear hF
      simp only [putAll, Act.put, List.setIfInBounds_toArray, List.set_cons_succ, List.set_cons_zero, List.getD_cons_zero, List.getD_cons_succ, Nat.zero_add, Nat.reduceAdd, List.length_cons, List.length_nil, List.drop_succ_cons, List.drop_zero]
      generalize S 0 = t0 at *
      subst g0
      generalize S 1 = t1 at *
      subst g1
      generalize S 2 = t2 at *
      subst g2
      generalize S 3 = t3 at *
      subst g3
      generalize S 4 = t4 at *
      generalize S 5 = t5 at *
      subst g5
      generalize S 6 = t6 at *
      subst g6
      generalize S 7 = t7 at *
      subst g7
      generalize S 8 = t8 at *
      subst g8
      generalize S 9 = t9 at *
      generalize S 10 = t10 at *
      subst g10
      generalize S 11 = t11 at *
      subst g11
      generalize S 12 = t12 at *
      subst g12
      generalize S 13 = t13 at *
      subst g13
      generalize S 14 = t14 at *
      subst g14
      generalize S 15 = t15 at *
      subst g15
      generalize S 16 = t16 at *
      generalize S 17 = t17 at *
      generalize S 18 = t18 at *
      subst g4
      subst g9
      subst g16
      subst g18
      obtain ⟨n17, e17, b17⟩ := g17
      subst e17
      clear b17
      have HBW := Lib.hid (HB0.out.trans (hbx.mono HB0.out.size))
      obtain ⟨hcx, _, _⟩ := (HBX.out.below hbx HBX.out.lt).facts
      obtain ⟨hcy, _, _⟩ := (HBY.out.below hbx HBY.out.lt).facts
      clear hbx
      have key := compareFunc_any IH.out l A A' len cap cap' x HN.out (HS.out.below HBW.out) (HS2.out.below HBW.out)
      have KEY := Lib.hid key
      clear key
      go_wp2_with fail
      refine KEY.out.mono ?_
      rintro e w2 ⟨rfl, hb2⟩
      have HB2 := Lib.hid (HBW.out.trans (hb2.mono HBW.out.size))
      clear hb2
      go_wp2
      go_ret
      exact ⟨rfl, HB2.out⟩
end Go.Proofs.YtdbiedpdibjdlaaGreat

