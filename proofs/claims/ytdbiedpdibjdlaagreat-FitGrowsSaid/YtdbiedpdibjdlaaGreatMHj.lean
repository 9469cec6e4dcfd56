/-
  has (printed by gen_has.py).
-/
import Derived.Test.YtdbiedpdibjdlaaGreatMGq
import Derived.Test.YtdbiedpdibjdlaaGreatMHa
namespace Go.Proofs.YtdbiedpdibjdlaaGreat
open Go.RowKit AC
set_option linter.unusedVariables false
set_option linter.unusedSimpArgs false
section
variable {D : List DaD} {v t : Tr}
theorem hasT_1 (h : t.k = 1) : hasT D v t = (v.k == 3 && decide (-1099511627776 ≤ v.m) && decide (v.m ≤ 1099511627776) && v.kids.isEmpty) := by
  cases v; rw [hasT, if_pos h]; rfl
theorem hasT_2 (h : t.k = 2) : hasT D v t = (v.k == 2 && (v.m == 0 || v.m == 1) && v.kids.isEmpty) := by
  cases v; rw [hasT, if_neg (by omega), if_pos h]; rfl
theorem hasT_3 (h : t.k = 3) : hasT D v t = (v.k == 1 && v.m == 0 && v.kids.isEmpty) := by
  cases v; rw [hasT, if_neg (by omega), if_neg (by omega), if_pos h]; rfl
theorem hasT_6 (h : t.k = 6) : hasT D v t = (v.k == 4 && v.m == 0 && hasAll D v.kids t.kids) := by
  cases v; rw [hasT, if_neg (by omega), if_neg (by omega), if_neg (by omega), if_pos h]; rfl
theorem hasT_5 (h : t.k = 5) : hasT D v t = if v.k = 5 ∧ 0 ≤ v.m ∧ v.m < 8 then (match fieldsD D t v.m with
        | none => false
        | some fs => hasAll D v.kids fs) else false := by
  cases v; rw [hasT, if_neg (by omega), if_neg (by omega), if_neg (by omega), if_neg (by omega), if_pos h]; rfl
theorem hasT_7 (h : t.k = 7) : hasT D v t = (v.k == 6 && v.m == 0 && decide (v.kids.length ≤ 4096) && hasEach D v.kids (t.kids.getD 0 (.n 0 0 []))) := by
  cases v; rw [hasT, if_neg (by omega), if_neg (by omega), if_neg (by omega), if_neg (by omega), if_neg (by omega), if_pos h]; rfl
theorem hasT_8 (h : t.k = 8) : hasT D v t = (v.k == 7 && v.m == 0 && hasAll D v.kids t.kids) := by
  cases v; rw [hasT, if_neg (by omega), if_neg (by omega), if_neg (by omega), if_neg (by omega), if_neg (by omega), if_neg (by omega), if_pos h]; rfl
theorem hasT_9 (h : t.k = 9) : hasT D v t = (v.k == 8 && decide (0 ≤ v.m) && decide (v.m < 64) && v.kids.isEmpty) := by
  cases v; rw [hasT, if_neg (by omega), if_neg (by omega), if_neg (by omega), if_neg (by omega), if_neg (by omega), if_neg (by omega), if_neg (by omega), if_pos h]; rfl
theorem hasT_no (h : t.k ≠ 1 ∧ t.k ≠ 2 ∧ t.k ≠ 3 ∧ t.k ≠ 5 ∧ t.k ≠ 6 ∧ t.k ≠ 7 ∧ t.k ≠ 8 ∧ t.k ≠ 9) : hasT D v t = false := by
  cases v; rw [hasT, if_neg (by omega), if_neg (by omega), if_neg (by omega), if_neg (by omega), if_neg (by omega), if_neg (by omega), if_neg (by omega), if_neg (by omega)]
end
theorem hasEach_yes {D : List DaD} {t : Tr} : ∀ {l : List Tr}, (∀ (i : Nat) (h : i < l.length), hasT D l[i] t = true) → hasEach D l t = true
  | [], _ => by rw [hasEach]
  | v :: l, h => by
    rw [hasEach, hasEach_yes (l := l) fun i hi => h (i + 1) (Nat.succ_lt_succ hi)]
    have := h 0 (by simp)
    simp at this
    rw [this]
    rfl
theorem hasEach_no {D : List DaD} {t : Tr} : ∀ {l : List Tr} {i : Nat} (h : i < l.length), hasT D l[i] t = false → hasEach D l t = false
  | v :: l, 0, _, h => by rw [hasEach]; simp at h; simp [h]
  | v :: l, i + 1, hi, h => by rw [hasEach, hasEach_no (l := l) (i := i) (by simpa using hi) (by simpa using h), Bool.and_false]
set_option maxHeartbeats 16000000 in
set_option maxRecDepth 100000 in
theorem has_any {dat : List DaD} (hdk : DOk dat) : ∀ (n : Nat), HasOk dat n
  | 0 => fun D D' DD A dl dc v t w cv ct h _ _ _ _ => absurd v.size_pos (by omega)
  | n + 1 => fun D D' DD A dl dc v t w cv ct hn ht hv htr hd => by
    have IH := Lib.hid (has_any hdk n)
    have HDK := Lib.hid hdk
    obtain ⟨VA, vl, vc, rfl, hsv, hvk, hvm⟩ := hv.form
    obtain ⟨TA, tl, tc, rfl, hst, htk, htm⟩ := htr.form
    have hvl : vl = v.kids.length := hsv.1
    have hvlc := hsv.2.1
    have hvcap : vc ≤ maxLen := hsv.2.2.1
    unfold maxLen at hvcap
    unfold rng at hvk hvm htk htm
    have hsz := Tr.size_eq v
    have hkn : ∀ x ∈ v.kids, x.size ≤ n := fun x hx => by
      obtain ⟨i, hi, rfl⟩ := List.mem_iff_getElem.1 hx
      have := sizes_get hi
      omega
    obtain ⟨q, hq⟩ : ∃ q, hasT dat v t = q := ⟨_, rfl⟩
    rw [hq]
    have Q1 := Lib.hid fun h => hq.symm.trans (hasT_1 (D := dat) (v := v) (t := t) h)
    have Q2 := Lib.hid fun h => hq.symm.trans (hasT_2 (D := dat) (v := v) (t := t) h)
    have Q3 := Lib.hid fun h => hq.symm.trans (hasT_3 (D := dat) (v := v) (t := t) h)
    have Q5 := Lib.hid fun h => hq.symm.trans (hasT_5 (D := dat) (v := v) (t := t) h)
    have Q6 := Lib.hid fun h => hq.symm.trans (hasT_6 (D := dat) (v := v) (t := t) h)
    have Q7 := Lib.hid fun h => hq.symm.trans (hasT_7 (D := dat) (v := v) (t := t) h)
    have Q8 := Lib.hid fun h => hq.symm.trans (hasT_8 (D := dat) (v := v) (t := t) h)
    have Q9 := Lib.hid fun h => hq.symm.trans (hasT_9 (D := dat) (v := v) (t := t) h)
    have QN := Lib.hid fun h => hq.symm.trans (hasT_no (D := dat) (v := v) (t := t) h)
    obtain ⟨C, hC⟩ : ∃ C, C = ((w.alloc (.cells #[.slice A dl dc] 22)).alloc (.cells #[.int .i64 v.k, .int .i64 v.m, .slice VA vl vc] 28)).alloc (.cells #[.int .i64 t.k, .int .i64 t.m, .slice TA tl tc] 25) := ⟨_, rfl⟩
    have HB0 : Hid (Below w.heap.size w C) := by rw [hC]; exact (((Below.refl _ _).alloc (Nat.le_refl _) _).alloc (by simp) _).alloc (by simp; omega) _
    have HX0 : Hid (Bk C w.heap.size 22 #[.slice A dl dc]) := by rw [hC]; exact ((Bk.new _ _ _).alloc _).alloc _
    have HX1 : Hid (Bk C (w.heap.size + 1) 28 #[.int .i64 v.k, .int .i64 v.m, .slice VA vl vc]) := by rw [hC]; exact (bk_two _ _ _ _).alloc _
    have HX2 : Hid (Bk C (w.heap.size + 2) 25 #[.int .i64 t.k, .int .i64 t.m, .slice TA tl tc]) := by
      rw [hC]
      have := bk_two (w.alloc (.cells #[.slice A dl dc] 22)) 25 #[.int .i64 t.k, .int .i64 t.m, .slice TA tl tc] (.cells #[.int .i64 v.k, .int .i64 v.m, .slice VA vl vc] 28)
      have e : (w.alloc (.cells #[.slice A dl dc] 22)).heap.size + 1 = w.heap.size + 2 := by simp
      rw [e] at this
      exact this
    -- the calls
    have KF : Hid (rng v.m → Calls Tryz.prog 17 #[.slice A dl dc, .agg #[.int .i64 t.k, .int .i64 t.m, .slice TA tl tc], .int .i64 v.m] C (FieldsPost (fieldsD dat t v.m) C)) := fun hr =>
      fields_any v.m hr C (hd.below HB0.out) hdk.small (htr.below HB0.out) (by have := ht.1; omega)
    have KA : Hid (∀ (D' : Nat → Prop) (ts : List Tr) (TA : Option Addr) (tl tc : Nat) (x : World), Below C.heap.size C x → (∀ f ∈ ts, TOk f) → TrS x D' ts TA tl tc → Calls Tryz.prog 45 #[.slice A dl dc, .slice VA vl vc, .slice TA tl tc] x (RetV (.bool (hasAll dat v.kids ts)) x)) := fun D' ts TA tl tc x hx ht hts => by
      have hb := HB0.out.trans (hx.mono HB0.out.size)
      exact haveAll_any IH.out v.kids ts x hkn ht (hsv.below hb) hts (hd.below hb)
    have KC : Hid (t.k = 7 → Calls Tryz.prog 43 #[.slice VA vl vc, .func (.func 46) #[] #[.pointer (some ⟨w.heap.size, 0, none⟩), .pointer (some ⟨w.heap.size + 2, 0, none⟩)]] C (RetV (.bool (!hasEach dat v.kids (t.kids.getD 0 (.n 0 0 [])))) C)) := fun h7 => by
      have htl := arrOk_seven ht.2 h7
      have htk : TOk (t.kids.getD 0 (.n 0 0 [])) := by
        rw [List.getD_eq_getElem?_getD, List.getElem?_eq_getElem htl]
        exact ht.kid (List.getElem_mem _)
      generalize hte : t.kids.getD 0 (.n 0 0 []) = te at htk ⊢
      have CP := containsV_any D v.kids VA vl vc 46 #[] #[.pointer (some ⟨w.heap.size, 0, none⟩), .pointer (some ⟨w.heap.size + 2, 0, none⟩)]
        (fun i x => Below C.heap.size C x ∧ ∀ (j : Nat) (h : j < v.kids.length), j < i → hasT dat v.kids[j] te = true)
        (fun x => Below C.heap.size C x ∧ hasEach dat v.kids te = false)
        (fun i x h => hsv.below (HB0.out.trans (h.1.mono HB0.out.size)))
        ⟨enters_of Tryz.func46 (by kernel_rfl) rfl, fun i hi x cv hI hr => by
          obtain ⟨hx, hp⟩ := hI
          have hb := HB0.out.trans (hx.mono HB0.out.size)
          have key := has1_any IH.out (b1 := w.heap.size) (b2 := w.heap.size + 2) v.kids[i] x cv (hkn _ (List.getElem_mem _)) htl (by rw [hte]; exact htk) hr (hst.below hb) (hd.below hb) (HX0.out.below hx HX0.out.lt) (HX2.out.below hx HX2.out.lt)
          rw [hte] at key
          refine Calls.mono (by simpa using key) ?_
          rintro e x2 ⟨rfl, hb2⟩
          have hx2 := hx.trans (hb2.mono hx.size)
          cases hh : hasT dat v.kids[i] te with
          | true =>
            refine .inr ⟨rfl, hx2, fun j h hj => ?_⟩
            by_cases hji : j = i
            · subst hji; exact hh
            · exact hp j h (by omega)
          | false => exact .inl ⟨rfl, hx2, hasEach_no hi hh⟩⟩ C ⟨Below.refl _ _, fun j _ h => absurd h (by omega)⟩
      refine CP.mono ?_
      intro e x h
      rcases h with ⟨rfl, hx, hh⟩ | ⟨rfl, hx, hh⟩
      · exact ⟨by rw [hh]; rfl, hx⟩
      · exact ⟨by rw [hasEach_yes fun i h => hh i h (by omega)]; rfl, hx⟩
    have HFD : Hid (∀ fs, fieldsD dat t v.m = some fs → ∀ f ∈ fs, TOk f) := fun fs h => (fieldsD_ok hdk ht h).2
    have HTK : Hid (∀ f ∈ t.kids, TOk f) := fun f hf => ht.kid hf
    have HST := Lib.hid (hst.below HB0.out)
    have HVL := Lib.hid hvl
    have hemp : v.kids.isEmpty = decide (vl = 0) := by
      rw [hvl]
      cases v.kids <;> simp
    have hlen : v.kids.length = vl := hvl.symm
    rw [hemp] at Q1 Q2 Q3 Q9
    rw [hlen] at Q7
    clear hv htr hd ht hsz hkn hq hsv hst hvl hemp hlen
    show Calls Tryz.prog 22 #[.slice A dl dc, .agg #[.int .i64 v.k, .int .i64 v.m, .slice VA vl vc], .agg #[.int .i64 t.k, .int .i64 t.m, .slice TA tl tc]] w _
    generalize fieldsD dat t v.m = fd at *
    generalize hasEach dat v.kids (t.kids.getD 0 (.n 0 0 [])) = he at *
    generalize v.kids = l at *
    generalize t.kids = ts at *
    generalize v.k = y0 at *
    generalize v.m = y1 at *
    generalize t.k = x0 at *
    generalize t.m = x1 at *
    have hs0 := HB0.out.size
    go_enter Tryz.func22, Tryz.ntmps22
    go_upto_region 1 with (fail)
    rw [← hC]
    clear hC
    obtain ⟨hc0, _, _⟩ := HX0.out.facts
    obtain ⟨hc1, _, _⟩ := HX1.out.facts
    obtain ⟨hc2, _, _⟩ := HX2.out.facts
    by_cases hx1 : x0 = 1
    · subst hx1
      by_cases c1 : y0 = 3
      · skip
        by_cases c2 : (-1099511627776 : Int) ≤ y1
        · skip
          by_cases c3 : y1 ≤ 1099511627776
          · skip
            by_cases c4 : vl = 0
            · skip
              have E := Lib.hid (show q = true from by rw [Q1.out rfl]; simp [c1, c2, c3, c4])
              go_wp2
              go_ret
              exact ⟨by rw [show q = _ from E.out]; rfl, HB0.out⟩
            · have E := Lib.hid (show q = false from by rw [Q1.out rfl]; simp [c4])
              go_wp2
              go_ret
              exact ⟨by rw [show q = _ from E.out]; (show Ending.returned (.bool ((vl : Int) == 0)) = _); rw [show ((vl : Int) == 0) = false from by simpa using c4], HB0.out⟩
          · have E := Lib.hid (show q = false from by rw [Q1.out rfl]; simp [c3])
            go_wp2
            go_ret
            exact ⟨by rw [show q = _ from E.out]; rfl, HB0.out⟩
        · have E := Lib.hid (show q = false from by rw [Q1.out rfl]; simp [c2])
          go_wp2
          go_ret
          exact ⟨by rw [show q = _ from E.out]; rfl, HB0.out⟩
      · have E := Lib.hid (show q = false from by rw [Q1.out rfl]; simp [c1])
        go_wp2
        go_ret
        exact ⟨by rw [show q = _ from E.out]; rfl, HB0.out⟩
    by_cases hx2 : x0 = 2
    · subst hx2
      by_cases c1 : y0 = 2
      · by_cases c4 : vl = 0
        · by_cases c2 : y1 = 0
          · have E := Lib.hid (show q = true from by rw [Q2.out rfl]; simp [c1, c2, c4])
            go_wp2
            go_ret
            exact ⟨by rw [show q = _ from E.out]; rfl, HB0.out⟩
          · by_cases c3 : y1 = 1
            · have E := Lib.hid (show q = true from by rw [Q2.out rfl]; simp [c1, c3, c4])
              go_wp2
              go_ret
              exact ⟨by rw [show q = _ from E.out]; rfl, HB0.out⟩
            · have E := Lib.hid (show q = false from by rw [Q2.out rfl]; simp [c2, c3])
              go_wp2
              go_ret
              exact ⟨by rw [show q = _ from E.out]; rfl, HB0.out⟩
        · have c4i : ¬ (vl : Int) = 0 := by omega
          have E := Lib.hid (show q = false from by rw [Q2.out rfl]; simp [c4])
          by_cases c2 : y1 = 0
          · skip
            go_wp2
            go_ret
            exact ⟨by rw [show q = _ from E.out]; (show Ending.returned (.bool ((vl : Int) == 0)) = _); rw [show ((vl : Int) == 0) = false from by simpa using c4], HB0.out⟩
          · by_cases c3 : y1 = 1
            · skip
              go_wp2
              go_ret
              exact ⟨by rw [show q = _ from E.out]; (show Ending.returned (.bool ((vl : Int) == 0)) = _); rw [show ((vl : Int) == 0) = false from by simpa using c4], HB0.out⟩
            · skip
              go_wp2
              go_ret
              exact ⟨by rw [show q = _ from E.out]; rfl, HB0.out⟩
      · have E := Lib.hid (show q = false from by rw [Q2.out rfl]; simp [c1])
        go_wp2
        go_ret
        exact ⟨by rw [show q = _ from E.out]; rfl, HB0.out⟩
    by_cases hx3 : x0 = 3
    · subst hx3
      by_cases c1 : y0 = 1
      · skip
        by_cases c2 : y1 = 0
        · skip
          by_cases c4 : vl = 0
          · skip
            have E := Lib.hid (show q = true from by rw [Q3.out rfl]; simp [c1, c2, c4])
            go_wp2
            go_ret
            exact ⟨by rw [show q = _ from E.out]; rfl, HB0.out⟩
          · have E := Lib.hid (show q = false from by rw [Q3.out rfl]; simp [c4])
            go_wp2
            go_ret
            exact ⟨by rw [show q = _ from E.out]; (show Ending.returned (.bool ((vl : Int) == 0)) = _); rw [show ((vl : Int) == 0) = false from by simpa using c4], HB0.out⟩
        · have E := Lib.hid (show q = false from by rw [Q3.out rfl]; simp [c2])
          go_wp2
          go_ret
          exact ⟨by rw [show q = _ from E.out]; rfl, HB0.out⟩
      · have E := Lib.hid (show q = false from by rw [Q3.out rfl]; simp [c1])
        go_wp2
        go_ret
        exact ⟨by rw [show q = _ from E.out]; rfl, HB0.out⟩
    by_cases hx6 : x0 = 6
    · subst hx6
      by_cases c1 : y0 = 4
      · skip
        by_cases c2 : y1 = 0
        · skip
          have E := Lib.hid (show q = hasAll dat l ts from by rw [Q6.out rfl]; simp [c1, c2])
          have KK := Lib.hid (KA.out D' ts TA tl tc C (Below.refl _ _) HTK.out HST.out)
          generalize hasAll dat l ts = r at *
          go_wp2_with fail
          refine KK.out.mono ?_
          rintro e w2 ⟨rfl, hb⟩
          have HB2 := Lib.hid (HB0.out.trans (hb.mono HB0.out.size))
          clear hb
          go_wp2
          go_ret
          exact ⟨by rw [show q = _ from E.out]; rfl, HB2.out⟩
        · have E := Lib.hid (show q = false from by rw [Q6.out rfl]; simp [c2])
          go_wp2
          go_ret
          exact ⟨by rw [show q = _ from E.out]; rfl, HB0.out⟩
      · have E := Lib.hid (show q = false from by rw [Q6.out rfl]; simp [c1])
        go_wp2
        go_ret
        exact ⟨by rw [show q = _ from E.out]; rfl, HB0.out⟩
    by_cases hx5 : x0 = 5
    · subst hx5
      by_cases c1 : y0 = 5
      · by_cases c2 : y1 < 0
        · have E := Lib.hid (show q = false from by rw [Q5.out rfl, if_neg (by omega)])
          go_wp2
          go_ret
          exact ⟨by rw [show q = _ from E.out]; rfl, HB0.out⟩
        · by_cases c3 : 8 ≤ y1
          · have E := Lib.hid (show q = false from by rw [Q5.out rfl, if_neg (by omega)])
            go_wp2
            go_ret
            exact ⟨by rw [show q = _ from E.out]; rfl, HB0.out⟩
          · have E := Lib.hid (show q = _ from by rw [Q5.out rfl, if_pos (by omega)])
            have KK := Lib.hid (KF.out (by unfold rng; omega))
            go_wp2_with fail
            refine KK.out.mono ?_
            rintro e w2 ⟨hb, (⟨rfl, rfl⟩ | ⟨fs, FA, fl, fc, rfl, rfl, hfs⟩)⟩
            · have HB2 := Lib.hid (HB0.out.trans (hb.mono HB0.out.size))
              clear hb
              go_wp2
              go_ret
              exact ⟨by rw [show q = _ from E.out]; rfl, HB2.out⟩
            · have HB1 := Lib.hid hb
              have HB2 := Lib.hid (HB0.out.trans (hb.mono HB0.out.size))
              have HX3 := Lib.hid (HX0.out.below hb HX0.out.lt)
              have HX4 := Lib.hid (HX1.out.below hb HX1.out.lt)
              obtain ⟨hc3, _, _⟩ := HX3.out.facts
              obtain ⟨hc4, _, _⟩ := HX4.out.facts
              have KK2 := Lib.hid (KA.out _ fs FA fl fc w2 hb (HFD.out fs rfl) hfs)
              clear hb hfs hc0 hc1 hc2
              go_wp2_with fail
              refine KK2.out.mono ?_
              rintro e w3 ⟨rfl, hb⟩
              have HB3 := Lib.hid (HB2.out.trans (hb.mono HB2.out.size))
              clear hb
              go_wp2
              go_ret
              exact ⟨by rw [show q = _ from E.out]; rfl, HB3.out⟩
      · have E := Lib.hid (show q = false from by rw [Q5.out rfl, if_neg (by omega)])
        go_wp2
        go_ret
        exact ⟨by rw [show q = _ from E.out]; rfl, HB0.out⟩
    by_cases hx7 : x0 = 7
    · subst hx7
      by_cases c1 : y0 = 6
      · skip
        by_cases c2 : y1 = 0
        · skip
          by_cases c3 : vl ≤ 4096
          · skip
            have E := Lib.hid (show q = he from by rw [Q7.out rfl]; simp [c1, c2, c3])
            have KK := Lib.hid (KC.out rfl)
            go_wp2_with fail
            refine KK.out.mono ?_
            rintro e w2 ⟨rfl, hb⟩
            have HB2 := Lib.hid (HB0.out.trans (hb.mono HB0.out.size))
            clear hb
            cases he with
            | true =>
              go_wp2
              go_ret
              exact ⟨by rw [show q = _ from E.out]; rfl, HB2.out⟩
            | false =>
              go_wp2
              go_ret
              exact ⟨by rw [show q = _ from E.out]; rfl, HB2.out⟩
          · have E := Lib.hid (show q = false from by rw [Q7.out rfl]; simp [c3])
            go_wp2
            go_ret
            exact ⟨by rw [show q = _ from E.out]; rfl, HB0.out⟩
        · have E := Lib.hid (show q = false from by rw [Q7.out rfl]; simp [c2])
          go_wp2
          go_ret
          exact ⟨by rw [show q = _ from E.out]; rfl, HB0.out⟩
      · have E := Lib.hid (show q = false from by rw [Q7.out rfl]; simp [c1])
        go_wp2
        go_ret
        exact ⟨by rw [show q = _ from E.out]; rfl, HB0.out⟩
    by_cases hx8 : x0 = 8
    · subst hx8
      by_cases c1 : y0 = 7
      · skip
        by_cases c2 : y1 = 0
        · skip
          have E := Lib.hid (show q = hasAll dat l ts from by rw [Q8.out rfl]; simp [c1, c2])
          have KK := Lib.hid (KA.out D' ts TA tl tc C (Below.refl _ _) HTK.out HST.out)
          generalize hasAll dat l ts = r at *
          go_wp2_with fail
          refine KK.out.mono ?_
          rintro e w2 ⟨rfl, hb⟩
          have HB2 := Lib.hid (HB0.out.trans (hb.mono HB0.out.size))
          clear hb
          go_wp2
          go_ret
          exact ⟨by rw [show q = _ from E.out]; rfl, HB2.out⟩
        · have E := Lib.hid (show q = false from by rw [Q8.out rfl]; simp [c2])
          go_wp2
          go_ret
          exact ⟨by rw [show q = _ from E.out]; rfl, HB0.out⟩
      · have E := Lib.hid (show q = false from by rw [Q8.out rfl]; simp [c1])
        go_wp2
        go_ret
        exact ⟨by rw [show q = _ from E.out]; rfl, HB0.out⟩
    by_cases hx9 : x0 = 9
    · subst hx9
      by_cases c1 : y0 = 8
      · skip
        by_cases c2 : (0 : Int) ≤ y1
        · skip
          by_cases c3 : y1 < 64
          · skip
            by_cases c4 : vl = 0
            · skip
              have E := Lib.hid (show q = true from by rw [Q9.out rfl]; simp [c1, c2, c3, c4])
              go_wp2
              go_ret
              exact ⟨by rw [show q = _ from E.out]; rfl, HB0.out⟩
            · have E := Lib.hid (show q = false from by rw [Q9.out rfl]; simp [c4])
              go_wp2
              go_ret
              exact ⟨by rw [show q = _ from E.out]; (show Ending.returned (.bool ((vl : Int) == 0)) = _); rw [show ((vl : Int) == 0) = false from by simpa using c4], HB0.out⟩
          · have E := Lib.hid (show q = false from by rw [Q9.out rfl]; simp [c3])
            go_wp2
            go_ret
            exact ⟨by rw [show q = _ from E.out]; rfl, HB0.out⟩
        · have E := Lib.hid (show q = false from by rw [Q9.out rfl]; simp [c2])
          go_wp2
          go_ret
          exact ⟨by rw [show q = _ from E.out]; rfl, HB0.out⟩
      · have E := Lib.hid (show q = false from by rw [Q9.out rfl]; simp [c1])
        go_wp2
        go_ret
        exact ⟨by rw [show q = _ from E.out]; rfl, HB0.out⟩
    have E := Lib.hid (show q = false from QN.out ⟨hx1, hx2, hx3, hx5, hx6, hx7, hx8, hx9⟩)
    go_wp2
    go_ret
    exact ⟨by rw [show q = _ from E.out]; rfl, HB0.out⟩
end Go.Proofs.YtdbiedpdibjdlaaGreat

