/-
  index.trivial (it ends, and gives an index), index.Trivial.
-/
import Derived.Test.YtdbiedpdibjdlaaGreatMGn
import Derived.Test.YtdbiedpdibjdlaaGreatMGz
import Derived.Test.YtdbiedpdibjdlaaGreatMHf
namespace Go.Proofs.YtdbiedpdibjdlaaGreat
open Go.RowKit AC
set_option linter.unusedVariables false
set_option linter.unusedSimpArgs false
theorem info_idx : (Tryz.prog.info? 51).map (fun i => (i.size, i.bytes, i.zero.map fun z => z.cells.size)) = some (2, 32, some 2) := by kernel_rfl
def IdxPost (w : World) (e : Ending) (w' : World) : Prop := ∃ A l c, e = .returned (.agg #[.int .i64 0, .slice A l c]) ∧ Below w.heap.size w w'
def TrivOk (n : Nat) : Prop := ∀ (D : Nat → Prop) (t : Tr) (w : World) (v : List Value), t.size ≤ n → t.size ≤ 100000 → TrR w D t v → Calls Tryz.prog 36 #[.agg v.toArray] w (IdxPost w)
theorem bk_duo {w : World} {g : Nat} {T : TypeId} {a b x y : Value} (h : Bk w g T #[a, b]) : Bk ((w.setCell ⟨g, 0, none⟩ x).setCell ⟨g, 1, none⟩ y) g T #[x, y] := by
  have := (h.set 0 x).set 1 y
  simpa using this
theorem bk_three (w : World) (t : TypeId) (cs : Array Value) (x y : Obj) : Bk (((w.alloc x).alloc y).alloc (.cells cs t)) (w.heap.size + 2) t cs := by
  have := bk_two (w.alloc x) t cs y
  have e : (w.alloc x).heap.size + 1 = w.heap.size + 2 := by simp
  rw [e] at this
  exact this
set_option maxHeartbeats 4000000 in
set_option maxRecDepth 100000 in
theorem trivial_any : ∀ (n : Nat), TrivOk n
  | 0 => fun D t w v h _ _ => absurd t.size_pos (by omega)
  | n + 1 => fun D t w v hn hmax hr => by
    have IH := Lib.hid (trivial_any n)
    obtain ⟨A, len, cap, rfl, hs, hk, hm⟩ := hr.form
    have hsz := Tr.size_eq t
    generalize t.kids = l at hs hsz
    generalize t.k = x0 at *
    generalize t.m = x1 at *
    have HS := Lib.hid hs
    have hlen : len = l.length := hs.1
    have HLEN := Lib.hid hlen
    have hl2 := sizes_len l
    have hl3 : len ≤ 100000 := by omega
    have hcap : cap ≤ maxLen := hs.2.2.1
    have hlc := hs.2.1
    have HN : Hid (∀ (i : Nat) (h : i < l.length), l[i].size ≤ n ∧ l[i].size ≤ 100000) := fun i h => by have := sizes_get h; omega
    unfold maxLen at hcap
    clear hs hr hlen hsz hl2 hk hm hn hmax
    show Calls Tryz.prog 36 #[.agg #[.int .i64 x0, .int .i64 x1, .slice A len cap]] w _
    go_enter Tryz.func36, Tryz.ntmps36
    go_upto_region 2 with (fail)
    obtain ⟨C, hC⟩ : ∃ C, C = ((w.alloc (.cells #[.int .i64 x0, .int .i64 x1, .slice A len cap] 25)).alloc (.cells #[.int .i64 0, .slice none 0 0] 51)).alloc (.cells #[.int .i64 0, .slice none 0 0] 51) := ⟨_, rfl⟩
    have HB0 : Hid (Below w.heap.size w C) := by rw [hC]; exact (((Below.refl _ _).alloc (Nat.le_refl _) _).alloc (by simp) _).alloc (by simp; omega) _
    have HX0 : Hid (Bk C w.heap.size 25 #[.int .i64 x0, .int .i64 x1, .slice A len cap]) := by rw [hC]; exact ((Bk.new _ _ _).alloc _).alloc _
    have HY0 : Hid (Bk C (w.heap.size + 1) 51 #[.int .i64 0, .slice none 0 0]) := by rw [hC]; exact (bk_two _ _ _ _).alloc _
    have HZ0 : Hid (Bk C (w.heap.size + 2) 51 #[.int .i64 0, .slice none 0 0]) := by rw [hC]; exact bk_three _ _ _ _ _
    have HCS : Hid (C.heap.size = w.heap.size + 3) := by show C.heap.size = _; rw [hC]; simp
    rw [← hC]
    clear hC
    obtain ⟨hx0, _, _⟩ := HX0.out.facts
    by_cases h6 : x0 = 6
    · subst h6
      go_wp2
      go_loopw [12] (fun jv wr => ∃ (i : Nat) (xs : List Value) (lv : Value), i ≤ len ∧ jv = .int .i64 i ∧ Hid (wr.ownsRow C.heap.size 51 2 lv i xs) ∧ Hid (Below w.heap.size w wr) ∧ Hid (Bk wr (w.heap.size + 1) 51 #[.int .i64 0, .slice none 0 0]) ∧ Hid (Bk wr (w.heap.size + 2) 51 #[.int .i64 0, lv]) ∧ Hid (C.heap.size ≤ wr.heap.size)) (fun jv _ => len - (intOf jv).toNat)
      case atStart => exact ⟨0, [], .slice none 0 0, by omega, rfl, World.ownsRow_nil _ _ _ _, HB0, HY0, HZ0, Nat.le_refl _⟩
      case round =>
        obtain ⟨i, xs, lv, hi, rfl, HO, HB, HY, HZ, HC⟩ := hrel
        by_cases hlt : i < len
        · have hil : i < l.length := by have := HLEN.out; omega
          obtain ⟨b, off, A', len', cap', rfl, hb, e0, e1, e2, hrk⟩ := (HS.out.below HB.out).get (i := i) hil
          have HRK := Lib.hid hrk
          clear hrk
          obtain ⟨y0, hy0⟩ : ∃ x, l[i].k = x := ⟨_, rfl⟩
          obtain ⟨y1, hy1⟩ : ∃ x, l[i].m = x := ⟨_, rfl⟩
          rw [hy0, hy1] at HRK
          rw [hy0] at e0
          rw [hy1] at e1
          clear hy0 hy1
          go_upto_region 6 with (fail)
          generalize hwi : (wr.alloc (.cells #[.int .i64 y0, .int .i64 y1, .slice A' len' cap'] 25)) = wi
          have hbi : Below wr.heap.size wr wi := by rw [← hwi]; exact (Below.refl _ _).alloc (Nat.le_refl _) _
          have HK1 : Hid (Bk wi wr.heap.size 25 #[.int .i64 y0, .int .i64 y1, .slice A' len' cap']) := by rw [← hwi]; exact Bk.new _ _ _
          have HBI := Lib.hid hbi
          have HRI := Lib.hid (HRK.out.below hbi)
          have HZI := Lib.hid (HZ.out.below hbi HZ.out.lt)
          clear hwi hbi
          refine wp_region_rel (by kernel_rfl) (by kernel_rfl) [16, 17, 18, 19, 20] 40 (by kernel_rfl) (fun d x => Below wi.heap.size wi x) (fun j x x' => Below x.heap.size x x') (fun io v x => match io with
            | 0 => v = .pointer (some ⟨w.heap.size + 2, 1, none⟩)
            | 1 => v = lv
            | 2 => v = .agg #[.int .i64 y0, .int .i64 y1, .slice A' len' cap']
            | 3 => ∃ Au lu cu, v = .agg #[.int .i64 0, .slice Au lu cu]
            | _ => ∃ Au lu cu g, v = .slice (some ⟨g, 0, none⟩) 1 1 ∧ Bk x g 51 #[.int .i64 0, .slice Au lu cu] ∧ wi.heap.size ≤ g) (Below.refl _ _).drew ?_ ?_ ?_ ?_
          · intro d j x x' h _ hg
            exact h.trans (hg.mono h.size)
          · intro io jo v x x' hi hj hij ha h hg
            rcases io with _ | _ | _ | _ | io
            · exact h
            · exact h
            · exact h
            · exact h
            · obtain ⟨Au, lu, cu, g, h1, h3, h4⟩ := h
              exact ⟨Au, lu, cu, g, h1, h3.below hg h3.lt, h4⟩
          · intro io oo S d x ho hio hd hbx hdep
            rcases io with _ | _ | _ | _ | _ | io
            · cases ho
              refine opOk_h rfl rfl fun KK HK => ?_
              clear hdep hio
              simp only [nv, Nat.reduceAdd] at HK ⊢
              go_wp2
              exact HK.out _ _ ⟨_, rfl, rfl, Below.refl _ _⟩
            · cases ho
              have h0 : S 0 = .pointer (some ⟨w.heap.size + 2, 1, none⟩) := hdep 0 (by kernel_rfl) (by decide)
              have cc := (HZI.out.below hbx HZI.out.lt).facts.1
              refine opOk_h rfl rfl fun KK HK => ?_
              clear hdep hio
              simp only [nv, Nat.reduceAdd] at HK ⊢
              generalize S 0 = t0 at *
              subst h0
              go_wp2
              exact HK.out _ _ ⟨_, rfl, rfl, Below.refl _ _⟩
            · cases ho
              have cc := (HK1.out.below hbx HK1.out.lt).facts.1
              refine opOk_h rfl rfl fun KK HK => ?_
              clear hdep hio
              simp only [nv, Nat.reduceAdd] at HK ⊢
              go_wp2
              exact HK.out _ _ ⟨_, rfl, rfl, Below.refl _ _⟩
            · cases ho
              have h2 : S 2 = .agg #[.int .i64 y0, .int .i64 y1, .slice A' len' cap'] := hdep 2 (by kernel_rfl) (by decide)
              have KEY := Lib.hid (IH.out D l[i] x _ (HN.out i hil).1 (HN.out i hil).2 (HRI.out.below hbx))
              refine opOk_h rfl rfl fun KK HK => ?_
              clear hdep hio
              simp only [nv, Nat.reduceAdd] at HK ⊢
              generalize S 2 = t2 at *
              subst h2
              go_wp2_with fail
              refine KEY.out.mono ?_
              rintro e xN ⟨Au, lu, cu, rfl, hbN⟩
              exact HK.out _ _ ⟨_, rfl, ⟨Au, lu, cu, rfl⟩, hbN⟩
            · cases ho
              have h4 : ∃ Au lu cu, S 3 = .agg #[.int .i64 0, .slice Au lu cu] := hdep 3 (by kernel_rfl) (by decide)
              refine opOk_h rfl rfl fun KK HK => ?_
              clear hdep hio
              simp only [nv, Nat.reduceAdd] at HK ⊢
              obtain ⟨Au, lu, cu, h4⟩ := h4
              generalize S 3 = t4 at *
              subst h4
              go_wp2
              exact HK.out _ _ ⟨_, rfl, ⟨_, _, _, _, rfl, Bk.new _ _ _, hbx.size⟩, (Below.refl _ _).alloc (Nat.le_refl _) _⟩
            · exact absurd hio (by simp)
          · intro S d x hbx hF
            have g1 : S 1 = lv := hF 1 (by decide)
            have g0 : S 0 = .pointer (some ⟨w.heap.size + 2, 1, none⟩) := hF 0 (by decide)
            have g5 : ∃ Au lu cu g, S 4 = .slice (some ⟨g, 0, none⟩) 1 1 ∧ Bk x g 51 #[.int .i64 0, .slice Au lu cu] ∧ wi.heap.size ≤ g := hF 4 (by decide)
            clear hF
            simp only [nv, Nat.reduceAdd, List.length_cons, List.length_nil, List.drop_succ_cons, List.drop_zero]
            obtain ⟨Au, lu, cu, gb, g5, hbk, hgb⟩ := g5
            generalize S 0 = t0 at *
            generalize S 1 = t1 at *
            generalize S 2 = t2 at *
            generalize S 3 = t3 at *
            generalize S 4 = t4 at *
            subst g0
            subst g1
            subst g5
            have HBx := Lib.hid (show Below wr.heap.size wr x from HBI.out.trans (hbx.mono HBI.out.size))
            have hOx : x.ownsRow C.heap.size 51 2 t1 i xs := by
              refine HO.out.kept (row := none) ⟨HBx.out.os, HBx.out.tape, HBx.out.output, HBx.out.size, fun k hk _ => HBx.out.block k hk⟩ ?_
              cases t1.ownBlock with
              | none => exact .inl rfl
              | some g => exact .inr (fun e => by cases e)
            have hbase : C.heap.size ≤ x.heap.size := by have h3 : C.heap.size ≤ wr.heap.size := HC.out; have := HBx.out.size; omega
            have HZx := Lib.hid (HZI.out.below hbx HZI.out.lt)
            have HYx := Lib.hid (HY.out.below HBx.out HY.out.lt)
            clear hbx
            refine wpList_pushBk x rfl _ _ 49 51 rfl Tryz.underlying49 2 32 info_idx (by decide) (by decide) C.heap.size t1 i xs [.int .i64 0, .slice Au lu cu] (by rfl) hOx gb _ hbk (by rfl) rfl (by intro y hy; simp at hy; rcases hy with rfl | rfl <;> rfl) (by omega) hbase ?_
            intro g cap3 w3 hown' hg hgb' hglt
            have hne : ∀ k, k < C.heap.size → some k ≠ t1.ownBlock := fun k hk e => by have := (HO.out.lt k e.symm).1; omega
            have HY3 := Lib.hid (HYx.out.grown hg (hne _ (by have h1 : C.heap.size = w.heap.size + 3 := HCS.out; omega)))
            have hz3 := HZx.out.grown hg (hne _ (by have h1 : C.heap.size = w.heap.size + 3 := HCS.out; omega))
            have hb5 : Below w.heap.size w x := HB.out.trans (HBx.out.mono HB.out.size)
            have hb6 : Below w.heap.size w w3 := ⟨hg.os.trans hb5.os, hg.tape.trans hb5.tape, hg.output.trans hb5.output, Nat.le_trans hb5.size hg.size, fun k hk => (hg.block k (Nat.lt_of_lt_of_le hk hb5.size) (hne k (by have h1 : C.heap.size = w.heap.size + 3 := HCS.out; omega))).trans (hb5.block k hk)⟩
            obtain ⟨hz, hzf, hzlt⟩ := hz3.facts
            have HO3 := Lib.hid hown'
            have HS3 : Hid (C.heap.size ≤ w3.heap.size) := by show C.heap.size ≤ w3.heap.size; have := hg.size; omega
            clear hOx hown'
            go_wp2
            go_roundw
            case rel =>
              have h1 : C.heap.size = w.heap.size + 3 := HCS.out
              have hgc : C.heap.size ≤ g := (HO3.out.lt g rfl).1
              have hfw : Fw (fun b => b = w.heap.size + 2) w3 (w3.setCell ⟨w.heap.size + 2, 1, none⟩ (.slice (some ⟨g, 0, none⟩) (i + 1) cap3)) := (Fw.refl (fun b => b = w.heap.size + 2) _).setCell (p := ⟨w.heap.size + 2, 1, none⟩) (.inl rfl) _
              refine ⟨i + 1, _, _, by omega, by go_num, Lib.hid (HO3.out.kept (row := some (w.heap.size + 2)) ⟨hfw.os, hfw.tape, hfw.output, hfw.size, fun j hj hne => hfw.block j hj fun e => hne (e ▸ rfl)⟩ (.inr fun e => ?_)), hb6.setCell (p := ⟨w.heap.size + 2, 1, none⟩) (by show w.heap.size ≤ w.heap.size + 2; omega) _, HY3.out.far (p := ⟨w.heap.size + 2, 1, none⟩) (by show w.heap.size + 1 ≠ w.heap.size + 2; omega) _, Lib.hid (by have := hz3.set 1 (.slice (some ⟨g, 0, none⟩) (i + 1) cap3); simpa using this), by have := HS3.out; show C.heap.size ≤ _; simp [World.setCell]; omega⟩
              have e' : g = w.heap.size + 2 := by simpa [Value.ownBlock] using e
              omega
            case measure => simp [intOf]; omega
        · obtain rfl : i = len := by omega
          obtain ⟨hz, hzf, _⟩ := HZ.out.facts
          obtain ⟨hy, hyf, _⟩ := HY.out.facts
          obtain ⟨A3, len3, cap3, rfl⟩ : ∃ A l c, lv = .slice A l c := by
            rcases HO.out.2 with ⟨hv, _⟩ | ⟨g, cap, cur, hv, _⟩
            · exact ⟨_, _, _, hv⟩
            · exact ⟨_, _, _, hv⟩
          go_wp2
          have hg : Bk ((wr.setCell ⟨w.heap.size + 1, 0, none⟩ (.int .i64 0)).setCell ⟨w.heap.size + 1, 1, none⟩ (.slice A3 len3 cap3)) (w.heap.size + 1) 51 #[.int .i64 0, .slice A3 len3 cap3] := bk_duo HY.out
          refine bodyPost_ret (results_cell_row rfl _ _ (w.heap.size + 1) 51 #[.int .i64 0, .slice A3 len3 cap3] (0, 0) _ rfl hg Tryz.underlying51 rfl (by kernel_rfl)) rfl ?_
          exact ⟨A3, len3, cap3, rfl, (HB.out.setCell (p := ⟨w.heap.size + 1, 0, none⟩) (by show w.heap.size ≤ w.heap.size + 1; omega) _).setCell (p := ⟨w.heap.size + 1, 1, none⟩) (by show w.heap.size ≤ w.heap.size + 1; omega) _⟩
    · obtain ⟨hz, hzf, _⟩ := HZ0.out.facts
      obtain ⟨hy, hyf, _⟩ := HY0.out.facts
      go_wp2
      have hg : Bk ((C.setCell ⟨w.heap.size + 1, 0, none⟩ (.int .i64 0)).setCell ⟨w.heap.size + 1, 1, none⟩ (.slice none 0 0)) (w.heap.size + 1) 51 #[.int .i64 0, .slice none 0 0] := bk_duo HY0.out
      refine bodyPost_ret (results_cell_row rfl _ _ (w.heap.size + 1) 51 #[.int .i64 0, .slice none 0 0] (0, 0) _ rfl hg Tryz.underlying51 rfl (by kernel_rfl)) rfl ?_
      exact ⟨none, 0, 0, rfl, (HB0.out.setCell (p := ⟨w.heap.size + 1, 0, none⟩) (by show w.heap.size ≤ w.heap.size + 1; omega) _).setCell (p := ⟨w.heap.size + 1, 1, none⟩) (by show w.heap.size ≤ w.heap.size + 1; omega) _⟩
end Go.Proofs.YtdbiedpdibjdlaaGreat

/-
  Plain facts: valid data types are small; the types of fields.
-/
namespace AC
set_option linter.unusedVariables false
mutual
theorem validT_size {D : List DaD} {vars : Int} : ∀ {t : Tr} {L r : Nat}, validT D vars L t = some r → t.size + r = L
  | .n k m l, 0, r, h => by rw [validT] at h; cases h
  | .n k m l, L + 1, r, h => by
    rw [validT] at h
    split at h
    · cases h
    · split at h
      · have := validTs_size h
        rw [Tr.size]; omega
      · cases h
theorem validTs_size {D : List DaD} {vars : Int} : ∀ {l : List Tr} {L r : Nat}, validTs D vars L l = some r → sizes l + r = L
  | [], L, r, h => by rw [validTs] at h; cases h; rw [sizes]; omega
  | t :: l, L, r, h => by
    rw [validTs] at h
    cases hq : validT D vars L t with
    | none => rw [hq] at h; cases h
    | some s =>
      rw [hq] at h
      have h1 := validT_size hq
      have h2 := validTs_size h
      rw [sizes]; omega
end
/-! Each array type has an element type. -/
mutual
def arrOk : Tr → Bool | .n k m l => (k != 7 || !l.isEmpty) && arrsOk l
def arrsOk : List Tr → Bool | [] => true | t :: l => arrOk t && arrsOk l
end
theorem arrsOk_mem : ∀ {l : List Tr}, arrsOk l = true → ∀ t ∈ l, arrOk t = true
  | t :: l, h, x, hx => by
    rw [arrsOk, Bool.and_eq_true] at h
    rcases List.mem_cons.1 hx with rfl | hx
    · exact h.1
    · exact arrsOk_mem h.2 x hx
theorem arrOk_kids {t : Tr} (h : arrOk t = true) : ∀ x ∈ t.kids, arrOk x = true := by
  cases t with
  | n k m l =>
    rw [arrOk, Bool.and_eq_true] at h
    exact arrsOk_mem h.2
theorem arrOk_seven {t : Tr} (h : arrOk t = true) (hk : t.k = 7) : 0 < t.kids.length := by
  cases t with
  | n k m l =>
    rw [arrOk, Bool.and_eq_true] at h
    have hk : k = 7 := hk
    subst hk
    cases l with
    | nil => simp at h
    | cons a l => simp [Tr.kids]
mutual
theorem validT_arr {D : List DaD} {vars : Int} : ∀ {t : Tr} {L r : Nat}, validT D vars L t = some r → arrOk t = true
  | .n k m l, 0, r, h => by rw [validT] at h; cases h
  | .n k m l, L + 1, r, h => by
    rw [validT] at h
    split at h
    · cases h
    · next lo hi hh =>
      split at h
      · next hc =>
        have := validTs_arr h
        rw [arrOk, this, Bool.and_true]
        by_cases h7 : k = 7
        · subst h7
          have hlo : lo = 1 := by
            simp [headD] at hh
            omega
          cases l with
          | nil => subst hlo; have := hc.1; simp at this
          | cons a l => simp
        · simp [h7]
      · cases h
theorem validTs_arr {D : List DaD} {vars : Int} : ∀ {l : List Tr} {L r : Nat}, validTs D vars L l = some r → arrsOk l = true
  | [], L, r, h => by rw [arrsOk]
  | t :: l, L, r, h => by
    rw [validTs] at h
    cases hq : validT D vars L t with
    | none => rw [hq] at h; cases h
    | some s =>
      rw [hq] at h
      rw [arrsOk, validT_arr hq, validTs_arr h]
      rfl
end
mutual
theorem arrOk_subst {ar : List Tr} (ha : ∀ x ∈ ar, arrOk x = true) : ∀ {t : Tr}, arrOk t = true → arrOk (subst ar t) = true
  | .n k m l, h => by
    rw [subst]
    split
    · next hc =>
      simp only [Bool.and_eq_true, decide_eq_true_eq, beq_iff_eq] at hc
      rw [List.getD_eq_getElem?_getD, List.getElem?_eq_getElem (by omega)]
      exact ha _ (List.getElem_mem _)
    · rw [arrOk, Bool.and_eq_true] at h ⊢
      refine ⟨?_, arrsOk_substs ha h.2⟩
      cases l with
      | nil => exact h.1
      | cons a l => rw [substs]; simp
theorem arrsOk_substs {ar : List Tr} (ha : ∀ x ∈ ar, arrOk x = true) : ∀ {l : List Tr}, arrsOk l = true → arrsOk (substs ar l) = true
  | [], _ => by rw [substs, arrsOk]
  | t :: l, h => by
    rw [arrsOk, Bool.and_eq_true] at h
    rw [substs, arrsOk, arrOk_subst ha h.1, arrsOk_substs ha h.2]
    rfl
end
theorem subSizes_ge {ss : List Nat} : ∀ {l : List Tr} {n : Nat}, n ≤ subSizes ss n l
  | [], n => by rw [subSizes]; exact Nat.le_refl _
  | t :: l, n => by
    rw [subSizes]
    split
    · omega
    · exact Nat.le_trans (by omega) (subSizes_ge (l := l) (n := n + subSize ss t))
mutual
theorem subSize_size {ar : List Tr} : ∀ {t : Tr}, subSize (ar.map Tr.size) t ≤ 200 → (subst ar t).size ≤ 200
  | .n k m l, h => by
    rw [subst]
    rw [subSize] at h
    simp only [List.length_map] at h
    split
    · next hc =>
      rw [if_pos hc] at h
      simp only [Bool.and_eq_true, decide_eq_true_eq, beq_iff_eq] at hc
      have hm : m.toNat < ar.length := by omega
      rw [List.getD_eq_getElem?_getD, List.getElem?_eq_getElem hm]
      rw [List.getD_eq_getElem?_getD, List.getElem?_map, List.getElem?_eq_getElem hm] at h
      exact h
    · next hc =>
      rw [if_neg hc] at h
      have := subSizes_size (ar := ar) (l := l) (n := 1) h
      rw [Tr.size]
      omega
theorem subSizes_size {ar : List Tr} : ∀ {l : List Tr} {n : Nat}, subSizes (ar.map Tr.size) n l ≤ 200 → n + sizes (substs ar l) ≤ 200
  | [], n, h => by rw [subSizes] at h; rw [substs, sizes]; exact h
  | t :: l, n, h => by
    rw [subSizes] at h
    split at h
    · omega
    · next hc =>
      have h1 := subSizes_ge (ss := ar.map Tr.size) (l := l) (n := n + subSize (ar.map Tr.size) t)
      have h2 := subSizes_size (ar := ar) (l := l) h
      have h3 := subSize_eq (ar := ar) (t := t) (by omega)
      rw [substs, sizes]
      omega
theorem subSize_eq {ar : List Tr} : ∀ {t : Tr}, subSize (ar.map Tr.size) t ≤ 200 → (subst ar t).size ≤ subSize (ar.map Tr.size) t
  | .n k m l, h => by
    rw [subst]
    rw [subSize] at h ⊢
    simp only [List.length_map] at h ⊢
    split
    · next hc =>
      simp only [Bool.and_eq_true, decide_eq_true_eq, beq_iff_eq] at hc
      have hm : m.toNat < ar.length := by omega
      rw [List.getD_eq_getElem?_getD, List.getElem?_eq_getElem hm]
      rw [List.getD_eq_getElem?_getD, List.getElem?_map, List.getElem?_eq_getElem hm]
      exact Nat.le_refl _
    · next hc =>
      rw [if_neg hc] at h
      have := subSizes_eq (ar := ar) (l := l) (n := 1) h
      rw [Tr.size]
      omega
theorem subSizes_eq {ar : List Tr} : ∀ {l : List Tr} {n : Nat}, subSizes (ar.map Tr.size) n l ≤ 200 → n + sizes (substs ar l) ≤ subSizes (ar.map Tr.size) n l
  | [], n, h => by rw [subSizes]; rw [substs, sizes]; omega
  | t :: l, n, h => by
    rw [subSizes] at h ⊢
    split at h
    · omega
    · next hc =>
      rw [if_neg hc]
      have h1 := subSizes_ge (ss := ar.map Tr.size) (l := l) (n := n + subSize (ar.map Tr.size) t)
      have h2 := subSizes_eq (ar := ar) (l := l) h
      have h3 := subSize_eq (ar := ar) (t := t) (by omega)
      rw [substs, sizes]
      omega
end
end AC
namespace Go.Proofs.YtdbiedpdibjdlaaGreat
open Go.RowKit AC
set_option linter.unusedVariables false
/-- Data types that are small enough for all that is reckoned of them. -/
def DOk (dat : List DaD) : Prop := ∀ d ∈ dat, d.cons.length ≤ 8 ∧ 0 ≤ d.vars ∧ d.vars ≤ 6 ∧ ∀ c ∈ d.cons, c.args.length ≤ 6 ∧ ∀ a ∈ c.args, a.size ≤ 200 ∧ arrOk a = true
theorem DOk.small {dat : List DaD} (h : DOk dat) : SmallD dat := fun d hd c hc => by
  obtain ⟨_, _, _, h4⟩ := h d hd
  obtain ⟨h5, h6⟩ := h4 c hc
  exact ⟨by omega, fun a ha => by have := (h6 a ha).1; omega⟩
theorem argOk_ok {dat : List DaD} {d : Nat} {vr : Int} {a : Tr} (h : argOk dat d vr a = true) : a.size ≤ 200 ∧ arrOk a = true := by
  unfold argOk at h
  rw [Bool.and_eq_true, Option.isSome_iff_exists] at h
  obtain ⟨⟨r, hr⟩, _⟩ := h
  exact ⟨by have := validT_size hr; omega, validT_arr hr⟩
theorem consGo_ok {dat : List DaD} {d : Nat} {vr : Int} : ∀ {l : List CoD} {cs cs' : List (List UInt8)}, consGo dat d vr cs l = some cs' → ∀ c ∈ l, c.args.length ≤ 6 ∧ ∀ a ∈ c.args, a.size ≤ 200 ∧ arrOk a = true
  | c :: l, cs, cs', h, x, hx => by
    rw [consGo] at h
    split at h
    · next hc =>
      rcases List.mem_cons.1 hx with rfl | hx
      · have := hc.2.2
        unfold argsOk at this
        rw [Bool.and_eq_true, decide_eq_true_eq, List.all_eq_true] at this
        exact ⟨this.1, fun a ha => argOk_ok (this.2 a ha)⟩
      · exact consGo_ok h x hx
    · cases h
theorem dataGo_ok {dat : List DaD} : ∀ {l : List DaD} {i : Nat} {ns cs : List (List UInt8)}, dataGo dat i ns cs l = true → ∀ d ∈ l, d.cons.length ≤ 8 ∧ 0 ≤ d.vars ∧ d.vars ≤ 6 ∧ ∀ c ∈ d.cons, c.args.length ≤ 6 ∧ ∀ a ∈ c.args, a.size ≤ 200 ∧ arrOk a = true
  | d :: l, i, ns, cs, h, x, hx => by
    rw [dataGo] at h
    split at h
    · next hc =>
      cases hq : consGo dat i d.vars cs d.cons with
      | none => rw [hq] at h; cases h
      | some cs' =>
        rw [hq] at h
        rcases List.mem_cons.1 hx with rfl | hx
        · exact ⟨hc.2.2.2.2.2, hc.2.2.1, hc.2.2.2.1, consGo_ok hq⟩
        · exact dataGo_ok h x hx
    · cases h
theorem dataOk_ok {dat : List DaD} (h : dataOk dat = true) : dat.length ≤ 12 ∧ DOk dat := by
  unfold dataOk at h
  rw [Bool.and_eq_true, decide_eq_true_eq] at h
  exact ⟨h.1, dataGo_ok h.2⟩
/-- A type that the program may ask of. -/
def TOk (t : Tr) : Prop := t.size ≤ 200 ∧ arrOk t = true
theorem TOk.valid {dat : List DaD} {vars : Int} {t : Tr} (h : (validT dat vars 200 t).isSome = true) : TOk t := by
  rw [Option.isSome_iff_exists] at h
  obtain ⟨r, hr⟩ := h
  exact ⟨by have := validT_size hr; omega, validT_arr hr⟩
theorem TOk.kid {t x : Tr} (h : TOk t) (hx : x ∈ t.kids) : TOk x := by
  refine ⟨?_, arrOk_kids h.2 x hx⟩
  obtain ⟨i, hi, rfl⟩ := List.mem_iff_getElem.1 hx
  have h1 := sizes_get hi
  have h2 := Tr.size_eq t
  have := h.1
  omega
theorem fieldsD_ok {dat : List DaD} (hd : DOk dat) {t : Tr} (ht : TOk t) {c : Int} {fs : List Tr} (h : fieldsD dat t c = some fs) : fs.length ≤ 6 ∧ ∀ f ∈ fs, TOk f := by
  unfold fieldsD at h
  split at h
  · next h1 =>
    cases hq : dat[t.m.toNat]? with
    | none => rw [hq] at h; cases h
    | some d =>
      rw [hq] at h
      have hdm := List.mem_of_getElem? hq
      simp only at h
      split at h
      · next h2 =>
        cases hc : d.cons[c.toNat]? with
        | none => rw [hc] at h; cases h
        | some e =>
          rw [hc] at h
          have hcm := List.mem_of_getElem? hc
          simp only at h
          split at h
          · next h3 =>
            cases h
            obtain ⟨_, _, _, h4⟩ := hd d hdm
            obtain ⟨h5, h6⟩ := h4 e hcm
            rw [List.all_eq_true] at h3
            refine ⟨by simpa using h5, fun f hf => ?_⟩
            obtain ⟨a, ha, rfl⟩ := List.mem_map.1 hf
            exact ⟨subSize_size (by have := h3 a ha; simpa using this), arrOk_subst (arrOk_kids ht.2) (h6 a ha).2⟩
          · cases h
      · cases h
  · cases h
end Go.Proofs.YtdbiedpdibjdlaaGreat

