/-
  Subst.
-/
import Derived.Test.YtdbiedpdibjdlaaGreatMGs
import Derived.Test.YtdbiedpdibjdlaaGreatMGuard
namespace Go.Proofs.YtdbiedpdibjdlaaGreat
open Go.RowKit AC
set_option linter.unusedVariables false
set_option linter.unusedSimpArgs false
theorem info_typ : (Tryz.prog.info? 25).map (fun i => (i.size, i.bytes, i.zero.map fun z => z.cells.size)) = some (3, 40, some 3) := by kernel_rfl
/-- 'append(row, x)': the element lies in a block that is known whole. -/
theorem wpList_pushBk (w2 : World) {ops : Array Oper} {rest : List Oper} {op : Oper} {a : Act} {Q : Exit → Act → World → Prop} (hgd : op.guard = none) (sl x : Operand) (t e : TypeId)
    (ho : op.op = .call { callee := .builtin .append, args := #[sl, x], argTypes := #[t, t] })
    (ht : Tryz.prog.underlying t = some (.slice e)) (sz bytes : Nat) (hinfo : (Tryz.prog.info? e).map (fun i => (i.size, i.bytes, i.zero.map fun z => z.cells.size)) = some (sz, bytes, some sz)) (hsz : 0 < sz) (hby : bytes ≤ 4096)
    (base : Nat) (lv : Value) (n : Nat) (xs v : List Value) (hs : a.eval sl = lv) (hown : w2.ownsRow base e sz lv n xs) (b : Nat) (T : TypeId) (hk : Bk w2 b T v.toArray) (hx : a.eval x = .slice (some ⟨b, 0, none⟩) 1 1) (hv : v.length = sz) (h1 : ∀ u ∈ v, u.oneCell' = true)
    (hn : n ≤ 100000000) (hbase : base ≤ w2.heap.size)
    (h : ∀ g cap w3, w3.ownsRow base e sz (.slice (some ⟨g, 0, none⟩) (n + 1) cap) (n + 1) (xs ++ v) → w2.grownBy w3 lv.ownBlock → (lv.ownBlock = some g ∨ g = w2.heap.size) → g < w3.heap.size → wpList Tryz.prog ops Q rest (a.put op.dst (.slice (some ⟨g, 0, none⟩) (n + 1) cap)) w3) :
    wpList Tryz.prog ops Q (op :: rest) a w2 := by
  obtain ⟨i, hi, hzz⟩ := Option.map_eq_some_iff.1 hinfo
  simp only [Prod.mk.injEq] at hzz
  obtain ⟨hsize, hbytes, hzero⟩ := hzz
  obtain ⟨z, hz0, hzc⟩ := Option.map_eq_some_iff.1 hzero
  refine wpList_append_lies _ hgd sl x t ho base e i z sz bytes ht hi hz0 hsize hbytes hzc hsz lv n xs hs hown ⟨b, 0, none⟩ 1 1 v hx (by omega) ?_ h1 (by omega) (by unfold maxLen; omega) ?_ hbase w2.heap.size rfl ?_
  · intro j u hu
    rw [Addr.add_lit, hk.cell, Nat.zero_add]
    simpa using hu
  · have : (n + 1) * bytes ≤ 100000001 * 4096 := Nat.mul_le_mul (by omega) hby
    omega
  · intro g cap w3 h2 h3 h4 h5
    exact h g cap w3 h2 h3 h4 h5
theorem OwnT.next2 {base : Nat} {e : TypeId} {w w3 : World} {lv : Value} {l : List Tr} {us : Nat → List Value} (h : OwnT base e w lv l us) {t : Tr} {v : List Value} (hv : TrR w (fun b => base ≤ b ∧ some b ≠ lv.ownBlock) t v) (hvl : v.length = 3) {g cap : Nat}
    (hown : w3.ownsRow base e 3 (.slice (some ⟨g, 0, none⟩) (l.length + 1) cap) (l.length + 1) (rowT us l.length ++ v)) (hg : w.grownBy w3 lv.ownBlock) (hgb : lv.ownBlock = some g ∨ g = w.heap.size) :
    OwnT base e w3 (.slice (some ⟨g, 0, none⟩) (l.length + 1) cap) (l ++ [t]) fun i => if i = l.length then v else us i := by
  have hne' : ∀ b, b < w.heap.size → some b ≠ lv.ownBlock → some b ≠ (Value.slice (some ⟨g, 0, none⟩) (l.length + 1) cap).ownBlock := by
    intro b hb hne e
    have e' : b = g := by simpa [Value.ownBlock] using e
    subst e'
    rcases hgb with h | h
    · exact hne h.symm
    · omega
  have keep : ∀ {t : Tr} {v : List Value}, TrR w (fun b => base ≤ b ∧ some b ≠ lv.ownBlock) t v → TrR w3 (fun b => base ≤ b ∧ some b ≠ (Value.slice (some ⟨g, 0, none⟩) (l.length + 1) cap).ownBlock) t v := fun h =>
    TrR.keep ⟨hg.size, fun b hb hD => hg.block b hb (hD.2.2)⟩ (D := fun b => b < w.heap.size ∧ base ≤ b ∧ some b ≠ lv.ownBlock) (h.sub fun b hb hD => ⟨hb, hD⟩) |>.sub fun b _ hD => ⟨hD.2.1, hne' b hD.1 hD.2.2⟩
  refine ⟨?_, fun i hi => ?_⟩
  · have e1 : rowT (fun i => if i = l.length then v else us i) (l ++ [t]).length = rowT us l.length ++ v := by
      rw [List.length_append, List.length_singleton, rowT_succ, rowT_congr (us' := us) fun i hi => if_neg (by omega), if_pos rfl]
    rw [e1]
    simpa using hown
  · rw [List.length_append, List.length_singleton] at hi
    rcases Nat.lt_or_ge i l.length with h1 | h1
    · simp only [if_neg (show ¬ i = l.length from by omega)]
      rw [List.getElem_append_left h1]
      exact ⟨(h.2 i h1).1, keep (h.2 i h1).2⟩
    · obtain rfl : i = l.length := by omega
      simp only [if_true]
      rw [List.getElem_append_right (Nat.le_refl _)]
      simp only [Nat.sub_self, List.getElem_cons_zero]
      exact ⟨hvl, keep hv⟩
theorem OwnT.fw {k base : Nat} {e : TypeId} {w w' : World} {lv : Value} {l : List Tr} {us : Nat → List Value} (h : OwnT base e w lv l us) (f : Fw (fun b => b = k) w w') (hk : k < base) : OwnT base e w' lv l us := by
  refine ⟨h.1.kept (row := some k) ⟨f.os, f.tape, f.output, f.size, fun j hj hne => f.block j hj fun e => hne (e ▸ rfl)⟩ (.inr fun e => ?_), fun i hi => ⟨(h.2 i hi).1, (h.2 i hi).2.keep (Keeps.fw f fun b hD e => ?_)⟩⟩
  · have := (h.1.lt k e).1; omega
  · have h1 : base ≤ b := hD.1
    have h2 : b = k := e
    omega
theorem substs_len (ar : List Tr) : ∀ (l : List Tr), (substs ar l).length = l.length
  | [] => by rw [substs]
  | t :: l => by rw [substs, List.length_cons, List.length_cons, substs_len ar l]
theorem substs_append (ar : List Tr) (t : Tr) : ∀ (l : List Tr), substs ar (l ++ [t]) = substs ar l ++ [subst ar t]
  | [] => by simp [substs]
  | u :: l => by rw [List.cons_append, substs, substs, substs_append ar t l]; rfl
/-- Subst of each of the trees, by nothing, is that tree anew. -/
def VarOk (ar : List Tr) : Prop := ∀ (D : Nat → Prop) (i : Nat) (h : i < ar.length) (w : World) (v : List Value), TrR w D ar[i] v → Calls Tryz.prog 40 #[.agg v.toArray, .slice none 0 0] w (NewT ar[i] w)
def SubOk (ar : List Tr) (n : Nat) : Prop := ∀ (D D' : Nat → Prop) (t : Tr) (w : World) (v : List Value) (B : Option Addr) (l2 c2 : Nat), t.size ≤ n → t.size ≤ 100000 → TrR w D t v → TrS w D' ar B l2 c2 → Calls Tryz.prog 40 #[.agg v.toArray, .slice B l2 c2] w (NewT (subst ar t) w)
set_option maxHeartbeats 4000000 in
set_option maxRecDepth 100000 in
theorem subst_step (ar : List Tr) (hvar : VarOk ar) : ∀ (n : Nat), SubOk ar n
  | 0 => fun D D' t w v B l2 c2 h _ _ _ => absurd t.size_pos (by omega)
  | n + 1 => fun D D' t w v B l2 c2 hn hmax hr has => by
    have IH := Lib.hid (subst_step ar hvar n)
    have HVAR := Lib.hid hvar
    have HAS := Lib.hid has
    have hl2 : l2 = ar.length := has.1
    have hlc2 := has.2.1
    have hc2 : c2 ≤ maxLen := has.2.2.1
    unfold maxLen at hc2
    obtain ⟨A, len, cap, rfl, hs, hk, hm⟩ := hr.form
    obtain ⟨x0, hx0⟩ : ∃ x, t.k = x := ⟨_, rfl⟩
    obtain ⟨x1, hx1⟩ : ∃ x, t.m = x := ⟨_, rfl⟩
    obtain ⟨l, hl⟩ : ∃ l, t.kids = l := ⟨_, rfl⟩
    rw [hl] at hs
    rw [hx0] at hk
    rw [hx1] at hm
    unfold rng at hk hm
    have ht : t = .n x0 x1 l := by
      cases t
      rw [← hx0, ← hx1, ← hl]; rfl
    rw [hx0, hx1]
    have HS := Lib.hid hs
    have HT := Lib.hid ht
    clear hs hr hx0 hx1 hl ht hvar has
    show Calls Tryz.prog 40 #[.agg #[.int .i64 x0, .int .i64 x1, .slice A len cap], .slice B l2 c2] w _
    go_enter Tryz.func40, Tryz.ntmps40
    go_upto_region 1 with (fail)
    obtain ⟨C, hC⟩ : ∃ C, C = (w.alloc (.cells #[.int .i64 x0, .int .i64 x1, .slice A len cap] 25)).alloc (.cells #[.int .i64 0, .int .i64 0, .slice none 0 0] 25) := ⟨_, rfl⟩
    have HB0 : Hid (Below w.heap.size w C) := by rw [hC]; exact ((Below.refl _ _).alloc (Nat.le_refl _) _).alloc (by simp) _
    have HBX : Hid (Bk C w.heap.size 25 #[.int .i64 x0, .int .i64 x1, .slice A len cap]) := by rw [hC]; exact (Bk.new _ _ _).alloc _
    have HBY : Hid (Bk C (w.heap.size + 1) 25 #[.int .i64 0, .int .i64 0, .slice none 0 0]) := by rw [hC]; exact bk_two _ _ _ _
    have hCs : C.heap.size = w.heap.size + 2 := by rw [hC]; simp
    rw [← hC]
    clear hC
    have HCS := Lib.hid hCs
    clear hCs
    obtain ⟨hc0, hc1, _⟩ := HBX.out.facts
    by_cases hv : x0 = 4 ∧ 0 ≤ x1 ∧ x1 < l2
    · obtain ⟨rfl, hx1, hx2⟩ := hv
      obtain ⟨i, rfl⟩ : ∃ i : Nat, x1 = i := ⟨x1.toNat, by omega⟩
      have hil : i < ar.length := by omega
      obtain ⟨b, off, A', len', cap', rfl, hb, e0, e1, e2, hrk⟩ := (HAS.out.below HB0.out).get (i := i) hil
      have KEY := Lib.hid (HVAR.out D' i hil C _ hrk)
      clear hrk
      generalize ar[i].k = y0 at *
      generalize ar[i].m = y1 at *
      go_wp2_with fail
      refine KEY.out.mono ?_
      rintro e w2 ⟨v2, rfl, hv2, hb3⟩
      obtain ⟨A3, len3, cap3, rfl, _, _, _⟩ := hv2.form
      have HV2 := Lib.hid hv2
      have HQ := Lib.hid (show subst ar t = ar[i] by rw [HT.out, subst, if_pos (by simp; omega), Int.toNat_natCast, List.getD_eq_getElem?_getD, List.getElem?_eq_getElem hil]; rfl)
      generalize ar[i] = r at *
      have HY3 := Lib.hid (HBY.out.below hb3 HBY.out.lt)
      have HB3 := Lib.hid (HB0.out.trans (hb3.mono HB0.out.size))
      have HW3 := Lib.hid hb3.size
      clear hv2 hb3
      obtain ⟨z0, hz0⟩ : ∃ x, r.k = x := ⟨_, rfl⟩
      obtain ⟨z1, hz1⟩ : ∃ x, r.m = x := ⟨_, rfl⟩
      rw [hz0, hz1] at HV2 ⊢
      clear hz0 hz1
      obtain ⟨hy, hyf, _⟩ := HY3.out.facts
      go_wp2
      have hg : Bk (((w2.setCell ⟨w.heap.size + 1, 0, none⟩ (.int .i64 z0)).setCell ⟨w.heap.size + 1, 1, none⟩ (.int .i64 z1)).setCell ⟨w.heap.size + 1, 2, none⟩ (.slice A3 len3 cap3)) (w.heap.size + 1) 25 #[.int .i64 z0, .int .i64 z1, .slice A3 len3 cap3] := bk_tri HY3.out
      refine bodyPost_ret (results_cell_row rfl _ _ (w.heap.size + 1) 25 #[.int .i64 z0, .int .i64 z1, .slice A3 len3 cap3] (0, 0) _ rfl hg Tryz.underlying25 rfl (by kernel_rfl)) rfl ?_
      have hf : Fw (fun b => b = w.heap.size ∨ b = w.heap.size + 1) w2 (((w2.setCell ⟨w.heap.size + 1, 0, none⟩ (.int .i64 z0)).setCell ⟨w.heap.size + 1, 1, none⟩ (.int .i64 z1)).setCell ⟨w.heap.size + 1, 2, none⟩ (.slice A3 len3 cap3)) :=
        (((Fw.refl _ _).setCell (p := ⟨w.heap.size + 1, 0, none⟩) (.inl (.inr rfl)) _).setCell (p := ⟨w.heap.size + 1, 1, none⟩) (.inl (.inr rfl)) _).setCell (p := ⟨w.heap.size + 1, 2, none⟩) (.inl (.inr rfl)) _
      rw [HQ.out]
      refine ⟨[.int .i64 z0, .int .i64 z1, .slice A3 len3 cap3], rfl, (HV2.out.keep (Keeps.fw hf fun b hD e => ?_)).sub fun b _ hD => ?_, ?_⟩
      · have h1 : C.heap.size ≤ b := hD
        have h2 := HCS.out
        omega
      · have h1 : C.heap.size ≤ b := hD
        have h2 := HCS.out
        show w.heap.size ≤ b
        omega
      · exact below_set3 HB3.out (by omega) _ _ _
    · have hsub : subst ar t = .n x0 x1 (substs ar l) := by
        rw [HT.out, subst, if_neg]
        intro h
        simp at h
        exact hv ⟨h.1.1, h.1.2, by omega⟩
      have HSUB := Lib.hid hsub
      have hlen : len = l.length := HS.out.1
      have hcap : cap ≤ maxLen := HS.out.2.2.1
      have hlc := HS.out.2.1
      unfold maxLen at hcap
      have HLEN := Lib.hid hlen
      have HN : Hid (∀ (i : Nat) (h : i < l.length), l[i].size ≤ n ∧ l[i].size ≤ 100000) := fun i h => by
        have := sizes_get h
        rw [HT.out, Tr.size] at hn hmax
        omega
      have hl3 : len ≤ 100000 := by
        have := sizes_len l
        rw [HT.out, Tr.size] at hmax
        omega
      have h3 : x0 ≠ 4 ∨ (x0 = 4 ∧ ¬ 0 ≤ x1) ∨ (x0 = 4 ∧ 0 ≤ x1 ∧ ¬ x1 < l2) := by omega
      clear hv hlen hsub hn hmax
      obtain ⟨W1, hW1⟩ : ∃ W1, W1 = C.alloc (.cells #[.int .i64 x0, .int .i64 x1, .slice none 0 0] 25) := ⟨_, rfl⟩
      have hb1 : Below C.heap.size C W1 := by rw [hW1]; exact (Below.refl _ _).alloc (Nat.le_refl _) _
      have HO1 : Hid (Bk W1 C.heap.size 25 #[.int .i64 x0, .int .i64 x1, .slice none 0 0]) := by rw [hW1]; exact Bk.new _ _ _
      have HX1 := Lib.hid (HBX.out.below hb1 HBX.out.lt)
      have HY1 := Lib.hid (HBY.out.below hb1 HBY.out.lt)
      have HB1 := Lib.hid (HB0.out.trans (hb1.mono HB0.out.size))
      have HS1 : Hid (C.heap.size + 1 ≤ W1.heap.size) := by
        have h : C.heap.size = w.heap.size + 2 := HCS.out
        show C.heap.size + 1 ≤ W1.heap.size
        rw [hW1]
        simp
      have HW1 := Lib.hid hW1
      clear hb1 hW1
      rcases h3 with h1 | ⟨h1, h2⟩ | ⟨h1, h2, h3⟩
      all_goals
        go_wp2
        first | rw [← HW1.out] | rw [← (show W1 = C.alloc (.cells #[.int .i64 4, .int .i64 x1, .slice none 0 0] 25) from by rw [HW1.out, h1])]
        clear h1
        go_loopw [37] (fun jv wr => ∃ (i : Nat) (us : Nat → List Value) (lv : Value), i ≤ len ∧ jv = .int .i64 i ∧ Hid (OwnT (C.heap.size + 1) 25 wr lv (substs ar (l.take i)) us) ∧ Hid (Below w.heap.size w wr) ∧ Hid (Bk wr w.heap.size 25 #[.int .i64 x0, .int .i64 x1, .slice A len cap]) ∧ Hid (Bk wr (w.heap.size + 1) 25 #[.int .i64 0, .int .i64 0, .slice none 0 0]) ∧ Hid (Bk wr C.heap.size 25 #[.int .i64 x0, .int .i64 x1, lv]) ∧ Hid (C.heap.size + 1 ≤ wr.heap.size)) (fun jv _ => len - (intOf jv).toNat)
        case atStart => exact ⟨0, fun _ => [], .slice none 0 0, by omega, rfl, OwnT.nil _ _ _, HB1, HX1, HY1, HO1, HS1⟩
        case round =>
          obtain ⟨i, us, lv, hi, rfl, HO, HB, HX, HY, HZ, HC⟩ := hrel
          by_cases hlt : i < len
          · have hil : i < l.length := by have := HLEN.out; omega
            obtain ⟨b, off, A', len', cap', rfl, hb, e0, e1, e2, hrk⟩ := (HS.out.below HB.out).get (i := i) hil
            have HRK := Lib.hid hrk
            clear hrk
            obtain ⟨y0, hy0⟩ : ∃ x, l[i].k = x := ⟨_, rfl⟩
            obtain ⟨y1, hy1⟩ : ∃ x, l[i].m = x := ⟨_, rfl⟩
            rw [hy0, hy1] at HRK
            rw [hy0] at e0
            rw [hy1] at e1
            clear hy0 hy1
            go_upto_region 7 with (fail)
            generalize hwi : (wr.alloc (.cells #[.int .i64 y0, .int .i64 y1, .slice A' len' cap'] 25)) = wi
            have hbi : Below wr.heap.size wr wi := by rw [← hwi]; exact (Below.refl _ _).alloc (Nat.le_refl _) _
            have HK1 : Hid (Bk wi wr.heap.size 25 #[.int .i64 y0, .int .i64 y1, .slice A' len' cap']) := by rw [← hwi]; exact Bk.new _ _ _
            have HBI := Lib.hid hbi
            have HRI := Lib.hid (HRK.out.below hbi)
            have HZI := Lib.hid (HZ.out.below hbi HZ.out.lt)
            clear hwi hbi
            refine wp_region_rel (by kernel_rfl) (by kernel_rfl) [41, 42, 43, 44, 45, 46] 40 (by kernel_rfl) (fun d x => Below wi.heap.size wi x) (fun j x x' => Below x.heap.size x x') (fun io v x => match io with
              | 0 => v = .pointer (some ⟨C.heap.size, 2, none⟩)
              | 1 => v = lv
              | 2 => v = .agg #[.int .i64 y0, .int .i64 y1, .slice A' len' cap']
              | 3 => v = .slice B ar.length c2
              | 4 => ∃ u, v = .agg u.toArray ∧ TrR x (wi.heap.size ≤ ·) (subst ar l[i]) u
              | _ => ∃ u g, v = .slice (some ⟨g, 0, none⟩) 1 1 ∧ TrR x (wi.heap.size ≤ ·) (subst ar l[i]) u ∧ Bk x g 25 u.toArray ∧ wi.heap.size ≤ g) (Below.refl _ _).drew ?_ ?_ ?_ ?_
            · intro d j x x' h _ hg
              exact h.trans (hg.mono h.size)
            · intro io jo v x x' hi hj hij ha h hg
              rcases io with _ | _ | _ | _ | _ | io
              · exact h
              · exact h
              · exact h
              · exact h
              · obtain ⟨u, h1, h2⟩ := h
                exact ⟨u, h1, h2.below hg⟩
              · obtain ⟨u, g, h1, h2, h3, h4⟩ := h
                exact ⟨u, g, h1, h2.below hg, h3.below hg h3.lt, h4⟩
            · intro io oo S d x ho hio hd hbx hdep
              rcases io with _ | _ | _ | _ | _ | _ | io
              · cases ho
                refine opOk_h rfl rfl fun KK HK => ?_
                clear hdep hio
                simp only [nv, Nat.reduceAdd] at HK ⊢
                go_wp2
                exact HK.out _ _ ⟨_, rfl, rfl, Below.refl _ _⟩
              · cases ho
                have h0 : S 0 = .pointer (some ⟨C.heap.size, 2, none⟩) := hdep 0 (by kernel_rfl) (by decide)
                have cc := (HZI.out.below hbx HZI.out.lt).facts.1
                refine opOk_h rfl rfl fun KK HK => ?_
                clear hdep hio
                simp only [nv, Nat.reduceAdd] at HK ⊢
                generalize S 0 = t0 at *
                subst h0
                go_wp2
                exact HK.out _ _ ⟨_, rfl, rfl, Below.refl _ _⟩
              · cases ho
                have cc := (HK1.out.below hbx HK1.out.lt).facts.1
                refine opOk_h rfl rfl fun KK HK => ?_
                clear hdep hio
                simp only [nv, Nat.reduceAdd] at HK ⊢
                go_wp2
                exact HK.out _ _ ⟨_, rfl, rfl, Below.refl _ _⟩
              · cases ho
                refine opOk_h rfl rfl fun KK HK => ?_
                clear hdep hio
                simp only [nv, Nat.reduceAdd] at HK ⊢
                go_wp2
                exact HK.out _ _ ⟨_, rfl, rfl, Below.refl _ _⟩
              · cases ho
                have h2 : S 2 = .agg #[.int .i64 y0, .int .i64 y1, .slice A' len' cap'] := hdep 2 (by kernel_rfl) (by decide)
                have h3 : S 3 = .slice B ar.length c2 := hdep 3 (by kernel_rfl) (by decide)
                have KEY := Lib.hid (IH.out D D' l[i] x _ B ar.length c2 (HN.out i hil).1 (HN.out i hil).2 (HRI.out.below hbx) (hl2 ▸ (((HAS.out.below HB.out).below HBI.out).below hbx)))
                refine opOk_h rfl rfl fun KK HK => ?_
                clear hdep hio
                simp only [nv, Nat.reduceAdd] at HK ⊢
                generalize S 2 = t2 at *
                generalize S 3 = t3 at *
                subst h2
                subst h3
                go_wp2_with fail
                refine KEY.out.mono ?_
                rintro e xN ⟨u, rfl, hu, hbN⟩
                exact HK.out _ _ ⟨_, rfl, ⟨u, rfl, hu.sub fun b _ hD => Nat.le_trans hbx.size hD⟩, hbN⟩
              · cases ho
                have h4 : ∃ u, S 4 = .agg u.toArray ∧ TrR x (wi.heap.size ≤ ·) (subst ar l[i]) u := hdep 4 (by kernel_rfl) (by decide)
                refine opOk_h rfl rfl fun KK HK => ?_
                clear hdep hio
                simp only [nv, Nat.reduceAdd] at HK ⊢
                obtain ⟨u, h4, hu⟩ := h4
                obtain ⟨Au, lu, cu, rfl, _, _, _⟩ := hu.form
                generalize S 4 = t4 at *
                subst h4
                generalize (subst ar l[i]).k = z0 at *
                generalize (subst ar l[i]).m = z1 at *
                go_wp2
                exact HK.out _ _ ⟨_, rfl, ⟨_, _, rfl, hu.below ((Below.refl _ _).alloc (Nat.le_refl _) _), Bk.new _ _ _, hbx.size⟩, (Below.refl _ _).alloc (Nat.le_refl _) _⟩
              · exact absurd hio (by simp)
            · intro S d x hbx hF
              have g1 : S 1 = lv := hF 1 (by decide)
              have g0 : S 0 = .pointer (some ⟨C.heap.size, 2, none⟩) := hF 0 (by decide)
              have g5 : ∃ u g, S 5 = .slice (some ⟨g, 0, none⟩) 1 1 ∧ TrR x (wi.heap.size ≤ ·) (subst ar l[i]) u ∧ Bk x g 25 u.toArray ∧ wi.heap.size ≤ g := hF 5 (by decide)
              clear hF
              simp only [nv, Nat.reduceAdd, List.length_cons, List.length_nil, List.drop_succ_cons, List.drop_zero]
              obtain ⟨u, gb, g5, hu, hbk, hgb⟩ := g5
              generalize S 0 = t0 at *
              generalize S 1 = t1 at *
              generalize S 2 = t2 at *
              generalize S 3 = t3 at *
              generalize S 4 = t4 at *
              generalize S 5 = t5 at *
              subst g0
              subst g1
              subst g5
              have HBx := Lib.hid (show Below wr.heap.size wr x from HBI.out.trans (hbx.mono HBI.out.size))
              have HOx := Lib.hid (HO.out.below HBx.out)
              have hul : u.length = 3 := by obtain ⟨_, _, _, rfl, _⟩ := hu.form; rfl
              have hu1 : ∀ y ∈ u, y.oneCell' = true := by obtain ⟨_, _, _, rfl, _⟩ := hu.form; intro y hy; simp at hy; rcases hy with rfl | rfl | rfl <;> rfl
              have hql : (substs ar (l.take i)).length = i := by rw [substs_len, List.length_take]; have := HLEN.out; omega
              have HV2 : Hid (TrR x (fun b => C.heap.size + 1 ≤ b ∧ some b ≠ t1.ownBlock) (subst ar l[i]) u) := hu.sub fun b _ hD => by
                have h1 : wi.heap.size ≤ b := hD
                have h2 := HBI.out.size
                have h3 : C.heap.size + 1 ≤ wr.heap.size := HC.out
                exact ⟨by omega, fun e => by have := (HO.out.1.lt b e.symm).2; omega⟩
              have hbase : C.heap.size + 1 ≤ x.heap.size := by have h3 : C.heap.size + 1 ≤ wr.heap.size := HC.out; have := HBx.out.size; omega
              have hO21 := HOx.out.1
              obtain ⟨r, hr⟩ : ∃ r, subst ar l[i] = r := ⟨_, rfl⟩
              obtain ⟨q, hq⟩ : ∃ q, substs ar (l.take i) = q := ⟨_, rfl⟩
              have hq1 : substs ar (l.take (i + 1)) = q ++ [r] := by rw [List.take_succ_eq_append_getElem hil, substs_append, hq, hr]
              rw [hr] at HV2
              rw [hq] at hO21 HOx hql
              rw [hql] at hO21
              have HQ1 := Lib.hid hq1
              have HQL := Lib.hid hql
              have HZx := Lib.hid (HZI.out.below hbx HZI.out.lt)
              have HXx := Lib.hid (HX.out.below HBx.out HX.out.lt)
              have HYx := Lib.hid (HY.out.below HBx.out HY.out.lt)
              clear hu hr hq hq1 hql hbx
              refine wpList_pushBk x rfl _ _ 23 25 rfl Tryz.underlying23 3 40 info_typ (by decide) (by decide) (C.heap.size + 1) t1 i (rowT us i) u (by rfl) hO21 gb _ hbk (by rfl) hul hu1 (by omega) hbase ?_
              intro g cap3 w3 hown' hg hgb' hglt
              have HO3 : Hid (OwnT (C.heap.size + 1) 25 w3 (.slice (some ⟨g, 0, none⟩) (i + 1) cap3) (substs ar (l.take (i + 1))) fun j => if j = i then u else us j) := by
                have h1 := HOx.out.next2 (by exact HV2.out) hul (g := g) (cap := cap3) (by rw [HQL.out]; exact hown') hg hgb'
                rw [HQL.out] at h1
                rw [HQ1.out]
                exact h1
              have hne : ∀ k, k < C.heap.size + 1 → some k ≠ t1.ownBlock := fun k hk e => by have := (HO.out.1.lt k e.symm).1; omega
              have HX3 := Lib.hid (HXx.out.grown hg (hne _ (by have h1 : C.heap.size = w.heap.size + 2 := HCS.out; omega)))
              have HY3 := Lib.hid (HYx.out.grown hg (hne _ (by have h1 : C.heap.size = w.heap.size + 2 := HCS.out; omega)))
              have hz3 := HZx.out.grown hg (hne _ (by omega))
              have hb5 : Below w.heap.size w x := HB.out.trans (HBx.out.mono HB.out.size)
              have hb6 : Below w.heap.size w w3 := ⟨hg.os.trans hb5.os, hg.tape.trans hb5.tape, hg.output.trans hb5.output, Nat.le_trans hb5.size hg.size, fun k hk => (hg.block k (Nat.lt_of_lt_of_le hk hb5.size) (hne k (by have h1 : C.heap.size = w.heap.size + 2 := HCS.out; omega))).trans (hb5.block k hk)⟩
              obtain ⟨hz, hzf, hzlt⟩ := hz3.facts
              clear hO21
              go_wp2
              go_roundw
              case rel =>
                have h1 : C.heap.size = w.heap.size + 2 := HCS.out
                have hgc : C.heap.size + 1 ≤ g := (HO3.out.1.lt g rfl).1
                have hfw : Fw (fun b => b = C.heap.size) w3 (w3.setCell ⟨C.heap.size, 2, none⟩ (.slice (some ⟨g, 0, none⟩) (i + 1) cap3)) := (Fw.refl (fun b => b = C.heap.size) _).setCell (p := ⟨C.heap.size, 2, none⟩) (.inl rfl) _
                exact ⟨i + 1, _, _, by omega, by go_num, HO3.out.fw hfw (by omega), hb6.setCell (p := ⟨C.heap.size, 2, none⟩) (by show w.heap.size ≤ C.heap.size; omega) _, HX3.out.far (p := ⟨C.heap.size, 2, none⟩) (by show w.heap.size ≠ C.heap.size; omega) _, HY3.out.far (p := ⟨C.heap.size, 2, none⟩) (by show w.heap.size + 1 ≠ C.heap.size; omega) _, Lib.hid (by have := hz3.set 2 (.slice (some ⟨g, 0, none⟩) (i + 1) cap3); simpa using this), by show C.heap.size + 1 ≤ _; simp [World.setCell]; omega⟩
              case measure => simp [intOf]; omega
          · obtain rfl : i = len := by omega
            obtain ⟨A3, len3, cap3, rfl, hS3⟩ := HO.out.done
            rw [show l.take i = l from by rw [HLEN.out, List.take_length]] at hS3
            have HS3 := Lib.hid hS3
            clear hS3
            obtain ⟨hz, hzf, _⟩ := HZ.out.facts
            obtain ⟨hy, hyf, _⟩ := HY.out.facts
            go_wp2
            have hg : Bk (((wr.setCell ⟨w.heap.size + 1, 0, none⟩ (.int .i64 x0)).setCell ⟨w.heap.size + 1, 1, none⟩ (.int .i64 x1)).setCell ⟨w.heap.size + 1, 2, none⟩ (.slice A3 len3 cap3)) (w.heap.size + 1) 25 #[.int .i64 x0, .int .i64 x1, .slice A3 len3 cap3] := bk_tri HY.out
            refine bodyPost_ret (results_cell_row rfl _ _ (w.heap.size + 1) 25 #[.int .i64 x0, .int .i64 x1, .slice A3 len3 cap3] (0, 0) _ rfl hg Tryz.underlying25 rfl (by kernel_rfl)) rfl ?_
            have hf : Fw (fun b => b = w.heap.size ∨ b = w.heap.size + 1) wr (((wr.setCell ⟨w.heap.size + 1, 0, none⟩ (.int .i64 x0)).setCell ⟨w.heap.size + 1, 1, none⟩ (.int .i64 x1)).setCell ⟨w.heap.size + 1, 2, none⟩ (.slice A3 len3 cap3)) :=
              (((Fw.refl _ _).setCell (p := ⟨w.heap.size + 1, 0, none⟩) (.inl (.inr rfl)) _).setCell (p := ⟨w.heap.size + 1, 1, none⟩) (.inl (.inr rfl)) _).setCell (p := ⟨w.heap.size + 1, 2, none⟩) (.inl (.inr rfl)) _
            rw [HSUB.out]
            have hS4 := (HS3.out.keep (Keeps.fw hf fun b hD e => by
              have h1 : C.heap.size + 1 ≤ b := hD
              have h2 : C.heap.size = w.heap.size + 2 := HCS.out
              omega)).sub (D' := (w.heap.size ≤ ·)) fun b _ hD => by
                have h1 : C.heap.size + 1 ≤ b := hD
                have h2 : C.heap.size = w.heap.size + 2 := HCS.out
                show w.heap.size ≤ b
                omega
            refine ⟨[.int .i64 x0, .int .i64 x1, .slice A3 len3 cap3], rfl, ?_, below_set3 HB.out (by omega) _ _ _⟩
            rw [TrR]
            exact ⟨hk, hm, A3, len3, cap3, rfl, hS4⟩
mutual
theorem subst_id : ∀ t : Tr, subst [] t = t
  | .n k m l => by
    rw [subst, if_neg (by intro h; simp at h; omega), substs_id l]
theorem substs_id : ∀ l : List Tr, substs [] l = l
  | [] => by rw [substs]
  | t :: l => by rw [substs, subst_id t, substs_id l]
end
theorem subst_nil (n : Nat) : SubOk [] n := subst_step [] (fun D i h => absurd h (by simp)) n
theorem subst_any (ar : List Tr) (hs : ∀ a ∈ ar, a.size ≤ 100000) (n : Nat) : SubOk ar n := subst_step ar (fun D i h w v hr => by
  have := subst_nil 100000 D D ar[i] w v none 0 0 (hs _ (List.getElem_mem h)) (hs _ (List.getElem_mem h)) hr ⟨rfl, Nat.le_refl _, by unfold maxLen; omega, fun h => absurd h (by omega)⟩
  rw [subst_id] at this
  exact this) n
end Go.Proofs.YtdbiedpdibjdlaaGreat

