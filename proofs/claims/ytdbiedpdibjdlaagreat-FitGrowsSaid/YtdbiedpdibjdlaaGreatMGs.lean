/-
  duplicate: a value in memory of its own.
-/
import Derived.Test.YtdbiedpdibjdlaaGreatMGc
import Derived.Great.BuildSlice
import Derived.Laws.MakeOwn
namespace Go.Proofs.YtdbiedpdibjdlaaGreat
open Go.RowKit AC
set_option linter.unusedVariables false
set_option linter.unusedSimpArgs false

/-- A slice of one element, as the operand of append. -/
theorem wpList_oneT {ops : Array Oper} {rest : List Oper} {op : Oper} {a : Act} {w : World} {Q : Exit → Act → World → Prop} (hg : op.guard = none) (t e : TypeId) (x : Operand) (ho : op.op = .buildSlice t 1 #[(0, x)])
    (ht : Tryz.prog.underlying t = some (.slice e)) (sz bytes : Nat) (hinfo : (Tryz.prog.info? e).map (fun i => (i.size, i.bytes, i.zero.map fun z => z.cells.size)) = some (sz, bytes, some sz)) (hz : 0 < sz) (hsm : sz ≤ 4096)
    (v : List Value) (u : Value) (hx : a.eval x = u) (hu : u.cells.toList = v) (hv : v.length = sz)
    (h : wpList Tryz.prog ops Q rest (a.put op.dst (.slice (some ⟨w.heap.size, 0, none⟩) 1 1)) (w.alloc (.cells v.toArray e))) : wpList Tryz.prog ops Q (op :: rest) a w := by
  obtain ⟨i, hi, hzz⟩ := Option.map_eq_some_iff.1 hinfo
  simp only [Prod.mk.injEq] at hzz
  obtain ⟨hsize, _, hzero⟩ := hzz
  obtain ⟨z, hz0, hzc⟩ := Option.map_eq_some_iff.1 hzero
  refine wpList_buildSlice hg t e 1 _ ho v.toArray i z ht hi hz0 (by rw [hsize]; omega) (by rw [hsize]; omega) ?_ h
  rw [hsize]
  have hc : u.cells.size = sz := by rw [← hv, ← hu]; rfl
  have := Great.fill_whole (s := sz) hz [u] ((Array.range (1 * sz)).map (z.cells[· % z.cells.size]!)) (by intro v hv; simp at hv; subst hv; exact hc) (by simp)
  simpa [hx, hu] using this
/-- 'append(row, x)': the element lies in the block that was laid last. -/
theorem wpList_pushTr (w2 : World) {ops : Array Oper} {rest : List Oper} {op : Oper} {a : Act} {Q : Exit → Act → World → Prop} (hgd : op.guard = none) (sl x : Operand) (t e : TypeId)
    (ho : op.op = .call { callee := .builtin .append, args := #[sl, x], argTypes := #[t, t] })
    (ht : Tryz.prog.underlying t = some (.slice e)) (sz bytes : Nat) (hinfo : (Tryz.prog.info? e).map (fun i => (i.size, i.bytes, i.zero.map fun z => z.cells.size)) = some (sz, bytes, some sz)) (hsz : 0 < sz) (hby : bytes ≤ 4096)
    (base : Nat) (lv : Value) (n : Nat) (xs v : List Value) (hs : a.eval sl = lv) (hown : w2.ownsRow base e sz lv n xs) (hx : a.eval x = .slice (some ⟨w2.heap.size, 0, none⟩) 1 1) (hv : v.length = sz) (h1 : ∀ u ∈ v, u.oneCell' = true)
    (hn : n ≤ 100000000) (hbase : base ≤ w2.heap.size)
    (h : ∀ g cap w3, w3.ownsRow base e sz (.slice (some ⟨g, 0, none⟩) (n + 1) cap) (n + 1) (xs ++ v) → (w2.alloc (.cells v.toArray e)).grownBy w3 lv.ownBlock → (lv.ownBlock = some g ∨ g = w2.heap.size + 1) → g < w3.heap.size → wpList Tryz.prog ops Q rest (a.put op.dst (.slice (some ⟨g, 0, none⟩) (n + 1) cap)) w3) :
    wpList Tryz.prog ops Q (op :: rest) a (w2.alloc (.cells v.toArray e)) := by
  obtain ⟨i, hi, hzz⟩ := Option.map_eq_some_iff.1 hinfo
  simp only [Prod.mk.injEq] at hzz
  obtain ⟨hsize, hbytes, hzero⟩ := hzz
  obtain ⟨z, hz0, hzc⟩ := Option.map_eq_some_iff.1 hzero
  refine wpList_append_lies _ hgd sl x t ho base e i z sz bytes ht hi hz0 hsize hbytes hzc hsz lv n xs hs (hown.alloc _) ⟨w2.heap.size, 0, none⟩ 1 1 v hx (by omega) ?_ h1 (by omega) (by unfold maxLen; omega) ?_ (by simp; omega) (w2.heap.size + 1) (by simp) ?_
  · intro j u hu
    rw [Addr.add_lit, World.cell?_alloc_at _ _ _ _ rfl, Nat.zero_add]
    simpa using hu
  · have : (n + 1) * bytes ≤ 100000001 * 4096 := Nat.mul_le_mul (by omega) hby
    omega
  · intro g cap w3 h2 h3 h4 h5
    exact h g cap w3 h2 h3 h4 h5
theorem bk_tri {w : World} {g : Nat} {T : TypeId} {a b c x y z : Value} (h : Bk w g T #[a, b, c]) : Bk (((w.setCell ⟨g, 0, none⟩ x).setCell ⟨g, 1, none⟩ y).setCell ⟨g, 2, none⟩ z) g T #[x, y, z] := by
  have := ((h.set 0 x).set 1 y).set 2 z
  simpa using this
theorem OwnT.form {base : Nat} {e : TypeId} {w : World} {lv : Value} {l : List Tr} {us : Nat → List Value} (h : OwnT base e w lv l us) : ∃ A c, lv = .slice A l.length c ∧ l.length ≤ c ∧ c ≤ maxLen := by
  rcases h.1.2 with ⟨hv, hn0⟩ | ⟨g, cap, cur, hv, _, _, hnc, hcm, _⟩
  · exact ⟨none, 0, by rw [hv, hn0], by omega, by unfold maxLen; omega⟩
  · exact ⟨_, _, hv, hnc, hcm⟩
theorem info_val : (Tryz.prog.info? 28).map (fun i => (i.size, i.bytes, i.zero.map fun z => z.cells.size)) = some (3, 40, some 3) := by kernel_rfl
/-- A tree comes back, in new memory. -/
def NewT (t : Tr) (w : World) (e : Ending) (w' : World) : Prop := ∃ v, e = .returned (.agg v.toArray) ∧ TrR w' (w.heap.size ≤ ·) t v ∧ Below w.heap.size w w'
def DupOk (n : Nat) : Prop := ∀ (D : Nat → Prop) (t : Tr) (w : World) (v : List Value), t.size ≤ n → t.size ≤ 100000 → TrR w D t v → Calls Tryz.prog 19 #[.agg v.toArray] w (NewT t w)
set_option maxHeartbeats 4000000 in
set_option maxRecDepth 100000 in
theorem dup_any : ∀ (n : Nat), DupOk n
  | 0 => fun D t w v h _ _ => absurd t.size_pos (by omega)
  | n + 1 => fun D t w v hn hmax hr => by
    have IH := Lib.hid (dup_any n)
    obtain ⟨A, len, cap, rfl, hs, hk, hm⟩ := hr.form
    have hsz := Tr.size_eq t
    have HT : Hid (∀ (w : World) (A : Option Addr) (len cap : Nat) (D : Nat → Prop), TrS w D t.kids A len cap → TrR w D t [.int .i64 t.k, .int .i64 t.m, .slice A len cap]) := by
      intro w A len cap D h
      cases t with
      | n k m l => rw [TrR]; exact ⟨hk, hm, A, len, cap, rfl, h⟩
    obtain ⟨l, hl⟩ : ∃ l, t.kids = l := ⟨_, rfl⟩
    rw [hl] at hs hsz HT
    have HS := Lib.hid hs
    have hlen : len = l.length := hs.1
    have HLEN := Lib.hid hlen
    have hl2 := sizes_len l
    have hl3 : len ≤ 100000 := by omega
    have hcap : cap ≤ maxLen := hs.2.2.1
    have hlc := hs.2.1
    have HN : Hid (∀ (i : Nat) (h : i < l.length), l[i].size ≤ n ∧ l[i].size ≤ 100000) := fun i h => by have := sizes_get h; omega
    unfold maxLen at hcap
    clear hs hr hlen hsz hl hl2 hk hm
    obtain ⟨x0, hx0⟩ : ∃ x, t.k = x := ⟨_, rfl⟩
    obtain ⟨x1, hx1⟩ : ∃ x, t.m = x := ⟨_, rfl⟩
    rw [hx0, hx1] at HT ⊢
    clear hx0 hx1
    show Calls Tryz.prog 19 #[.agg #[.int .i64 x0, .int .i64 x1, .slice A len cap]] w _
    go_enter Tryz.func19, Tryz.ntmps19
    go_upto_region 1 with (fail)
    obtain ⟨C, hC⟩ : ∃ C, C = (w.alloc (.cells #[.int .i64 x0, .int .i64 x1, .slice A len cap] 28)).alloc (.cells #[.int .i64 0, .int .i64 0, .slice none 0 0] 28) := ⟨_, rfl⟩
    have HB0 : Hid (Below w.heap.size w C) := by rw [hC]; exact ((Below.refl _ _).alloc (Nat.le_refl _) _).alloc (by simp) _
    have HBX : Hid (Bk C w.heap.size 28 #[.int .i64 x0, .int .i64 x1, .slice A len cap]) := by rw [hC]; exact (Bk.new _ _ _).alloc _
    have HBY : Hid (Bk C (w.heap.size + 1) 28 #[.int .i64 0, .int .i64 0, .slice none 0 0]) := by rw [hC]; exact bk_two _ _ _ _
    have hCs : C.heap.size = w.heap.size + 2 := by rw [hC]; simp
    rw [← hC]
    clear hC
    obtain ⟨iv, hiv, hzz⟩ := Option.map_eq_some_iff.1 info_val
    simp only [Prod.mk.injEq] at hzz
    obtain ⟨hsize, hbytes, hzero⟩ := hzz
    obtain ⟨z, hz0, _⟩ := Option.map_eq_some_iff.1 hzero
    obtain ⟨W1, hmk, hown, hgrow⟩ := run_make_own (P := Tryz.prog) C C.heap.size 26 28 iv z 3 Tryz.underlying26 hiv hz0 hsize .i64 .i64 len (by rw [hbytes]; omega) (by unfold maxLen; omega) (Nat.le_refl _)
    have HB1 : Hid (Below C.heap.size C W1) := ⟨hgrow.os, hgrow.tape, hgrow.output, hgrow.size, fun k hk => hgrow.block k hk (by simp)⟩
    have HX1 := Lib.hid (HBX.out.below HB1.out HBX.out.lt)
    have HY1 := Lib.hid (HBY.out.below HB1.out HBY.out.lt)
    have HO1 : Hid (OwnT C.heap.size 28 W1 (.slice (some ⟨C.heap.size, 0, none⟩) 0 len) [] fun _ => []) := ⟨by simpa [rowT] using hown, fun i hi => absurd hi (by simp)⟩
    have HBW1 := Lib.hid (HB0.out.trans (HB1.out.mono (by omega)))
    have HS1 := Lib.hid HB1.out.size
    have HCS := Lib.hid hCs
    clear hown hgrow hiv hsize hbytes hzero hz0 hCs
    obtain ⟨hc0, _, _⟩ := HBX.out.facts
    obtain ⟨hc1, _, _⟩ := HX1.out.facts
    go_wp2
    go_loopw [3, 13] (fun kv jv wr => ∃ (i : Nat) (us : Nat → List Value), i ≤ len ∧ jv = .int .i64 i ∧ Hid (OwnT C.heap.size 28 wr kv (l.take i) us) ∧ Hid (Below w.heap.size w wr) ∧ Hid (Bk wr w.heap.size 28 #[.int .i64 x0, .int .i64 x1, .slice A len cap]) ∧ Hid (Bk wr (w.heap.size + 1) 28 #[.int .i64 0, .int .i64 0, .slice none 0 0]) ∧ Hid (C.heap.size ≤ wr.heap.size)) (fun _ jv _ => len - (intOf jv).toNat)
    case atStart => exact ⟨0, fun _ => [], by omega, rfl, HO1, HBW1, HX1, HY1, HS1⟩
    case round =>
      obtain ⟨i, us, hi, rfl, HO, HB, HX, HY, HC⟩ := hrel
      obtain ⟨A0, cp0, rfl, hnc0, hcm0⟩ := HO.out.form
      unfold maxLen at hcm0
      obtain ⟨q, hq⟩ : ∃ q, l.take i = q := ⟨_, rfl⟩
      have hql : q.length = i := by rw [← hq, List.length_take]; have := HLEN.out; omega
      rw [hq] at HO hnc0 ⊢
      rw [hql] at HO hnc0 ⊢
      have HQ := Lib.hid hq
      have HQL := Lib.hid hql
      clear hq hql
      by_cases hlt : i < len
      · have hil : i < l.length := by have := HLEN.out; omega
        obtain ⟨b, off, A', len', cap', rfl, hb, e0, e1, e2, hrk⟩ := (HS.out.below HB.out).get (i := i) hil
        have hCs := HCS.out
        have hCw := HC.out
        obtain ⟨W2, hW2⟩ : ∃ W2, W2 = wr.alloc (.cells #[.int .i64 l[i].k, .int .i64 l[i].m, .slice A' len' cap'] 28) := ⟨_, rfl⟩
        have hb2 : Below wr.heap.size wr W2 := by rw [hW2]; exact (Below.refl _ _).alloc (Nat.le_refl _) _
        have hW2s : W2.heap.size = wr.heap.size + 1 := by rw [hW2]; simp
        have key := IH.out D l[i] W2 _ (HN.out i hil).1 (HN.out i hil).2 (hrk.below hb2)
        have KEY : Hid (Calls Tryz.prog 19 #[.agg #[.int .i64 l[i].k, .int .i64 l[i].m, .slice A' len' cap']] (wr.alloc (.cells #[.int .i64 l[i].k, .int .i64 l[i].m, .slice A' len' cap'] 28)) (NewT l[i] W2)) := by rw [← hW2]; exact key
        have HW2 := Lib.hid hb2
        have HW2S := Lib.hid hW2s
        clear key hrk hW2 hb2 hW2s hCs hCw
        obtain ⟨y0, hy0⟩ : ∃ x, l[i].k = x := ⟨_, rfl⟩
        obtain ⟨y1, hy1⟩ : ∃ x, l[i].m = x := ⟨_, rfl⟩
        rw [hy0, hy1] at KEY
        rw [hy0] at e0
        rw [hy1] at e1
        clear hy0 hy1
        go_wp2_with fail
        refine KEY.out.mono ?_
        rintro e w2 ⟨v2, rfl, hv2, hb3⟩
        have HB3 := Lib.hid (HW2.out.trans (hb3.mono HW2.out.size))
        have HO2 := Lib.hid (HO.out.below HB3.out)
        have HV2 : Hid (TrR w2 (fun b => C.heap.size ≤ b ∧ some b ≠ (Value.slice A0 i cp0).ownBlock) l[i] v2) := hv2.sub fun b _ hD => by
          have h1 : W2.heap.size ≤ b := hD
          have h2 := HW2S.out
          have h3 := HC.out
          exact ⟨by omega, fun e => by have := (HO.out.1.lt b e.symm).2; omega⟩
        have hv2l : v2.length = 3 := by obtain ⟨_, _, _, rfl, _⟩ := hv2.form; rfl
        have hv21 : ∀ u ∈ v2, u.oneCell' = true := by obtain ⟨_, _, _, rfl, _⟩ := hv2.form; intro u hu; simp at hu; rcases hu with rfl | rfl | rfl <;> rfl
        have hbase : C.heap.size ≤ w2.heap.size := by have := HC.out; have := HB3.out.size; omega
        have hO21 := HO2.out.1
        rw [HQL.out] at hO21
        clear hv2 hb3
        go_wp2_with (first | refine wpList_oneT rfl 26 28 (.tmp 19) rfl Tryz.underlying26 3 40 info_val (by decide) (by decide) v2 (.agg v2.toArray) rfl rfl hv2l ?_ | (at_builtin; refine wpList_pushTr w2 rfl _ _ 26 28 rfl Tryz.underlying26 3 40 info_val (by decide) (by decide) C.heap.size _ i (rowT us i) v2 (by rfl) hO21 (by rfl) hv2l hv21 (by omega) hbase ?_))
        intro g cap3 w3 hown' hg hgb hglt
        have HO3 : Hid (OwnT C.heap.size 28 w3 (.slice (some ⟨g, 0, none⟩) (i + 1) cap3) (l.take (i + 1)) fun j => if j = i then v2 else us j) := by
          have h1 := HO2.out.next (by exact HV2.out) hv2l (g := g) (cap := cap3) (by rw [HQL.out]; exact hown') hg hgb
          rw [HQL.out] at h1
          rw [List.take_succ_eq_append_getElem hil, HQ.out]
          exact h1
        have hne : ∀ k, k < C.heap.size → some k ≠ (Value.slice A0 i cp0).ownBlock := fun k hk e => by have := (HO.out.1.lt k e.symm).1; omega
        have HX3 := Lib.hid (((HX.out.below HB3.out HX.out.lt).alloc (.cells v2.toArray 28)).grown hg (hne _ (by have := HCS.out; omega)))
        have HY3 := Lib.hid (((HY.out.below HB3.out HY.out.lt).alloc (.cells v2.toArray 28)).grown hg (hne _ (by have := HCS.out; omega)))
        have hb5 : Below w.heap.size w (w2.alloc (.cells v2.toArray 28)) := (HB.out.trans (HB3.out.mono HB.out.size)).alloc (by have := HB.out.size; have := HB3.out.size; omega) _
        have HB5 : Hid (Below w.heap.size w w3) := ⟨hg.os.trans hb5.os, hg.tape.trans hb5.tape, hg.output.trans hb5.output, Nat.le_trans hb5.size hg.size, fun k hk => (hg.block k (Nat.lt_of_lt_of_le hk hb5.size) (hne k (by have := HCS.out; omega))).trans (hb5.block k hk)⟩
        have HC3 : Hid (C.heap.size ≤ w3.heap.size) := by
          have h1 := hg.size
          simp at h1
          show C.heap.size ≤ w3.heap.size
          omega
        clear hg hgb hown' hne hb5 hO21 hv21 hv2l hbase
        go_wp2
        go_roundw
        case rel => exact ⟨i + 1, _, by omega, by go_num, HO3, HB5, HX3, HY3, HC3⟩
        case measure => simp [intOf]; omega
      · obtain rfl : i = len := by omega
        have hql : q = l := by rw [← HQ.out, HLEN.out, List.take_length]
        obtain ⟨A3, len3, cap3, h3, hS3⟩ := HO.out.done
        injection h3 with e1 e2 e3
        subst e1; subst e2; subst e3
        rw [hql] at hS3
        have HS3 := Lib.hid hS3
        clear hS3 hql
        obtain ⟨hx, hxf, _⟩ := HX.out.facts
        obtain ⟨hy, hyf, _⟩ := HY.out.facts
        go_wp2
        have hg : Bk ((((wr.setCell ⟨w.heap.size, 2, none⟩ (.slice A0 i cp0)).setCell ⟨w.heap.size + 1, 0, none⟩ (.int .i64 x0)).setCell ⟨w.heap.size + 1, 1, none⟩ (.int .i64 x1)).setCell ⟨w.heap.size + 1, 2, none⟩ (.slice A0 i cp0)) (w.heap.size + 1) 28 #[.int .i64 x0, .int .i64 x1, .slice A0 i cp0] :=
          bk_tri (Bk.far HY.out (p := ⟨w.heap.size, 2, none⟩) (by show w.heap.size + 1 ≠ w.heap.size; omega) _)
        refine bodyPost_ret (results_cell_row rfl _ _ (w.heap.size + 1) 28 #[.int .i64 x0, .int .i64 x1, .slice A0 i cp0] (0, 0) _ rfl hg Tryz.underlying28 rfl (by kernel_rfl)) rfl ?_
        have hf : Fw (fun b => b = w.heap.size ∨ b = w.heap.size + 1) wr ((((wr.setCell ⟨w.heap.size, 2, none⟩ (.slice A0 i cp0)).setCell ⟨w.heap.size + 1, 0, none⟩ (.int .i64 x0)).setCell ⟨w.heap.size + 1, 1, none⟩ (.int .i64 x1)).setCell ⟨w.heap.size + 1, 2, none⟩ (.slice A0 i cp0)) :=
          ((((Fw.refl _ _).setCell (p := ⟨w.heap.size, 2, none⟩) (.inl (.inl rfl)) _).setCell (p := ⟨w.heap.size + 1, 0, none⟩) (.inl (.inr rfl)) _).setCell (p := ⟨w.heap.size + 1, 1, none⟩) (.inl (.inr rfl)) _).setCell (p := ⟨w.heap.size + 1, 2, none⟩) (.inl (.inr rfl)) _
        refine ⟨[.int .i64 x0, .int .i64 x1, .slice A0 i cp0], rfl, HT.out _ _ _ _ _ ((HS3.out.keep (Keeps.fw hf fun b hD e => ?_)).sub fun b _ hD => ?_), ?_⟩
        · have h1 : C.heap.size ≤ b := hD
          have h2 := HCS.out
          omega
        · have h1 : C.heap.size ≤ b := hD
          have h2 := HCS.out
          show w.heap.size ≤ b
          omega
        · exact below_set3 (HB.out.setCell (p := ⟨w.heap.size, 2, none⟩) (Nat.le_refl _) _) (by omega) _ _ _
end Go.Proofs.YtdbiedpdibjdlaaGreat

