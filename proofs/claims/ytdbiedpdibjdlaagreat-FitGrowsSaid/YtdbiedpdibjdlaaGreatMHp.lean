/-
  fit.Chain (printed by gen_chain.py).
-/
import Derived.Test.YtdbiedpdibjdlaaGreatMHn
namespace Go.Proofs.YtdbiedpdibjdlaaGreat
open Go.RowKit AC
set_option linter.unusedVariables false
set_option linter.unusedSimpArgs false
theorem chain_err {ok : Prop} {r : Tr} {w w' : World} {k : Int} (hk : k ≠ 0) (h : ¬ ok) (hb : Below w.heap.size w w') : ChainPost ok r w (.returned (.tuple #[.agg #[.int .i64 0, .int .i64 0, .slice none 0 0], .int .i64 k])) w' :=
  ⟨hb, .inl ⟨h, _, k, rfl, hk, 0, 0, none, 0, 0, rfl⟩⟩
set_option maxHeartbeats 32000000 in
set_option maxRecDepth 100000 in
theorem chain_any {DD Dt Dp De : Nat → Prop} {dat : List DaD} {A PA : Option Addr} {dl dc pl pc : Nat} (t : Tr) (c : Int) (hc : rng c) (ps : List Tr) (ev : Tr) (n : Int) (hn : rng n) (w : World) (ct ce : List Value) (htr : TrR w Dt t ct) (hev : TrR w De ev ce) (hps : TrS w Dp ps PA pl pc) (hd : DaS w DD dat A dl dc) :
    Calls Tryz.prog 6 #[.slice A dl dc, .agg ct.toArray, .int .i64 c, .slice PA pl pc, .agg ce.toArray, .int .i64 n] w (ChainPost (ChainOk dat t c ps ev n) (chainV (flagsD dat t c) c ps n.toNat ev) w) := by
  obtain ⟨TA, tl, tc, rfl, _, htk, htm⟩ := htr.form
  obtain ⟨EA, el, ec, rfl, _, hek, hem⟩ := hev.form
  obtain ⟨ok, hok⟩ : ∃ ok, ChainOk dat t c ps ev n = ok := ⟨_, rfl⟩
  obtain ⟨r, hr⟩ : ∃ r, chainV (flagsD dat t c) c ps n.toNat ev = r := ⟨_, rfl⟩
  rw [hok, hr]
  have HNO : Hid (ok → ChainOk dat t c ps ev n) := fun h => by rw [hok]; exact h
  have HYES : Hid (ChainOk dat t c ps ev n → ok) := fun h => by rw [← hok]; exact h
  have HR := Lib.hid hr
  clear hok hr
  have hpl : pl = ps.length := hps.1
  have hplc := hps.2.1
  have hpcap : pc ≤ maxLen := hps.2.2.1
  have hdl : dl = dat.length := hd.1
  have hdlc := hd.2.1
  have hdcap : dc ≤ maxLen := hd.2.2.1
  unfold maxLen at hpcap hdcap
  obtain ⟨C, hC⟩ : ∃ C, C = ((w.alloc (.cells #[.int .i64 t.k, .int .i64 t.m, .slice TA tl tc] 25)).alloc (.cells #[.int .i64 ev.k, .int .i64 ev.m, .slice EA el ec] 28)).alloc (.cells #[.int .i64 0, .int .i64 0, .slice none 0 0] 28) := ⟨_, rfl⟩
  have HB0 : Hid (Below w.heap.size w C) := by rw [hC]; exact (((Below.refl _ _).alloc (Nat.le_refl _) _).alloc (by simp) _).alloc (by simp; omega) _
  have HT0 : Hid (Bk C w.heap.size 25 #[.int .i64 t.k, .int .i64 t.m, .slice TA tl tc]) := by rw [hC]; exact ((Bk.new _ _ _).alloc _).alloc _
  have HE0 : Hid (Bk C (w.heap.size + 1) 28 #[.int .i64 ev.k, .int .i64 ev.m, .slice EA el ec]) := by rw [hC]; exact (bk_two _ _ _ _).alloc _
  have HY0 : Hid (Bk C (w.heap.size + 2) 28 #[.int .i64 0, .int .i64 0, .slice none 0 0]) := by rw [hC]; exact bk_three _ _ _ _ _
  have HCS : Hid (C.heap.size = w.heap.size + 3) := by show C.heap.size = _; rw [hC]; simp
  -- the calls
  have KT : Hid (Calls Tryz.prog 15 #[.slice A dl dc, .agg #[.int .i64 t.k, .int .i64 t.m, .slice TA tl tc]] C (TrivialPost (knownB dat t) C)) := Trivial_any t C _ (htr.below HB0.out) (hd.below HB0.out)
  have KP : Hid (∀ x, Below w.heap.size w x → Calls Tryz.prog 16 #[.slice A dl dc, .agg #[.int .i64 t.k, .int .i64 t.m, .slice TA tl tc], .int .i64 c] x (PayPost (payB dat t c) (flagsD dat t c) x)) :=
    fun x hx => payload_any t c hc x _ (htr.below hx) (hd.below hx)
  have HKN : Hid (knownB dat t = true → DOk dat ∧ TOk t) := fun h => by
    unfold knownB at h
    rw [Bool.and_eq_true] at h
    exact ⟨(dataOk_ok h.1).2, TOk.valid h.2⟩
  have KF : Hid (knownB dat t = true → ∀ x, Below w.heap.size w x → Calls Tryz.prog 17 #[.slice A dl dc, .agg #[.int .i64 t.k, .int .i64 t.m, .slice TA tl tc], .int .i64 c] x (FieldsPost (fieldsD dat t c) x)) :=
    fun h x hx => by
      obtain ⟨h1, h2⟩ := HKN.out h
      exact fields_any c hc x (hd.below hx) h1.small (htr.below hx) (by have := h2.1; omega)
  have KH : Hid (∀ (D D' : Nat → Prop) (p f : Tr) (x : World) (cp cf : List Value), Below w.heap.size w x → TrR x D p cp → TrR x D' f cf → Calls Tryz.prog 7 #[.slice A dl dc, .agg cp.toArray, .agg cf.toArray] x (RetV (.bool (hasTypeB dat p f)) x)) :=
    fun D D' p f x cp cf hx hp hf => hasType_any p f x cp cf hp hf (hd.below hx)
  have KE : Hid (∀ x, Below w.heap.size w x → Calls Tryz.prog 7 #[.slice A dl dc, .agg #[.int .i64 ev.k, .int .i64 ev.m, .slice EA el ec], .agg #[.int .i64 t.k, .int .i64 t.m, .slice TA tl tc]] x (RetV (.bool (hasTypeB dat ev t)) x)) :=
    fun x hx => hasType_any ev t x _ _ (hev.below hx) (htr.below hx) (hd.below hx)
  have KN : Hid (ev.size ≤ 5000 → ∀ x, Below w.heap.size w x → Calls Tryz.prog 18 #[.agg #[.int .i64 ev.k, .int .i64 ev.m, .slice EA el ec]] x (RetV (.int .i64 (ev.size : Int)) x)) :=
    fun h x hx => nodes_any De ev.size ev x _ (Nat.le_refl _) (by omega) (hev.below hx)
  have KD : Hid (ev.size ≤ 5000 → ∀ x, Below w.heap.size w x → Calls Tryz.prog 19 #[.agg #[.int .i64 ev.k, .int .i64 ev.m, .slice EA el ec]] x (NewT ev x)) :=
    fun h x hx => dup_any ev.size De ev x _ (Nat.le_refl _) (by omega) (hev.below hx)
  have HPS : Hid (∀ x, Below w.heap.size w x → TrS x Dp ps PA pl pc) := fun x hx => hps.below hx
  have HDA : Hid (∀ x, Below w.heap.size w x → DaS x DD dat A dl dc) := fun x hx => hd.below hx
  have HPL := Lib.hid hpl
  have HDL := Lib.hid hdl
  clear htr hev hps hd hpl hdl
  show Calls Tryz.prog 6 #[.slice A dl dc, .agg #[.int .i64 t.k, .int .i64 t.m, .slice TA tl tc], .int .i64 c, .slice PA pl pc, .agg #[.int .i64 ev.k, .int .i64 ev.m, .slice EA el ec], .int .i64 n] w _
  obtain ⟨x0, hx0⟩ : ∃ x, t.k = x := ⟨_, rfl⟩
  obtain ⟨x1, hx1⟩ : ∃ x, t.m = x := ⟨_, rfl⟩
  rw [hx0] at htk
  rw [hx1] at htm
  rw [hx0, hx1] at hC KT KP KF KE HT0 ⊢
  have HX0 := Lib.hid hx0
  have HX1 := Lib.hid hx1
  clear hx0 hx1
  unfold rng at hc hn htm htk
  generalize ev.k = z0 at *
  generalize ev.m = z1 at *
  obtain ⟨q, hq⟩ : ∃ q, knownB dat t = q := ⟨_, rfl⟩
  rw [hq] at KT
  have HQ := Lib.hid hq
  clear hq
  go_enter Tryz.func6, Tryz.ntmps6
  go_upto_region 1 with (fail)
  rw [← hC]
  clear hC
  obtain ⟨hx0, _, _⟩ := HT0.out.facts
  go_wp2_with fail
  refine KT.out.mono ?_
  rintro e w1 ⟨A1, l1, c1, rfl, hb⟩
  have HB1 := Lib.hid (HB0.out.trans (hb.mono HB0.out.size))
  have HT1 := Lib.hid (HT0.out.below hb HT0.out.lt)
  have HE1 := Lib.hid (HE0.out.below hb HE0.out.lt)
  have HY1 := Lib.hid (HY0.out.below hb HY0.out.lt)
  clear hb hx0
  obtain ⟨W2, hW2⟩ : ∃ W2, W2 = w1.alloc (.cells #[.int .i64 0, .slice A1 l1 c1] 51) := ⟨_, rfl⟩
  have hb2 : Below w1.heap.size w1 W2 := by rw [hW2]; exact (Below.refl _ _).alloc (Nat.le_refl _) _
  have HB2 := Lib.hid (HB1.out.trans (hb2.mono HB1.out.size))
  have HT2 := Lib.hid (HT1.out.below hb2 HT1.out.lt)
  have HE2 := Lib.hid (HE1.out.below hb2 HE1.out.lt)
  have HY2 := Lib.hid (HY1.out.below hb2 HY1.out.lt)
  go_upto_region 2 with (fail)
  rw [← hW2]
  clear hW2 hb2
  cases q with
  | false =>
    obtain ⟨hy, hyf, _⟩ := HY2.out.facts
    have NO : Hid (¬ ok) := fun h => by
      have := (HNO.out h).1
      rw [HQ.out] at this
      cases this
    go_wp2
    have hg : Bk (((W2.setCell ⟨w.heap.size + 2, 0, none⟩ (.int .i64 0)).setCell ⟨w.heap.size + 2, 1, none⟩ (.int .i64 0)).setCell ⟨w.heap.size + 2, 2, none⟩ (.slice none 0 0)) (w.heap.size + 2) 28 #[.int .i64 0, .int .i64 0, .slice none 0 0] := bk_tri HY2.out
    refine bodyPost_ret (res_ct rfl _ _ (w.heap.size + 2) 28 #[.int .i64 0, .int .i64 0, .slice none 0 0] (0, 0) _ rfl hg Tryz.underlying28 rfl (by kernel_rfl)) rfl ?_
    exact chain_err (k := 6) (by decide) NO.out (below_set3 HB2.out (by omega) _ _ _)
  | true =>
    obtain ⟨hDOK, hTOK⟩ := HKN.out HQ.out
    have HDOK := Lib.hid hDOK
    have HTOK := Lib.hid hTOK
    clear hDOK hTOK
    obtain ⟨htc, _, _⟩ := HT2.out.facts
    by_cases h5 : x0 = 5
    case neg =>
      obtain ⟨hy, hyf, _⟩ := HY2.out.facts
      have NO : Hid (¬ ok) := fun h => by
        have := (HNO.out h).2.1
        exact h5 (HX0.out.symm.trans this)
      go_wp2
      have hg : Bk (((W2.setCell ⟨w.heap.size + 2, 0, none⟩ (.int .i64 0)).setCell ⟨w.heap.size + 2, 1, none⟩ (.int .i64 0)).setCell ⟨w.heap.size + 2, 2, none⟩ (.slice none 0 0)) (w.heap.size + 2) 28 #[.int .i64 0, .int .i64 0, .slice none 0 0] := bk_tri HY2.out
      refine bodyPost_ret (res_ct rfl _ _ (w.heap.size + 2) 28 #[.int .i64 0, .int .i64 0, .slice none 0 0] (0, 0) _ rfl hg Tryz.underlying28 rfl (by kernel_rfl)) rfl ?_
      exact chain_err (k := 6) (by decide) NO.out (below_set3 HB2.out (by omega) _ _ _)
    subst h5
    obtain ⟨hm0, hm1⟩ := knownB_data HQ.out HX0.out
    rw [HX1.out] at hm0 hm1
    obtain ⟨d, rfl⟩ : ∃ d : Nat, x1 = d := ⟨x1.toNat, by omega⟩
    have hdn : d < dat.length := by omega
    have hddl : d < dl := by have := HDL.out; omega
    obtain ⟨bd, od, sd, CA, cl, cc, rfl, hbd, d0, d1, d2, _, _, hcs⟩ := (HDA.out _ HB2.out).get (i := d) hdn
    have hcl : cl = dat[d].cons.length := hcs.1
    have HCL := Lib.hid hcl
    clear hcs hcl d0 d1
    by_cases c0 : c < 0
    · skip
      obtain ⟨hy, hyf, _⟩ := HY2.out.facts
      have NO : Hid (¬ ok) := fun h => by
        obtain ⟨_, _, _, ⟨fs, hfs, _⟩, _⟩ := HNO.out h
        obtain ⟨i, j, hi, hj, _, hmi, hcj, _, _, _⟩ := fieldsD_at2 hfs
        omega
      go_wp2
      have hg : Bk (((W2.setCell ⟨w.heap.size + 2, 0, none⟩ (.int .i64 0)).setCell ⟨w.heap.size + 2, 1, none⟩ (.int .i64 0)).setCell ⟨w.heap.size + 2, 2, none⟩ (.slice none 0 0)) (w.heap.size + 2) 28 #[.int .i64 0, .int .i64 0, .slice none 0 0] := bk_tri HY2.out
      refine bodyPost_ret (res_ct rfl _ _ (w.heap.size + 2) 28 #[.int .i64 0, .int .i64 0, .slice none 0 0] (0, 0) _ rfl hg Tryz.underlying28 rfl (by kernel_rfl)) rfl ?_
      exact chain_err (k := 8) (by decide) NO.out (below_set3 HB2.out (by omega) _ _ _)
    by_cases c1 : (cl : Int) ≤ c
    · skip
      obtain ⟨hy, hyf, _⟩ := HY2.out.facts
      have NO : Hid (¬ ok) := fun h => by
        obtain ⟨_, _, _, ⟨fs, hfs, _⟩, _⟩ := HNO.out h
        obtain ⟨i, j, hi, hj, _, hmi, hcj, _, _, _⟩ := fieldsD_at2 hfs
        have e : i = d := by have := HX1.out; omega
        subst e
        have := HCL.out
        omega
      go_wp2
      have hg : Bk (((W2.setCell ⟨w.heap.size + 2, 0, none⟩ (.int .i64 0)).setCell ⟨w.heap.size + 2, 1, none⟩ (.int .i64 0)).setCell ⟨w.heap.size + 2, 2, none⟩ (.slice none 0 0)) (w.heap.size + 2) 28 #[.int .i64 0, .int .i64 0, .slice none 0 0] := bk_tri HY2.out
      refine bodyPost_ret (res_ct rfl _ _ (w.heap.size + 2) 28 #[.int .i64 0, .int .i64 0, .slice none 0 0] (0, 0) _ rfl hg Tryz.underlying28 rfl (by kernel_rfl)) rfl ?_
      exact chain_err (k := 8) (by decide) NO.out (below_set3 HB2.out (by omega) _ _ _)
    by_cases c2 : n < 0
    · skip
      obtain ⟨hy, hyf, _⟩ := HY2.out.facts
      have NO : Hid (¬ ok) := fun h => by
        have := (HNO.out h).2.2.1
        omega
      go_wp2
      have hg : Bk (((W2.setCell ⟨w.heap.size + 2, 0, none⟩ (.int .i64 0)).setCell ⟨w.heap.size + 2, 1, none⟩ (.int .i64 0)).setCell ⟨w.heap.size + 2, 2, none⟩ (.slice none 0 0)) (w.heap.size + 2) 28 #[.int .i64 0, .int .i64 0, .slice none 0 0] := bk_tri HY2.out
      refine bodyPost_ret (res_ct rfl _ _ (w.heap.size + 2) 28 #[.int .i64 0, .int .i64 0, .slice none 0 0] (0, 0) _ rfl hg Tryz.underlying28 rfl (by kernel_rfl)) rfl ?_
      exact chain_err (k := 8) (by decide) NO.out (below_set3 HB2.out (by omega) _ _ _)
    by_cases c3 : 5000 < n
    · skip
      obtain ⟨hy, hyf, _⟩ := HY2.out.facts
      have NO : Hid (¬ ok) := fun h => by
        have := (HNO.out h).2.2.1
        omega
      go_wp2
      have hg : Bk (((W2.setCell ⟨w.heap.size + 2, 0, none⟩ (.int .i64 0)).setCell ⟨w.heap.size + 2, 1, none⟩ (.int .i64 0)).setCell ⟨w.heap.size + 2, 2, none⟩ (.slice none 0 0)) (w.heap.size + 2) 28 #[.int .i64 0, .int .i64 0, .slice none 0 0] := bk_tri HY2.out
      refine bodyPost_ret (res_ct rfl _ _ (w.heap.size + 2) 28 #[.int .i64 0, .int .i64 0, .slice none 0 0] (0, 0) _ rfl hg Tryz.underlying28 rfl (by kernel_rfl)) rfl ?_
      exact chain_err (k := 8) (by decide) NO.out (below_set3 HB2.out (by omega) _ _ _)
    have hcn : 0 ≤ c ∧ c < dat[d].cons.length := ⟨by omega, by have := HCL.out; omega⟩
    have HCN := Lib.hid hcn
    clear hcn
    have KK := Lib.hid (KP.out _ HB2.out)
    obtain ⟨pok, hpok⟩ : ∃ x, payB dat t c = x := ⟨_, rfl⟩
    have hpf : pok = (fieldsD dat t c).isSome := by rw [← hpok, payB, HQ.out]; rfl
    rw [hpok] at KK
    clear hpok
    obtain ⟨fl, hfl⟩ : ∃ x, flagsD dat t c = x := ⟨_, rfl⟩
    rw [hfl] at KK
    have HFL := Lib.hid hfl
    have HPF := Lib.hid hpf
    clear hfl hpf
    go_wp2_with fail
    refine KK.out.mono ?_
    rintro e w3 ⟨hb, hpp⟩
    have HB3 := Lib.hid (HB2.out.trans (hb.mono HB2.out.size))
    have HT3 := Lib.hid (HT2.out.below hb HT2.out.lt)
    have HE3 := Lib.hid (HE2.out.below hb HE2.out.lt)
    have HY3 := Lib.hid (HY2.out.below hb HY2.out.lt)
    clear hb htc
    have KK2 := Lib.hid (KF.out HQ.out _ HB3.out)
    obtain ⟨fd, hfd⟩ : ∃ x, fieldsD dat t c = x := ⟨_, rfl⟩
    rw [hfd] at KK2 HPF
    have HFD := Lib.hid hfd
    clear hfd
    obtain ⟨htc, _, _⟩ := HT3.out.facts
    rcases hpp with ⟨rfl, rfl⟩ | ⟨rfl, RPA, rpc, RRA, rrc, rfl, hr1, hr2, hr3, hr4, hr5, hr6⟩
    · have hfn : fd = none := by have := HPF.out; cases fd; rfl; cases this
      subst hfn
      go_wp2_with fail
      refine KK2.out.mono ?_
      rintro e w4 ⟨hb, (⟨_, rfl⟩ | ⟨_, _, _, _, h, _⟩)⟩
      case inr => cases h
      have HB4 := Lib.hid (HB3.out.trans (hb.mono HB3.out.size))
      have HT4 := Lib.hid (HT3.out.below hb HT3.out.lt)
      have HE4 := Lib.hid (HE3.out.below hb HE3.out.lt)
      have HY4 := Lib.hid (HY3.out.below hb HY3.out.lt)
      clear hb htc
      obtain ⟨hy, hyf, _⟩ := HY4.out.facts
      have NO : Hid (¬ ok) := fun h => by
        obtain ⟨_, _, _, ⟨fs, hfs, _⟩, _⟩ := HNO.out h
        rw [HFD.out] at hfs
        cases hfs
      go_wp2
      have hg : Bk (((w4.setCell ⟨w.heap.size + 2, 0, none⟩ (.int .i64 0)).setCell ⟨w.heap.size + 2, 1, none⟩ (.int .i64 0)).setCell ⟨w.heap.size + 2, 2, none⟩ (.slice none 0 0)) (w.heap.size + 2) 28 #[.int .i64 0, .int .i64 0, .slice none 0 0] := bk_tri HY4.out
      refine bodyPost_ret (res_ct rfl _ _ (w.heap.size + 2) 28 #[.int .i64 0, .int .i64 0, .slice none 0 0] (0, 0) _ rfl hg Tryz.underlying28 rfl (by kernel_rfl)) rfl ?_
      exact chain_err (k := 7) (by decide) NO.out (below_set3 HB4.out (by omega) _ _ _)
    obtain ⟨fs, rfl⟩ : ∃ fs, fd = some fs := Option.isSome_iff_exists.1 HPF.out.symm
    rw [posF_eq, posF_eq] at *
    obtain ⟨pls, hpls⟩ : ∃ x, posL false 0 fl = x := ⟨_, rfl⟩
    obtain ⟨rls, hrls⟩ : ∃ x, posL true 0 fl = x := ⟨_, rfl⟩
    rw [hpls] at hr1 hr5
    rw [hrls] at hr3 hr6
    rw [hpls, hrls]
    have HPLS := Lib.hid hpls
    have HRLS := Lib.hid hrls
    have HPR := Lib.hid hr5
    have HRR := Lib.hid hr6
    unfold maxLen at hr2 hr4
    clear hpls hrls hr5 hr6
    go_wp2_with fail
    refine KK2.out.mono ?_
    rintro e w4 ⟨hb, (⟨h, _⟩ | ⟨fs2, FA, fll, fc, h, rfl, hfs⟩)⟩
    · cases h
    injection h with h
    subst h
    have HB4 := Lib.hid (HB3.out.trans (hb.mono HB3.out.size))
    have HT4 := Lib.hid (HT3.out.below hb HT3.out.lt)
    have HE4 := Lib.hid (HE3.out.below hb HE3.out.lt)
    have HY4 := Lib.hid (HY3.out.below hb HY3.out.lt)
    have HPR4 := Lib.hid (HPR.out.below hb)
    have HRR4 := Lib.hid (HRR.out.below hb)
    have hfll : fll = fs.length := hfs.1
    have hflc := hfs.2.1
    have hfcm : fc ≤ maxLen := hfs.2.2.1
    unfold maxLen at hfcm
    have HFLL := Lib.hid hfll
    have HFS4 := Lib.hid (hfs.sub (D' := (w.heap.size ≤ ·)) fun b _ h => Nat.le_trans HB3.out.size h)
    clear hb htc hfs hfll KK KK2
    have HFLN : Hid (fl.length = fs.length ∧ fs.length ≤ 6) := by
      obtain ⟨i, j, hi, hj, _, _, _, _, h1, h2⟩ := fieldsD_at2 HFD.out
      refine ⟨?_, (fieldsD_ok HDOK.out HTOK.out HFD.out).1⟩
      rw [← HFL.out, h1, h2, List.length_map, List.length_map]
    have HNO2 : Hid (ok → rls.length = 1 ∧ ps.length = pls.length ∧ (∀ (i : Nat) (h1 : i < ps.length), hasTypeB dat ps[i] (fs.getD (pls.getD i 0) (.n 0 0 [])) = true) ∧ hasTypeB dat ev t = true ∧ (ev.size : Int) + n * stepN ps ≤ 5000) := fun h => by
      obtain ⟨_, _, _, ⟨fs2, hfs2, h1, h2, h3⟩, h4, h5⟩ := HNO.out h
      rw [HFD.out] at hfs2
      injection hfs2 with hfs2
      subst hfs2
      rw [HFL.out, HRLS.out] at h1
      rw [HFL.out, HPLS.out] at h2 h3
      exact ⟨h1, h2, h3, h4, h5⟩
    by_cases c4 : rls.length = 1
    case neg =>
      have c4i : ¬ (rls.length : Int) = 1 := by omega
      obtain ⟨hy, hyf, _⟩ := HY4.out.facts
      have NO : Hid (¬ ok) := fun h => by
        exact c4 (HNO2.out h).1
      go_wp2
      have hg : Bk (((w4.setCell ⟨w.heap.size + 2, 0, none⟩ (.int .i64 0)).setCell ⟨w.heap.size + 2, 1, none⟩ (.int .i64 0)).setCell ⟨w.heap.size + 2, 2, none⟩ (.slice none 0 0)) (w.heap.size + 2) 28 #[.int .i64 0, .int .i64 0, .slice none 0 0] := bk_tri HY4.out
      refine bodyPost_ret (res_ct rfl _ _ (w.heap.size + 2) 28 #[.int .i64 0, .int .i64 0, .slice none 0 0] (0, 0) _ rfl hg Tryz.underlying28 rfl (by kernel_rfl)) rfl ?_
      exact chain_err (k := 7) (by decide) NO.out (below_set3 HB4.out (by omega) _ _ _)
    obtain ⟨r0, hr0⟩ : ∃ r0, rls = [r0] := List.length_eq_one_iff.1 c4
    have HR0 := Lib.hid hr0
    clear hr0
    by_cases c5 : pl = pls.length
    case neg =>
      have c5i : ¬ (pl : Int) = (pls.length : Int) := by omega
      have c4i : (rls.length : Int) = 1 := by omega
      obtain ⟨hy, hyf, _⟩ := HY4.out.facts
      have NO : Hid (¬ ok) := fun h => by
        have := (HNO2.out h).2.1
        have := HPL.out
        omega
      go_wp2
      have hg : Bk (((w4.setCell ⟨w.heap.size + 2, 0, none⟩ (.int .i64 0)).setCell ⟨w.heap.size + 2, 1, none⟩ (.int .i64 0)).setCell ⟨w.heap.size + 2, 2, none⟩ (.slice none 0 0)) (w.heap.size + 2) 28 #[.int .i64 0, .int .i64 0, .slice none 0 0] := bk_tri HY4.out
      refine bodyPost_ret (res_ct rfl _ _ (w.heap.size + 2) 28 #[.int .i64 0, .int .i64 0, .slice none 0 0] (0, 0) _ rfl hg Tryz.underlying28 rfl (by kernel_rfl)) rfl ?_
      exact chain_err (k := 5) (by decide) NO.out (below_set3 HB4.out (by omega) _ _ _)
    have c4i : (rls.length : Int) = 1 := by omega
    have c5i : (pl : Int) = (pls.length : Int) := by omega
    have hp6 : pls.length ≤ 6 := by
      have h1 := posL_len false fl 0
      rw [HPLS.out] at h1
      have h2 := List.count_le_length (a := false) (l := fl)
      have h3 := HFLN.out
      omega
    skip
    go_wp2
    go_loopw [21, 99] (fun sv jv wr => ∃ (i s : Nat), i ≤ pls.length ∧ jv = .int .i64 i ∧ sv = .int .i64 s ∧ s ≤ 1 + 5000 * i ∧ Hid (s = stepN (ps.take i)) ∧ Hid (∀ (j : Nat) (h : j < ps.length), j < i → hasTypeB dat ps[j] (fs.getD (pls.getD j 0) (.n 0 0 [])) = true) ∧ Hid (Below w4.heap.size w4 wr)) (fun _ jv _ => pls.length - (intOf jv).toNat)
    case atStart => exact ⟨0, 1, by omega, rfl, rfl, by omega, rfl, fun j _ h => absurd h (by omega), Below.refl _ _⟩
    case round =>
      obtain ⟨i, s, hi, rfl, rfl, hs5, HST, HAL, HB⟩ := hrel
      obtain ⟨W5, hW5⟩ : ∃ x, x = wr := ⟨_, rfl⟩
      subst hW5
      have HB5 := Lib.hid (HB4.out.trans (HB.out.mono HB4.out.size))
      by_cases hlt : i < pls.length
      · have hil : i < ps.length := by have := HPL.out; omega
        obtain ⟨bp, op, rfl, _, hbp, hcp⟩ := HPR4.out.2 (by omega)
        have cp := cell_below (hcp i hlt) HB.out hbp
        have hbp5 : bp < W5.heap.size := by have := HB.out.size; omega
        obtain ⟨k, hk⟩ : ∃ k, pls.getD i 0 = k := ⟨_, rfl⟩
        rw [hk] at cp
        have hkf : k < fs.length := by
          have h1 : k ∈ posL false 0 fl := by
            rw [HPLS.out, ← hk, List.getD_eq_getElem?_getD, List.getElem?_eq_getElem hlt]
            exact List.getElem_mem hlt
          have h2 := posL_lt h1
          have h3 := HFLN.out
          omega
        have hkl : k < fll := by have := HFLL.out; omega
        have hipl : i < pl := by have := HPL.out; omega
        have hks : (0 : Int) ≤ k := by omega
        obtain ⟨b1, o1, A6, l6, c6, rfl, hb1, e0, e1, e2, hrk⟩ := (HPS.out _ HB5.out).get (i := i) hil
        obtain ⟨b2, o2, A7, l7, c7, rfl, hb2, f0, f1, f2, hrf⟩ := (HFS4.out.below HB.out).get (i := k) hkf
        have HKH := Lib.hid fun (x : World) (hx : Below W5.heap.size W5 x) => KH.out Dp (w.heap.size ≤ ·) ps[i] fs[k] x _ _ (HB5.out.trans (hx.mono HB5.out.size)) (hrk.below hx) (hrf.below hx)
        have HRK := Lib.hid hrk
        have HHT : Hid (hasTypeB dat ps[i] (fs.getD (pls.getD i 0) (.n 0 0 [])) = hasTypeB dat ps[i] fs[k]) := by
          show _ = _
          rw [hk, List.getD_eq_getElem?_getD, List.getElem?_eq_getElem hkf]
          rfl
        have HTK := Lib.hid (stepN_take hil)
        have HNK := Lib.hid fun (h : ps[i].size ≤ 5000) (x : World) (hx : Below W5.heap.size W5 x) => nodes_any Dp ps[i].size ps[i] x _ (Nat.le_refl _) (by omega) (hrk.below hx)
        have HSZ : Hid (hasTypeB dat ps[i] fs[k] = true → ps[i].size ≤ 5000) := fun h => by
          unfold hasTypeB at h
          simp only [Bool.and_eq_true, decide_eq_true_eq] at h
          exact h.2.1
        clear hrk hrf hk hcp
        obtain ⟨ht, hht⟩ : ∃ x, hasTypeB dat ps[i] fs[k] = x := ⟨_, rfl⟩
        rw [hht] at HHT HKH HSZ
        clear hht
        generalize ps[i].k = y0 at *
        generalize ps[i].m = y1 at *
        generalize fs[k].k = y2 at *
        generalize fs[k].m = y3 at *
        obtain ⟨sz, hsz⟩ : ∃ x, ps[i].size = x := ⟨_, rfl⟩
        rw [hsz] at HTK HNK HSZ
        clear hsz
        have HKH2 := Lib.hid fun (x : World) (hx : Below W5.heap.size W5 x) => (show Calls Tryz.prog 7 #[.slice (some ⟨bd, od, none⟩) dl dc, .agg #[.int .i64 y0, .int .i64 y1, .slice A6 l6 c6], .agg #[.int .i64 y2, .int .i64 y3, .slice A7 l7 c7]] x _ from HKH.out x hx)
        have HNK2 := Lib.hid fun (h : sz ≤ 5000) (x : World) (hx : Below W5.heap.size W5 x) => (show Calls Tryz.prog 18 #[.agg #[.int .i64 y0, .int .i64 y1, .slice A6 l6 c6]] x _ from HNK.out h x hx)
        clear HKH HNK
        go_upto_region 16 with (fail)
        go_still_tail 9, (by kernel_rfl)
        change wpList _ _ _ _ _ W5.drew
        obtain ⟨wd, hwd⟩ : ∃ x, x = W5.drew := ⟨_, rfl⟩
        have HBD : Hid (Below W5.heap.size W5 wd) := by rw [hwd]; exact (Below.refl _ _).drew
        rw [← hwd]
        clear hwd
        go_wp2_with fail
        refine (HKH2.out _ HBD.out).mono ?_
        rintro e w6 ⟨rfl, hb⟩
        have HB6 := Lib.hid (HBD.out.trans (hb.mono HBD.out.size))
        have HBW6 := Lib.hid (HB5.out.trans (HB6.out.mono HB5.out.size))
        clear hb
        have HY6 := Lib.hid (HY4.out.below (HB.out.trans (HB6.out.mono HB.out.size)) HY4.out.lt)
        have HB6X := HB6
        cases ht with
        | false =>
          have HB6 := HBW6
          obtain ⟨hy, hyf, _⟩ := HY6.out.facts
          have NO : Hid (¬ ok) := fun h => by
            have h1 := (HNO2.out h).2.2.1 i hil
            rw [HHT.out] at h1
            cases h1
          go_wp2
          have hg : Bk (((w6.setCell ⟨w.heap.size + 2, 0, none⟩ (.int .i64 0)).setCell ⟨w.heap.size + 2, 1, none⟩ (.int .i64 0)).setCell ⟨w.heap.size + 2, 2, none⟩ (.slice none 0 0)) (w.heap.size + 2) 28 #[.int .i64 0, .int .i64 0, .slice none 0 0] := bk_tri HY6.out
          refine bodyPost_ret (res_ct rfl _ _ (w.heap.size + 2) 28 #[.int .i64 0, .int .i64 0, .slice none 0 0] (0, 0) _ rfl hg Tryz.underlying28 rfl (by kernel_rfl)) rfl ?_
          exact chain_err (k := 11) (by decide) NO.out (below_set3 HB6.out (by omega) _ _ _)
        | true =>
          have g0 := cell_below e0 HB6X.out hb1
          have g1 := cell_below e1 HB6X.out hb1
          have g2 := cell_below e2 HB6X.out hb1
          have hszb := HSZ.out (by first | rfl | trivial)
          have hss : s + sz ≤ 40000 := by omega
          clear e0 e1 e2 f0 f1 f2
          go_wp2_with fail
          refine (HNK2.out hszb _ HB6X.out).mono ?_
          rintro e w7 ⟨rfl, hb⟩
          have HB7 := Lib.hid (HB.out.trans ((HB6X.out.trans (hb.mono HB6X.out.size)).mono HB.out.size))
          clear hb
          go_wp2
          go_roundw
          case rel =>
            refine ⟨i + 1, s + sz, by omega, by go_num, by go_num, by omega, Lib.hid ?_, fun j h hj => ?_, HB7⟩
            · rw [HTK.out, HST.out]
            · by_cases hji : j = i
              · subst hji; exact HHT.out
              · exact HAL.out j h (by omega)
          case measure => simp [intOf]; omega
      · obtain rfl : i = pls.length := by omega
        have HT5 := Lib.hid (HT4.out.below HB.out HT4.out.lt)
        have HE5 := Lib.hid (HE4.out.below HB.out HE4.out.lt)
        have HY5 := Lib.hid (HY4.out.below HB.out HY4.out.lt)
        have HPR5 := Lib.hid (HPR4.out.below HB.out)
        have HRR5 := Lib.hid (HRR4.out.below HB.out)
        have hplen : ps.length = pls.length := by have := HPL.out; omega
        have hst : s = stepN ps := by rw [HST.out, ← hplen, List.take_length]
        have HSTN := Lib.hid hst
        have HPLN := Lib.hid hplen
        clear hst hplen HST
        obtain ⟨htc, _, _⟩ := HT5.out.facts
        obtain ⟨hec, _, _⟩ := HE5.out.facts
        obtain ⟨hte, hhte⟩ : ∃ x, hasTypeB dat ev t = x := ⟨_, rfl⟩
        have KEE := Lib.hid (KE.out _ HB5.out)
        rw [hhte] at KEE
        have HTE := Lib.hid hhte
        clear hhte
        go_wp2_with fail
        refine KEE.out.mono ?_
        rintro e w6 ⟨rfl, hb⟩
        have HB6 := Lib.hid (HB5.out.trans (hb.mono HB5.out.size))
        have HT6 := Lib.hid (HT5.out.below hb HT5.out.lt)
        have HE6 := Lib.hid (HE5.out.below hb HE5.out.lt)
        have HY6 := Lib.hid (HY5.out.below hb HY5.out.lt)
        have HPR6 := Lib.hid (HPR5.out.below hb)
        have HRR6 := Lib.hid (HRR5.out.below hb)
        clear hb htc hec KEE
        cases hte with
        | false =>
          obtain ⟨hy, hyf, _⟩ := HY6.out.facts
          have NO : Hid (¬ ok) := fun h => by
            have h1 := (HNO2.out h).2.2.2.1
            rw [HTE.out] at h1
            cases h1
          go_wp2
          have hg : Bk (((w6.setCell ⟨w.heap.size + 2, 0, none⟩ (.int .i64 0)).setCell ⟨w.heap.size + 2, 1, none⟩ (.int .i64 0)).setCell ⟨w.heap.size + 2, 2, none⟩ (.slice none 0 0)) (w.heap.size + 2) 28 #[.int .i64 0, .int .i64 0, .slice none 0 0] := bk_tri HY6.out
          refine bodyPost_ret (res_ct rfl _ _ (w.heap.size + 2) 28 #[.int .i64 0, .int .i64 0, .slice none 0 0] (0, 0) _ rfl hg Tryz.underlying28 rfl (by kernel_rfl)) rfl ?_
          exact chain_err (k := 11) (by decide) NO.out (below_set3 HB6.out (by omega) _ _ _)
        | true =>
          have hes : ev.size ≤ 5000 := by
            have h := HTE.out
            unfold hasTypeB at h
            simp only [Bool.and_eq_true, decide_eq_true_eq] at h
            exact h.2.1
          have KNN := Lib.hid (KN.out hes _ HB6.out)
          have KDD := Lib.hid (KD.out hes)
          obtain ⟨sv, hsv⟩ : ∃ x, ev.size = x := ⟨_, rfl⟩
          rw [hsv] at KNN hes
          have HSV := Lib.hid hsv
          clear hsv
          obtain ⟨nn, rfl⟩ : ∃ nn : Nat, n = nn := ⟨n.toNat, by omega⟩
          have hnn : nn ≤ 5000 := by omega
          have hs6 : s ≤ 30001 := by omega
          have hmn : nn * s ≤ 5000 * 30001 := Nat.mul_le_mul hnn hs6
          have hm1 : (0 : Int) ≤ (nn : Int) * (s : Int) := by rw [← Int.natCast_mul]; omega
          have hm2 : (nn : Int) * (s : Int) ≤ 150005000 := by rw [← Int.natCast_mul]; omega
          obtain ⟨m, hm⟩ : ∃ m : Int, (nn : Int) * (s : Int) = m := ⟨_, rfl⟩
          have HM := Lib.hid hm
          rw [hm] at hm1 hm2
          obtain ⟨hec, _, _⟩ := HE6.out.facts
          go_wp2_with fail
          refine KNN.out.mono ?_
          rintro e w7 ⟨rfl, hb⟩
          have HB7 := Lib.hid (HB6.out.trans (hb.mono HB6.out.size))
          have HT7 := Lib.hid (HT6.out.below hb HT6.out.lt)
          have HE7 := Lib.hid (HE6.out.below hb HE6.out.lt)
          have HY7 := Lib.hid (HY6.out.below hb HY6.out.lt)
          have HPR7 := Lib.hid (HPR6.out.below hb)
          have HRR7 := Lib.hid (HRR6.out.below hb)
          clear hb hec KNN
          by_cases c6 : (5000 : Int) < (sv : Int) + m
          · skip
            obtain ⟨hy, hyf, _⟩ := HY7.out.facts
            have NO : Hid (¬ ok) := fun h => by
              have h1 := (HNO2.out h).2.2.2.2
              rw [HSV.out, ← HSTN.out, HM.out] at h1
              omega
            go_wp2
            have hg : Bk (((w7.setCell ⟨w.heap.size + 2, 0, none⟩ (.int .i64 0)).setCell ⟨w.heap.size + 2, 1, none⟩ (.int .i64 0)).setCell ⟨w.heap.size + 2, 2, none⟩ (.slice none 0 0)) (w.heap.size + 2) 28 #[.int .i64 0, .int .i64 0, .slice none 0 0] := bk_tri HY7.out
            refine bodyPost_ret (res_ct rfl _ _ (w.heap.size + 2) 28 #[.int .i64 0, .int .i64 0, .slice none 0 0] (0, 0) _ rfl hg Tryz.underlying28 rfl (by kernel_rfl)) rfl ?_
            exact chain_err (k := 9) (by decide) NO.out (below_set3 HB7.out (by omega) _ _ _)
          have OK : Hid ok := HYES.out ⟨HQ.out, HX0.out, by omega, ⟨fs, HFD.out, by rw [HFL.out, HRLS.out]; exact c4, by rw [HFL.out, HPLS.out]; exact HPLN.out, fun j h => by rw [HFL.out, HPLS.out]; exact HAL.out j h (by have := HPLN.out; omega)⟩, HTE.out, by rw [HSV.out, ← HSTN.out, HM.out]; omega⟩
          have HPZ : Hid (∀ (j : Nat) (h : j < ps.length), ps[j].size ≤ 5000) := fun j hj => by
            have h := HAL.out j hj (by have := HPLN.out; omega)
            unfold hasTypeB at h
            simp only [Bool.and_eq_true, decide_eq_true_eq] at h
            exact h.2.1
          obtain ⟨hec, _, _⟩ := HE7.out.facts
          have KDE := Lib.hid (KDD.out _ HB7.out)
          go_wp2_with fail
          refine KDE.out.mono ?_
          rintro e w8 ⟨v2, rfl, hv2, hb⟩
          have HB8 := Lib.hid (HB7.out.trans (hb.mono HB7.out.size))
          have HT8 := Lib.hid (HT7.out.below hb HT7.out.lt)
          have HE8 := Lib.hid (HE7.out.below hb HE7.out.lt)
          have HY8 := Lib.hid (HY7.out.below hb HY7.out.lt)
          have HPR8 := Lib.hid (HPR7.out.below hb)
          have HRR8 := Lib.hid (HRR7.out.below hb)
          have HW8 : Hid (C.heap.size ≤ w8.heap.size) := by
            have h1 := HB8.out.size
            have h2 := hb.size
            have h3 := HCS.out
            have h4 : C.heap.size ≤ w7.heap.size := by have := HY7.out.lt; omega
            show C.heap.size ≤ w8.heap.size
            omega
          have HV2 : Hid (TrR w8 (fun b => C.heap.size ≤ b ∧ b ≠ w8.heap.size) ev v2) := TrR.sub (fun b h1 h2 => by
            have h3 : w7.heap.size ≤ b := h2
            have h4 : C.heap.size ≤ w7.heap.size := by have := HY7.out.lt; have := HCS.out; omega
            exact ⟨by omega, by omega⟩) hv2
          obtain ⟨A8, l8, c8, rfl, _, _, _⟩ := hv2.form
          clear hv2 hb hec KDE hm hm1 hm2 hmn
          generalize ev.k = e0 at *
          generalize ev.m = e1 at *
          obtain ⟨W9, hW9⟩ : ∃ W9, W9 = w8.alloc (.cells #[.int .i64 e0, .int .i64 e1, .slice A8 l8 c8] 28) := ⟨_, rfl⟩
          have hb9 : Below w8.heap.size w8 W9 := by rw [hW9]; exact (Below.refl _ _).alloc (Nat.le_refl _) _
          have HB9 := Lib.hid hb9
          have HG9 : Hid (Bk W9 w8.heap.size 28 #[.int .i64 e0, .int .i64 e1, .slice A8 l8 c8]) := by rw [hW9]; exact Bk.new _ _ _
          have HV9 := Lib.hid (HV2.out.below hb9)
          have HS9 : Hid (W9.heap.size = w8.heap.size + 1) := by show W9.heap.size = _; rw [hW9]; simp
          go_upto_region 25 with (fail)
          rw [← hW9]
          clear hW9 hb9
          have hfl6 : fs.length ≤ 6 := HFLN.out.2
          have hfll : fll = fs.length := HFLL.out
          subst hfll
          have hr0f : r0 < fs.length := by
            have h1 : r0 ∈ posL true 0 fl := by rw [HRLS.out, HR0.out]; simp
            have h2 := posL_lt h1
            have h3 := HFLN.out.1
            omega
          have hW9s : w8.heap.size < W9.heap.size := by have := HS9.out; omega
          go_wp2
          go_loopw [141] (fun jv wr => ∃ (i : Nat) (k0 k1 : Int) (KA : Option Addr) (kl kc : Nat), i ≤ nn ∧ jv = .int .i64 i ∧ Hid (Bk wr w8.heap.size 28 #[.int .i64 k0, .int .i64 k1, .slice KA kl kc]) ∧ Hid (TrR wr (fun b => C.heap.size ≤ b ∧ b ≠ w8.heap.size) (chainV fl c ps i ev) [.int .i64 k0, .int .i64 k1, .slice KA kl kc]) ∧ Hid (Below w8.heap.size w8 wr) ∧ Hid (w8.heap.size < wr.heap.size)) (fun jv _ => nn - (intOf jv).toNat)
          case atStart => exact ⟨0, e0, e1, A8, l8, c8, by omega, rfl, HG9, HV9, HB9, hW9s⟩
          case round =>
            obtain ⟨i, k0, k1, KA, kl, kc, hi, rfl, HG, HV, HB, HL⟩ := hrel
            obtain ⟨WA, hWA⟩ : ∃ x, x = wr := ⟨_, rfl⟩
            subst hWA
            have HBA := Lib.hid (HB8.out.trans (HB.out.mono HB8.out.size))
            by_cases hlt : i < nn
            · have hmk := run_mkV WA fs.length (by omega)
              obtain ⟨cv, hcv⟩ : ∃ x, chainV fl c ps i ev = x := ⟨_, rfl⟩
              rw [hcv] at HV
              have HCV := Lib.hid hcv
              clear hcv
              obtain ⟨WB, hWB⟩ : ∃ WB, WB = WA.alloc (.cells (madeCells #[.int .i64 0, .int .i64 0, .slice none 0 0] (fs.length * 3)) 28) := ⟨_, rfl⟩
              have hbB : Below WA.heap.size WA WB := by rw [hWB]; exact (Below.refl _ _).alloc (Nat.le_refl _) _
              have HKB : Hid (KidsR WB WA.heap.size (fun b => C.heap.size ≤ b ∧ b ≠ w8.heap.size ∧ b ≠ WA.heap.size) (List.replicate fs.length (.n 0 0 []))) := by rw [hWB]; exact KidsR.made _ _ _
              have HGB := Lib.hid (HG.out.below hbB HG.out.lt)
              have HVB : Hid (TrR WB (fun b => C.heap.size ≤ b ∧ b ≠ w8.heap.size ∧ b ≠ WA.heap.size) cv [.int .i64 k0, .int .i64 k1, .slice KA kl kc]) := TrR.below (TrR.sub (fun b h1 h2 => ⟨h2.1, h2.2, by omega⟩) HV.out) hbB
              have HBB := Lib.hid (HB.out.trans (hbB.mono HB.out.size))
              have HRB := Lib.hid (HRR8.out.below HBB.out)
              have HSB : Hid (WA.heap.size < WB.heap.size) := by show WA.heap.size < _; rw [hWB]; simp
              have HBAB := Lib.hid hbB
              rw [← hWB] at hmk
              clear hWB hbB
              go_upto_region 28 with (fail)
              clear hmk
              obtain ⟨br, orr, rfl, _, hbr, hcr⟩ := HRB.out.2 (by rw [HR0.out]; simp)
              have cr := hcr 0 (by rw [HR0.out]; simp)
              rw [show rls.getD 0 0 = r0 from by rw [HR0.out]; rfl, Nat.add_zero] at cr
              clear hcr
              obtain ⟨hgc, _, _⟩ := HGB.out.facts
              have hr0i : (0 : Int) ≤ r0 := by omega
              go_still_tail 6, (by kernel_rfl)
              change wpList _ _ _ _ _ WB.drew
              obtain ⟨wd, hwd⟩ : ∃ x, x = WB.drew := ⟨_, rfl⟩
              have hbd : Below WB.heap.size WB wd := by rw [hwd]; exact (Below.refl _ _).drew
              have HKD := Lib.hid (HKB.out.below hbd)
              have HVD := Lib.hid (HVB.out.below hbd)
              have HGD := Lib.hid (HGB.out.below hbd HGB.out.lt)
              have HBD := Lib.hid (HBB.out.trans (hbd.mono HBB.out.size))
              have HBAD := Lib.hid (HBAB.out.trans (hbd.mono HBAB.out.size))
              rw [← hwd]
              clear hwd hbd
              obtain ⟨⟨x9, y9, z9, r9, r10, r11⟩, hfz⟩ := HKD.out.get (i := r0) (by simpa using hr0f)
              go_wp2_with fail
              have hkr : (List.replicate fs.length (Tr.n 0 0 [])).length = fs.length := List.length_replicate
              have HKC := Lib.hid (HKD.out.set (i := r0) (by rw [hkr]; exact hr0f) (fun h => h.2.2 rfl) HVD.out)
              have HBC : Hid (Below WA.heap.size WA (((wd.setCell ⟨WA.heap.size, r0 * 3, none⟩ (.int .i64 k0)).setCell ⟨WA.heap.size, r0 * 3 + 1, none⟩ (.int .i64 k1)).setCell ⟨WA.heap.size, r0 * 3 + 2, none⟩ (.slice KA kl kc))) := ((HBAD.out.setCell (p := ⟨WA.heap.size, r0 * 3, none⟩) (Nat.le_refl _) _).setCell (p := ⟨WA.heap.size, r0 * 3 + 1, none⟩) (Nat.le_refl _) _).setCell (p := ⟨WA.heap.size, r0 * 3 + 2, none⟩) (Nat.le_refl _) _
              have HSET : Hid (setAll ((List.replicate fs.length (.n 0 0 [])).set r0 cv) pls ps = buildK fl ps cv) := by
                have h1 := setAll_kids cv (.n 0 0 []) (fl := fl) (ps := ps) (r := r0) (by rw [HRLS.out, HR0.out]) (by rw [← posL_len false fl 0, HPLS.out, HPLN.out])
                rw [HPLS.out, HFLN.out.1] at h1
                exact h1
              clear hfz r9 r10 r11 hgc cr
              generalize hWC : ((wd.setCell ⟨WA.heap.size, r0 * 3, none⟩ (.int .i64 k0)).setCell ⟨WA.heap.size, r0 * 3 + 1, none⟩ (.int .i64 k1)).setCell ⟨WA.heap.size, r0 * 3 + 2, none⟩ (.slice KA kl kc) = WC at *
              clear hWC
              go_loopw [154] (fun jv wr => ∃ (j : Nat) (K : List Tr), j ≤ pls.length ∧ jv = .int .i64 j ∧ K.length = fs.length ∧ Hid (setAll K (pls.drop j) (ps.drop j) = buildK fl ps cv) ∧ Hid (KidsR wr WA.heap.size (fun b => C.heap.size ≤ b ∧ b ≠ w8.heap.size ∧ b ≠ WA.heap.size) K) ∧ Hid (Below WA.heap.size WA wr)) (fun jv _ => pls.length - (intOf jv).toNat)
              case atStart => exact ⟨0, _, by omega, rfl, by rw [List.length_set, hkr], by rw [List.drop_zero, List.drop_zero]; exact HSET, HKC, HBC⟩
              case round =>
                obtain ⟨j, K, hj, rfl, hKl, HS, HK, HBi⟩ := hrel
                obtain ⟨WD, hWD⟩ : ∃ x, x = wr := ⟨_, rfl⟩
                subst hWD
                have HBWD := Lib.hid (HBA.out.trans (HBi.out.mono HBA.out.size))
                have HB8D := Lib.hid (HB.out.trans (HBi.out.mono HB.out.size))
                by_cases hjl : j < pls.length
                · have hjp : j < ps.length := by have := HPLN.out; omega
                  obtain ⟨bp, op, rfl, _, hbp, hcp⟩ := HPR8.out.2 (by omega)
                  have cp := cell_below (hcp j hjl) HB8D.out hbp
                  have hbpD : bp < WD.heap.size := by have := HB8D.out.size; omega
                  obtain ⟨k, hk⟩ : ∃ k, pls.getD j 0 = k := ⟨_, rfl⟩
                  have hkj : pls[j] = k := by rw [← hk, List.getD_eq_getElem?_getD, List.getElem?_eq_getElem hjl]; rfl
                  rw [hk] at cp
                  have hkf : k < fs.length := by
                    have h1 : k ∈ posL false 0 fl := by rw [HPLS.out, ← hkj]; exact List.getElem_mem hjl
                    have h2 := posL_lt h1
                    have h3 := HFLN.out
                    omega
                  have HSN : Hid (setAll (K.set k ps[j]) (pls.drop (j + 1)) (ps.drop (j + 1)) = buildK fl ps cv) := by
                    have h := HS.out
                    rw [List.drop_eq_getElem_cons hjl, List.drop_eq_getElem_cons hjp, setAll, hkj] at h
                    exact h
                  clear hk hkj hcp
                  have hjpl : j < pls.length := hjl
                  have hks : (0 : Int) ≤ k := by omega
                  obtain ⟨b1, o1, A6, l6, c6, rfl, hb1, e0, e1, e2, hrk⟩ := (HPS.out _ HBWD.out).get (i := j) hjp
                  have HDJ := Lib.hid (dup_any ps[j].size Dp ps[j] WD _ (Nat.le_refl _) (by have := HPZ.out j hjp; omega) hrk)
                  clear hrk
                  obtain ⟨pj, hpj⟩ : ∃ x, ps[j] = x := ⟨_, rfl⟩
                  rw [hpj] at HDJ HSN e0 e1
                  clear hpj
                  obtain ⟨y0, hy0⟩ : ∃ x, pj.k = x := ⟨_, rfl⟩
                  obtain ⟨y1, hy1⟩ : ∃ x, pj.m = x := ⟨_, rfl⟩
                  rw [hy0, hy1] at HDJ
                  rw [hy0] at e0
                  rw [hy1] at e1
                  clear hy0 hy1
                  have HDJ2 := Lib.hid (show Calls Tryz.prog 19 #[.agg #[.int .i64 y0, .int .i64 y1, .slice A6 l6 c6]] WD _ from HDJ.out)
                  clear HDJ
                  go_wp2_with fail
                  refine HDJ2.out.mono ?_
                  rintro e w6 ⟨v3, rfl, hv3, hb⟩
                  have HB6 := Lib.hid (HBi.out.trans (hb.mono HBi.out.size))
                  have HK6 := Lib.hid (HK.out.below hb)
                  have hltD := HK.out.lt
                  have hltA := HL.out
                  have h8A := HB.out.size
                  have hAD := HBi.out.size
                  have HV6 : Hid (TrR w6 (fun b => C.heap.size ≤ b ∧ b ≠ w8.heap.size ∧ b ≠ WA.heap.size) pj v3) := TrR.sub (fun b h1 h2 => by
                    have h3 : WD.heap.size ≤ b := h2
                    have h4 : w8.heap.size < WA.heap.size := HL.out
                    have h5 : C.heap.size ≤ w8.heap.size := HW8.out
                    exact ⟨by omega, by omega, by omega⟩) hv3
                  obtain ⟨A9, l9, c9, rfl, _, _, _⟩ := hv3.form
                  clear hb hv3 cp e0 e1 e2 HDJ2
                  generalize pj.k = y2 at *
                  generalize pj.m = y3 at *
                  have hkK : k < K.length := by omega
                  obtain ⟨⟨x9, y9, z9, r9, r10, r11⟩, hfz⟩ := HK6.out.get (i := k) hkK
                  have HK7 := Lib.hid (HK6.out.set (i := k) hkK (fun h => h.2.2 rfl) HV6.out)
                  have HB7 : Hid (Below WA.heap.size WA (((w6.setCell ⟨WA.heap.size, k * 3, none⟩ (.int .i64 y2)).setCell ⟨WA.heap.size, k * 3 + 1, none⟩ (.int .i64 y3)).setCell ⟨WA.heap.size, k * 3 + 2, none⟩ (.slice A9 l9 c9))) := ((HB6.out.setCell (p := ⟨WA.heap.size, k * 3, none⟩) (Nat.le_refl _) _).setCell (p := ⟨WA.heap.size, k * 3 + 1, none⟩) (Nat.le_refl _) _).setCell (p := ⟨WA.heap.size, k * 3 + 2, none⟩) (Nat.le_refl _) _
                  go_wp2
                  go_roundw
                  case rel => exact ⟨j + 1, K.set k pj, by omega, by go_num, by rw [List.length_set]; exact hKl, HSN, HK7, HB7⟩
                  case measure => simp [intOf]; omega
                · obtain rfl : j = pls.length := by omega
                  have HKE : Hid (K = buildK fl ps cv) := by
                    show K = _
                    rw [← HS.out, List.drop_length, setAll_nil]
                  have hsl := HK.out.slice (by unfold maxLen; omega)
                  rw [HKE.out] at hsl
                  rw [HKE.out] at hKl
                  rw [hKl] at hsl
                  have HSL := Lib.hid hsl
                  have HGE := Lib.hid (HG.out.below HBi.out HG.out.lt)
                  have hltA := HL.out
                  have hltD := HBi.out.size
                  clear hsl hKl
                  obtain ⟨hgc, hgf, _⟩ := HGE.out.facts
                  have HGN := Lib.hid (bk_tri (x := .int .i64 5) (y := .int .i64 c) (z := .slice (some ⟨WA.heap.size, 0, none⟩) fs.length fs.length) HGE.out)
                  have hfw : Fw (fun b => b = w8.heap.size) WD (((WD.setCell ⟨w8.heap.size, 0, none⟩ (.int .i64 5)).setCell ⟨w8.heap.size, 1, none⟩ (.int .i64 c)).setCell ⟨w8.heap.size, 2, none⟩ (.slice (some ⟨WA.heap.size, 0, none⟩) fs.length fs.length)) := (((Fw.refl (fun b => b = w8.heap.size) WD).setCell (p := ⟨w8.heap.size, 0, none⟩) (.inl rfl) _).setCell (p := ⟨w8.heap.size, 1, none⟩) (.inl rfl) _).setCell (p := ⟨w8.heap.size, 2, none⟩) (.inl rfl) _
                  have HTN : Hid (TrR (((WD.setCell ⟨w8.heap.size, 0, none⟩ (.int .i64 5)).setCell ⟨w8.heap.size, 1, none⟩ (.int .i64 c)).setCell ⟨w8.heap.size, 2, none⟩ (.slice (some ⟨WA.heap.size, 0, none⟩) fs.length fs.length)) (fun b => C.heap.size ≤ b ∧ b ≠ w8.heap.size) (chainV fl c ps (i + 1) ev) [.int .i64 5, .int .i64 c, .slice (some ⟨WA.heap.size, 0, none⟩) fs.length fs.length]) := by
                    have h5 : C.heap.size ≤ w8.heap.size := HW8.out
                    have h6 : w8.heap.size < WA.heap.size := HL.out
                    refine TrR.keep (Keeps.fw hfw fun b hD e => hD.2 e) ?_
                    rw [chainV, HCV.out, TrR]
                    exact ⟨by unfold rng; omega, hc, _, _, _, rfl, TrS.sub (fun b hb h => by
                      rcases h with h | h
                      · exact ⟨h.1, h.2.1⟩
                      · subst h; exact ⟨by omega, by omega⟩) HSL.out⟩
                  have HBN := Lib.hid (below_set3 HB8D.out (Nat.le_refl _) (.int .i64 5) (.int .i64 c) (.slice (some ⟨WA.heap.size, 0, none⟩) fs.length fs.length))
                  clear hfw
                  go_wp2
                  go_roundw
                  case rel => exact ⟨i + 1, 5, c, _, _, _, by omega, by go_num, HGN, HTN, HBN, by show w8.heap.size < _; simp [World.setCell]; omega⟩
                  case measure => simp [intOf]; omega
            · obtain rfl : i = nn := by omega
              have HYA := Lib.hid (HY8.out.below HB.out HY8.out.lt)
              obtain ⟨hgc, _, _⟩ := HG.out.facts
              obtain ⟨hy, hyf, _⟩ := HYA.out.facts
              have h5 : C.heap.size ≤ w8.heap.size := HW8.out
              have h6 := HCS.out
              go_wp2
              have hg : Bk (((WA.setCell ⟨w.heap.size + 2, 0, none⟩ (.int .i64 k0)).setCell ⟨w.heap.size + 2, 1, none⟩ (.int .i64 k1)).setCell ⟨w.heap.size + 2, 2, none⟩ (.slice KA kl kc)) (w.heap.size + 2) 28 #[.int .i64 k0, .int .i64 k1, .slice KA kl kc] := bk_tri HYA.out
              refine bodyPost_ret (res_ct rfl _ _ (w.heap.size + 2) 28 #[.int .i64 k0, .int .i64 k1, .slice KA kl kc] (0, 0) _ rfl hg Tryz.underlying28 rfl (by kernel_rfl)) rfl ?_
              have hfw : Fw (fun b => b = w.heap.size + 2) WA (((WA.setCell ⟨w.heap.size + 2, 0, none⟩ (.int .i64 k0)).setCell ⟨w.heap.size + 2, 1, none⟩ (.int .i64 k1)).setCell ⟨w.heap.size + 2, 2, none⟩ (.slice KA kl kc)) := (((Fw.refl (fun b => b = w.heap.size + 2) WA).setCell (p := ⟨w.heap.size + 2, 0, none⟩) (.inl rfl) _).setCell (p := ⟨w.heap.size + 2, 1, none⟩) (.inl rfl) _).setCell (p := ⟨w.heap.size + 2, 2, none⟩) (.inl rfl) _
              refine ⟨below_set3 HBA.out (by omega) _ _ _, .inr ⟨OK.out, _, rfl, ?_⟩⟩
              rw [← HR.out, HFL.out, Int.toNat_natCast]
              exact TrR.sub (fun b _ h => by have h1 : C.heap.size ≤ b ∧ b ≠ w8.heap.size := h; show w.heap.size ≤ b; omega) (HV.out.keep (Keeps.fw hfw fun b hD e => by have e : b = w.heap.size + 2 := e; have h1 : C.heap.size ≤ b := hD.1; omega))
end Go.Proofs.YtdbiedpdibjdlaaGreat

