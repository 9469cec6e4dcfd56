/-
  The law FitGrows (printed by gen_grows.py).
-/
import Derived.Test.YtdbiedpdibjdlaaGreatMHp
import Derived.Test.YtdbiedpdibjdlaaGreatMHr
import Derived.Test.YtdbiedpdibjdlaaGreatMGl
import Derived.Test.YtdbiedpdibjdlaaGreatMLawB
namespace Go.Proofs.YtdbiedpdibjdlaaGreat
open Go.RowKit AC
set_option linter.unusedVariables false
set_option linter.unusedSimpArgs false
set_option maxHeartbeats 16000000 in
set_option maxRecDepth 100000 in
theorem grows_any {DD Dt Dp De : Nat → Prop} {dat : List DaD} {A PA : Option Addr} {dl dc pl pc : Nat} (t : Tr) (c : Int) (hc : rng c) (ps : List Tr) (ev : Tr) (nn mm : Nat) (hnn : nn ≤ 255) (hmm : mm ≤ 255) (w : World) (ct ce : List Value) (htr : TrR w Dt t ct) (hev : TrR w De ev ce) (hps : TrS w Dp ps PA pl pc) (hd : DaS w DD dat A dl dc) :
    Calls Tryz.prog 3 #[.slice A dl dc, .agg ct.toArray, .int .i64 c, .slice PA pl pc, .agg ce.toArray, .int .u8 nn, .int .u8 mm] w (RetV (.bool true) w) := by
  obtain ⟨TA, tl, tc, rfl, _, htk, htm⟩ := htr.form
  obtain ⟨EA, el, ec, rfl, _, hek, hem⟩ := hev.form
  obtain ⟨C, hC⟩ : ∃ C, C = (w.alloc (.cells #[.int .i64 t.k, .int .i64 t.m, .slice TA tl tc] 25)).alloc (.cells #[.int .i64 ev.k, .int .i64 ev.m, .slice EA el ec] 28) := ⟨_, rfl⟩
  have HB0 : Hid (Below w.heap.size w C) := by rw [hC]; exact ((Below.refl _ _).alloc (Nat.le_refl _) _).alloc (by simp) _
  have HT0 : Hid (Bk C w.heap.size 25 #[.int .i64 t.k, .int .i64 t.m, .slice TA tl tc]) := by rw [hC]; exact (Bk.new _ _ _).alloc _
  have HE0 : Hid (Bk C (w.heap.size + 1) 28 #[.int .i64 ev.k, .int .i64 ev.m, .slice EA el ec]) := by rw [hC]; exact bk_two _ _ _ _
  have KS := Lib.hid fun x => sane_any x
  have KK : Hid (∀ x, Below w.heap.size w x → Calls Tryz.prog 5 #[.slice A dl dc, .slice PA pl pc, .agg #[.int .i64 ev.k, .int .i64 ev.m, .slice EA el ec]] x (KGPost dl ps ev x)) :=
    fun x hx => keptG_any (fun _ => True) ps ev A PA dl dc pl pc _ x hd.2.1 hd.2.2.1 ((hps.sub fun _ _ _ => trivial).below hx) ((hev.sub fun _ _ _ => trivial).below hx)
  have KC : Hid (∀ (n : Int), rng n → ∀ x, Below w.heap.size w x → Calls Tryz.prog 6 #[.slice A dl dc, .agg #[.int .i64 t.k, .int .i64 t.m, .slice TA tl tc], .int .i64 c, .slice PA pl pc, .agg #[.int .i64 ev.k, .int .i64 ev.m, .slice EA el ec], .int .i64 n] x (ChainPost (ChainOk dat t c ps ev n) (chainV (flagsD dat t c) c ps n.toNat ev) x)) :=
    fun n hn x hx => chain_any t c hc ps ev n hn x _ _ (htr.below hx) (hev.below hx) (hps.below hx) (hd.below hx)
  have KC2 : Hid (∀ (n : Int), rng n → ∀ (D : Nat → Prop) (a : Tr) (ca : List Value) x, Below w.heap.size w x → TrR x D a ca → Calls Tryz.prog 6 #[.slice A dl dc, .agg #[.int .i64 t.k, .int .i64 t.m, .slice TA tl tc], .int .i64 c, .slice PA pl pc, .agg ca.toArray, .int .i64 n] x (ChainPost (ChainOk dat t c ps a n) (chainV (flagsD dat t c) c ps n.toNat a) x)) :=
    fun n hn D a ca x hx ha => chain_any t c hc ps a n hn x _ _ (htr.below hx) ha (hps.below hx) (hd.below hx)
  have KH : Hid (∀ (D : Nat → Prop) (a : Tr) (ca : List Value) x, Below w.heap.size w x → TrR x D a ca → Calls Tryz.prog 7 #[.slice A dl dc, .agg ca.toArray, .agg #[.int .i64 t.k, .int .i64 t.m, .slice TA tl tc]] x (RetV (.bool (hasTypeB dat a t)) x)) :=
    fun D a ca x hx ha => hasType_any a t x _ _ ha (htr.below hx) (hd.below hx)
  have KCM : Hid (∀ (D D' : Nat → Prop) (a : Tr) (ca cb : List Value) x, TrR x D a ca → TrR x D' a cb → Calls Tryz.prog 8 #[.agg ca.toArray, .agg cb.toArray] x (RetV (.int .i64 0) x)) :=
    fun D D' a ca cb x h1 h2 => compare_any a.size D D' a x ca cb (Nat.le_refl _) h1 h2
  clear htr hev hps hd
  show Calls Tryz.prog 3 #[.slice A dl dc, .agg #[.int .i64 t.k, .int .i64 t.m, .slice TA tl tc], .int .i64 c, .slice PA pl pc, .agg #[.int .i64 ev.k, .int .i64 ev.m, .slice EA el ec], .int .u8 nn, .int .u8 mm] w _
  generalize t.k = x0 at *
  generalize t.m = x1 at *
  generalize ev.k = z0 at *
  generalize ev.m = z1 at *
  go_enter Tryz.func3, Tryz.ntmps3
  go_upto_region 1 with (fail)
  rw [← hC]
  clear hC
  go_wp2_with fail
  refine (KS.out _).mono ?_
  rintro e w1 ⟨rfl, hb⟩
  have HB1 := Lib.hid (HB0.out.trans (hb.mono HB0.out.size))
  have HT1 := Lib.hid (HT0.out.below hb HT0.out.lt)
  have HE1 := Lib.hid (HE0.out.below hb HE0.out.lt)
  clear hb
  obtain ⟨hec, _, _⟩ := HE1.out.facts
  go_wp2_with fail
  refine (KK.out _ HB1.out).mono ?_
  rintro e w2 ⟨kb, rfl, hkb, hb⟩
  have HB2 := Lib.hid (HB1.out.trans (hb.mono HB1.out.size))
  have HT2 := Lib.hid (HT1.out.below hb HT1.out.lt)
  have HE2 := Lib.hid (HE1.out.below hb HE1.out.lt)
  have HKB := Lib.hid hkb
  clear hb hec hkb
  cases kb with
  | false =>
    go_wp2
    go_ret
    exact ⟨rfl, HB2.out⟩
  | true =>
    obtain ⟨hec, _, _⟩ := HE2.out.facts
    obtain ⟨htc, _, _⟩ := HT2.out.facts
    obtain ⟨n, hn⟩ : ∃ n, nn % 10 = n := ⟨_, rfl⟩
    obtain ⟨m, hm⟩ : ∃ m, mm % 10 = m := ⟨_, rfl⟩
    have hn9 : n ≤ 9 := by omega
    have hm9 : m ≤ 9 := by omega
    have htn : Int.tmod (nn : Int) 10 = (n : Int) := by rw [Int.tmod_eq_emod_of_nonneg (by omega)]; omega
    have htmm : Int.tmod (mm : Int) 10 = (m : Int) := by rw [Int.tmod_eq_emod_of_nonneg (by omega)]; omega
    go_wp2_with fail
    refine (KC.out n (by unfold rng; omega) _ HB2.out).mono ?_
    rintro e w3 ⟨hb, (⟨hno, x, k, rfl, hk, c0, c1, A3, l3, c3, rfl⟩ | ⟨hok, va, rfl, hva⟩)⟩
    · have HB3 := Lib.hid (HB2.out.trans (hb.mono HB2.out.size))
      have HW3 : Hid (Below w.heap.size w (w3.alloc (.cells #[.int .i64 c0, .int .i64 c1, .slice A3 l3 c3] 28))) := HB3.out.alloc HB3.out.size _
      clear hb hec htc hno
      go_wp2
      go_ret
      exact ⟨rfl, HW3.out⟩
    · have HLAW := Lib.hid (fun h : dl ≤ 2 ∧ ps.length ≤ 4 ∧ ev.size ≤ 40 ∧ ∀ (i : Nat) (h : i < ps.length), ps[i].size ≤ 40 => chain_law hok hn9 hm9 h.2.1 h.2.2.1 h.2.2.2)
      obtain ⟨hl1, hl2, hl3, hl4⟩ := HLAW.out (HKB.out (by first | rfl | trivial))
      have HL1 := Lib.hid hl1
      have HL2 := Lib.hid hl2
      have HL3 := Lib.hid hl3
      have HL4 := Lib.hid hl4
      rw [Int.toNat_natCast] at hva
      have HB3 := Lib.hid (HB2.out.trans (hb.mono HB2.out.size))
      have HT3 := Lib.hid (HT2.out.below hb HT2.out.lt)
      have HE3 := Lib.hid (HE2.out.below hb HE2.out.lt)
      obtain ⟨VA, hVA⟩ : ∃ x, chainV (flagsD dat t c) c ps n ev = x := ⟨_, rfl⟩
      rw [hVA] at hva HL1 HL4
      have HVA := Lib.hid hva
      obtain ⟨A3, l3, c3, rfl, _, _, _⟩ := hva.form
      clear hb hec htc hok HLAW hl1 hl2 hl3 hl4 hva hVA
      generalize VA.k = a0 at *
      generalize VA.m = a1 at *
      obtain ⟨W4, hW4⟩ : ∃ W4, W4 = w3.alloc (.cells #[.int .i64 a0, .int .i64 a1, .slice A3 l3 c3] 28) := ⟨_, rfl⟩
      have hb4 : Below w3.heap.size w3 W4 := by rw [hW4]; exact (Below.refl _ _).alloc (Nat.le_refl _) _
      have HG4 : Hid (Bk W4 w3.heap.size 28 #[.int .i64 a0, .int .i64 a1, .slice A3 l3 c3]) := by rw [hW4]; exact Bk.new _ _ _
      have HB4 := Lib.hid (HB3.out.trans (hb4.mono HB3.out.size))
      have HT4 := Lib.hid (HT3.out.below hb4 HT3.out.lt)
      have HE4 := Lib.hid (HE3.out.below hb4 HE3.out.lt)
      have HVA4 := Lib.hid (HVA.out.below hb4)
      go_upto_region 6 with (fail)
      rw [← hW4]
      clear hW4 hb4
      obtain ⟨htc, _, _⟩ := HT4.out.facts
      obtain ⟨hgc, _, _⟩ := HG4.out.facts
      have KC4 := Lib.hid (show Calls Tryz.prog 6 #[.slice A dl dc, .agg #[.int .i64 x0, .int .i64 x1, .slice TA tl tc], .int .i64 c, .slice PA pl pc, .agg #[.int .i64 a0, .int .i64 a1, .slice A3 l3 c3], .int .i64 m] W4 _ from KC2.out m (by unfold rng; omega) _ VA _ W4 HB4.out HVA4.out)
      go_wp2_with fail
      refine KC4.out.mono ?_
      rintro e w5 ⟨hb, (⟨hno, _⟩ | ⟨_, vb, rfl, hvb⟩)⟩
      · exact absurd HL1.out hno
      rw [Int.toNat_natCast] at hvb
      have HB5 := Lib.hid (HB4.out.trans (hb.mono HB4.out.size))
      have HT5 := Lib.hid (HT4.out.below hb HT4.out.lt)
      have HE5 := Lib.hid (HE4.out.below hb HE4.out.lt)
      rw [HL4.out] at hvb
      obtain ⟨VD, hVD⟩ : ∃ x, chainV (flagsD dat t c) c ps (n + m) ev = x := ⟨_, rfl⟩
      rw [hVD] at hvb HL3
      have HVD := Lib.hid hVD
      have HVB := Lib.hid hvb
      obtain ⟨A5, l5, c5, rfl, _, _, _⟩ := hvb.form
      clear hb htc hgc hvb hVD KC4
      generalize VD.k = b0 at *
      generalize VD.m = b1 at *
      obtain ⟨W6, hW6⟩ : ∃ W6, W6 = w5.alloc (.cells #[.int .i64 b0, .int .i64 b1, .slice A5 l5 c5] 28) := ⟨_, rfl⟩
      have hb6 : Below w5.heap.size w5 W6 := by rw [hW6]; exact (Below.refl _ _).alloc (Nat.le_refl _) _
      have HG6 : Hid (Bk W6 w5.heap.size 28 #[.int .i64 b0, .int .i64 b1, .slice A5 l5 c5]) := by rw [hW6]; exact Bk.new _ _ _
      have HB6 := Lib.hid (HB5.out.trans (hb6.mono HB5.out.size))
      have HT6 := Lib.hid (HT5.out.below hb6 HT5.out.lt)
      have HE6 := Lib.hid (HE5.out.below hb6 HE5.out.lt)
      have HVB6 := Lib.hid (HVB.out.below hb6)
      go_upto_region 9 with (fail)
      rw [← hW6]
      clear hW6 hb6
      obtain ⟨htc, _, _⟩ := HT6.out.facts
      obtain ⟨hec, _, _⟩ := HE6.out.facts
      have KC6 := Lib.hid (KC.out ((n : Int) + m) (by unfold rng; omega) _ HB6.out)
      go_wp2_with fail
      refine KC6.out.mono ?_
      rintro e w7 ⟨hb, (⟨hno, _⟩ | ⟨_, vd, rfl, hvd⟩)⟩
      · exact absurd HL2.out hno
      rw [show ((n : Int) + m).toNat = n + m from by omega, HVD.out] at hvd
      have HB7 := Lib.hid (HB6.out.trans (hb.mono HB6.out.size))
      have HT7 := Lib.hid (HT6.out.below hb HT6.out.lt)
      have HG7 := Lib.hid (HG6.out.below hb HG6.out.lt)
      have HVB7 := Lib.hid (HVB6.out.below hb)
      have HVD7 := Lib.hid hvd
      obtain ⟨A7, l7, c7, rfl, _, _, _⟩ := hvd.form
      clear hb htc hec hvd KC6
      obtain ⟨d0, hd0⟩ : ∃ x, VD.k = x := ⟨_, rfl⟩
      obtain ⟨d1, hd1⟩ : ∃ x, VD.m = x := ⟨_, rfl⟩
      rw [hd0, hd1] at HVD7 ⊢
      clear hd0 hd1
      obtain ⟨W8, hW8⟩ : ∃ W8, W8 = w7.alloc (.cells #[.int .i64 d0, .int .i64 d1, .slice A7 l7 c7] 28) := ⟨_, rfl⟩
      have hb8 : Below w7.heap.size w7 W8 := by rw [hW8]; exact (Below.refl _ _).alloc (Nat.le_refl _) _
      have HX8 : Hid (Bk W8 w7.heap.size 28 #[.int .i64 d0, .int .i64 d1, .slice A7 l7 c7]) := by rw [hW8]; exact Bk.new _ _ _
      have HB8 := Lib.hid (HB7.out.trans (hb8.mono HB7.out.size))
      have HT8 := Lib.hid (HT7.out.below hb8 HT7.out.lt)
      have HG8 := Lib.hid (HG7.out.below hb8 HG7.out.lt)
      have HVB8 := Lib.hid (HVB7.out.below hb8)
      have HVD8 := Lib.hid (HVD7.out.below hb8)
      go_upto_region 10 with (fail)
      rw [← hW8]
      clear hW8 hb8
      obtain ⟨htc, _, _⟩ := HT8.out.facts
      obtain ⟨hgc, _, _⟩ := HG8.out.facts
      obtain ⟨hxc, _, _⟩ := HX8.out.facts
      have KH8 := KH.out _ VD _ W8 HB8.out HVD8.out
      rw [HL3.out] at KH8
      have KH9 := Lib.hid (show Calls Tryz.prog 7 #[.slice A dl dc, .agg #[.int .i64 d0, .int .i64 d1, .slice A7 l7 c7], .agg #[.int .i64 x0, .int .i64 x1, .slice TA tl tc]] W8 _ from KH8)
      clear KH8
      go_wp2_with fail
      refine KH9.out.mono ?_
      rintro e w9 ⟨rfl, hb⟩
      have HB9 := Lib.hid (HB8.out.trans (hb.mono HB8.out.size))
      have HG9 := Lib.hid (HG8.out.below hb HG8.out.lt)
      have HX9 := Lib.hid (HX8.out.below hb HX8.out.lt)
      have KM := Lib.hid (show Calls Tryz.prog 8 #[.agg #[.int .i64 b0, .int .i64 b1, .slice A5 l5 c5], .agg #[.int .i64 d0, .int .i64 d1, .slice A7 l7 c7]] w9 _ from KCM.out _ _ VD _ _ w9 (HVB8.out.below hb) (HVD8.out.below hb))
      have hlg := HG8.out.lt
      have hlx := HX8.out.lt
      clear hb htc hgc hxc KH9
      obtain ⟨hgc, _, _⟩ := HG9.out.facts
      obtain ⟨hxc, _, _⟩ := HX9.out.facts
      go_wp2_with fail
      refine KM.out.mono ?_
      rintro e w10 ⟨rfl, hb⟩
      have HB10 := Lib.hid (HB9.out.trans (hb.mono HB9.out.size))
      clear hb hgc hxc
      go_wp2
      go_ret
      exact ⟨rfl, HB10.out⟩

end Go.Proofs.YtdbiedpdibjdlaaGreat

