/-
  The reader and the writer: rational numbers; the other leaves of the writer.
-/
import Derived.Test.YtdbglgjphfkonaaGreatDoorHCPd
import Derived.Test.YtdbglgjphfkonaaGreatDoorHCWc
namespace Go.Proofs.YtdbglgjphfkonaaGreatDoor
open Go.RowKit AC
set_option linter.unusedVariables false
set_option linter.unusedSimpArgs false

theorem okRat_of {l : List UInt8} {q : Rat} (h : parseQ l = some q) : okRat l = (fmtQ q == l) := by unfold okRat; rw [h]
theorem okRat_not {l : List UInt8} (h : parseQ l = none) : okRat l = false := by unfold okRat; rw [h]

theorem rat_bad {w w3 : World} {br : Nat} {str : ByteArray} {o o2 : Option (List UInt8)} (hok : okRat (wordO o) = false) (hst : Rst w3 br str o2) (hf : Fr (· = br) w w3) (hbr : br < w.heap.size) :
    RPost .rat br str o w (.returned (.agg #[.bool false, .slice none 0 0, .slice none 0 0])) ((((w3.setCell ⟨br, 2, none⟩ (.bool true)).setCell ⟨w.heap.size, 0, none⟩ (.bool false)).setCell ⟨w.heap.size, 1, none⟩ (.slice none 0 0)).setCell ⟨w.heap.size, 2, none⟩ (.slice none 0 0)) := by
  have hno : rd .rat 0 o = none := rdWord_not okRat_nil hok
  have hfw : Fr (· = w.heap.size) (w3.setCell ⟨br, 2, none⟩ (.bool true)) ((((w3.setCell ⟨br, 2, none⟩ (.bool true)).setCell ⟨w.heap.size, 0, none⟩ (.bool false)).setCell ⟨w.heap.size, 1, none⟩ (.slice none 0 0)).setCell ⟨w.heap.size, 2, none⟩ (.slice none 0 0)) := (((Fr.refl _ _).wr _ _).wr _ _).wr _ _
  refine ⟨[.bool false, .slice none 0 0, .slice none 0 0], rfl, ⟨_, _, _, _, _, _, _, rfl⟩, ?_, (hf.wr _ _).then hfw (fun x hx => .inr (by have hx' : x = w.heap.size := hx; omega)), fun r r' ho hr' => ?_⟩
  · rw [hno]; exact hst.spoil.fr hfw (fun h => by have h' : br = w.heap.size := h; omega) (fun k hk h => by have h' : k = w.heap.size := h; have := hst.gl.2; omega)
  · rw [hno] at hr'; cases hr'

theorem RPost.alloc {s : Shape} {br : Nat} {str : ByteArray} {o : Option (List UInt8)} {w w' : World} {e : Ending} (h : RPost s br str o w e w') (x : Obj) : RPost s br str o w e (w'.alloc x) := by
  obtain ⟨v, h1, h2, h3, h4, h5⟩ := h
  refine ⟨v, h1, h2, h3.alloc x, h4.alloc x, fun r r' hr hr' => ?_⟩
  obtain ⟨t, h6, h7⟩ := h5 r r' hr hr'
  exact ⟨t, h6, h7.below ((Below.refl _ _).alloc (Nat.le_refl _) x)⟩

set_option maxHeartbeats 4000000 in
theorem reads_rat (L : Nat) : Reads 139 .rat L := by
  intro w br str o hr hl
  have HR := Lib.hid hr
  have hbr := hr.lt
  have hsz := wordO_size hr
  clear hr hl
  obtain ⟨l, hl⟩ : ∃ l, wordO o = l := ⟨_, rfl⟩
  rw [hl] at hsz
  have HL := Lib.hid hl
  clear hl
  go_enter Tryz.func139, Tryz.ntmps139
  go_wp2_with fail
  refine (word_any _ br str o (HR.out.alloc _)).mono ?_
  rintro e w1 ⟨rfl, hst, hf⟩
  rw [HL.out]
  have hk1 := (AC.Bk.new w 110 #[.bool false, .slice none 0 0, .slice none 0 0]).fr hf (by show ¬ w.heap.size = br; omega)
  have HST := Lib.hid hst
  have HF := Lib.hid (((Fr.refl (· = br) w).alloc (.cells #[.bool false, .slice none 0 0, .slice none 0 0] 110)).trans hf)
  have HG := Lib.hid hst.gl.1
  have HK1 := Lib.hid hk1
  clear hst hf hk1
  go_wp2_with fail
  refine (parse_any _ _ (by rw [len_of]; exact hsz) HG.out).mono ?_
  intro e w2 hp
  have e3 : (⟨l.toArray⟩ : ByteArray).data.toList = l := by simp
  rw [e3] at hp
  clear e3
  rcases hp with ⟨v, q, hq, rfl, hv, hb⟩ | ⟨hq, rfl, hb⟩
  · have HOK := Lib.hid (okRat_of hq)
    have HST2 := Lib.hid (HST.out.below hb)
    have HF2 := Lib.hid (HF.out.below hb)
    have HG2 := Lib.hid (HG.out.below hb)
    have HV := Lib.hid hv
    have HK2 := Lib.hid (HK1.out.below hb HK1.out.lt)
    have hsz1 := HK1.out.lt
    have hsz2 : w1.heap.size ≤ w2.heap.size := hb.size
    obtain ⟨zb, zA, zk, zc, zD, zl, zd, rfl⟩ := hv.shape
    clear hq hv hb
    go_wp2_with fail
    refine (format_any _ w1.heap.size _ q (HV.out.below ((Below.refl _ _).alloc (Nat.le_refl _) _)) (HG2.out.alloc _)).mono ?_
    rintro e w3 ⟨rfl, hb⟩
    have hbA := ((Below.refl w2.heap.size w2).alloc (Nat.le_refl _) (.cells #[.bool zb, .slice zA zk zc, .slice zD zl zd] 110)).trans (hb.mono (by simp))
    have hkn := (AC.Bk.new w2 110 #[.bool zb, .slice zA zk zc, .slice zD zl zd]).below hb (by simp)
    have HST3 := Lib.hid (HST2.out.below hbA)
    have HF3 := Lib.hid (HF2.out.below hbA)
    have HV3 := Lib.hid (HV.out.below hbA)
    have HK3 := Lib.hid (HK2.out.below hbA HK2.out.lt)
    have n0 := hkn.cell 0
    have n1 := hkn.cell 1
    have n2 := hkn.cell 2
    have c2 := HST3.out.cell
    have f2 := HST3.out.frozen 2
    have k0 := HK3.out.cell 0
    have k1 := HK3.out.cell 1
    have k2 := HK3.out.cell 2
    have g0 := HK3.out.frozen 0
    have g1 := HK3.out.frozen 1
    have g2 := HK3.out.frozen 2
    simp only [List.getElem?_toArray, List.getElem?_cons_zero, List.getElem?_cons_succ] at n0 n1 n2 k0 k1 k2
    clear hb hbA hkn
    by_cases hq : fmtQ q = l
    · have e0 : (fmtQ q == l) = true := by simpa using hq
      have e1 : (fmtQ q != l) = false := by simp [hq]
      have HQ := Lib.hid hq
      clear hq
      go_wp2
      have hb3 := ((HK3.out.set 0 (.bool zb)).set 1 (.slice zA zk zc)).set 2 (.slice zD zl zd)
      have r0 := hb3.cell 0
      have r1 := hb3.cell 1
      have r2 := hb3.cell 2
      refine bodyPost_ret (v := .agg #[.bool zb, .slice zA zk zc, .slice zD zl zd]) (by simp [results, Tryz.results139, go_sem, r0, r1, r2]) rfl ?_
      have hok : okRat (wordO o) = true := by rw [HL.out, HOK.out]; exact e0
      have hfw : Fr (· = w.heap.size) w3 (((w3.setCell ⟨w.heap.size, 0, none⟩ (.bool zb)).setCell ⟨w.heap.size, 1, none⟩ (.slice zA zk zc)).setCell ⟨w.heap.size, 2, none⟩ (.slice zD zl zd)) := (((Fr.refl _ _).wr _ _).wr _ _).wr _ _
      refine ⟨[.bool zb, .slice zA zk zc, .slice zD zl zd], rfl, ⟨_, _, _, _, _, _, _, rfl⟩, ?_, HF3.out.then hfw (fun x hx => .inr (by have hx' : x = w.heap.size := hx; omega)), fun r r' ho hr' => ?_⟩
      · show Rst _ _ _ (rdWord okRat o); rw [rdWord_yes okRat_nil hok]; exact HST3.out.fr hfw (fun h => by have h' : br = w.heap.size := h; omega) (fun k hk h => by have h' : k = w.heap.size := h; have := HST3.out.gl.2; omega)
      · have hr2 : rdWord okRat o = some r' := hr'
        rw [rdWord_yes okRat_nil hok] at hr2
        refine ⟨_, rdWord_text (ok := okRat) ho hr2, q, ?_, by rw [HL.out, HQ.out]⟩
        obtain ⟨ng, kn, kd, fn, fd, xn, xd, hx, l1, l2, l3, l4, l5⟩ := HV3.out
        refine RatV.inD (lo := w1.heap.size) ⟨ng, kn, kd, fn, fd, xn, xd, hx, limbs_set3 l1 (by omega) _ _ _, limbs_set3 l2 (by omega) _ _ _, l3, l4, l5⟩ (fun b hb _ => ?_)
        show w.heap.size ≤ b
        omega
    · have e0 : (fmtQ q == l) = false := by simpa using hq
      have e1 : (fmtQ q != l) = true := by simp [hq]
      clear hq
      go_wp2
      have hfb : Fr (· = br) w3 (w3.setCell ⟨br, 2, none⟩ (.bool true)) := (Fr.refl _ _).wr _ _
      have hb3 := (((HK3.out.fr hfb (fun h => by have h' : w.heap.size = br := h; omega)).set 0 (.bool false)).set 1 (.slice none 0 0)).set 2 (.slice none 0 0)
      have r0 := hb3.cell 0
      have r1 := hb3.cell 1
      have r2 := hb3.cell 2
      refine bodyPost_ret (v := .agg #[.bool false, .slice none 0 0, .slice none 0 0]) (by simp [results, Tryz.results139, go_sem, r0, r1, r2]) rfl ?_
      have hok : okRat (wordO o) = false := by rw [HL.out, HOK.out]; exact e0
      exact rat_bad hok HST3.out HF3.out hbr
  · have hok : okRat (wordO o) = false := by rw [HL.out]; exact okRat_not hq
    have HOK := Lib.hid hok
    have HST2 := Lib.hid (HST.out.below hb)
    have HF2 := Lib.hid (HF.out.below hb)
    have HK2 := Lib.hid (HK1.out.below hb HK1.out.lt)
    have c2 := HST2.out.cell
    have f2 := HST2.out.frozen 2
    have k0 := HK2.out.cell 0
    have k1 := HK2.out.cell 1
    have k2 := HK2.out.cell 2
    have g0 := HK2.out.frozen 0
    have g1 := HK2.out.frozen 1
    have g2 := HK2.out.frozen 2
    simp only [List.getElem?_toArray, List.getElem?_cons_zero, List.getElem?_cons_succ] at k0 k1 k2
    have hsz1 : w.heap.size + 1 ≤ w1.heap.size := HK1.out.lt
    have hsz2 : w1.heap.size ≤ w2.heap.size := hb.size
    have hbr2 : br < w2.heap.size := by omega
    have hlt2 : w.heap.size < w2.heap.size := by omega
    clear hq hok hb
    go_wp2
    have hfb : Fr (· = br) w2 (w2.setCell ⟨br, 2, none⟩ (.bool true)) := (Fr.refl _ _).wr _ _
    have hb3 := ((((HK2.out.fr hfb (fun h => by have h' : w.heap.size = br := h; omega)).set 0 (.bool false)).set 1 (.slice none 0 0)).set 2 (.slice none 0 0)).alloc (.cells #[.bool false, .slice none 0 0, .slice none 0 0] 110)
    have r0 := hb3.cell 0
    have r1 := hb3.cell 1
    have r2 := hb3.cell 2
    refine bodyPost_ret (v := .agg #[.bool false, .slice none 0 0, .slice none 0 0]) (by simp [results, Tryz.results139, go_sem, r0, r1, r2]) rfl ?_
    exact (rat_bad HOK.out HST2.out HF2.out hbr).alloc _

theorem itoa_len (n : Int) (h0 : -9223372036854775808 ≤ n) (h1 : n ≤ 9223372036854775807) : (Lib.itoa n).length ≤ 1000 := by
  have key : ∀ m : Nat, m ≤ 9223372036854775808 → (Lib.decDigits m).length ≤ 100 := fun m hm => by
    have h := dec_len m
    have h2 : dl m ≤ 3 := dl_le (Nat.lt_of_le_of_lt hm (by decide))
    omega
  unfold Lib.itoa
  split
  · have := key n.natAbs (by omega); simp; omega
  · have := key n.toNat (by omega); omega

set_option maxHeartbeats 2000000 in
theorem writes_integer : Writes 103 .int := by
  intro w bw o v t h hrep
  obtain ⟨n, rfl, h0, h1, ht⟩ := hrep
  injection ht with ht _
  subst ht
  rw [val_int]
  have hbw := h.lt
  have hlen := itoa_len n h0 h1
  have HW := Lib.hid h
  have HG := Lib.hid h.2.1
  clear h
  go_enter Tryz.func103, Tryz.ntmps103
  go_wp2_with fail
  refine (itoa_any _ n h0 h1 HG.out).mono ?_
  rintro e w1 ⟨rfl, hb⟩
  have HW1 := Lib.hid (HW.out.below hb)
  have HF1 := Lib.hid ((Wfr.refl bw w).below hb (by omega))
  clear hb
  go_wp2_with fail
  refine (text_any _ bw o ⟨(Lib.itoa n).toArray⟩ HW1.out (by rw [len_of]; omega)).mono ?_
  rintro e w2 ⟨rfl, hw2, hf2⟩
  go_wp2
  go_end0
  exact ⟨rfl, by simpa using hw2, HF1.out.trans hf2⟩

set_option maxHeartbeats 2000000 in
theorem writes_long : Writes 160 .int := by
  intro w bw o v t h hrep
  obtain ⟨n, rfl, h0, h1, ht⟩ := hrep
  injection ht with ht _
  subst ht
  rw [val_int]
  have hbw := h.lt
  have hlen := itoa_len n h0 h1
  have HW := Lib.hid h
  have HG := Lib.hid h.2.1
  clear h
  go_enter Tryz.func160, Tryz.ntmps160
  go_wp2_with fail
  refine (formatInt_any _ n h0 h1 HG.out).mono ?_
  rintro e w1 ⟨rfl, hb⟩
  have HW1 := Lib.hid (HW.out.below hb)
  have HF1 := Lib.hid ((Wfr.refl bw w).below hb (by omega))
  clear hb
  go_wp2_with fail
  refine (text_any _ bw o ⟨(Lib.itoa n).toArray⟩ HW1.out (by rw [len_of]; omega)).mono ?_
  rintro e w2 ⟨rfl, hw2, hf2⟩
  go_wp2
  go_end0
  exact ⟨rfl, by simpa using hw2, HF1.out.trans hf2⟩

set_option maxHeartbeats 2000000 in
theorem writes_boolean : Writes 29 .bool := by
  intro w bw o v t h hrep
  obtain ⟨b, rfl, ht⟩ := hrep
  injection ht with ht _
  subst ht
  rw [val_bool]
  have HW := Lib.hid h
  clear h
  cases b with
  | true =>
    go_enter Tryz.func29, Tryz.ntmps29
    go_wp2_with fail
    refine (text_any _ bw o ⟨#[49]⟩ HW.out (by decide)).mono ?_
    rintro e w2 ⟨rfl, hw2, hf2⟩
    go_wp2
    go_end0
    exact ⟨rfl, hw2, hf2⟩
  | false =>
    go_enter Tryz.func29, Tryz.ntmps29
    go_wp2_with fail
    refine (text_any _ bw o ⟨#[48]⟩ HW.out (by decide)).mono ?_
    rintro e w2 ⟨rfl, hw2, hf2⟩
    go_wp2
    go_end0
    exact ⟨rfl, hw2, hf2⟩

theorem fmtQ_len {w : World} {lo : Nat} {v : Value} {q : Rat} (h : RatV w lo v 64 q) : (fmtQ q).length ≤ 10000 := by
  have hs := h.size
  have h1 : dl q.num.natAbs ≤ 65 := Nat.le_trans (Nat.le_max_left _ _) hs
  have h2 : dl q.den ≤ 65 := Nat.le_trans (Nat.le_max_right _ _) hs
  have h3 := dec_len q.num.natAbs
  have h4 := dec_len q.den
  unfold fmtQ
  split <;> split <;> simp <;> omega

set_option maxHeartbeats 2000000 in
theorem writes_rat : Writes 171 .rat := by
  intro w bw o v t h hrep
  obtain ⟨zb, zA, zk, zc, zD, zl, zd, rfl⟩ := ty_rat hrep.ty
  obtain ⟨q, hq, ht⟩ := hrep
  injection ht with ht _
  subst ht
  rw [val_rat]
  have hbw := h.lt
  have hv := hq.ratV
  have hlen := fmtQ_len hv
  have HV := Lib.hid hv
  have HW := Lib.hid h
  have HG := Lib.hid h.2.1
  clear h hq hv
  go_enter Tryz.func171, Tryz.ntmps171
  go_wp2_with fail
  refine (format_any _ 0 _ q (HV.out.below ((Below.refl _ _).alloc (Nat.le_refl _) _)) (HG.out.alloc _)).mono ?_
  rintro e w1 ⟨rfl, hb⟩
  have hb1 := ((Below.refl w.heap.size w).alloc (Nat.le_refl _) (.cells #[.bool zb, .slice zA zk zc, .slice zD zl zd] 110)).trans (hb.mono (by simp))
  have HW1 := Lib.hid (HW.out.below hb1)
  have HF1 := Lib.hid ((Wfr.refl bw w).below hb1 (by omega))
  clear hb hb1
  go_wp2_with fail
  refine (text_any _ bw o ⟨(fmtQ q).toArray⟩ HW1.out (by rw [len_of]; omega)).mono ?_
  rintro e w2 ⟨rfl, hw2, hf2⟩
  go_wp2
  go_end0
  exact ⟨rfl, by simpa using hw2, HF1.out.trans hf2⟩

end Go.Proofs.YtdbglgjphfkonaaGreatDoor

