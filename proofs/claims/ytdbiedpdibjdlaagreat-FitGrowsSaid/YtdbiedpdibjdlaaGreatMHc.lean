/-
  Recursive: which arguments of a constructor are recursive.
-/
import Derived.Test.YtdbiedpdibjdlaaGreatMHa
import Derived.StillTailTactics
import Derived.Deep.CutBlock
import Derived.Deep.CutRange
namespace Go.Proofs.YtdbiedpdibjdlaaGreat
open Go.RowKit AC
set_option linter.unusedVariables false
set_option linter.unusedSimpArgs false
theorem info_bool : (Tryz.prog.info? 4).map (fun i => (i.size, i.bytes, i.zero)) = some (1, 1, some (.bool false)) := by kernel_rfl
/-- make([]bool, n). -/
theorem run_mkB (w : World) (n : Nat) (hn : n ≤ 1000000) :
    (Instr.makeSlice 83 (.int .i64 n) (.int .i64 n)).run Tryz.prog w = .ok (.slice (some ⟨w.heap.size, 0, none⟩) n n) (w.alloc (.cells (madeCells #[.bool false] n) 4)) := by
  obtain ⟨i, hi, hzz⟩ := Option.map_eq_some_iff.1 info_bool
  simp only [Prod.mk.injEq] at hzz
  obtain ⟨h1, h2, h3⟩ := hzz
  have hrun := run_make (P := Tryz.prog) w 83 4 i _ Tryz.underlying83 hi h3 .i64 .i64 n n (by omega) (by omega) (by rw [h2]; omega) (by omega)
  simp only [Int.toNat_natCast] at hrun
  rw [h1, Nat.mul_one] at hrun
  exact hrun
/-- A row of truth values in memory. -/
def BsR (w : World) (D : Nat → Prop) (bs : List Bool) (A : Option Addr) (len : Nat) : Prop :=
  len = bs.length ∧ (0 < len → ∃ b off, A = some ⟨b, off, none⟩ ∧ D b ∧ b < w.heap.size ∧ ∀ i, i < len → w.cell? ⟨b, off + i, none⟩ = some (.bool (bs.getD i false)))
theorem BsR.keep {w w' : World} {D : Nat → Prop} (hk : Keeps D w w') {ss : List Bool} {A : Option Addr} {len : Nat} (h : BsR w D ss A len) : BsR w' D ss A len := by
  obtain ⟨h1, h2⟩ := h
  refine ⟨h1, fun hp => ?_⟩
  obtain ⟨b, off, hA, hD, hb, hL⟩ := h2 hp
  exact ⟨b, off, hA, hD, Nat.lt_of_lt_of_le hb hk.1, fun i hi => (World.cell?_of_block (w := w) (hk.2 b hb hD)).trans (hL i hi)⟩
theorem BsR.below {w w' : World} {D : Nat → Prop} {ss : List Bool} {A : Option Addr} {len : Nat} (h : BsR w D ss A len) (hb : Below w.heap.size w w') : BsR w' D ss A len := h.keep (Keeps.of hb)
def RecPost (bs : List Bool) (w : World) (e : Ending) (w' : World) : Prop := ∃ Z, e = .returned (.slice Z bs.length bs.length) ∧ BsR w' (w.heap.size ≤ ·) bs Z bs.length ∧ Below w.heap.size w w'
/-- The row so far. -/
def bsF (bs : List Bool) (i : Nat) (j : Nat) : Value := .bool (if j < i then bs.getD j false else false)
def bsG (bs : List Bool) (i : Nat) (x : Bool) (j : Nat) : Value := .bool (if j = i then x else if j < i then bs.getD j false else false)
theorem bs_put {bs : List Bool} {i : Nat} {v q : Bool} (j : Nat) (h : v = q) : (if j = i then .bool v else bsF bs i j) = bsG bs i q j := by
  subst h
  unfold bsF bsG
  by_cases hj : j = i
  · rw [if_pos hj, if_pos hj]
  · rw [if_neg hj, if_neg hj]
theorem vf_ok {x c y r : Bool} (h : (x && (c && y)) = r) (hc : c = true) : Hid ((x && y) = r) := by
  show _ = _
  rw [← h, hc]; simp
theorem vf_no {x c y y' r : Bool} (h : (x && (c && y)) = r) (hc : c = false) : Hid ((false && y') = r) := by
  show _ = _
  rw [← h, hc]; simp
theorem bs_put2 {bs : List Bool} {i : Nat} {x : Bool} (j : Nat) : (if j = i then .bool false else bsG bs i x j) = bsG bs i false j := by
  unfold bsG
  by_cases hj : j = i
  · rw [if_pos hj, if_pos hj]
  · rw [if_neg hj, if_neg hj, if_neg hj]
theorem bs_put3 {bs : List Bool} {i : Nat} {x : Bool} (j : Nat) (h : x = bs.getD i false) : bsG bs i x j = bsF bs (i + 1) j := by
  unfold bsF bsG
  by_cases hj : j = i
  · subst hj
    rw [if_pos rfl, if_pos (by omega), h]
  · rw [if_neg hj]
    by_cases h2 : j < i
    · rw [if_pos h2, if_pos (by omega)]
    · rw [if_neg h2, if_neg (by omega)]
set_option maxHeartbeats 24000000 in
set_option maxRecDepth 100000 in
theorem recursive_any {D : Nat → Prop} {dat : List DaD} {A : Option Addr} {dl dc : Nat} (d c : Nat) (hd : d < dat.length) (hc : c < dat[d].cons.length) (hn : dat[d].cons[c].args.length ≤ 100000) (w : World) (hD : DaS w D dat A dl dc) :
    Calls Tryz.prog 37 #[.slice A dl dc, .int .i64 (d : Int), .int .i64 (c : Int)] w (RecPost (dat[d].cons[c].args.map (recD d dat[d].vars)) w) := by
  obtain ⟨b, off, s, A', len', cap', rfl, hb, e0, e1, e2, hname, hvr, hcs⟩ := hD.get (i := d) hd
  obtain ⟨bc, offc, sc, Ac, al, ac, rfl, hbc, f0, f1, hcn, hargs⟩ := hcs.get (i := c) hc
  have hdl : dl = dat.length := hD.1
  have hdlc := hD.2.1
  have hdcap : dc ≤ maxLen := hD.2.2.1
  have hcl : len' = dat[d].cons.length := hcs.1
  have hclc := hcs.2.1
  have hccap : cap' ≤ maxLen := hcs.2.2.1
  unfold maxLen at hdcap hccap
  rw [← hdl] at hd
  rw [← hcl] at hc
  generalize dat[d].cons[c].args = args at *
  generalize dat[d].vars = vr at *
  have hal : al = args.length := hargs.1
  have halc := hargs.2.1
  have hacap : ac ≤ maxLen := hargs.2.2.1
  unfold maxLen at hacap
  have HARGS := Lib.hid (hargs.sub (D' := fun b => b < w.heap.size) fun b hb _ => hb)
  have HAL := Lib.hid hal
  have hal2 : al ≤ 100000 := by omega
  unfold rng at hvr
  obtain ⟨bs, hbs⟩ : ∃ x, args.map (recD d vr) = x := ⟨_, rfl⟩
  have hbl : bs.length = al := by rw [← hbs, List.length_map, hal]
  rw [hbs]
  have HBS := Lib.hid hbs
  have HBL := Lib.hid hbl
  clear hargs hal hD hcs hcn hname f0 e0 hdl hcl hbs hbl hn
  have hdi : (0 : Int) ≤ d := by omega
  have hci : (0 : Int) ≤ c := by omega
  have hdi2 : (d : Int) < dl := by omega
  have hci2 : (c : Int) < len' := by omega
  have hmk := run_mkB w al (by omega)
  go_enter Tryz.func37, Tryz.ntmps37
  go_upto_region 1 with (fail)
  go_cut [34] from 13 to 34 (fun v wx => v = .bool false ∧ w = wx)
  case first =>
    go_wp2
    go_meet
    exact ⟨by simp; omega, rfl⟩
  case rest =>
  obtain ⟨rfl, rfl⟩ := hcut
  go_upto_region 5 with (fail)
  obtain ⟨G, hG⟩ : ∃ G, G = w.alloc (.cells (madeCells #[.bool false] al) 4) := ⟨_, rfl⟩
  have HR0 : Hid (G.rowIs w.heap.size 4 al (bsF bs 0)) := by
    rw [hG]
    exact World.rowIs.congr (World.rowIs_made w (.bool false) al 4) fun i _ => by simp [bsF]
  have hbG : Below w.heap.size w G := by rw [hG]; exact (Below.refl _ _).alloc (Nat.le_refl _) _
  rw [← hG]
  clear hG hmk
  have HBG := Lib.hid hbG
  clear hbG
  go_wp2
  go_loopw [49] (fun iv wr => ∃ i : Nat, i ≤ al ∧ iv = .int .i64 i ∧ Hid (wr.rowIs w.heap.size 4 al (bsF bs i)) ∧ Hid (Below w.heap.size w wr)) (fun iv _ => al - (intOf iv).toNat)
  case atStart => exact ⟨0, by omega, rfl, HR0, HBG⟩
  case round =>
    obtain ⟨i, hi, rfl, HR, HB⟩ := hrel
    by_cases hlt : i < al
    · have hil : i < args.length := by have := HAL.out; omega
      obtain ⟨b2, off2, A2, len2, cap2, rfl, hb2, e3, e4, e5, hrk⟩ := (HARGS.out.below HB.out).get (i := i) hil
      have hs := hrk.form
      obtain ⟨_, _, _, hveq, hks, hk0, hm0⟩ := hs
      injection hveq with _ hveq
      injection hveq with _ hveq
      injection hveq with hveq _
      injection hveq with q1 q2 q3
      subst q1; subst q2; subst q3
      have hbi : bs.getD i false = recD d vr args[i] := by rw [← HBS.out, List.getD_eq_getElem?_getD, List.getElem?_map, List.getElem?_eq_getElem hil]; rfl
      unfold recD at hbi
      generalize args[i].kids = kids at *
      generalize args[i].k = y0 at *
      generalize args[i].m = y1 at *
      unfold rng at hk0 hm0
      have hkl : len2 = kids.length := hks.1
      have hklc := hks.2.1
      have hkcap : cap2 ≤ maxLen := hks.2.2.1
      unfold maxLen at hkcap
      obtain ⟨W2, hW2⟩ : ∃ W2, W2 = wr.alloc (.cells #[.int .i64 y0, .int .i64 y1, .slice A2 len2 cap2] 25) := ⟨_, rfl⟩
      have hb3 : Below wr.heap.size wr W2 := by rw [hW2]; exact (Below.refl _ _).alloc (Nat.le_refl _) _
      have hbt : Bk W2 wr.heap.size 25 #[.int .i64 y0, .int .i64 y1, .slice A2 len2 cap2] := by rw [hW2]; exact Bk.new _ _ _
      have hr2 : W2.rowIs w.heap.size 4 al (bsF bs i) := by rw [hW2]; exact HR.out.alloc _
      have HKS := Lib.hid (hks.below hb3)
      have HB2 := Lib.hid (HB.out.trans (hb3.mono HB.out.size))
      have HBT := Lib.hid hbt
      have HR2 := Lib.hid hr2
      have HKL := Lib.hid hkl
      have HBI := Lib.hid hbi
      obtain ⟨ht0, _, _⟩ := hbt.facts
      have hcell := hr2.cell hlt
      have hfroz := hr2.frozen i
      have g1 : W2.cell? ⟨b, off + d * 3 + 1, none⟩ = some (.int .i64 vr) := cell_below e1 (HB2.out) hb
      have HWS : Hid (wr.heap.size < W2.heap.size) := hbt.lt
      clear hks hb3 hbt hr2 hkl hbi hrk
      go_upto_region 8 with (fail)
      rw [← hW2]
      clear hW2
      obtain ⟨q, hq⟩ : ∃ q : Bool, (y0 == 5 && y1 == (d : Int) && decide ((kids.length : Int) = vr)) = q := ⟨_, rfl⟩
      rw [hq] at HBI
      rw [← HKL.out] at hq
      have HQ := Lib.hid hq
      clear hq
      go_cut [] from 54 to 76 (fun wx => Hid (wx.rowIs w.heap.size 4 al (bsG bs i q)) ∧ Hid (Below w.heap.size w wx) ∧ Hid (Bk wx wr.heap.size 25 #[.int .i64 y0, .int .i64 y1, .slice A2 len2 cap2]) ∧ Hid (TrS wx (fun b => b < w.heap.size) kids A2 len2 cap2))
      case first =>
        have hwi : w.heap.size ≠ wr.heap.size := by have := HR.out.lt; omega
        by_cases h5 : y0 = 5
        · by_cases h6 : y1 = d
          · subst h5
            subst h6
            have c1 : decide ((d : Int) = d) = true := by simp
            go_still_tail 22, (by kernel_rfl)
            change wpList _ _ _ _ _ W2.drew
            obtain ⟨wd, hwd⟩ : ∃ x, x = W2.drew := ⟨_, rfl⟩
            have HRD : Hid (wd.rowIs w.heap.size 4 al (bsF bs i)) := by rw [hwd]; exact HR2.out.drew
            have HBTD : Hid (Bk wd wr.heap.size 25 #[.int .i64 5, .int .i64 (d : Int), .slice A2 len2 cap2]) := by rw [hwd]; exact HBT.out.drew
            have HKSD : Hid (TrS wd (fun b => b < w.heap.size) kids A2 len2 cap2) := by rw [hwd]; exact HKS.out.below (Below.refl _ _).drew
            have HBD : Hid (Below w.heap.size w wd) := by rw [hwd]; exact HB2.out.drew
            have hcelld := HRD.out.cell hlt
            have hfrozd := HRD.out.frozen i
            rw [← hwd]
            clear hwd
            go_wp2
            go_meet
            refine ⟨(HRD.out.set i _).congr fun j hj => bs_put j ?_, ?_, ?_, ?_⟩
            · rw [← HQ.out]
              by_cases hv : (len2 : Int) = vr <;> simp [hv]
            · exact HBD.out.setCell (p := ⟨w.heap.size, i, none⟩) (Nat.le_refl _) _
            · exact HBTD.out.far (p := ⟨w.heap.size, i, none⟩) (fun e => hwi e.symm) _
            · exact TrS.keep (Keeps.fw ((Fw.refl (fun b => b = w.heap.size) _).setCell (p := ⟨w.heap.size, i, none⟩) (.inl rfl) _) (D := fun b => b < w.heap.size) (fun b hb e => by have h1 : b < w.heap.size := hb; have h2 : b = w.heap.size := e; omega)) HKSD.out
          · subst h5
            have c1 : decide (y1 = (d : Int)) = false := by simp [h6]
            go_still_tail 22, (by kernel_rfl)
            change wpList _ _ _ _ _ W2.drew
            obtain ⟨wd, hwd⟩ : ∃ x, x = W2.drew := ⟨_, rfl⟩
            have HRD : Hid (wd.rowIs w.heap.size 4 al (bsF bs i)) := by rw [hwd]; exact HR2.out.drew
            have HBTD : Hid (Bk wd wr.heap.size 25 #[.int .i64 5, .int .i64 y1, .slice A2 len2 cap2]) := by rw [hwd]; exact HBT.out.drew
            have HKSD : Hid (TrS wd (fun b => b < w.heap.size) kids A2 len2 cap2) := by rw [hwd]; exact HKS.out.below (Below.refl _ _).drew
            have HBD : Hid (Below w.heap.size w wd) := by rw [hwd]; exact HB2.out.drew
            have hcelld := HRD.out.cell hlt
            have hfrozd := HRD.out.frozen i
            rw [← hwd]
            clear hwd
            go_wp2
            go_meet
            refine ⟨(HRD.out.set i _).congr fun j hj => bs_put j ?_, ?_, ?_, ?_⟩
            · rw [← HQ.out]
              simp [h6]
            · exact HBD.out.setCell (p := ⟨w.heap.size, i, none⟩) (Nat.le_refl _) _
            · exact HBTD.out.far (p := ⟨w.heap.size, i, none⟩) (fun e => hwi e.symm) _
            · exact TrS.keep (Keeps.fw ((Fw.refl (fun b => b = w.heap.size) _).setCell (p := ⟨w.heap.size, i, none⟩) (.inl rfl) _) (D := fun b => b < w.heap.size) (fun b hb e => by have h1 : b < w.heap.size := hb; have h2 : b = w.heap.size := e; omega)) HKSD.out
        · have c2 : (y0 == 5) = false := by simp [h5]
          refine wp_region_facts (by kernel_rfl) (by kernel_rfl) [54, 55, 56, 57, 58, 59, 60, 61, 62, 63, 64, 65, 66, 67, 68, 69, 70, 71, 72, 73, 74, 75] 40 (by kernel_rfl) (fun io v x => match io with
            | 0 => v = .slice (some ⟨w.heap.size, 0, none⟩) al al
            | 1 => v = .int .i64 (i : Int)
            | 2 => v = .pointer (some ⟨wr.heap.size, 0, none⟩)
            | 3 => v = .int .i64 y0
            | 4 => v = .bool false
            | 5 => v = .bool false
            | 6 => v = undef
            | 7 => v = undef
            | 8 => v = undef
            | 9 => v = undef
            | 10 => v = .bool false
            | 11 => v = .bool false
            | 12 => v = undef
            | 13 => v = undef
            | 14 => v = undef
            | 15 => v = undef
            | 16 => v = undef
            | 17 => v = undef
            | 18 => v = undef
            | 19 => v = undef
            | 20 => v = undef
            | _ => v = .bool false) ?_ ?_ ?_
          · intro io v x x' hio h hb
            rcases io with _ | _ | _ | _ | _ | _ | _ | _ | _ | _ | _ | _ | _ | _ | _ | _ | _ | _ | _ | _ | _ | io
            · exact h
            · exact h
            · exact h
            · exact h
            · exact h
            · exact h
            · exact h
            · exact h
            · exact h
            · exact h
            · exact h
            · exact h
            · exact h
            · exact h
            · exact h
            · exact h
            · exact h
            · exact h
            · exact h
            · exact h
            · exact h
            · exact h
          · intro io oo S x ho hio hbx hdep
            rcases io with _ | _ | _ | _ | _ | _ | _ | _ | _ | _ | _ | _ | _ | _ | _ | _ | _ | _ | _ | _ | _ | _ | io
            · cases ho
              refine opOk_h rfl rfl fun KK HK => ?_
              clear hdep hio
              simp only [nv, Nat.reduceAdd] at HK ⊢
              go_wp2
              exact HK.out _ _ ⟨_, rfl, rfl, Below.refl _ _⟩
            · cases ho
              refine opOk_h rfl rfl fun KK HK => ?_
              clear hdep hio
              simp only [nv, Nat.reduceAdd] at HK ⊢
              go_wp2
              exact HK.out _ _ ⟨_, rfl, rfl, Below.refl _ _⟩
            · cases ho
              refine opOk_h rfl rfl fun KK HK => ?_
              clear hdep hio
              simp only [nv, Nat.reduceAdd] at HK ⊢
              go_wp2
              exact HK.out _ _ ⟨_, rfl, rfl, Below.refl _ _⟩
            · cases ho
              have h2 : S 2 = .pointer (some ⟨wr.heap.size, 0, none⟩) := hdep 2 (by kernel_rfl) (by decide)
              have cc := (HBT.out.below hbx HBT.out.lt).facts.1
              refine opOk_h rfl rfl fun KK HK => ?_
              clear hdep hio
              simp only [nv, Nat.reduceAdd] at HK ⊢
              generalize S 2 = t2 at *
              subst h2
              go_wp2
              exact HK.out _ _ ⟨_, rfl, rfl, Below.refl _ _⟩
            · cases ho
              have h3 : S 3 = .int .i64 y0 := hdep 3 (by kernel_rfl) (by decide)
              refine opOk_h rfl rfl fun KK HK => ?_
              clear hdep hio
              simp only [nv, Nat.reduceAdd] at HK ⊢
              generalize S 3 = t3 at *
              subst h3
              go_wp2
              exact HK.out _ _ ⟨_, rfl, rfl, Below.refl _ _⟩
            · cases ho
              have h4 : S 4 = .bool false := hdep 4 (by kernel_rfl) (by decide)
              refine opOk_h rfl rfl fun KK HK => ?_
              clear hdep hio
              simp only [nv, Nat.reduceAdd] at HK ⊢
              generalize S 4 = t4 at *
              subst h4
              go_wp2
              exact HK.out _ _ ⟨_, rfl, rfl, Below.refl _ _⟩
            · cases ho
              have h5 : S 5 = .bool false := hdep 5 (by kernel_rfl) (by decide)
              exact opOk_skipped rfl rfl 59 (by kernel_rfl) (by simp only [nv, Nat.reduceAdd, h5, List.getElem?_toArray, List.getElem?_cons_succ, List.getElem?_cons_zero]; rfl) ⟨_, rfl, rfl, Below.refl _ _⟩
            · cases ho
              have h5 : S 5 = .bool false := hdep 5 (by kernel_rfl) (by decide)
              exact opOk_skipped rfl rfl 59 (by kernel_rfl) (by simp only [nv, Nat.reduceAdd, h5, List.getElem?_toArray, List.getElem?_cons_succ, List.getElem?_cons_zero]; rfl) ⟨_, rfl, rfl, Below.refl _ _⟩
            · cases ho
              have h5 : S 5 = .bool false := hdep 5 (by kernel_rfl) (by decide)
              exact opOk_skipped rfl rfl 59 (by kernel_rfl) (by simp only [nv, Nat.reduceAdd, h5, List.getElem?_toArray, List.getElem?_cons_succ, List.getElem?_cons_zero]; rfl) ⟨_, rfl, rfl, Below.refl _ _⟩
            · cases ho
              have h5 : S 5 = .bool false := hdep 5 (by kernel_rfl) (by decide)
              exact opOk_skipped rfl rfl 59 (by kernel_rfl) (by simp only [nv, Nat.reduceAdd, h5, List.getElem?_toArray, List.getElem?_cons_succ, List.getElem?_cons_zero]; rfl) ⟨_, rfl, rfl, Below.refl _ _⟩
            · cases ho
              have h5 : S 5 = .bool false := hdep 5 (by kernel_rfl) (by decide)
              have h9 : S 9 = undef := hdep 9 (by kernel_rfl) (by decide)
              refine opOk_h rfl rfl fun KK HK => ?_
              clear hdep hio
              simp only [nv, Nat.reduceAdd] at HK ⊢
              generalize S 5 = t5 at *
              subst h5
              generalize S 9 = t9 at *
              subst h9
              go_wp2
              exact HK.out _ _ ⟨_, rfl, rfl, Below.refl _ _⟩
            · cases ho
              have h10 : S 10 = .bool false := hdep 10 (by kernel_rfl) (by decide)
              refine opOk_h rfl rfl fun KK HK => ?_
              clear hdep hio
              simp only [nv, Nat.reduceAdd] at HK ⊢
              generalize S 10 = t10 at *
              subst h10
              go_wp2
              exact HK.out _ _ ⟨_, rfl, rfl, Below.refl _ _⟩
            · cases ho
              have h11 : S 11 = .bool false := hdep 11 (by kernel_rfl) (by decide)
              exact opOk_skipped rfl rfl 65 (by kernel_rfl) (by simp only [nv, Nat.reduceAdd, h11, List.getElem?_toArray, List.getElem?_cons_succ, List.getElem?_cons_zero]; rfl) ⟨_, rfl, rfl, Below.refl _ _⟩
            · cases ho
              have h11 : S 11 = .bool false := hdep 11 (by kernel_rfl) (by decide)
              exact opOk_skipped rfl rfl 65 (by kernel_rfl) (by simp only [nv, Nat.reduceAdd, h11, List.getElem?_toArray, List.getElem?_cons_succ, List.getElem?_cons_zero]; rfl) ⟨_, rfl, rfl, Below.refl _ _⟩
            · cases ho
              have h11 : S 11 = .bool false := hdep 11 (by kernel_rfl) (by decide)
              exact opOk_skipped rfl rfl 65 (by kernel_rfl) (by simp only [nv, Nat.reduceAdd, h11, List.getElem?_toArray, List.getElem?_cons_succ, List.getElem?_cons_zero]; rfl) ⟨_, rfl, rfl, Below.refl _ _⟩
            · cases ho
              have h11 : S 11 = .bool false := hdep 11 (by kernel_rfl) (by decide)
              exact opOk_skipped rfl rfl 65 (by kernel_rfl) (by simp only [nv, Nat.reduceAdd, h11, List.getElem?_toArray, List.getElem?_cons_succ, List.getElem?_cons_zero]; rfl) ⟨_, rfl, rfl, Below.refl _ _⟩
            · cases ho
              have h11 : S 11 = .bool false := hdep 11 (by kernel_rfl) (by decide)
              exact opOk_skipped rfl rfl 65 (by kernel_rfl) (by simp only [nv, Nat.reduceAdd, h11, List.getElem?_toArray, List.getElem?_cons_succ, List.getElem?_cons_zero]; rfl) ⟨_, rfl, rfl, Below.refl _ _⟩
            · cases ho
              have h11 : S 11 = .bool false := hdep 11 (by kernel_rfl) (by decide)
              exact opOk_skipped rfl rfl 65 (by kernel_rfl) (by simp only [nv, Nat.reduceAdd, h11, List.getElem?_toArray, List.getElem?_cons_succ, List.getElem?_cons_zero]; rfl) ⟨_, rfl, rfl, Below.refl _ _⟩
            · cases ho
              have h11 : S 11 = .bool false := hdep 11 (by kernel_rfl) (by decide)
              exact opOk_skipped rfl rfl 65 (by kernel_rfl) (by simp only [nv, Nat.reduceAdd, h11, List.getElem?_toArray, List.getElem?_cons_succ, List.getElem?_cons_zero]; rfl) ⟨_, rfl, rfl, Below.refl _ _⟩
            · cases ho
              have h11 : S 11 = .bool false := hdep 11 (by kernel_rfl) (by decide)
              exact opOk_skipped rfl rfl 65 (by kernel_rfl) (by simp only [nv, Nat.reduceAdd, h11, List.getElem?_toArray, List.getElem?_cons_succ, List.getElem?_cons_zero]; rfl) ⟨_, rfl, rfl, Below.refl _ _⟩
            · cases ho
              have h11 : S 11 = .bool false := hdep 11 (by kernel_rfl) (by decide)
              exact opOk_skipped rfl rfl 65 (by kernel_rfl) (by simp only [nv, Nat.reduceAdd, h11, List.getElem?_toArray, List.getElem?_cons_succ, List.getElem?_cons_zero]; rfl) ⟨_, rfl, rfl, Below.refl _ _⟩
            · cases ho
              have h11 : S 11 = .bool false := hdep 11 (by kernel_rfl) (by decide)
              have h20 : S 20 = undef := hdep 20 (by kernel_rfl) (by decide)
              refine opOk_h rfl rfl fun KK HK => ?_
              clear hdep hio
              simp only [nv, Nat.reduceAdd] at HK ⊢
              generalize S 11 = t11 at *
              subst h11
              generalize S 20 = t20 at *
              subst h20
              go_wp2
              exact HK.out _ _ ⟨_, rfl, rfl, Below.refl _ _⟩
            · exact absurd hio (by simp)
          · intro S x hbx hF
            have g0 : S 0 = .slice (some ⟨w.heap.size, 0, none⟩) al al := hF 0 (by decide)
            have g1 : S 1 = .int .i64 (i : Int) := hF 1 (by decide)
            have g2 : S 2 = .pointer (some ⟨wr.heap.size, 0, none⟩) := hF 2 (by decide)
            have g3 : S 3 = .int .i64 y0 := hF 3 (by decide)
            have g4 : S 4 = .bool false := hF 4 (by decide)
            have g5 : S 5 = .bool false := hF 5 (by decide)
            have g6 : S 6 = undef := hF 6 (by decide)
            have g7 : S 7 = undef := hF 7 (by decide)
            have g8 : S 8 = undef := hF 8 (by decide)
            have g9 : S 9 = undef := hF 9 (by decide)
            have g10 : S 10 = .bool false := hF 10 (by decide)
            have g11 : S 11 = .bool false := hF 11 (by decide)
            have g12 : S 12 = undef := hF 12 (by decide)
            have g13 : S 13 = undef := hF 13 (by decide)
            have g14 : S 14 = undef := hF 14 (by decide)
            have g15 : S 15 = undef := hF 15 (by decide)
            have g16 : S 16 = undef := hF 16 (by decide)
            have g17 : S 17 = undef := hF 17 (by decide)
            have g18 : S 18 = undef := hF 18 (by decide)
            have g19 : S 19 = undef := hF 19 (by decide)
            have g20 : S 20 = undef := hF 20 (by decide)
            have g21 : S 21 = .bool false := hF 21 (by decide)
            clear hF
            simp only [nv, Nat.reduceAdd, List.length_cons, List.length_nil, List.drop_succ_cons, List.drop_zero]
            generalize S 0 = t0 at *
            subst g0
            generalize S 1 = t1 at *
            subst g1
            generalize S 2 = t2 at *
            subst g2
            generalize S 3 = t3 at *
            subst g3
            generalize S 4 = t4 at *
            subst g4
            generalize S 5 = t5 at *
            subst g5
            generalize S 6 = t6 at *
            subst g6
            generalize S 7 = t7 at *
            subst g7
            generalize S 8 = t8 at *
            subst g8
            generalize S 9 = t9 at *
            subst g9
            generalize S 10 = t10 at *
            subst g10
            generalize S 11 = t11 at *
            subst g11
            generalize S 12 = t12 at *
            subst g12
            generalize S 13 = t13 at *
            subst g13
            generalize S 14 = t14 at *
            subst g14
            generalize S 15 = t15 at *
            subst g15
            generalize S 16 = t16 at *
            subst g16
            generalize S 17 = t17 at *
            subst g17
            generalize S 18 = t18 at *
            subst g18
            generalize S 19 = t19 at *
            subst g19
            generalize S 20 = t20 at *
            subst g20
            generalize S 21 = t21 at *
            subst g21
            have HRD : Hid (x.rowIs w.heap.size 4 al (bsF bs i)) := HR2.out.of_block (hbx.block _ HR2.out.lt)
            have HBTD := Lib.hid (HBT.out.below hbx HBT.out.lt)
            have HKSD := Lib.hid (HKS.out.below hbx)
            have HBD : Hid (Below w.heap.size w x) := HB2.out.trans (hbx.mono HB2.out.size)
            have hcelld := HRD.out.cell hlt
            have hfrozd := HRD.out.frozen i
            clear hbx
            go_wp2
            go_meet
            refine ⟨(HRD.out.set i _).congr fun j hj => bs_put j ?_, ?_, ?_, ?_⟩
            · rw [← HQ.out]
              simp [h5]
            · exact HBD.out.setCell (p := ⟨w.heap.size, i, none⟩) (Nat.le_refl _) _
            · exact HBTD.out.far (p := ⟨w.heap.size, i, none⟩) (fun e => hwi e.symm) _
            · exact TrS.keep (Keeps.fw ((Fw.refl (fun b => b = w.heap.size) _).setCell (p := ⟨w.heap.size, i, none⟩) (.inl rfl) _) (D := fun b => b < w.heap.size) (fun b hb e => by have h1 : b < w.heap.size := hb; have h2 : b = w.heap.size := e; omega)) HKSD.out
      case rest =>
        obtain ⟨HR3, HB3, HBT3, HKS3⟩ := hcut
        obtain ⟨ht3, _, _⟩ := HBT3.out.facts
        go_wp2
        go_loopw [80] (fun jv wr => ∃ (j : Nat) (x : Bool), j ≤ len2 ∧ jv = .int .i64 j ∧ Hid ((x && varsFrom j (kids.drop j)) = bs.getD i false) ∧ Hid (wr.rowIs w.heap.size 4 al (bsG bs i x)) ∧ Hid (Fw (fun b => b = w.heap.size) wc wr)) (fun jv _ => len2 - (intOf jv).toNat)
        case atStart =>
          refine ⟨0, q, by omega, rfl, ?_, HR3, Fw.refl _ _⟩
          have h := HBI.out
          rw [h]
          rfl
        case round =>
          obtain ⟨j, x, hj, rfl, HV, HR4, HF⟩ := hrel
          have HB4 := Lib.hid (HB3.out.trans (HF.out.toBelow (n := w.heap.size) (fun x hx => by have h2 : x = w.heap.size := hx; omega) HB3.out.size))
          by_cases hjl : j < len2
          · have hjk : j < kids.length := by have := HKL.out; omega
            obtain ⟨b3, off3, A3, len3, cap3, rfl, hb3, e6, e7, e8, hrk3⟩ := (HKS3.out.keep (Keeps.fw HF.out fun b hb e => by have h1 : b < w.heap.size := hb; have h2 : b = w.heap.size := e; omega)).get (i := j) hjk
            have hv := HV.out
            rw [List.drop_eq_getElem_cons hjk, varsFrom] at hv
            obtain ⟨_, _, _, hveq, hks3, hk3, hm3⟩ := hrk3.form
            injection hveq with _ hveq
            injection hveq with _ hveq
            injection hveq with hveq _
            injection hveq with q1 q2 q3
            subst q1; subst q2; subst q3
            have hl3 : len3 = kids[j].kids.length := hks3.1
            have hem : kids[j].kids.isEmpty = decide (len3 = 0) := by rw [hl3]; cases kids[j].kids <;> simp
            rw [hem] at hv
            have hl3c := hks3.2.1
            have hl3m : cap3 ≤ maxLen := hks3.2.2.1
            unfold maxLen at hl3m
            unfold rng at hk3 hm3
            clear hrk3 hks3 hl3 hem
            generalize kids[j].k = z0 at *
            generalize kids[j].m = z1 at *
            have HV2 := Lib.hid hv
            clear hv
            obtain ⟨W5, hW5⟩ : ∃ W5, W5 = wr.alloc (.cells #[.int .i64 z0, .int .i64 z1, .slice A3 len3 cap3] 25) := ⟨_, rfl⟩
            have HR5 : Hid (W5.rowIs w.heap.size 4 al (bsG bs i x)) := by rw [hW5]; exact HR4.out.alloc _
            have HF5 : Hid (Fw (fun b => b = w.heap.size) wc W5) := by rw [hW5]; exact HF.out.alloc _
            have hbt5 : Bk W5 wr.heap.size 25 #[.int .i64 z0, .int .i64 z1, .slice A3 len3 cap3] := by rw [hW5]; exact Bk.new _ _ _
            obtain ⟨ht5, _, _⟩ := hbt5.facts
            have hcell5 := HR5.out.cell hlt
            have hfroz5 := HR5.out.frozen i
            go_upto_region 12 with (fail)
            rw [← hW5]
            clear hW5 hbt5
            by_cases h4 : z0 = 4
            · by_cases h5 : z1 = j
              · by_cases h6 : len3 = 0
                · subst h4
                  subst h5
                  subst h6
                  go_wp2
                  go_roundw
                  case rel => exact ⟨j + 1, x, by omega, by go_num, vf_ok HV2.out (by simp), HR5, HF5⟩
                  case measure => simp [intOf]; omega
                · subst h4
                  subst h5
                  have h7 : (0 : Int) < (len3 : Int) := by omega
                  have h8 : 0 < len3 := by omega
                  go_wp2
                  go_roundw
                  case rel => exact ⟨j + 1, false, by omega, by go_num, vf_no HV2.out (by simp [h6]), (HR5.out.set i _).congr fun j _ => bs_put2 j, HF5.out.setCell (p := ⟨w.heap.size, i, none⟩) (.inl rfl) _⟩
                  case measure => simp [intOf]; omega
              · subst h4
                go_wp2
                go_roundw
                case rel => exact ⟨j + 1, false, by omega, by go_num, vf_no HV2.out (by simp [h5]), (HR5.out.set i _).congr fun j _ => bs_put2 j, HF5.out.setCell (p := ⟨w.heap.size, i, none⟩) (.inl rfl) _⟩
                case measure => simp [intOf]; omega
            · go_wp2
              go_roundw
              case rel => exact ⟨j + 1, false, by omega, by go_num, vf_no HV2.out (by simp [h4]), (HR5.out.set i _).congr fun j _ => bs_put2 j, HF5.out.setCell (p := ⟨w.heap.size, i, none⟩) (.inl rfl) _⟩
              case measure => simp [intOf]; omega
          · obtain rfl : j = len2 := by omega
            have hx : x = bs.getD i false := by
              have h := HV.out
              rw [List.drop_eq_nil_of_le (by have := HKL.out; omega), varsFrom, Bool.and_true] at h
              exact h
            have HR6 : Hid (wr.rowIs w.heap.size 4 al (bsF bs (i + 1))) := HR4.out.congr fun j _ => bs_put3 j hx
            go_wp2
            go_roundw
            case rel => exact ⟨i + 1, by omega, by go_num, HR6, HB4⟩
            case measure => simp [intOf]; omega
    · obtain rfl : i = al := by omega
      go_wp2
      go_ret
      refine ⟨some ⟨w.heap.size, 0, none⟩, by rw [show bs.length = i from HBL.out]; simp, ⟨rfl, fun _ => ⟨w.heap.size, 0, rfl, Nat.le_refl _, HR.out.lt, fun j hj => ?_⟩⟩, HB.out⟩
      rw [Nat.zero_add, HR.out.cell (by rw [HBL.out] at hj; exact hj)]
      unfold bsF
      rw [if_pos (by rw [HBL.out] at hj; exact hj)]
end Go.Proofs.YtdbiedpdibjdlaaGreat

