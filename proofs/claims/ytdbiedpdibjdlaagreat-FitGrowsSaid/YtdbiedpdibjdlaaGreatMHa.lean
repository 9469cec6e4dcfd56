/-
  Fields.
-/
import Derived.Test.YtdbiedpdibjdlaaGreatMGz
import Derived.Test.YtdbiedpdibjdlaaGreatMGy
namespace Go.Proofs.YtdbiedpdibjdlaaGreat
open Go.RowKit AC
set_option linter.unusedVariables false
set_option linter.unusedSimpArgs false
theorem info_int : (Tryz.prog.info? 3).map (fun i => (i.size, i.bytes, i.zero)) = some (1, 8, some (.int .i64 0)) := by kernel_rfl
theorem cell_below {w w' : World} {b o : Nat} {x : Value} (h : w.cell? ⟨b, o, none⟩ = some x) (hb : Below w.heap.size w w') (hl : b < w.heap.size) : w'.cell? ⟨b, o, none⟩ = some x := (World.cell?_of_block (w := w) (hb.block b hl)).trans h
/-- make([]int, n). -/
theorem run_mkI (w : World) (n : Nat) (hn : n ≤ 1000000) :
    (Instr.makeSlice 57 (.int .i64 n) (.int .i64 n)).run Tryz.prog w = .ok (.slice (some ⟨w.heap.size, 0, none⟩) n n) (w.alloc (.cells (madeCells #[.int .i64 0] n) 3)) := by
  obtain ⟨i, hi, hzz⟩ := Option.map_eq_some_iff.1 info_int
  simp only [Prod.mk.injEq] at hzz
  obtain ⟨h1, h2, h3⟩ := hzz
  have hrun := run_make (P := Tryz.prog) w 57 3 i _ Tryz.underlying57 hi h3 .i64 .i64 n n (by omega) (by omega) (by rw [h2]; omega) (by omega)
  simp only [Int.toNat_natCast] at hrun
  rw [h1, Nat.mul_one] at hrun
  exact hrun
/-- How large the data types are. -/
def SmallD (dat : List DaD) : Prop := ∀ d ∈ dat, ∀ c ∈ d.cons, c.args.length ≤ 100000 ∧ ∀ a ∈ c.args, a.size ≤ 100000
/-- What Fields gives. -/
def FieldsPost (q : Option (List Tr)) (w : World) (e : Ending) (w' : World) : Prop :=
  Below w.heap.size w w' ∧ ((q = none ∧ e = .returned (.tuple #[.slice none 0 0, .bool false])) ∨ ∃ fs A len cap, q = some fs ∧ e = .returned (.tuple #[.slice A len cap, .bool true]) ∧ TrS w' (w.heap.size ≤ ·) fs A len cap)
theorem fieldsD_none (dat : List DaD) (t : Tr) (c : Int) (h : ¬ (t.k = 5 ∧ 0 ≤ t.m ∧ t.m < dat.length)) : fieldsD dat t c = none := by rw [fieldsD, if_neg h]
theorem fieldsD_at (dat : List DaD) (t : Tr) (c : Int) (i : Nat) (hi : i < dat.length) (hk : t.k = 5) (hm : t.m = i) : fieldsD dat t c =
    if (t.kids.length : Int) = dat[i].vars ∧ 0 ≤ c ∧ c < dat[i].cons.length then
      match dat[i].cons[c.toNat]? with
      | none => none
      | some e => if e.args.all (fun a => decide (subSize (t.kids.map Tr.size) a ≤ 200)) then some (e.args.map (subst t.kids)) else none
    else none := by
  rw [fieldsD, if_pos ⟨hk, by omega, by omega⟩, hm, Int.toNat_natCast, List.getElem?_eq_getElem hi]
  rfl
/-- The row of sizes, so far. -/
def szF (l : List Tr) (i : Nat) (j : Nat) : Value := if j < i then .int .i64 ((l.map Tr.size).getD j 0 : Nat) else .int .i64 0
set_option maxHeartbeats 8000000 in
set_option maxRecDepth 100000 in
theorem fields_any {D D' : Nat → Prop} {dat : List DaD} {A : Option Addr} {dl dc : Nat} {t : Tr} {v : List Value} (c : Int) (hc : rng c) (w : World) (hd : DaS w D dat A dl dc) (hsm : SmallD dat) (ht : TrR w D' t v) (hts : t.size ≤ 100000) :
    Calls Tryz.prog 17 #[.slice A dl dc, .agg v.toArray, .int .i64 c] w (FieldsPost (fieldsD dat t c) w) := by
  obtain ⟨B, len, cap, rfl, hs, hk, hm⟩ := ht.form
  have hsz := Tr.size_eq t
  have hno := fieldsD_none dat t c
  have hat := fieldsD_at dat t c
  generalize fieldsD dat t c = q at *
  generalize t.kids = l at hs hsz hat
  unfold rng at hk hm hc
  generalize t.k = x0 at *
  generalize t.m = x1 at *
  have HS := Lib.hid hs
  have hlen : len = l.length := hs.1
  have hl2 := sizes_len l
  have hcap : cap ≤ maxLen := hs.2.2.1
  have hlc := hs.2.1
  have HLEN := Lib.hid hlen
  have HD := Lib.hid hd
  have hdl : dl = dat.length := hd.1
  have hdcap : dc ≤ maxLen := hd.2.2.1
  have hdlc := hd.2.1
  have HDL := Lib.hid hdl
  have HAT := Lib.hid hat
  have HSM := Lib.hid hsm
  have hl3 : len ≤ 100000 := by omega
  have HLS : Hid (∀ (i : Nat) (h : i < l.length), l[i].size ≤ 100000) := fun i h => by have := sizes_get h; omega
  unfold maxLen at hcap hdcap
  rw [← hdl] at hno
  have HNO := Lib.hid hno
  clear hs hd hlen hdl hat hsm hno hsz hl2 ht
  show Calls Tryz.prog 17 #[.slice A dl dc, .agg #[.int .i64 x0, .int .i64 x1, .slice B len cap], .int .i64 c] w _
  go_enter Tryz.func17, Tryz.ntmps17
  go_upto_region 1 with (fail)
  obtain ⟨C, hC⟩ : ∃ C, C = w.alloc (.cells #[.int .i64 x0, .int .i64 x1, .slice B len cap] 25) := ⟨_, rfl⟩
  have HB0 : Hid (Below w.heap.size w C) := by rw [hC]; exact (Below.refl _ _).alloc (Nat.le_refl _) _
  have HBX : Hid (Bk C w.heap.size 25 #[.int .i64 x0, .int .i64 x1, .slice B len cap]) := by rw [hC]; exact Bk.new _ _ _
  have hCs : C.heap.size = w.heap.size + 1 := by rw [hC]; simp
  rw [← hC]
  clear hC
  have HCS := Lib.hid hCs
  clear hCs
  obtain ⟨hc0, hc1, _⟩ := HBX.out.facts
  by_cases h1 : x0 = 5 ∧ 0 ≤ x1 ∧ x1 < dl
  · obtain ⟨h2, hx1, hx2⟩ := h1
    obtain ⟨m, hm2⟩ : ∃ m : Nat, x1 = m := ⟨x1.toNat, by omega⟩
    have hmd : m < dat.length := by have := HDL.out; omega
    have hat := HAT.out m hmd h2 hm2
    subst h2
    subst hm2
    obtain ⟨b, off, s, A', len', cap', rfl, hb, e0, e1, e2, hname, hvr, hcs⟩ := (HD.out.below HB0.out).get (i := m) hmd
    have hcon : ∀ cc ∈ dat[m].cons, cc.args.length ≤ 100000 ∧ ∀ a ∈ cc.args, a.size ≤ 100000 := HSM.out _ (List.getElem_mem hmd)
    generalize dat[m].vars = vr at *
    generalize dat[m].cons = cons at *
    have hcl : len' = cons.length := hcs.1
    have hccap : cap' ≤ maxLen := hcs.2.2.1
    have hclc := hcs.2.1
    unfold maxLen at hccap
    unfold rng at hvr
    have HCO := Lib.hid hcs
    have HCL := Lib.hid hcl
    have HCON := Lib.hid hcon
    rw [← HLEN.out, ← hcl] at hat
    have HQ := Lib.hid hat
    clear hat hcs hcl hcon hname
    have hmi : (0 : Int) ≤ m := by omega
    go_upto_region 4 with (fail)
    obtain ⟨E, hE⟩ : ∃ E, E = C.alloc (.cells #[.string s, .int .i64 vr, .slice A' len' cap'] 56) := ⟨_, rfl⟩
    have hb1 : Below C.heap.size C E := by rw [hE]; exact (Below.refl _ _).alloc (Nat.le_refl _) _
    have HBD : Hid (Bk E C.heap.size 56 #[.string s, .int .i64 vr, .slice A' len' cap']) := by rw [hE]; exact Bk.new _ _ _
    have hEs : E.heap.size = C.heap.size + 1 := by rw [hE]; simp
    rw [← hE]
    clear hE
    have HES := Lib.hid hEs
    have HB1 := Lib.hid (HB0.out.trans (hb1.mono HB0.out.size))
    have HX1 := Lib.hid (HBX.out.below hb1 HBX.out.lt)
    have HCE := Lib.hid (HCO.out.below hb1)
    clear hEs hb1
    obtain ⟨hx0, hx1, _⟩ := HX1.out.facts
    obtain ⟨hd0, hd1, _⟩ := HBD.out.facts
    by_cases h3 : (len : Int) = vr ∧ 0 ≤ c ∧ c < len'
    · obtain ⟨h4, h5, h6⟩ := h3
      obtain ⟨k, hk2⟩ : ∃ k : Nat, c = k := ⟨c.toNat, by omega⟩
      subst h4
      subst hk2
      have hkl : k < cons.length := by have := HCL.out; omega
      obtain ⟨bc, offc, sc, Ac, al, ac, rfl, hbc, f0, f1, hcn, hargs⟩ := HCE.out.get (i := k) hkl
      obtain ⟨hal, hcon⟩ := HCON.out _ (List.getElem_mem hkl)
      have hq : q = if cons[k].args.all (fun a => decide (subSize (l.map Tr.size) a ≤ 200)) then some (cons[k].args.map (subst l)) else none := by
        have h := HQ.out
        rw [if_pos ⟨rfl, h5, h6⟩, Int.toNat_natCast, List.getElem?_eq_getElem hkl] at h
        exact h
      generalize cons[k].args = args at *
      have hl7 : al = args.length := hargs.1
      have hl8 := hargs.2.1
      have hl9 : ac ≤ maxLen := hargs.2.2.1
      unfold maxLen at hl9
      have HARGS := Lib.hid hargs
      have HAL := Lib.hid hl7
      have HQQ := Lib.hid hq
      have HCN := Lib.hid hcon
      have hal2 : al ≤ 100000 := by omega
      clear hargs hcon hcn hal hl7 hq
      have hki : (0 : Int) ≤ k := h5
      have hmk := run_mkI E len (by omega)
      go_upto_region 7 with (fail)
      obtain ⟨G, hG⟩ : ∃ G, G = E.alloc (.cells (madeCells #[.int .i64 0] len) 3) := ⟨_, rfl⟩
      have HR0 : Hid (G.rowIs E.heap.size 3 len (szF l 0)) := by
        rw [hG]
        exact World.rowIs.congr (World.rowIs_made E (.int .i64 0) len 3) fun i _ => by simp [szF]
      have hbG : Below E.heap.size E G := by rw [hG]; exact (Below.refl _ _).alloc (Nat.le_refl _) _
      rw [← hG]
      clear hG hmk
      have HBG := Lib.hid hbG
      have HXG := Lib.hid (HX1.out.below hbG HX1.out.lt)
      clear hbG
      obtain ⟨hg0, _, _⟩ := HXG.out.facts
      go_wp2
      go_loopw [61] (fun iv wr => ∃ i : Nat, i ≤ len ∧ iv = .int .i64 i ∧ Hid (wr.rowIs E.heap.size 3 len (szF l i)) ∧ Hid (Below E.heap.size E wr)) (fun iv _ => len - (intOf iv).toNat)
      case atStart => exact ⟨0, by omega, rfl, HR0, HBG⟩
      case round =>
        obtain ⟨i, hi, rfl, HR, HB⟩ := hrel
        have HBW := Lib.hid (HB1.out.trans (HB.out.mono HB1.out.size))
        by_cases hlt : i < len
        · have hil : i < l.length := by have := HLEN.out; omega
          obtain ⟨b2, off2, A2, len2, cap2, rfl, hb2, e3, e4, e5, hrk⟩ := (HS.out.below HBW.out).get (i := i) hil
          have key := size_any D' 100000 l[i] (wr.alloc (.cells #[.int .i64 l[i].k, .int .i64 l[i].m, .slice A2 len2 cap2] 25)) _ (HLS.out i hil) (by have := HLS.out i hil; omega) (hrk.below ((Below.refl _ _).alloc (Nat.le_refl _) _))
          have KEY := Lib.hid key
          have hsi : (l.map Tr.size).getD i 0 = l[i].size := by simp [List.getD_eq_getElem?_getD, List.getElem?_map, List.getElem?_eq_getElem hil]
          have hsl := HLS.out i hil
          clear key hrk
          obtain ⟨r, hr⟩ : ∃ r, l[i].size = r := ⟨_, rfl⟩
          rw [hr] at KEY hsi hsl
          have HSI := Lib.hid hsi
          clear hr hsi
          generalize l[i].k = y0 at *
          generalize l[i].m = y1 at *
          go_wp2_with fail
          refine KEY.out.mono ?_
          rintro e w2 ⟨rfl, hbb⟩
          have hbw2 : Below E.heap.size E w2 := (HB.out.alloc HB.out.size (.cells #[.int .i64 y0, .int .i64 y1, .slice A2 len2 cap2] 25)).trans (hbb.mono (by have := HB.out.size; simp; omega))
          have hr2 := HR.out.of_block (w' := w2) (by rw [hbb.block _ (by have := HR.out.lt; simp; omega)]; exact Below.heap_alloc _ _ _ HR.out.lt)
          have HB2 := Lib.hid hbw2
          have HR2 := Lib.hid hr2
          have hc2 := hr2.cell hlt
          have hf2 := hr2.frozen i
          clear hbb hbw2 hr2
          go_wp2
          go_roundw
          case rel =>
            refine ⟨i + 1, by omega, by go_num, (HR2.out.set i (.int .i64 r)).congr fun j hj => ?_, HB2.out.setCell (p := ⟨E.heap.size, i, none⟩) (Nat.le_refl _) _⟩
            unfold szF
            by_cases h : j = i
            · subst h
              rw [if_pos rfl, if_pos (by omega), HSI.out]
            · rw [if_neg h]
              by_cases h' : j < i
              · rw [if_pos h', if_pos (by omega)]
              · rw [if_neg h', if_neg (by omega)]
          case measure => simp [intOf]; omega
        · obtain rfl : i = len := by omega
          have HNS : Hid (NsR wr (fun _ => True) (l.map Tr.size) (some ⟨E.heap.size, 0, none⟩) i) := by
            refine ⟨by rw [List.length_map]; exact HLEN.out, fun _ => ⟨E.heap.size, 0, rfl, trivial, HR.out.lt, fun j hj => ?_⟩⟩
            rw [Nat.zero_add, HR.out.cell hj]
            unfold szF
            rw [if_pos hj]
          have HXW := Lib.hid (HX1.out.below HB.out HX1.out.lt)
          have HDW := Lib.hid (HBD.out.below HB.out (by have := HES.out; omega))
          have HBEW := Lib.hid HB.out
          have HAW := Lib.hid (HARGS.out.below HB.out)
          have hew : E.heap.size ≤ wr.heap.size := HB.out.size
          obtain ⟨W1, hW1⟩ : ∃ x, x = wr := ⟨_, rfl⟩
          subst hW1
          have HBW1 := Lib.hid HBW.out
          clear HR HB HBW
          have g1 := cell_below f1 HBEW.out hbc
          obtain ⟨hxw0, hxw1, _⟩ := HXW.out.facts
          obtain ⟨hdw0, hdw1, _⟩ := HDW.out.facts
          go_wp2
          go_loopw [79] (fun iv wr => ∃ i : Nat, i ≤ al ∧ iv = .int .i64 i ∧ Hid ((args.take i).all (fun a => decide (subSize (l.map Tr.size) a ≤ 200)) = true) ∧ Hid (Below W1.heap.size W1 wr)) (fun iv _ => al - (intOf iv).toNat)
          case atStart => exact ⟨0, by omega, rfl, by simp [Hid], Below.refl _ _⟩
          case round =>
            obtain ⟨j, hj, rfl, HL, HB⟩ := hrel
            have HBW := Lib.hid (HBW1.out.trans (HB.out.mono HBW1.out.size))
            by_cases hlt : j < al
            · have hjl : j < args.length := by have := HAL.out; omega
              obtain ⟨b2, off2, A2, len2, cap2, rfl, hb2, e3, e4, e5, hrk⟩ := (HAW.out.below HB.out).get (i := j) hjl
              have hjs := HCN.out _ (List.getElem_mem hjl)
              have key := substSize_any (D := D) (D' := fun _ => True) (ss := l.map Tr.size) (Z := some ⟨E.heap.size, 0, none⟩) (zl := i) (zc := i) (Nat.le_refl _) (by unfold maxLen; omega) (fun j => by
                rw [List.getD_eq_getElem?_getD, List.getElem?_map]
                rcases h : l[j]? with _ | x
                · simp
                · obtain ⟨hj, rfl⟩ := List.getElem?_eq_some_iff.1 h
                  have := HLS.out j hj
                  simp; omega) 100000 args[j] (wr.alloc (.cells #[.int .i64 args[j].k, .int .i64 args[j].m, .slice A2 len2 cap2] 25)) _ hjs (by omega) (hrk.below ((Below.refl _ _).alloc (Nat.le_refl _) _)) ((HNS.out.below HB.out).below ((Below.refl _ _).alloc (Nat.le_refl _) _))
              have KEY := Lib.hid key
              have htk : (args.take (j + 1)).all (fun a => decide (subSize (l.map Tr.size) a ≤ 200)) = ((args.take j).all (fun a => decide (subSize (l.map Tr.size) a ≤ 200)) && decide (subSize (l.map Tr.size) args[j] ≤ 200)) := by
                rw [List.take_succ_eq_append_getElem hjl, List.all_append]; simp
              have hfail : ¬ subSize (l.map Tr.size) args[j] ≤ 200 → q = none := fun h => by
                rw [HQQ.out, if_neg]
                intro h2
                rw [List.all_eq_true] at h2
                exact h (by simpa using h2 _ (List.getElem_mem hjl))
              clear key hrk hjs
              generalize subSize (l.map Tr.size) args[j] = r at *
              have HTK := Lib.hid htk
              have HFA := Lib.hid hfail
              clear htk hfail
              generalize args[j].k = y0 at *
              generalize args[j].m = y1 at *
              go_wp2_with fail
              refine KEY.out.mono ?_
              rintro e w2 ⟨rfl, hbb⟩
              have HB2 := Lib.hid ((HB.out.alloc HB.out.size (.cells #[.int .i64 y0, .int .i64 y1, .slice A2 len2 cap2] 25)).trans (hbb.mono (by have := HB.out.size; simp; omega)))
              clear hbb
              by_cases hbig : r ≤ 200
              · have hbi : ¬ (200 : Int) < (r : Int) := by omega
                go_wp2
                go_roundw
                case rel => exact ⟨j + 1, by omega, by go_num, by show _ = true; rw [HTK.out, HL.out]; simp [hbig], HB2⟩
                case measure => simp [intOf]; omega
              · have hbi : (200 : Int) < (r : Int) := by omega
                have hqn := HFA.out hbig
                go_wp2
                go_ret2
                exact ⟨HBW1.out.trans (HB2.out.mono HBW1.out.size), .inl ⟨hqn, rfl⟩⟩
            · obtain rfl : j = al := by omega
              have hq : q = some (args.map (subst l)) := by
                have h := HL.out
                rw [HQQ.out, if_pos]
                rwa [HAL.out, List.take_length] at h
              have HQS := Lib.hid hq
              have HX2 := Lib.hid (HXW.out.below HB.out HXW.out.lt)
              have HD2 := Lib.hid (HDW.out.below HB.out HDW.out.lt)
              have HA2 := Lib.hid (HAW.out.below HB.out)
              have HS2 := Lib.hid (HS.out.below HBW.out)
              have g2 := cell_below g1 HB.out (by omega)
              obtain ⟨W2, hW2⟩ : ∃ x, x = wr := ⟨_, rfl⟩
              subst hW2
              have HBW2 := Lib.hid HBW.out
              have hb22 : bc < W2.heap.size := by have := HB.out.size; omega
              clear hq HB HBW HL
              obtain ⟨hxw0, hxw1, _⟩ := HX2.out.facts
              obtain ⟨hdw0, hdw1, _⟩ := HD2.out.facts
              go_wp2
              go_loopw [14, 95] (fun kv jv wr => ∃ (i : Nat) (us : Nat → List Value), i ≤ j ∧ jv = .int .i64 i ∧ Hid (OwnT W2.heap.size 25 wr kv ((args.take i).map (subst l)) us) ∧ Hid (Below W2.heap.size W2 wr)) (fun _ jv _ => j - (intOf jv).toNat)
              case atStart => exact ⟨0, fun _ => [], by omega, rfl, OwnT.nil _ _ _, Below.refl _ _⟩
              case round =>
                obtain ⟨i2, us, hi2, rfl, HO, HB⟩ := hrel
                have HBW := Lib.hid (HBW2.out.trans (HB.out.mono HBW2.out.size))
                obtain ⟨A0, cp0, rfl, hnc0, hcm0⟩ := HO.out.form
                unfold maxLen at hcm0
                obtain ⟨qq, hqq⟩ : ∃ qq, (args.take i2).map (subst l) = qq := ⟨_, rfl⟩
                have hql : qq.length = i2 := by rw [← hqq, List.length_map, List.length_take]; have := HAL.out; omega
                rw [hqq] at HO hnc0 ⊢
                rw [hql] at HO hnc0 ⊢
                have HQ3 := Lib.hid hqq
                have HQL := Lib.hid hql
                clear hqq hql
                by_cases hlt : i2 < j
                · have hil : i2 < args.length := by have := HAL.out; omega
                  obtain ⟨b2, off2, A2, len2, cap2, rfl, hb2, e3, e4, e5, hrk⟩ := (HA2.out.below HB.out).get (i := i2) hil
                  have hjs := HCN.out _ (List.getElem_mem hil)
                  obtain ⟨W3, hW3⟩ : ∃ W3, W3 = wr.alloc (.cells #[.int .i64 args[i2].k, .int .i64 args[i2].m, .slice A2 len2 cap2] 25) := ⟨_, rfl⟩
                  have hb3 : Below wr.heap.size wr W3 := by rw [hW3]; exact (Below.refl _ _).alloc (Nat.le_refl _) _
                  have key := subst_any l (fun a ha => by obtain ⟨i, hi, rfl⟩ := List.getElem_of_mem ha; exact HLS.out i hi) 100000 D D' args[i2] W3 _ B i cap hjs hjs (hrk.below hb3) ((HS2.out.below HB.out).below hb3)
                  have KEY : Hid (Calls Tryz.prog 40 #[.agg #[.int .i64 args[i2].k, .int .i64 args[i2].m, .slice A2 len2 cap2], .slice B i cap] (wr.alloc (.cells #[.int .i64 args[i2].k, .int .i64 args[i2].m, .slice A2 len2 cap2] 25)) (NewT (subst l args[i2]) W3)) := by rw [← hW3]; exact key
                  have HW3 := Lib.hid hb3
                  clear key hrk hW3 hb3 hjs
                  have htk : (args.take (i2 + 1)).map (subst l) = qq ++ [subst l args[i2]] := by rw [List.take_succ_eq_append_getElem hil, List.map_append, HQ3.out]; rfl
                  have HTK := Lib.hid htk
                  clear htk
                  obtain ⟨rr, hrr⟩ : ∃ x, subst l args[i2] = x := ⟨_, rfl⟩
                  rw [hrr] at KEY HTK
                  clear hrr
                  obtain ⟨y0, hy0⟩ : ∃ x, args[i2].k = x := ⟨_, rfl⟩
                  obtain ⟨y1, hy1⟩ : ∃ x, args[i2].m = x := ⟨_, rfl⟩
                  rw [hy0, hy1] at KEY
                  rw [hy0] at e3
                  rw [hy1] at e4
                  clear hy0 hy1
                  have hx3 := HX2.out.below HB.out HX2.out.lt
                  obtain ⟨hxw0, hxw1, _⟩ := hx3.facts
                  clear hx3
                  have hxlt : w.heap.size < wr.heap.size := by have := HX2.out.lt; have := HB.out.size; omega
                  go_wp2_with fail
                  refine KEY.out.mono ?_
                  rintro e w2 ⟨v2, rfl, hv2, hb3⟩
                  have HB3 := Lib.hid (HW3.out.trans (hb3.mono HW3.out.size))
                  have HO2 := Lib.hid (HO.out.below HB3.out)
                  have HV2 : Hid (TrR w2 (fun b => W2.heap.size ≤ b ∧ some b ≠ (Value.slice A0 i2 cp0).ownBlock) rr v2) := hv2.sub fun b _ hD => by
                    have h1 : W3.heap.size ≤ b := hD
                    have h2 := HW3.out.size
                    have h3 := HB.out.size
                    exact ⟨by omega, fun e => by have := (HO.out.1.lt b e.symm).2; omega⟩
                  have hv2l : v2.length = 3 := by obtain ⟨_, _, _, rfl, _⟩ := hv2.form; rfl
                  have hv21 : ∀ u ∈ v2, u.oneCell' = true := by obtain ⟨_, _, _, rfl, _⟩ := hv2.form; intro u hu; simp at hu; rcases hu with rfl | rfl | rfl <;> rfl
                  have hbase : W2.heap.size ≤ w2.heap.size := by have := HB.out.size; have := HB3.out.size; omega
                  have hO21 := HO2.out.1
                  rw [HQL.out] at hO21
                  clear hv2 hb3
                  go_wp2_with (first | refine wpList_oneT rfl 23 25 (.tmp 103) rfl Tryz.underlying23 3 40 info_typ (by decide) (by decide) v2 (.agg v2.toArray) rfl rfl hv2l ?_ | (at_builtin; refine wpList_pushTr w2 rfl _ _ 23 25 rfl Tryz.underlying23 3 40 info_typ (by decide) (by decide) W2.heap.size _ i2 (rowT us i2) v2 (by rfl) hO21 (by rfl) hv2l hv21 (by omega) hbase ?_))
                  intro g cap3 w3 hown' hg hgb hglt
                  have HO3 : Hid (OwnT W2.heap.size 25 w3 (.slice (some ⟨g, 0, none⟩) (i2 + 1) cap3) ((args.take (i2 + 1)).map (subst l)) fun j => if j = i2 then v2 else us j) := by
                    have h1 := HO2.out.next (by exact HV2.out) hv2l (g := g) (cap := cap3) (by rw [HQL.out]; exact hown') hg hgb
                    rw [HQL.out] at h1
                    rw [HTK.out]
                    exact h1
                  have hb5 : Below W2.heap.size W2 (w2.alloc (.cells v2.toArray 25)) := (HB.out.trans (HB3.out.mono HB.out.size)).alloc hbase _
                  have HB5 : Hid (Below W2.heap.size W2 w3) := ⟨hg.os.trans hb5.os, hg.tape.trans hb5.tape, hg.output.trans hb5.output, Nat.le_trans hb5.size hg.size, fun k hk => (hg.block k (Nat.lt_of_lt_of_le hk hb5.size) (fun e => by have := (HO.out.1.lt k e.symm).1; omega)).trans (hb5.block k hk)⟩
                  clear hg hgb hown' hb5 hO21 hv21 hv2l hbase
                  go_wp2
                  go_roundw
                  case rel => exact ⟨i2 + 1, _, by omega, by go_num, HO3, HB5⟩
                  case measure => simp [intOf]; omega
                · obtain rfl : i2 = j := by omega
                  have hql : qq = args.map (subst l) := by rw [← HQ3.out, HAL.out, List.take_length]
                  obtain ⟨A3, len3, cap3, h3, hS3⟩ := HO.out.done
                  injection h3 with e1 e2 e3
                  subst e1; subst e2; subst e3
                  rw [hql] at hS3
                  have HS3 := Lib.hid hS3
                  clear hS3 hql
                  go_wp2
                  go_ret2
                  exact ⟨HBW.out, .inr ⟨_, _, _, _, HQS.out, rfl, HS3.out.sub fun b _ hb => by
                    have h1 : W2.heap.size ≤ b := hb
                    have h2 := HBW2.out.size
                    show w.heap.size ≤ b
                    omega⟩⟩
    · have hqn : Hid (q = none) := by
        show q = none
        rw [HQ.out, if_neg h3]
      have h4 : (len : Int) ≠ vr ∨ ((len : Int) = vr ∧ ¬ 0 ≤ c) ∨ ((len : Int) = vr ∧ 0 ≤ c ∧ ¬ c < len') := by omega
      clear h3
      rcases h4 with h4 | ⟨h4, h5⟩ | ⟨h4, h5, h6⟩
      all_goals
        go_wp2
        go_ret2
        exact ⟨HB1.out, .inl ⟨hqn.out, rfl⟩⟩
  · have hqn := Lib.hid (HNO.out h1)
    have h4 : x0 ≠ 5 ∨ (x0 = 5 ∧ ¬ 0 ≤ x1) ∨ (x0 = 5 ∧ 0 ≤ x1 ∧ ¬ x1 < dl) := by omega
    clear h1
    rcases h4 with h4 | ⟨h4, h5⟩ | ⟨h4, h5, h6⟩
    all_goals
      go_wp2
      go_ret2
      exact ⟨HB0.out, .inl ⟨hqn.out, rfl⟩⟩
end Go.Proofs.YtdbiedpdibjdlaaGreat

