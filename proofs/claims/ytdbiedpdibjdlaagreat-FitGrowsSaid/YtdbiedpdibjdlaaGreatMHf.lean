/-
  validData: is a list of data types valid? Two maps from strings to truth values.
-/
import Derived.Test.YtdbiedpdibjdlaaGreatMHe
import Derived.Test.YtdbiedpdibjdlaaGreatMHb
import Derived.Maps.Own
import Derived.Maps.Views
import Derived.StringKeys
namespace Go.Proofs.YtdbiedpdibjdlaaGreat
open Go.RowKit AC
set_option linter.unusedVariables false
set_option linter.unusedSimpArgs false
section
open Go.Maps
theorem law_str : Keyed Tryz.prog 9 := string_keyed Tryz.underlying9
theorem plainElem_bool_inv {H : Type} {P : Program} {e : TypeId} (he : P.underlying e = some .bool) {v : Value} {z : DataW H × List MemPlace} (h : plainElem P e v = some z) : ∃ b, v = .bool b ∧ z = (.lit (.bool b), []) := by
  unfold plainElem at h
  rw [he] at h
  cases v <;> simp at h
  exact ⟨_, rfl, h.symm⟩
/-- Block b is a map of at most n strings, and these are in it: ks. -/
def MapB (w : World) (b n : Nat) (ks : List (List UInt8)) : Prop :=
  ∃ D : DataW Unit, w.ownsMap Tryz.prog 9 (plainElem Tryz.prog 4) b n D ∧ IsMap D ∧ ∀ l : List UInt8, D.atKey (.string l) (.lit (.bool false)) = .lit (.bool (decide (l ∈ ks)))
theorem MapB.made (w : World) : MapB (w.alloc (.map #[] 0)) w.heap.size 0 [] := ⟨_, World.ownsMap_made _ _ _ _, isMap_empty, fun l => by simp [DataW.atKey]⟩
theorem MapB.lt {w : World} {b n : Nat} {ks : List (List UInt8)} (h : MapB w b n ks) : b < w.heap.size := by
  obtain ⟨D, h1, _⟩ := h
  exact h1.lt
theorem MapB.grown {w w' : World} {b n : Nat} {ks : List (List UInt8)} {row : Option Nat} (h : MapB w b n ks) (hg : w.grownBy w' row) (hne : some b ≠ row) : MapB w' b n ks := by
  obtain ⟨D, h1, h2, h3⟩ := h
  exact ⟨D, h1.kept hg hne, h2, h3⟩
theorem MapB.below {w w' : World} {b n : Nat} {ks : List (List UInt8)} (h : MapB w b n ks) (hb : Below w.heap.size w w') : MapB w' b n ks := h.grown (row := none) ⟨hb.os, hb.tape, hb.output, hb.size, fun k hk _ => hb.block k hk⟩ (by simp)
theorem zeroB (w : World) : (zeroValue 4).run Tryz.prog w = .ok (.bool false) w := by kernel_rfl
theorem lit_bool_inj {a b : Bool} (h : (DataW.lit (.bool a) : DataW Unit) = .lit (.bool b)) : a = b := by
  injection h with h
  injection h
theorem MapB.look {w : World} {b n : Nat} {ks : List (List UInt8)} (h : MapB w b n ks) {s : ByteArray} (hs : s.size ≤ maxLen) :
    (Instr.lookup 134 (.map (some b)) (.string s) false).run Tryz.prog w = .ok (.bool (decide (s.data.toList ∈ ks))) w := by
  obtain ⟨D, h1, h2, h3⟩ := h
  obtain ⟨v, ps, hrun, hv⟩ := h1.lookup law_str Tryz.underlying134 (zeroB w) (plainElem_bool Tryz.underlying4 false) (WideMaps.keyOf_string_mk Tryz.underlying9 hs)
  obtain ⟨c, rfl, hc⟩ := plainElem_bool_inv Tryz.underlying4 hv
  simp only [Prod.mk.injEq] at hc
  have h4 := h3 s.data.toList
  rw [hc.1] at h4
  have h5 : c = decide (s.data.toList ∈ ks) := lit_bool_inj h4
  rw [← h5]
  exact hrun
theorem MapB.put {w : World} {b n : Nat} {ks : List (List UInt8)} (h : MapB w b n ks) (hn : n < maxLen) {s : ByteArray} (hs : s.size ≤ maxLen) :
    ∃ w', (Instr.mapUpdate 134 (.map (some b)) (.string s) (.bool true)).run Tryz.prog w = .ok () w' ∧ MapB w' b (n + 1) (s.data.toList :: ks) ∧ w.grownBy w' (some b) := by
  obtain ⟨D, h1, h2, h3⟩ := h
  obtain ⟨w', hrun, h4, h5⟩ := h1.update law_str Tryz.underlying134 hn (WideMaps.keyOf_string_mk Tryz.underlying9 hs) (plainElem_bool Tryz.underlying4 true)
  refine ⟨w', hrun, ⟨_, h4, h2.put _ _, fun l => ?_⟩, h5⟩
  by_cases hl : l = s.data.toList
  · subst hl
    rw [atKey_put_same h2 (by trivial)]
    simp
  · rw [atKey_put_other (by intro e; injection e with e; exact hl e), h3]
    simp [hl]
end
/-! ### What validData reckons -/
/-- An upper name, as a list of bytes. -/
def Un (l : List UInt8) : Prop := U ⟨l.toArray⟩
open Classical in
noncomputable def consGo (dat : List DaD) (d : Nat) (vr : Int) : List (List UInt8) → List CoD → Option (List (List UInt8))
  | cs, [] => some cs
  | cs, c :: l => if Un c.name ∧ c.name ∉ cs ∧ argsOk dat d vr c.args = true then consGo dat d vr (c.name :: cs) l else none
open Classical in
noncomputable def dataGo (dat : List DaD) : Nat → List (List UInt8) → List (List UInt8) → List DaD → Bool
  | _, _, _, [] => true
  | i, ns, cs, d :: l => if Un d.name ∧ d.name ∉ ns ∧ 0 ≤ d.vars ∧ d.vars ≤ 6 ∧ 1 ≤ d.cons.length ∧ d.cons.length ≤ 8 then
      match consGo dat i d.vars cs d.cons with
      | none => false
      | some cs' => dataGo dat (i + 1) (d.name :: ns) cs' l
    else false
noncomputable def dataOk (dat : List DaD) : Bool := decide (dat.length ≤ 12) && dataGo dat 0 [] [] dat
theorem un_of {s : ByteArray} {l : List UInt8} (h : s.data.toList = l) : U s ↔ Un l := by
  subst h
  rfl
theorem Un.len {s : ByteArray} {l : List UInt8} (h : s.data.toList = l) (hu : Un l) : s.size ≤ maxLen := by
  have := ((un_of h).2 hu).2.1
  unfold maxLen
  omega
theorem consGo_no {dat : List DaD} {d : Nat} {vr : Int} {cs : List (List UInt8)} {c : CoD} {l : List CoD} (h : ¬ (Un c.name ∧ c.name ∉ cs ∧ argsOk dat d vr c.args = true)) : consGo dat d vr cs (c :: l) = none := by
  rw [consGo, if_neg h]
theorem consGo_yes {dat : List DaD} {d : Nat} {vr : Int} {cs : List (List UInt8)} {c : CoD} {l : List CoD} (h : Un c.name ∧ c.name ∉ cs ∧ argsOk dat d vr c.args = true) : consGo dat d vr cs (c :: l) = consGo dat d vr (c.name :: cs) l := by
  rw [consGo, if_pos h]
theorem dataGo_no {dat : List DaD} {i : Nat} {ns cs : List (List UInt8)} {d : DaD} {l : List DaD} (h : ¬ (Un d.name ∧ d.name ∉ ns ∧ 0 ≤ d.vars ∧ d.vars ≤ 6 ∧ 1 ≤ d.cons.length ∧ d.cons.length ≤ 8)) : dataGo dat i ns cs (d :: l) = false := by
  rw [dataGo, if_neg h]
theorem dataGo_yes {dat : List DaD} {i : Nat} {ns cs : List (List UInt8)} {d : DaD} {l : List DaD} (h : Un d.name ∧ d.name ∉ ns ∧ 0 ≤ d.vars ∧ d.vars ≤ 6 ∧ 1 ≤ d.cons.length ∧ d.cons.length ≤ 8) : dataGo dat i ns cs (d :: l) =
    match consGo dat i d.vars cs d.cons with
      | none => false
      | some cs' => dataGo dat (i + 1) (d.name :: ns) cs' l := by
  rw [dataGo, if_pos h]
set_option maxHeartbeats 16000000 in
set_option maxRecDepth 100000 in
theorem validData_any {D : Nat → Prop} {dat : List DaD} {A : Option Addr} {dl dc : Nat} (w : World) (hD : DaS w D dat A dl dc) :
    Calls Tryz.prog 66 #[.slice A dl dc] w (RetV (.bool (dataOk dat)) w) := by
  have KU := Lib.hid fun s w => isUpper_any s w
  have hdl : dl = dat.length := hD.1
  have hdlc := hD.2.1
  have hdcap : dc ≤ maxLen := hD.2.2.1
  unfold maxLen at hdcap
  have HDL := Lib.hid hdl
  have HD := Lib.hid hD
  obtain ⟨q, hq⟩ : ∃ q, dataOk dat = q := ⟨_, rfl⟩
  rw [hq]
  have HQ := Lib.hid hq
  clear hq hD hdl
  have hmm := @run_makeMap Tryz.prog
  go_enter Tryz.func66, Tryz.ntmps66
  by_cases h12 : dl ≤ 12
  · have h12i : ¬ (12 : Int) < (dl : Int) := by omega
    have hq2 : dataGo dat 0 [] [] dat = q := by
      rw [← HQ.out, dataOk, decide_eq_true (by have := HDL.out; omega), Bool.true_and]
    have HQ2 := Lib.hid hq2
    clear hq2
    go_upto_region 4 with (fail)
    obtain ⟨G, hG⟩ : ∃ G, G = (w.alloc (.map #[] 0)).alloc (.map #[] 0) := ⟨_, rfl⟩
    have HM1 : Hid (MapB G w.heap.size 0 []) := by rw [hG]; exact (MapB.made w).below ((Below.refl _ _).alloc (Nat.le_refl _) _)
    have HM2 : Hid (MapB G (w.heap.size + 1) 0 []) := by rw [hG]; have := MapB.made (w.alloc (.map #[] 0)); exact Lib.hid (by simpa using this)
    have HBG : Hid (Below w.heap.size w G) := by rw [hG]; exact ((Below.refl _ _).alloc (Nat.le_refl _) _).alloc (by simp) _
    rw [← hG]
    clear hG hmm
    go_wp2
    go_loopw [15] (fun iv wr => ∃ (i : Nat) (ns cs : List (List UInt8)) (n2 : Nat), i ≤ dl ∧ iv = .int .i64 i ∧ Hid (dataGo dat i ns cs (dat.drop i) = q) ∧ Hid (MapB wr w.heap.size i ns) ∧ n2 ≤ 8 * i ∧ Hid (MapB wr (w.heap.size + 1) n2 cs) ∧ Hid (Below w.heap.size w wr)) (fun iv _ => dl - (intOf iv).toNat)
    case atStart => exact ⟨0, [], [], 0, by omega, rfl, HQ2, HM1, by omega, HM2, HBG⟩
    case round =>
      obtain ⟨i, ns, cs, n2, hi, rfl, HV, HN1, hn2, HN2, HB⟩ := hrel
      by_cases hlt : i < dl
      · have hil : i < dat.length := by have := HDL.out; omega
        obtain ⟨b, off, s, A', len', cap', rfl, hb, e0, e1, e2, hname, hvr, hcs⟩ := HD.out.get (i := i) hil
        have HVA := Lib.hid fun (c : Nat) (hc : c < dat[i].cons.length) (x : World) (hx : Below w.heap.size w x) => validArgs_any i c hil hc x (HD.out.below hx)
        have hv := HV.out
        rw [List.drop_eq_getElem_cons hil] at hv
        have hno : ¬ (Un dat[i].name ∧ dat[i].name ∉ ns ∧ 0 ≤ dat[i].vars ∧ dat[i].vars ≤ 6 ∧ 1 ≤ dat[i].cons.length ∧ dat[i].cons.length ≤ 8) → q = false := fun h => by rw [← hv, dataGo_no h]
        have hyes : (Un dat[i].name ∧ dat[i].name ∉ ns ∧ 0 ≤ dat[i].vars ∧ dat[i].vars ≤ 6 ∧ 1 ≤ dat[i].cons.length ∧ dat[i].cons.length ≤ 8) → q = match consGo dat i dat[i].vars cs dat[i].cons with
          | none => false
          | some cs' => dataGo dat (i + 1) (dat[i].name :: ns) cs' (dat.drop (i + 1)) := fun h => by rw [← hv, dataGo_yes h]
        have hcl : len' = dat[i].cons.length := hcs.1
        have hclc := hcs.2.1
        have hccap : cap' ≤ maxLen := hcs.2.2.1
        unfold maxLen at hccap
        have HCS := Lib.hid hcs
        have HCL := Lib.hid hcl
        rw [← hcl] at hno hyes
        generalize dat[i].cons = cons at *
        generalize dat[i].vars = vr at *
        unfold rng at hvr
        have hun := un_of hname
        have hul := fun h => Un.len hname h
        have hnm := hname
        generalize dat[i].name = nm at *
        have HNO := Lib.hid hno
        have HYES := Lib.hid hyes
        have HUN := Lib.hid hun
        have HUL := Lib.hid hul
        have HNM := Lib.hid hnm
        clear hv hno hyes hun hul hnm hname hcs hcl
        have c0 := cell_below e0 HB.out hb
        have hbr : b < wr.heap.size := by have := HB.out.size; omega
        have hii : (0 : Int) ≤ i := by omega
        go_wp2_with fail
        refine (KU.out s _).mono ?_
        rintro e w2 ⟨ub, rfl, hu, hb2⟩
        have HB2 := Lib.hid (HB.out.trans (hb2.mono HB.out.size))
        have HP1 := Lib.hid (HN1.out.below hb2)
        have HP2 := Lib.hid (HN2.out.below hb2)
        have hbr2 : b < w2.heap.size := by have := HB2.out.size; omega
        have d0 := cell_below e0 HB2.out hb
        have d1 := cell_below e1 HB2.out hb
        have d2 := cell_below e2 HB2.out hb
        have HU := Lib.hid hu
        clear hb2 hu c0 e0 e1
        cases ub with
        | false =>
          have HQF := Lib.hid (HNO.out fun h => by have := HU.out.2 (HUN.out.2 h.1); cases this)
          go_wp2
          go_ret
          exact ⟨by rw [show q = false from HQF.out]; rfl, HB2.out⟩
        | true =>
          have huu := HUN.out.1 (HU.out.1 rfl)
          have hsl := HUL.out huu
          have hlk := HP1.out.look hsl
          obtain ⟨nb, hnb⟩ : ∃ nb, decide (s.data.toList ∈ ns) = nb := ⟨_, rfl⟩
          rw [hnb] at hlk
          have hnb2 := hnb
          rw [HNM.out] at hnb2
          have HNB := Lib.hid hnb2
          clear hnb hnb2
          have HUU := Lib.hid huu
          clear huu
          cases nb with
          | true =>
            have HQF := Lib.hid (HNO.out fun h => h.2.1 (of_decide_eq_true HNB.out))
            go_wp2
            go_ret
            exact ⟨by rw [show q = false from HQF.out]; rfl, HB2.out⟩
          | false =>
            by_cases hv0 : vr < 0
            · have HQF := Lib.hid (HNO.out fun h => by omega)
              go_wp2
              go_ret
              exact ⟨by rw [show q = false from HQF.out]; rfl, HB2.out⟩
            by_cases hv6 : 6 < vr
            · have HQF := Lib.hid (HNO.out fun h => by omega)
              go_wp2
              go_ret
              exact ⟨by rw [show q = false from HQF.out]; rfl, HB2.out⟩
            obtain ⟨w3, hput, hm3, hg3⟩ := HP1.out.put (by unfold maxLen; omega) hsl
            rw [HNM.out] at hm3
            have HP3 := Lib.hid hm3
            have HP4 := Lib.hid (HP2.out.grown hg3 (by simp))
            have HB3 : Hid (Below w.heap.size w w3) := HB2.out.grown hg3 HB2.out.size (fun j hj => by cases hj; exact Nat.le_refl _)
            have k2 := cell_below e2 HB3.out hb
            have hbr3 : b < w3.heap.size := by have := HB3.out.size; omega
            clear hm3 hg3 HP1 HP2
            go_upto_region 10 with (fail)
            clear d0 d1 d2 hlk hput
            by_cases hl1 : len' < 1
            · have HQF := Lib.hid (HNO.out fun h => by omega)
              go_wp2
              go_ret
              exact ⟨by rw [show q = false from HQF.out]; rfl, HB3.out⟩
            by_cases hl8 : 8 < len'
            · have HQF := Lib.hid (HNO.out fun h => by omega)
              go_wp2
              go_ret
              exact ⟨by rw [show q = false from HQF.out]; rfl, HB3.out⟩
            have hyes := HYES.out ⟨HUU.out, by have := HNB.out; simpa using this, by omega, by omega, by omega, by omega⟩
            have HY := Lib.hid hyes
            clear hyes
            obtain ⟨r0, hr0⟩ : ∃ r, consGo dat i vr cs cons = r := ⟨_, rfl⟩
            rw [hr0] at HY
            have HR0 := Lib.hid hr0
            clear hr0
            go_wp2
            go_loopw [78] (fun jv wr => ∃ (j : Nat) (cs' : List (List UInt8)) (m2 : Nat), j ≤ len' ∧ jv = .int .i64 j ∧ Hid (consGo dat i vr cs' (cons.drop j) = r0) ∧ Hid (MapB wr w.heap.size (i + 1) (nm :: ns)) ∧ m2 ≤ 8 * i + j ∧ Hid (MapB wr (w.heap.size + 1) m2 cs') ∧ Hid (Below w.heap.size w wr)) (fun jv _ => len' - (intOf jv).toNat)
            case atStart => exact ⟨0, cs, n2, by omega, rfl, HR0, HP3, by omega, HP4, HB3⟩
            case round =>
              obtain ⟨j, cs', m2, hj, rfl, HV2, HM3, hm2, HM4, HB4⟩ := hrel
              by_cases hjl : j < len'
              · have hjc : j < cons.length := by have := HCL.out; omega
                obtain ⟨bc, offc, sc, Ac, al, ac, rfl, hbc, f0, f1, hcn, hargs⟩ := HCS.out.get (i := j) hjc
                have hva := HVA.out j (by have := HCL.out; omega)
                have hv := HV2.out
                rw [List.drop_eq_getElem_cons hjc] at hv
                have hno : ¬ (Un cons[j].name ∧ cons[j].name ∉ cs' ∧ argsOk dat i vr cons[j].args = true) → r0 = none := fun h => by rw [← hv, consGo_no h]
                have hyes : (Un cons[j].name ∧ cons[j].name ∉ cs' ∧ argsOk dat i vr cons[j].args = true) → Hid (consGo dat i vr (cons[j].name :: cs') (cons.drop (j + 1)) = r0) := fun h => by show _ = r0; rw [← hv, consGo_yes h]
                obtain ⟨ao, hao⟩ : ∃ x, argsOk dat i vr cons[j].args = x := ⟨_, rfl⟩
                rw [hao] at hva hno hyes
                have hun := un_of hcn
                have hul := fun h => Un.len hcn h
                generalize cons[j].name = cn at *
                have HNO2 := Lib.hid hno
                have HYES2 := Lib.hid hyes
                have HUN2 := Lib.hid hun
                have HUL2 := Lib.hid hul
                have HNM2 := Lib.hid hcn
                have HVA2 := Lib.hid hva
                clear hv hno hyes hun hul hcn hva hargs hao
                have g0 := cell_below f0 HB4.out hbc
                have g1 := cell_below f1 HB4.out hbc
                have hbcr : bc < wr.heap.size := by have := HB4.out.size; omega
                obtain ⟨w4, hw4⟩ : ∃ w4, w4 = wr.alloc (.cells #[.string sc, .slice Ac al ac] 87) := ⟨_, rfl⟩
                have hb4 : Below wr.heap.size wr w4 := by rw [hw4]; exact (Below.refl _ _).alloc (Nat.le_refl _) _
                have HX4 : Hid (Bk w4 wr.heap.size 87 #[.string sc, .slice Ac al ac]) := by rw [hw4]; exact Bk.new _ _ _
                have HM5 := Lib.hid (HM3.out.below hb4)
                have HM6 := Lib.hid (HM4.out.below hb4)
                have HB5 := Lib.hid (HB4.out.trans (hb4.mono HB4.out.size))
                go_upto_region 15 with (fail)
                rw [← hw4]
                clear hw4 hb4 g0 g1
                obtain ⟨hx4, _, _⟩ := HX4.out.facts
                go_wp2_with fail
                refine (KU.out sc _).mono ?_
                rintro e w5 ⟨ub, rfl, hu, hb5⟩
                have HB6 := Lib.hid (HB5.out.trans (hb5.mono HB5.out.size))
                have HX5 := Lib.hid (HX4.out.below hb5 HX4.out.lt)
                have HM7 := Lib.hid (HM5.out.below hb5)
                have HM8 := Lib.hid (HM6.out.below hb5)
                have HU2 := Lib.hid hu
                clear hb5 hu hx4
                obtain ⟨hx5, _, _⟩ := HX5.out.facts
                have HQN : Hid (r0 = none → q = false) := fun h => by rw [HY.out, h]
                cases ub with
                | false =>
                  have HQF := Lib.hid (HQN.out (HNO2.out fun h => by have := HU2.out.2 (HUN2.out.2 h.1); cases this))
                  go_wp2
                  go_ret
                  exact ⟨by rw [show q = false from HQF.out]; rfl, HB6.out⟩
                | true =>
                  have huu := HUN2.out.1 (HU2.out.1 rfl)
                  have hsl2 := HUL2.out huu
                  have hlk := HM8.out.look hsl2
                  obtain ⟨nb, hnb⟩ : ∃ nb, decide (sc.data.toList ∈ cs') = nb := ⟨_, rfl⟩
                  rw [hnb] at hlk
                  have hnb2 := hnb
                  rw [HNM2.out] at hnb2
                  have HNB2 := Lib.hid hnb2
                  clear hnb hnb2
                  have HUU2 := Lib.hid huu
                  clear huu
                  cases nb with
                  | true =>
                    have HQF := Lib.hid (HQN.out (HNO2.out fun h => h.2.1 (of_decide_eq_true HNB2.out)))
                    go_wp2
                    go_ret
                    exact ⟨by rw [show q = false from HQF.out]; rfl, HB6.out⟩
                  | false =>
                    go_wp2_with fail
                    refine (HVA2.out _ HB6.out).mono ?_
                    rintro e w6 ⟨rfl, hb6⟩
                    have HB7 := Lib.hid (HB6.out.trans (hb6.mono HB6.out.size))
                    have HX6 := Lib.hid (HX5.out.below hb6 HX5.out.lt)
                    have HM9 := Lib.hid (HM7.out.below hb6)
                    have HM10 := Lib.hid (HM8.out.below hb6)
                    clear hb6 hx5 hlk
                    obtain ⟨hx6, _, _⟩ := HX6.out.facts
                    cases ao with
                    | false =>
                      have HQF := Lib.hid (HQN.out (HNO2.out fun h => by cases h.2.2))
                      go_wp2
                      go_ret
                      exact ⟨by rw [show q = false from HQF.out]; rfl, HB7.out⟩
                    | true =>
                      obtain ⟨w7, hput, hm3, hg3⟩ := HM10.out.put (by unfold maxLen; omega) hsl2
                      rw [HNM2.out] at hm3
                      have HM12 := Lib.hid hm3
                      have HM11 := Lib.hid (HM9.out.grown hg3 (by simp))
                      have HB8 : Hid (Below w.heap.size w w7) := HB7.out.grown hg3 HB7.out.size (fun j hj => by cases hj; omega)
                      have HV3 := HYES2.out ⟨HUU2.out, by have := HNB2.out; simpa using this, rfl⟩
                      clear hm3 hg3
                      go_wp2
                      go_roundw
                      case rel => exact ⟨j + 1, cn :: cs', m2 + 1, by omega, by go_num, HV3, HM11, by omega, HM12, HB8⟩
                      case measure => simp [intOf]; omega
              · obtain rfl : j = len' := by omega
                have hr : some cs' = r0 := by
                  rw [← HV2.out, List.drop_eq_nil_of_le (by have := HCL.out; omega), consGo]
                have HV4 : Hid (dataGo dat (i + 1) (nm :: ns) cs' (dat.drop (i + 1)) = q) := by
                  show _ = q
                  rw [HY.out, ← hr]
                clear hr
                go_wp2
                go_roundw
                case rel => exact ⟨i + 1, nm :: ns, cs', m2, by omega, by go_num, HV4, HM3, by omega, HM4, HB4⟩
                case measure => simp [intOf]; omega
      · obtain rfl : i = dl := by omega
        have hqt : q = true := by
          rw [← HV.out, List.drop_eq_nil_of_le (by have := HDL.out; omega), dataGo]
        have HQT := Lib.hid hqt
        clear hqt
        go_wp2
        go_ret
        exact ⟨by rw [show q = true from HQT.out]; rfl, HB.out⟩
  · have h12i : (12 : Int) < (dl : Int) := by omega
    have hqf : q = false := by
      rw [← HQ.out, dataOk, decide_eq_false (by have := HDL.out; omega), Bool.false_and]
    have HQF := Lib.hid hqf
    clear hqf
    go_wp2
    go_ret
    exact ⟨by rw [show q = false from HQF.out]; rfl, Below.refl _ _⟩
end Go.Proofs.YtdbiedpdibjdlaaGreat

