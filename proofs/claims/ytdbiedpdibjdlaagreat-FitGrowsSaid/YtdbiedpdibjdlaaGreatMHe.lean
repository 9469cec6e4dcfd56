/-
  validArgs: are the arguments of a constructor valid? (printed by gen_va.py)
-/
import Derived.Test.YtdbiedpdibjdlaaGreatMHc
import Derived.Test.YtdbiedpdibjdlaaGreatMHd
import Derived.Test.YtdbiedpdibjdlaaGreatMGm
namespace Go.Proofs.YtdbiedpdibjdlaaGreat
open Go.RowKit AC
set_option linter.unusedVariables false
set_option linter.unusedSimpArgs false
section
variable {P : Program} {ops : Array Oper} {Q : Exit → Act → World → Prop}
theorem opOk_skippedU {i j : Nat} {want : Bool} {o : Oper} {I : Act → World → Prop} {a : Act} {w : World} (ho : ops[i]? = some o) (hg : o.guard = some (j, want)) (t : Nat) (hd : (ops[j]?).bind (·.dst) = some t) (hv : a.tmps[t]? = some undef)
    (h : I (a.put o.dst undef) w) : opOk P ops Q i I a w := by
  refine opOk.of ?_
  have hy : yielded ops a.tmps j = none := by
    unfold yielded
    rw [hd]
    show (match a.tmps[t]? with | some (.bool b) => some b | _ => none) = none
    rw [hv]
    rfl
  unfold wpOp
  rw [ho]
  have : ((none : Option Bool) == some want) = false := rfl
  simp only [Region.wanted, hg, hy, this]
  exact h
end
/-- Is an argument valid? -/
def argOk (dat : List DaD) (d : Nat) (vr : Int) (a : Tr) : Bool := (validT (dat.take (d + 1)) vr 200 a).isSome && (recD d vr a || !ment d a)
def argsOk (dat : List DaD) (d : Nat) (vr : Int) (l : List Tr) : Bool := decide (l.length ≤ 6) && l.all (argOk dat d vr)
set_option maxHeartbeats 16000000 in
set_option maxRecDepth 100000 in
theorem validArgs_any {D : Nat → Prop} {dat : List DaD} {A : Option Addr} {dl dc : Nat} (d c : Nat) (hd : d < dat.length) (hc : c < dat[d].cons.length) (w : World) (hD : DaS w D dat A dl dc) :
    Calls Tryz.prog 93 #[.slice A dl dc, .int .i64 (d : Int), .int .i64 (c : Int)] w (RetV (.bool (argsOk dat d dat[d].vars dat[d].cons[c].args)) w) := by
  have HREC := Lib.hid fun h6 => recursive_any d c hd hc h6 w hD
  obtain ⟨b, off, s, A', len', cap', rfl, hb, e0, e1, e2, hname, hvr, hcs⟩ := hD.get (i := d) hd
  obtain ⟨bc, offc, sc, Ac, al, ac, rfl, hbc, f0, f1, hcn, hargs⟩ := hcs.get (i := c) hc
  have hdl : dl = dat.length := hD.1
  have hdlc := hD.2.1
  have hdcap : dc ≤ maxLen := hD.2.2.1
  have hcl : len' = dat[d].cons.length := hcs.1
  have hclc := hcs.2.1
  have hccap : cap' ≤ maxLen := hcs.2.2.1
  unfold maxLen at hdcap hccap
  have hd2 : d < dl := by omega
  have hc2 : c < len' := by omega
  have HTAKE := Lib.hid (hD.take (n := d + 1) (by omega))
  generalize dat[d].cons[c].args = args at *
  generalize dat[d].vars = vr at *
  have HVAL := Lib.hid fun (a : Tr) (v : List Value) (x : World) (hx : Below w.heap.size w x) (D' : Nat → Prop) (hr : TrR x D' a v) => tvalid_any hvr a x v hr (HTAKE.out.below hx)
  unfold rng at hvr
  have hal : al = args.length := hargs.1
  have halc := hargs.2.1
  have hacap : ac ≤ maxLen := hargs.2.2.1
  unfold maxLen at hacap
  have HARGS := Lib.hid hargs
  have HAL := Lib.hid hal
  have hdi : (0 : Int) ≤ d := by omega
  have hci : (0 : Int) ≤ c := by omega
  have hdi2 : (d : Int) < dl := by omega
  have hci2 : (c : Int) < len' := by omega
  obtain ⟨q, hq⟩ : ∃ q, argsOk dat d vr args = q := ⟨_, rfl⟩
  rw [hq]
  have HQ := Lib.hid hq
  clear hargs hal hcs hcn hname f0 e0 hq hdl hcl
  go_enter Tryz.func93, Tryz.ntmps93
  by_cases h6 : al ≤ 6
  · have h6i : ¬ (6 : Int) < (al : Int) := by omega
    have h6n : args.length ≤ 6 := by have := HAL.out; omega
    have hq2 : q = args.all (argOk dat d vr) := by
      rw [← HQ.out, argsOk, decide_eq_true h6n, Bool.true_and]
    have HQ2 := Lib.hid hq2
    have KREC := Lib.hid (HREC.out (by omega))
    clear hq2 hD HREC
    go_wp2_with fail
    refine KREC.out.mono ?_
    rintro e w1 ⟨Z, rfl, hbs, hb1⟩
    have hzl : (args.map (recD d vr)).length = al := by rw [List.length_map, HAL.out]
    rw [hzl] at hbs ⊢
    have HBS := Lib.hid hbs
    have HB1 := Lib.hid hb1
    clear hbs hb1
    go_wp2
    go_loopw [29] (fun iv wr => ∃ i : Nat, i ≤ al ∧ iv = .int .i64 i ∧ Hid ((args.take i).all (argOk dat d vr) = true) ∧ Hid (Below w1.heap.size w1 wr)) (fun iv _ => al - (intOf iv).toNat)
    case atStart => exact ⟨0, by omega, rfl, by simp [Hid], Below.refl _ _⟩
    case round =>
      obtain ⟨i, hi, rfl, HL, HB⟩ := hrel
      have HBW := Lib.hid (HB1.out.trans (HB.out.mono HB1.out.size))
      by_cases hlt : i < al
      · have hil : i < args.length := by have := HAL.out; omega
        obtain ⟨b2, off2, A2, len2, cap2, rfl, hb2, e3, e4, e5, hrk⟩ := (HARGS.out.below HBW.out).get (i := i) hil
        have HOK : Hid (argOk dat d vr args[i] = true → Hid ((args.take (i + 1)).all (argOk dat d vr) = true)) := fun h => by
          show _ = true
          rw [List.take_succ_eq_append_getElem hil, List.all_append, show (args.take i).all (argOk dat d vr) = true from HL.out]
          simp [h]
        have HFAIL : Hid (argOk dat d vr args[i] = false → q = false) := fun h => by
          rw [HQ2.out]
          cases hx : args.all (argOk dat d vr) with
          | false => rfl
          | true =>
            rw [List.all_eq_true] at hx
            have := hx _ (List.getElem_mem hil)
            rw [h] at this
            cases this
        unfold argOk at HOK HFAIL
        obtain ⟨zb, zo, rfl, _, hzb, hzc⟩ := HBS.out.2 (by omega)
        replace hzc := hzc i hlt
        have hrb : (args.map (recD d vr)).getD i false = recD d vr args[i] := by rw [List.getD_eq_getElem?_getD, List.getElem?_map, List.getElem?_eq_getElem hil]; rfl
        rw [hrb] at hzc
        clear hrb
        obtain ⟨y0, hy0⟩ : ∃ x, args[i].k = x := ⟨_, rfl⟩
        obtain ⟨y1, hy1⟩ : ∃ x, args[i].m = x := ⟨_, rfl⟩
        rw [hy0] at e3 hrk
        rw [hy1] at e4 hrk
        clear hy0 hy1
        obtain ⟨wi, hwi⟩ : ∃ wi, wi = wr.alloc (.cells #[.int .i64 y0, .int .i64 y1, .slice A2 len2 cap2] 25) := ⟨_, rfl⟩
        have hbi : Below wr.heap.size wr wi := by rw [hwi]; exact (Below.refl _ _).alloc (Nat.le_refl _) _
        have HBX : Hid (Bk wi wr.heap.size 25 #[.int .i64 y0, .int .i64 y1, .slice A2 len2 cap2]) := by rw [hwi]; exact Bk.new _ _ _
        have HRK := Lib.hid (hrk.below hbi)
        have HBJ := Lib.hid (HB.out.trans (hbi.mono HB.out.size))
        have HBI := Lib.hid (HBW.out.trans (hbi.mono HBW.out.size))
        have HMENT := Lib.hid fun (v : List Value) (x : World) (hr : TrR x D args[i] v) => ment_any args[i].size D args[i] d x v (Nat.le_refl _) hr
        replace HVAL := Lib.hid fun (v : List Value) (x : World) (hx : Below w.heap.size w x) (hr : TrR x D args[i] v) => HVAL.out args[i] v x hx D hr
        obtain ⟨vb, hvb⟩ : ∃ x, (validT (dat.take (d + 1)) vr 200 args[i]).isSome = x := ⟨_, rfl⟩
        obtain ⟨rb, hrb⟩ : ∃ x, recD d vr args[i] = x := ⟨_, rfl⟩
        obtain ⟨mb, hmb⟩ : ∃ x, ment d args[i] = x := ⟨_, rfl⟩
        have HVB := Lib.hid hvb
        have HRB := Lib.hid hrb
        have HMB := Lib.hid hmb
        rw [hrb] at hzc
        simp only [hvb] at HVAL
        simp only [hmb] at HMENT
        clear hrk hbi hvb hrb hmb
        go_upto_region 8 with (fail)
        rw [← hwi]
        clear hwi
        cases vb with
        | false =>
          refine wp_region_facts (by kernel_rfl) (by kernel_rfl) [34, 35, 36, 37, 38, 39, 40, 41, 42, 43, 44, 45, 46, 47, 48, 49, 50, 51, 52, 53, 54, 55, 56] 40 (by kernel_rfl) (fun io v x => match io with
            | 0 => v = .slice (some ⟨b, off, none⟩) dl dc
            | 1 => v = .int .i64 (d : Int)
            | 2 => v = .int .i64 ((d : Int) + 1)
            | 3 => v = .slice (some ⟨b, off, none⟩) (d + 1) dc
            | 4 => v = .agg #[.int .i64 y0, .int .i64 y1, .slice A2 len2 cap2]
            | 5 => v = .slice (some ⟨b, off, none⟩) dl dc
            | 6 => v = .int .i64 (d : Int)
            | 7 => v = .pointer (some ⟨b, off + d * 3, none⟩)
            | 8 => v = .pointer (some ⟨b, off + d * 3 + 1, none⟩)
            | 9 => v = .int .i64 vr
            | 10 => v = .bool false
            | 11 => v = .bool true
            | 12 => v = .bool true
            | 13 => v = undef
            | 14 => v = undef
            | 15 => v = undef
            | 16 => v = undef
            | 17 => v = undef
            | 18 => v = undef
            | 19 => v = undef
            | 20 => v = undef
            | 21 => v = undef
            | _ => v = undef) ?_ ?_ ?_
          · intro io v x x' hio h hb
            rcases io with _ | _ | _ | _ | _ | _ | _ | _ | _ | _ | _ | _ | _ | _ | _ | _ | _ | _ | _ | _ | _ | _ | io
            · exact h
            · exact h
            · exact h
            · exact h
            · exact h
            · exact h
            · exact h
            · exact h
            · exact h
            · exact h
            · exact h
            · exact h
            · exact h
            · exact h
            · exact h
            · exact h
            · exact h
            · exact h
            · exact h
            · exact h
            · exact h
            · exact h
            · exact h
          · intro io oo S x ho hio hbx hdep
            rcases io with _ | _ | _ | _ | _ | _ | _ | _ | _ | _ | _ | _ | _ | _ | _ | _ | _ | _ | _ | _ | _ | _ | _ | io
            · cases ho
              refine opOk_h rfl rfl fun KK HK => ?_
              clear hdep hio
              simp only [nv, Nat.reduceAdd] at HK ⊢
              go_wp2
              exact HK.out _ _ ⟨_, rfl, rfl, Below.refl _ _⟩
            · cases ho
              refine opOk_h rfl rfl fun KK HK => ?_
              clear hdep hio
              simp only [nv, Nat.reduceAdd] at HK ⊢
              go_wp2
              exact HK.out _ _ ⟨_, rfl, rfl, Below.refl _ _⟩
            · cases ho
              have h1 : S 1 = .int .i64 (d : Int) := hdep 1 (by kernel_rfl) (by decide)
              refine opOk_h rfl rfl fun KK HK => ?_
              clear hdep hio
              simp only [nv, Nat.reduceAdd] at HK ⊢
              generalize S 1 = t1 at *
              subst h1
              go_wp2
              exact HK.out _ _ ⟨_, rfl, rfl, Below.refl _ _⟩
            · cases ho
              have h0 : S 0 = .slice (some ⟨b, off, none⟩) dl dc := hdep 0 (by kernel_rfl) (by decide)
              have h2 : S 2 = .int .i64 ((d : Int) + 1) := hdep 2 (by kernel_rfl) (by decide)
              refine opOk_h rfl rfl fun KK HK => ?_
              clear hdep hio
              simp only [nv, Nat.reduceAdd] at HK ⊢
              generalize S 0 = t0 at *
              subst h0
              generalize S 2 = t2 at *
              subst h2
              go_wp2
              exact HK.out _ _ ⟨_, rfl, rfl, Below.refl _ _⟩
            · cases ho
              have cc := (HBX.out.below hbx HBX.out.lt).facts.1
              refine opOk_h rfl rfl fun KK HK => ?_
              clear hdep hio
              simp only [nv, Nat.reduceAdd] at HK ⊢
              go_wp2
              exact HK.out _ _ ⟨_, rfl, rfl, Below.refl _ _⟩
            · cases ho
              refine opOk_h rfl rfl fun KK HK => ?_
              clear hdep hio
              simp only [nv, Nat.reduceAdd] at HK ⊢
              go_wp2
              exact HK.out _ _ ⟨_, rfl, rfl, Below.refl _ _⟩
            · cases ho
              refine opOk_h rfl rfl fun KK HK => ?_
              clear hdep hio
              simp only [nv, Nat.reduceAdd] at HK ⊢
              go_wp2
              exact HK.out _ _ ⟨_, rfl, rfl, Below.refl _ _⟩
            · cases ho
              have h5 : S 5 = .slice (some ⟨b, off, none⟩) dl dc := hdep 5 (by kernel_rfl) (by decide)
              have h6 : S 6 = .int .i64 (d : Int) := hdep 6 (by kernel_rfl) (by decide)
              refine opOk_h rfl rfl fun KK HK => ?_
              clear hdep hio
              simp only [nv, Nat.reduceAdd] at HK ⊢
              generalize S 5 = t5 at *
              subst h5
              generalize S 6 = t6 at *
              subst h6
              go_wp2
              exact HK.out _ _ ⟨_, rfl, rfl, Below.refl _ _⟩
            · cases ho
              have h7 : S 7 = .pointer (some ⟨b, off + d * 3, none⟩) := hdep 7 (by kernel_rfl) (by decide)
              refine opOk_h rfl rfl fun KK HK => ?_
              clear hdep hio
              simp only [nv, Nat.reduceAdd] at HK ⊢
              generalize S 7 = t7 at *
              subst h7
              go_wp2
              exact HK.out _ _ ⟨_, rfl, rfl, Below.refl _ _⟩
            · cases ho
              have h8 : S 8 = .pointer (some ⟨b, off + d * 3 + 1, none⟩) := hdep 8 (by kernel_rfl) (by decide)
              have cc := cell_below e1 (HBI.out.trans (hbx.mono HBI.out.size)) hb
              refine opOk_h rfl rfl fun KK HK => ?_
              clear hdep hio
              simp only [nv, Nat.reduceAdd] at HK ⊢
              generalize S 8 = t8 at *
              subst h8
              go_wp2
              exact HK.out _ _ ⟨_, rfl, rfl, Below.refl _ _⟩
            · cases ho
              have h3 : S 3 = .slice (some ⟨b, off, none⟩) (d + 1) dc := hdep 3 (by kernel_rfl) (by decide)
              have h4 : S 4 = .agg #[.int .i64 y0, .int .i64 y1, .slice A2 len2 cap2] := hdep 4 (by kernel_rfl) (by decide)
              have h9 : S 9 = .int .i64 vr := hdep 9 (by kernel_rfl) (by decide)
              have KEY := Lib.hid (HVAL.out _ _ (HBI.out.trans (hbx.mono HBI.out.size)) (HRK.out.below hbx))
              refine opOk_h rfl rfl fun KK HK => ?_
              clear hdep hio
              simp only [nv, Nat.reduceAdd] at HK ⊢
              generalize S 3 = t3 at *
              subst h3
              generalize S 4 = t4 at *
              subst h4
              generalize S 9 = t9 at *
              subst h9
              go_wp2_with fail
              refine (KEY.out).mono ?_
              rintro e xN ⟨rfl, hbN⟩
              exact HK.out _ _ ⟨_, rfl, rfl, hbN⟩
            · cases ho
              have h10 : (S 10) = .bool false := hdep 10 (by kernel_rfl) (by decide)
              refine opOk_h rfl rfl fun KK HK => ?_
              clear hdep hio
              simp only [nv, Nat.reduceAdd] at HK ⊢
              generalize S 10 = t10 at *
              subst h10
              go_wp2
              exact HK.out _ _ ⟨_, rfl, rfl, Below.refl _ _⟩
            · cases ho
              have h11 : S 11 = .bool true := hdep 11 (by kernel_rfl) (by decide)
              refine opOk_h rfl rfl fun KK HK => ?_
              clear hdep hio
              simp only [nv, Nat.reduceAdd] at HK ⊢
              generalize S 11 = t11 at *
              subst h11
              go_wp2
              exact HK.out _ _ ⟨_, rfl, rfl, Below.refl _ _⟩
            · cases ho
              have h12 : S 12 = .bool true := hdep 12 (by kernel_rfl) (by decide)
              exact opOk_skipped rfl rfl 46 (by kernel_rfl) (by simp only [nv, Nat.reduceAdd, h12, List.getElem?_toArray, List.getElem?_cons_succ, List.getElem?_cons_zero]; rfl) ⟨_, rfl, rfl, Below.refl _ _⟩
            · cases ho
              have h12 : S 12 = .bool true := hdep 12 (by kernel_rfl) (by decide)
              exact opOk_skipped rfl rfl 46 (by kernel_rfl) (by simp only [nv, Nat.reduceAdd, h12, List.getElem?_toArray, List.getElem?_cons_succ, List.getElem?_cons_zero]; rfl) ⟨_, rfl, rfl, Below.refl _ _⟩
            · cases ho
              have h12 : S 12 = .bool true := hdep 12 (by kernel_rfl) (by decide)
              exact opOk_skipped rfl rfl 46 (by kernel_rfl) (by simp only [nv, Nat.reduceAdd, h12, List.getElem?_toArray, List.getElem?_cons_succ, List.getElem?_cons_zero]; rfl) ⟨_, rfl, rfl, Below.refl _ _⟩
            · cases ho
              have h12 : S 12 = .bool true := hdep 12 (by kernel_rfl) (by decide)
              exact opOk_skipped rfl rfl 46 (by kernel_rfl) (by simp only [nv, Nat.reduceAdd, h12, List.getElem?_toArray, List.getElem?_cons_succ, List.getElem?_cons_zero]; rfl) ⟨_, rfl, rfl, Below.refl _ _⟩
            · cases ho
              have h12 : S 12 = .bool true := hdep 12 (by kernel_rfl) (by decide)
              exact opOk_skipped rfl rfl 46 (by kernel_rfl) (by simp only [nv, Nat.reduceAdd, h12, List.getElem?_toArray, List.getElem?_cons_succ, List.getElem?_cons_zero]; rfl) ⟨_, rfl, rfl, Below.refl _ _⟩
            · cases ho
              have h12 : S 12 = .bool true := hdep 12 (by kernel_rfl) (by decide)
              exact opOk_skipped rfl rfl 46 (by kernel_rfl) (by simp only [nv, Nat.reduceAdd, h12, List.getElem?_toArray, List.getElem?_cons_succ, List.getElem?_cons_zero]; rfl) ⟨_, rfl, rfl, Below.refl _ _⟩
            · cases ho
              have h18 : S 18 = undef := hdep 18 (by kernel_rfl) (by decide)
              exact opOk_skippedU rfl rfl 52 (by kernel_rfl) (by simp only [nv, Nat.reduceAdd, h18, List.getElem?_toArray, List.getElem?_cons_succ, List.getElem?_cons_zero]) ⟨_, rfl, rfl, Below.refl _ _⟩
            · cases ho
              have h18 : S 18 = undef := hdep 18 (by kernel_rfl) (by decide)
              exact opOk_skippedU rfl rfl 52 (by kernel_rfl) (by simp only [nv, Nat.reduceAdd, h18, List.getElem?_toArray, List.getElem?_cons_succ, List.getElem?_cons_zero]) ⟨_, rfl, rfl, Below.refl _ _⟩
            · cases ho
              have h18 : S 18 = undef := hdep 18 (by kernel_rfl) (by decide)
              exact opOk_skippedU rfl rfl 52 (by kernel_rfl) (by simp only [nv, Nat.reduceAdd, h18, List.getElem?_toArray, List.getElem?_cons_succ, List.getElem?_cons_zero]) ⟨_, rfl, rfl, Below.refl _ _⟩
            · cases ho
              have h12 : S 12 = .bool true := hdep 12 (by kernel_rfl) (by decide)
              exact opOk_skipped rfl rfl 46 (by kernel_rfl) (by simp only [nv, Nat.reduceAdd, h12, List.getElem?_toArray, List.getElem?_cons_succ, List.getElem?_cons_zero]; rfl) ⟨_, rfl, rfl, Below.refl _ _⟩
            · exact absurd hio (by simp)
          · intro S x hbx hF
            have g0 : S 0 = .slice (some ⟨b, off, none⟩) dl dc := hF 0 (by decide)
            have g1 : S 1 = .int .i64 (d : Int) := hF 1 (by decide)
            have g2 : S 2 = .int .i64 ((d : Int) + 1) := hF 2 (by decide)
            have g3 : S 3 = .slice (some ⟨b, off, none⟩) (d + 1) dc := hF 3 (by decide)
            have g4 : S 4 = .agg #[.int .i64 y0, .int .i64 y1, .slice A2 len2 cap2] := hF 4 (by decide)
            have g5 : S 5 = .slice (some ⟨b, off, none⟩) dl dc := hF 5 (by decide)
            have g6 : S 6 = .int .i64 (d : Int) := hF 6 (by decide)
            have g7 : S 7 = .pointer (some ⟨b, off + d * 3, none⟩) := hF 7 (by decide)
            have g8 : S 8 = .pointer (some ⟨b, off + d * 3 + 1, none⟩) := hF 8 (by decide)
            have g9 : S 9 = .int .i64 vr := hF 9 (by decide)
            have g10 : (S 10) = .bool false := hF 10 (by decide)
            have g11 : S 11 = .bool true := hF 11 (by decide)
            have g12 : S 12 = .bool true := hF 12 (by decide)
            have g13 : S 13 = undef := hF 13 (by decide)
            have g14 : S 14 = undef := hF 14 (by decide)
            have g15 : S 15 = undef := hF 15 (by decide)
            have g16 : S 16 = undef := hF 16 (by decide)
            have g17 : S 17 = undef := hF 17 (by decide)
            have g18 : S 18 = undef := hF 18 (by decide)
            have g19 : S 19 = undef := hF 19 (by decide)
            have g20 : S 20 = undef := hF 20 (by decide)
            have g21 : S 21 = undef := hF 21 (by decide)
            have g22 : S 22 = undef := hF 22 (by decide)
            clear hF
            simp only [nv, Nat.reduceAdd, List.length_cons, List.length_nil, List.drop_succ_cons, List.drop_zero]
            generalize S 0 = t0 at *
            subst g0
            generalize S 1 = t1 at *
            subst g1
            generalize S 2 = t2 at *
            subst g2
            generalize S 3 = t3 at *
            subst g3
            generalize S 4 = t4 at *
            subst g4
            generalize S 5 = t5 at *
            subst g5
            generalize S 6 = t6 at *
            subst g6
            generalize S 7 = t7 at *
            subst g7
            generalize S 8 = t8 at *
            subst g8
            generalize S 9 = t9 at *
            subst g9
            generalize S 10 = t10 at *
            generalize S 11 = t11 at *
            subst g11
            generalize S 12 = t12 at *
            subst g12
            generalize S 13 = t13 at *
            subst g13
            generalize S 14 = t14 at *
            subst g14
            generalize S 15 = t15 at *
            subst g15
            generalize S 16 = t16 at *
            subst g16
            generalize S 17 = t17 at *
            subst g17
            generalize S 18 = t18 at *
            subst g18
            generalize S 19 = t19 at *
            subst g19
            generalize S 20 = t20 at *
            subst g20
            generalize S 21 = t21 at *
            subst g21
            generalize S 22 = t22 at *
            subst g22
            have HBE := Lib.hid (HBI.out.trans (hbx.mono HBI.out.size))
            have HBF := Lib.hid (HBJ.out.trans (hbx.mono HBJ.out.size))
            clear hbx
            go_wp2
            go_ret
            exact ⟨by rw [show q = false from HFAIL.out (by rw [show (validT (dat.take (d + 1)) vr 200 args[i]).isSome = false from HVB.out]; rfl)]; rfl, HBE.out⟩
        | true =>
          cases rb with
          | true =>
            refine wp_region_facts (by kernel_rfl) (by kernel_rfl) [34, 35, 36, 37, 38, 39, 40, 41, 42, 43, 44, 45, 46, 47, 48, 49, 50, 51, 52, 53, 54, 55, 56] 40 (by kernel_rfl) (fun io v x => match io with
              | 0 => v = .slice (some ⟨b, off, none⟩) dl dc
              | 1 => v = .int .i64 (d : Int)
              | 2 => v = .int .i64 ((d : Int) + 1)
              | 3 => v = .slice (some ⟨b, off, none⟩) (d + 1) dc
              | 4 => v = .agg #[.int .i64 y0, .int .i64 y1, .slice A2 len2 cap2]
              | 5 => v = .slice (some ⟨b, off, none⟩) dl dc
              | 6 => v = .int .i64 (d : Int)
              | 7 => v = .pointer (some ⟨b, off + d * 3, none⟩)
              | 8 => v = .pointer (some ⟨b, off + d * 3 + 1, none⟩)
              | 9 => v = .int .i64 vr
              | 10 => v = .bool true
              | 11 => v = .bool false
              | 12 => v = .bool false
              | 13 => v = .slice (some ⟨zb, zo, none⟩) al al
              | 14 => v = .int .i64 (i : Int)
              | 15 => v = .pointer (some ⟨zb, zo + i, none⟩)
              | 16 => v = .bool true
              | 17 => v = .bool false
              | 18 => v = .bool false
              | 19 => v = undef
              | 20 => v = undef
              | 21 => v = undef
              | _ => v = .bool false) ?_ ?_ ?_
            · intro io v x x' hio h hb
              rcases io with _ | _ | _ | _ | _ | _ | _ | _ | _ | _ | _ | _ | _ | _ | _ | _ | _ | _ | _ | _ | _ | _ | io
              · exact h
              · exact h
              · exact h
              · exact h
              · exact h
              · exact h
              · exact h
              · exact h
              · exact h
              · exact h
              · exact h
              · exact h
              · exact h
              · exact h
              · exact h
              · exact h
              · exact h
              · exact h
              · exact h
              · exact h
              · exact h
              · exact h
              · exact h
            · intro io oo S x ho hio hbx hdep
              rcases io with _ | _ | _ | _ | _ | _ | _ | _ | _ | _ | _ | _ | _ | _ | _ | _ | _ | _ | _ | _ | _ | _ | _ | io
              · cases ho
                refine opOk_h rfl rfl fun KK HK => ?_
                clear hdep hio
                simp only [nv, Nat.reduceAdd] at HK ⊢
                go_wp2
                exact HK.out _ _ ⟨_, rfl, rfl, Below.refl _ _⟩
              · cases ho
                refine opOk_h rfl rfl fun KK HK => ?_
                clear hdep hio
                simp only [nv, Nat.reduceAdd] at HK ⊢
                go_wp2
                exact HK.out _ _ ⟨_, rfl, rfl, Below.refl _ _⟩
              · cases ho
                have h1 : S 1 = .int .i64 (d : Int) := hdep 1 (by kernel_rfl) (by decide)
                refine opOk_h rfl rfl fun KK HK => ?_
                clear hdep hio
                simp only [nv, Nat.reduceAdd] at HK ⊢
                generalize S 1 = t1 at *
                subst h1
                go_wp2
                exact HK.out _ _ ⟨_, rfl, rfl, Below.refl _ _⟩
              · cases ho
                have h0 : S 0 = .slice (some ⟨b, off, none⟩) dl dc := hdep 0 (by kernel_rfl) (by decide)
                have h2 : S 2 = .int .i64 ((d : Int) + 1) := hdep 2 (by kernel_rfl) (by decide)
                refine opOk_h rfl rfl fun KK HK => ?_
                clear hdep hio
                simp only [nv, Nat.reduceAdd] at HK ⊢
                generalize S 0 = t0 at *
                subst h0
                generalize S 2 = t2 at *
                subst h2
                go_wp2
                exact HK.out _ _ ⟨_, rfl, rfl, Below.refl _ _⟩
              · cases ho
                have cc := (HBX.out.below hbx HBX.out.lt).facts.1
                refine opOk_h rfl rfl fun KK HK => ?_
                clear hdep hio
                simp only [nv, Nat.reduceAdd] at HK ⊢
                go_wp2
                exact HK.out _ _ ⟨_, rfl, rfl, Below.refl _ _⟩
              · cases ho
                refine opOk_h rfl rfl fun KK HK => ?_
                clear hdep hio
                simp only [nv, Nat.reduceAdd] at HK ⊢
                go_wp2
                exact HK.out _ _ ⟨_, rfl, rfl, Below.refl _ _⟩
              · cases ho
                refine opOk_h rfl rfl fun KK HK => ?_
                clear hdep hio
                simp only [nv, Nat.reduceAdd] at HK ⊢
                go_wp2
                exact HK.out _ _ ⟨_, rfl, rfl, Below.refl _ _⟩
              · cases ho
                have h5 : S 5 = .slice (some ⟨b, off, none⟩) dl dc := hdep 5 (by kernel_rfl) (by decide)
                have h6 : S 6 = .int .i64 (d : Int) := hdep 6 (by kernel_rfl) (by decide)
                refine opOk_h rfl rfl fun KK HK => ?_
                clear hdep hio
                simp only [nv, Nat.reduceAdd] at HK ⊢
                generalize S 5 = t5 at *
                subst h5
                generalize S 6 = t6 at *
                subst h6
                go_wp2
                exact HK.out _ _ ⟨_, rfl, rfl, Below.refl _ _⟩
              · cases ho
                have h7 : S 7 = .pointer (some ⟨b, off + d * 3, none⟩) := hdep 7 (by kernel_rfl) (by decide)
                refine opOk_h rfl rfl fun KK HK => ?_
                clear hdep hio
                simp only [nv, Nat.reduceAdd] at HK ⊢
                generalize S 7 = t7 at *
                subst h7
                go_wp2
                exact HK.out _ _ ⟨_, rfl, rfl, Below.refl _ _⟩
              · cases ho
                have h8 : S 8 = .pointer (some ⟨b, off + d * 3 + 1, none⟩) := hdep 8 (by kernel_rfl) (by decide)
                have cc := cell_below e1 (HBI.out.trans (hbx.mono HBI.out.size)) hb
                refine opOk_h rfl rfl fun KK HK => ?_
                clear hdep hio
                simp only [nv, Nat.reduceAdd] at HK ⊢
                generalize S 8 = t8 at *
                subst h8
                go_wp2
                exact HK.out _ _ ⟨_, rfl, rfl, Below.refl _ _⟩
              · cases ho
                have h3 : S 3 = .slice (some ⟨b, off, none⟩) (d + 1) dc := hdep 3 (by kernel_rfl) (by decide)
                have h4 : S 4 = .agg #[.int .i64 y0, .int .i64 y1, .slice A2 len2 cap2] := hdep 4 (by kernel_rfl) (by decide)
                have h9 : S 9 = .int .i64 vr := hdep 9 (by kernel_rfl) (by decide)
                have KEY := Lib.hid (HVAL.out _ _ (HBI.out.trans (hbx.mono HBI.out.size)) (HRK.out.below hbx))
                refine opOk_h rfl rfl fun KK HK => ?_
                clear hdep hio
                simp only [nv, Nat.reduceAdd] at HK ⊢
                generalize S 3 = t3 at *
                subst h3
                generalize S 4 = t4 at *
                subst h4
                generalize S 9 = t9 at *
                subst h9
                go_wp2_with fail
                refine (KEY.out).mono ?_
                rintro e xN ⟨rfl, hbN⟩
                exact HK.out _ _ ⟨_, rfl, rfl, hbN⟩
              · cases ho
                have h10 : (S 10) = .bool true := hdep 10 (by kernel_rfl) (by decide)
                refine opOk_h rfl rfl fun KK HK => ?_
                clear hdep hio
                simp only [nv, Nat.reduceAdd] at HK ⊢
                generalize S 10 = t10 at *
                subst h10
                go_wp2
                exact HK.out _ _ ⟨_, rfl, rfl, Below.refl _ _⟩
              · cases ho
                have h11 : S 11 = .bool false := hdep 11 (by kernel_rfl) (by decide)
                refine opOk_h rfl rfl fun KK HK => ?_
                clear hdep hio
                simp only [nv, Nat.reduceAdd] at HK ⊢
                generalize S 11 = t11 at *
                subst h11
                go_wp2
                exact HK.out _ _ ⟨_, rfl, rfl, Below.refl _ _⟩
              · cases ho
                have h12 : S 12 = .bool false := hdep 12 (by kernel_rfl) (by decide)
                refine opOk_guarded rfl rfl 46 (by kernel_rfl) (by simp only [nv, Nat.reduceAdd, h12, List.getElem?_toArray, List.getElem?_cons_succ, List.getElem?_cons_zero]) fun KK hKK => ?_
                have HK := Lib.hid hKK
                clear hKK hdep hio
                simp only [nv, Nat.reduceAdd] at HK ⊢
                generalize S 12 = t12 at *
                subst h12
                go_wp2
                exact HK.out _ _ ⟨_, rfl, rfl, Below.refl _ _⟩
              · cases ho
                have h12 : S 12 = .bool false := hdep 12 (by kernel_rfl) (by decide)
                refine opOk_guarded rfl rfl 46 (by kernel_rfl) (by simp only [nv, Nat.reduceAdd, h12, List.getElem?_toArray, List.getElem?_cons_succ, List.getElem?_cons_zero]) fun KK hKK => ?_
                have HK := Lib.hid hKK
                clear hKK hdep hio
                simp only [nv, Nat.reduceAdd] at HK ⊢
                generalize S 12 = t12 at *
                subst h12
                go_wp2
                exact HK.out _ _ ⟨_, rfl, rfl, Below.refl _ _⟩
              · cases ho
                have h12 : S 12 = .bool false := hdep 12 (by kernel_rfl) (by decide)
                have h13 : S 13 = .slice (some ⟨zb, zo, none⟩) al al := hdep 13 (by kernel_rfl) (by decide)
                have h14 : S 14 = .int .i64 (i : Int) := hdep 14 (by kernel_rfl) (by decide)
                refine opOk_guarded rfl rfl 46 (by kernel_rfl) (by simp only [nv, Nat.reduceAdd, h12, List.getElem?_toArray, List.getElem?_cons_succ, List.getElem?_cons_zero]) fun KK hKK => ?_
                have HK := Lib.hid hKK
                clear hKK hdep hio
                simp only [nv, Nat.reduceAdd] at HK ⊢
                generalize S 12 = t12 at *
                subst h12
                generalize S 13 = t13 at *
                subst h13
                generalize S 14 = t14 at *
                subst h14
                go_wp2
                exact HK.out _ _ ⟨_, rfl, rfl, Below.refl _ _⟩
              · cases ho
                have h12 : S 12 = .bool false := hdep 12 (by kernel_rfl) (by decide)
                have h15 : S 15 = .pointer (some ⟨zb, zo + i, none⟩) := hdep 15 (by kernel_rfl) (by decide)
                have cc := cell_below hzc (HBJ.out.trans (hbx.mono HBJ.out.size)) hzb
                refine opOk_guarded rfl rfl 46 (by kernel_rfl) (by simp only [nv, Nat.reduceAdd, h12, List.getElem?_toArray, List.getElem?_cons_succ, List.getElem?_cons_zero]) fun KK hKK => ?_
                have HK := Lib.hid hKK
                clear hKK hdep hio
                simp only [nv, Nat.reduceAdd] at HK ⊢
                generalize S 12 = t12 at *
                subst h12
                generalize S 15 = t15 at *
                subst h15
                go_wp2
                exact HK.out _ _ ⟨_, rfl, rfl, Below.refl _ _⟩
              · cases ho
                have h12 : S 12 = .bool false := hdep 12 (by kernel_rfl) (by decide)
                have h16 : S 16 = .bool true := hdep 16 (by kernel_rfl) (by decide)
                refine opOk_guarded rfl rfl 46 (by kernel_rfl) (by simp only [nv, Nat.reduceAdd, h12, List.getElem?_toArray, List.getElem?_cons_succ, List.getElem?_cons_zero]) fun KK hKK => ?_
                have HK := Lib.hid hKK
                clear hKK hdep hio
                simp only [nv, Nat.reduceAdd] at HK ⊢
                generalize S 12 = t12 at *
                subst h12
                generalize S 16 = t16 at *
                subst h16
                go_wp2
                exact HK.out _ _ ⟨_, rfl, rfl, Below.refl _ _⟩
              · cases ho
                have h12 : S 12 = .bool false := hdep 12 (by kernel_rfl) (by decide)
                have h17 : S 17 = .bool false := hdep 17 (by kernel_rfl) (by decide)
                refine opOk_guarded rfl rfl 46 (by kernel_rfl) (by simp only [nv, Nat.reduceAdd, h12, List.getElem?_toArray, List.getElem?_cons_succ, List.getElem?_cons_zero]) fun KK hKK => ?_
                have HK := Lib.hid hKK
                clear hKK hdep hio
                simp only [nv, Nat.reduceAdd] at HK ⊢
                generalize S 12 = t12 at *
                subst h12
                generalize S 17 = t17 at *
                subst h17
                go_wp2
                exact HK.out _ _ ⟨_, rfl, rfl, Below.refl _ _⟩
              · cases ho
                have h18 : S 18 = .bool false := hdep 18 (by kernel_rfl) (by decide)
                exact opOk_skipped rfl rfl 52 (by kernel_rfl) (by simp only [nv, Nat.reduceAdd, h18, List.getElem?_toArray, List.getElem?_cons_succ, List.getElem?_cons_zero]; rfl) ⟨_, rfl, rfl, Below.refl _ _⟩
              · cases ho
                have h18 : S 18 = .bool false := hdep 18 (by kernel_rfl) (by decide)
                exact opOk_skipped rfl rfl 52 (by kernel_rfl) (by simp only [nv, Nat.reduceAdd, h18, List.getElem?_toArray, List.getElem?_cons_succ, List.getElem?_cons_zero]; rfl) ⟨_, rfl, rfl, Below.refl _ _⟩
              · cases ho
                have h18 : S 18 = .bool false := hdep 18 (by kernel_rfl) (by decide)
                exact opOk_skipped rfl rfl 52 (by kernel_rfl) (by simp only [nv, Nat.reduceAdd, h18, List.getElem?_toArray, List.getElem?_cons_succ, List.getElem?_cons_zero]; rfl) ⟨_, rfl, rfl, Below.refl _ _⟩
              · cases ho
                have h12 : S 12 = .bool false := hdep 12 (by kernel_rfl) (by decide)
                have h18 : S 18 = .bool false := hdep 18 (by kernel_rfl) (by decide)
                have h21 : S 21 = undef := hdep 21 (by kernel_rfl) (by decide)
                refine opOk_guarded rfl rfl 46 (by kernel_rfl) (by simp only [nv, Nat.reduceAdd, h12, List.getElem?_toArray, List.getElem?_cons_succ, List.getElem?_cons_zero]) fun KK hKK => ?_
                have HK := Lib.hid hKK
                clear hKK hdep hio
                simp only [nv, Nat.reduceAdd] at HK ⊢
                generalize S 12 = t12 at *
                subst h12
                generalize S 18 = t18 at *
                subst h18
                generalize S 21 = t21 at *
                subst h21
                go_wp2
                exact HK.out _ _ ⟨_, rfl, rfl, Below.refl _ _⟩
              · exact absurd hio (by simp)
            · intro S x hbx hF
              have g0 : S 0 = .slice (some ⟨b, off, none⟩) dl dc := hF 0 (by decide)
              have g1 : S 1 = .int .i64 (d : Int) := hF 1 (by decide)
              have g2 : S 2 = .int .i64 ((d : Int) + 1) := hF 2 (by decide)
              have g3 : S 3 = .slice (some ⟨b, off, none⟩) (d + 1) dc := hF 3 (by decide)
              have g4 : S 4 = .agg #[.int .i64 y0, .int .i64 y1, .slice A2 len2 cap2] := hF 4 (by decide)
              have g5 : S 5 = .slice (some ⟨b, off, none⟩) dl dc := hF 5 (by decide)
              have g6 : S 6 = .int .i64 (d : Int) := hF 6 (by decide)
              have g7 : S 7 = .pointer (some ⟨b, off + d * 3, none⟩) := hF 7 (by decide)
              have g8 : S 8 = .pointer (some ⟨b, off + d * 3 + 1, none⟩) := hF 8 (by decide)
              have g9 : S 9 = .int .i64 vr := hF 9 (by decide)
              have g10 : (S 10) = .bool true := hF 10 (by decide)
              have g11 : S 11 = .bool false := hF 11 (by decide)
              have g12 : S 12 = .bool false := hF 12 (by decide)
              have g13 : S 13 = .slice (some ⟨zb, zo, none⟩) al al := hF 13 (by decide)
              have g14 : S 14 = .int .i64 (i : Int) := hF 14 (by decide)
              have g15 : S 15 = .pointer (some ⟨zb, zo + i, none⟩) := hF 15 (by decide)
              have g16 : S 16 = .bool true := hF 16 (by decide)
              have g17 : S 17 = .bool false := hF 17 (by decide)
              have g18 : S 18 = .bool false := hF 18 (by decide)
              have g19 : S 19 = undef := hF 19 (by decide)
              have g20 : S 20 = undef := hF 20 (by decide)
              have g21 : S 21 = undef := hF 21 (by decide)
              have g22 : S 22 = .bool false := hF 22 (by decide)
              clear hF
              simp only [nv, Nat.reduceAdd, List.length_cons, List.length_nil, List.drop_succ_cons, List.drop_zero]
              generalize S 0 = t0 at *
              subst g0
              generalize S 1 = t1 at *
              subst g1
              generalize S 2 = t2 at *
              subst g2
              generalize S 3 = t3 at *
              subst g3
              generalize S 4 = t4 at *
              subst g4
              generalize S 5 = t5 at *
              subst g5
              generalize S 6 = t6 at *
              subst g6
              generalize S 7 = t7 at *
              subst g7
              generalize S 8 = t8 at *
              subst g8
              generalize S 9 = t9 at *
              subst g9
              generalize S 10 = t10 at *
              generalize S 11 = t11 at *
              subst g11
              generalize S 12 = t12 at *
              subst g12
              generalize S 13 = t13 at *
              subst g13
              generalize S 14 = t14 at *
              subst g14
              generalize S 15 = t15 at *
              subst g15
              generalize S 16 = t16 at *
              subst g16
              generalize S 17 = t17 at *
              subst g17
              generalize S 18 = t18 at *
              subst g18
              generalize S 19 = t19 at *
              subst g19
              generalize S 20 = t20 at *
              subst g20
              generalize S 21 = t21 at *
              subst g21
              generalize S 22 = t22 at *
              subst g22
              have HBE := Lib.hid (HBI.out.trans (hbx.mono HBI.out.size))
              have HBF := Lib.hid (HBJ.out.trans (hbx.mono HBJ.out.size))
              clear hbx
              go_wp2
              go_roundw
              case rel => exact ⟨i + 1, by omega, by go_num, HOK.out (by rw [show (validT (dat.take (d + 1)) vr 200 args[i]).isSome = true from HVB.out, show recD d vr args[i] = true from HRB.out]; rfl), HBF⟩
              case measure => simp [intOf]; omega
          | false =>
            refine wp_region_facts (by kernel_rfl) (by kernel_rfl) [34, 35, 36, 37, 38, 39, 40, 41, 42, 43, 44, 45, 46, 47, 48, 49, 50, 51, 52, 53, 54, 55, 56] 40 (by kernel_rfl) (fun io v x => match io with
              | 0 => v = .slice (some ⟨b, off, none⟩) dl dc
              | 1 => v = .int .i64 (d : Int)
              | 2 => v = .int .i64 ((d : Int) + 1)
              | 3 => v = .slice (some ⟨b, off, none⟩) (d + 1) dc
              | 4 => v = .agg #[.int .i64 y0, .int .i64 y1, .slice A2 len2 cap2]
              | 5 => v = .slice (some ⟨b, off, none⟩) dl dc
              | 6 => v = .int .i64 (d : Int)
              | 7 => v = .pointer (some ⟨b, off + d * 3, none⟩)
              | 8 => v = .pointer (some ⟨b, off + d * 3 + 1, none⟩)
              | 9 => v = .int .i64 vr
              | 10 => v = .bool true
              | 11 => v = .bool false
              | 12 => v = .bool false
              | 13 => v = .slice (some ⟨zb, zo, none⟩) al al
              | 14 => v = .int .i64 (i : Int)
              | 15 => v = .pointer (some ⟨zb, zo + i, none⟩)
              | 16 => v = .bool false
              | 17 => v = .bool true
              | 18 => v = .bool true
              | 19 => v = .agg #[.int .i64 y0, .int .i64 y1, .slice A2 len2 cap2]
              | 20 => v = .int .i64 (d : Int)
              | 21 => v = .bool mb
              | _ => v = .bool mb) ?_ ?_ ?_
            · intro io v x x' hio h hb
              rcases io with _ | _ | _ | _ | _ | _ | _ | _ | _ | _ | _ | _ | _ | _ | _ | _ | _ | _ | _ | _ | _ | _ | io
              · exact h
              · exact h
              · exact h
              · exact h
              · exact h
              · exact h
              · exact h
              · exact h
              · exact h
              · exact h
              · exact h
              · exact h
              · exact h
              · exact h
              · exact h
              · exact h
              · exact h
              · exact h
              · exact h
              · exact h
              · exact h
              · exact h
              · exact h
            · intro io oo S x ho hio hbx hdep
              rcases io with _ | _ | _ | _ | _ | _ | _ | _ | _ | _ | _ | _ | _ | _ | _ | _ | _ | _ | _ | _ | _ | _ | _ | io
              · cases ho
                refine opOk_h rfl rfl fun KK HK => ?_
                clear hdep hio
                simp only [nv, Nat.reduceAdd] at HK ⊢
                go_wp2
                exact HK.out _ _ ⟨_, rfl, rfl, Below.refl _ _⟩
              · cases ho
                refine opOk_h rfl rfl fun KK HK => ?_
                clear hdep hio
                simp only [nv, Nat.reduceAdd] at HK ⊢
                go_wp2
                exact HK.out _ _ ⟨_, rfl, rfl, Below.refl _ _⟩
              · cases ho
                have h1 : S 1 = .int .i64 (d : Int) := hdep 1 (by kernel_rfl) (by decide)
                refine opOk_h rfl rfl fun KK HK => ?_
                clear hdep hio
                simp only [nv, Nat.reduceAdd] at HK ⊢
                generalize S 1 = t1 at *
                subst h1
                go_wp2
                exact HK.out _ _ ⟨_, rfl, rfl, Below.refl _ _⟩
              · cases ho
                have h0 : S 0 = .slice (some ⟨b, off, none⟩) dl dc := hdep 0 (by kernel_rfl) (by decide)
                have h2 : S 2 = .int .i64 ((d : Int) + 1) := hdep 2 (by kernel_rfl) (by decide)
                refine opOk_h rfl rfl fun KK HK => ?_
                clear hdep hio
                simp only [nv, Nat.reduceAdd] at HK ⊢
                generalize S 0 = t0 at *
                subst h0
                generalize S 2 = t2 at *
                subst h2
                go_wp2
                exact HK.out _ _ ⟨_, rfl, rfl, Below.refl _ _⟩
              · cases ho
                have cc := (HBX.out.below hbx HBX.out.lt).facts.1
                refine opOk_h rfl rfl fun KK HK => ?_
                clear hdep hio
                simp only [nv, Nat.reduceAdd] at HK ⊢
                go_wp2
                exact HK.out _ _ ⟨_, rfl, rfl, Below.refl _ _⟩
              · cases ho
                refine opOk_h rfl rfl fun KK HK => ?_
                clear hdep hio
                simp only [nv, Nat.reduceAdd] at HK ⊢
                go_wp2
                exact HK.out _ _ ⟨_, rfl, rfl, Below.refl _ _⟩
              · cases ho
                refine opOk_h rfl rfl fun KK HK => ?_
                clear hdep hio
                simp only [nv, Nat.reduceAdd] at HK ⊢
                go_wp2
                exact HK.out _ _ ⟨_, rfl, rfl, Below.refl _ _⟩
              · cases ho
                have h5 : S 5 = .slice (some ⟨b, off, none⟩) dl dc := hdep 5 (by kernel_rfl) (by decide)
                have h6 : S 6 = .int .i64 (d : Int) := hdep 6 (by kernel_rfl) (by decide)
                refine opOk_h rfl rfl fun KK HK => ?_
                clear hdep hio
                simp only [nv, Nat.reduceAdd] at HK ⊢
                generalize S 5 = t5 at *
                subst h5
                generalize S 6 = t6 at *
                subst h6
                go_wp2
                exact HK.out _ _ ⟨_, rfl, rfl, Below.refl _ _⟩
              · cases ho
                have h7 : S 7 = .pointer (some ⟨b, off + d * 3, none⟩) := hdep 7 (by kernel_rfl) (by decide)
                refine opOk_h rfl rfl fun KK HK => ?_
                clear hdep hio
                simp only [nv, Nat.reduceAdd] at HK ⊢
                generalize S 7 = t7 at *
                subst h7
                go_wp2
                exact HK.out _ _ ⟨_, rfl, rfl, Below.refl _ _⟩
              · cases ho
                have h8 : S 8 = .pointer (some ⟨b, off + d * 3 + 1, none⟩) := hdep 8 (by kernel_rfl) (by decide)
                have cc := cell_below e1 (HBI.out.trans (hbx.mono HBI.out.size)) hb
                refine opOk_h rfl rfl fun KK HK => ?_
                clear hdep hio
                simp only [nv, Nat.reduceAdd] at HK ⊢
                generalize S 8 = t8 at *
                subst h8
                go_wp2
                exact HK.out _ _ ⟨_, rfl, rfl, Below.refl _ _⟩
              · cases ho
                have h3 : S 3 = .slice (some ⟨b, off, none⟩) (d + 1) dc := hdep 3 (by kernel_rfl) (by decide)
                have h4 : S 4 = .agg #[.int .i64 y0, .int .i64 y1, .slice A2 len2 cap2] := hdep 4 (by kernel_rfl) (by decide)
                have h9 : S 9 = .int .i64 vr := hdep 9 (by kernel_rfl) (by decide)
                have KEY := Lib.hid (HVAL.out _ _ (HBI.out.trans (hbx.mono HBI.out.size)) (HRK.out.below hbx))
                refine opOk_h rfl rfl fun KK HK => ?_
                clear hdep hio
                simp only [nv, Nat.reduceAdd] at HK ⊢
                generalize S 3 = t3 at *
                subst h3
                generalize S 4 = t4 at *
                subst h4
                generalize S 9 = t9 at *
                subst h9
                go_wp2_with fail
                refine (KEY.out).mono ?_
                rintro e xN ⟨rfl, hbN⟩
                exact HK.out _ _ ⟨_, rfl, rfl, hbN⟩
              · cases ho
                have h10 : (S 10) = .bool true := hdep 10 (by kernel_rfl) (by decide)
                refine opOk_h rfl rfl fun KK HK => ?_
                clear hdep hio
                simp only [nv, Nat.reduceAdd] at HK ⊢
                generalize S 10 = t10 at *
                subst h10
                go_wp2
                exact HK.out _ _ ⟨_, rfl, rfl, Below.refl _ _⟩
              · cases ho
                have h11 : S 11 = .bool false := hdep 11 (by kernel_rfl) (by decide)
                refine opOk_h rfl rfl fun KK HK => ?_
                clear hdep hio
                simp only [nv, Nat.reduceAdd] at HK ⊢
                generalize S 11 = t11 at *
                subst h11
                go_wp2
                exact HK.out _ _ ⟨_, rfl, rfl, Below.refl _ _⟩
              · cases ho
                have h12 : S 12 = .bool false := hdep 12 (by kernel_rfl) (by decide)
                refine opOk_guarded rfl rfl 46 (by kernel_rfl) (by simp only [nv, Nat.reduceAdd, h12, List.getElem?_toArray, List.getElem?_cons_succ, List.getElem?_cons_zero]) fun KK hKK => ?_
                have HK := Lib.hid hKK
                clear hKK hdep hio
                simp only [nv, Nat.reduceAdd] at HK ⊢
                generalize S 12 = t12 at *
                subst h12
                go_wp2
                exact HK.out _ _ ⟨_, rfl, rfl, Below.refl _ _⟩
              · cases ho
                have h12 : S 12 = .bool false := hdep 12 (by kernel_rfl) (by decide)
                refine opOk_guarded rfl rfl 46 (by kernel_rfl) (by simp only [nv, Nat.reduceAdd, h12, List.getElem?_toArray, List.getElem?_cons_succ, List.getElem?_cons_zero]) fun KK hKK => ?_
                have HK := Lib.hid hKK
                clear hKK hdep hio
                simp only [nv, Nat.reduceAdd] at HK ⊢
                generalize S 12 = t12 at *
                subst h12
                go_wp2
                exact HK.out _ _ ⟨_, rfl, rfl, Below.refl _ _⟩
              · cases ho
                have h12 : S 12 = .bool false := hdep 12 (by kernel_rfl) (by decide)
                have h13 : S 13 = .slice (some ⟨zb, zo, none⟩) al al := hdep 13 (by kernel_rfl) (by decide)
                have h14 : S 14 = .int .i64 (i : Int) := hdep 14 (by kernel_rfl) (by decide)
                refine opOk_guarded rfl rfl 46 (by kernel_rfl) (by simp only [nv, Nat.reduceAdd, h12, List.getElem?_toArray, List.getElem?_cons_succ, List.getElem?_cons_zero]) fun KK hKK => ?_
                have HK := Lib.hid hKK
                clear hKK hdep hio
                simp only [nv, Nat.reduceAdd] at HK ⊢
                generalize S 12 = t12 at *
                subst h12
                generalize S 13 = t13 at *
                subst h13
                generalize S 14 = t14 at *
                subst h14
                go_wp2
                exact HK.out _ _ ⟨_, rfl, rfl, Below.refl _ _⟩
              · cases ho
                have h12 : S 12 = .bool false := hdep 12 (by kernel_rfl) (by decide)
                have h15 : S 15 = .pointer (some ⟨zb, zo + i, none⟩) := hdep 15 (by kernel_rfl) (by decide)
                have cc := cell_below hzc (HBJ.out.trans (hbx.mono HBJ.out.size)) hzb
                refine opOk_guarded rfl rfl 46 (by kernel_rfl) (by simp only [nv, Nat.reduceAdd, h12, List.getElem?_toArray, List.getElem?_cons_succ, List.getElem?_cons_zero]) fun KK hKK => ?_
                have HK := Lib.hid hKK
                clear hKK hdep hio
                simp only [nv, Nat.reduceAdd] at HK ⊢
                generalize S 12 = t12 at *
                subst h12
                generalize S 15 = t15 at *
                subst h15
                go_wp2
                exact HK.out _ _ ⟨_, rfl, rfl, Below.refl _ _⟩
              · cases ho
                have h12 : S 12 = .bool false := hdep 12 (by kernel_rfl) (by decide)
                have h16 : S 16 = .bool false := hdep 16 (by kernel_rfl) (by decide)
                refine opOk_guarded rfl rfl 46 (by kernel_rfl) (by simp only [nv, Nat.reduceAdd, h12, List.getElem?_toArray, List.getElem?_cons_succ, List.getElem?_cons_zero]) fun KK hKK => ?_
                have HK := Lib.hid hKK
                clear hKK hdep hio
                simp only [nv, Nat.reduceAdd] at HK ⊢
                generalize S 12 = t12 at *
                subst h12
                generalize S 16 = t16 at *
                subst h16
                go_wp2
                exact HK.out _ _ ⟨_, rfl, rfl, Below.refl _ _⟩
              · cases ho
                have h12 : S 12 = .bool false := hdep 12 (by kernel_rfl) (by decide)
                have h17 : S 17 = .bool true := hdep 17 (by kernel_rfl) (by decide)
                refine opOk_guarded rfl rfl 46 (by kernel_rfl) (by simp only [nv, Nat.reduceAdd, h12, List.getElem?_toArray, List.getElem?_cons_succ, List.getElem?_cons_zero]) fun KK hKK => ?_
                have HK := Lib.hid hKK
                clear hKK hdep hio
                simp only [nv, Nat.reduceAdd] at HK ⊢
                generalize S 12 = t12 at *
                subst h12
                generalize S 17 = t17 at *
                subst h17
                go_wp2
                exact HK.out _ _ ⟨_, rfl, rfl, Below.refl _ _⟩
              · cases ho
                have h18 : S 18 = .bool true := hdep 18 (by kernel_rfl) (by decide)
                have cc := (HBX.out.below hbx HBX.out.lt).facts.1
                refine opOk_guarded rfl rfl 52 (by kernel_rfl) (by simp only [nv, Nat.reduceAdd, h18, List.getElem?_toArray, List.getElem?_cons_succ, List.getElem?_cons_zero]) fun KK hKK => ?_
                have HK := Lib.hid hKK
                clear hKK hdep hio
                simp only [nv, Nat.reduceAdd] at HK ⊢
                generalize S 18 = t18 at *
                subst h18
                go_wp2
                exact HK.out _ _ ⟨_, rfl, rfl, Below.refl _ _⟩
              · cases ho
                have h18 : S 18 = .bool true := hdep 18 (by kernel_rfl) (by decide)
                refine opOk_guarded rfl rfl 52 (by kernel_rfl) (by simp only [nv, Nat.reduceAdd, h18, List.getElem?_toArray, List.getElem?_cons_succ, List.getElem?_cons_zero]) fun KK hKK => ?_
                have HK := Lib.hid hKK
                clear hKK hdep hio
                simp only [nv, Nat.reduceAdd] at HK ⊢
                generalize S 18 = t18 at *
                subst h18
                go_wp2
                exact HK.out _ _ ⟨_, rfl, rfl, Below.refl _ _⟩
              · cases ho
                have h18 : S 18 = .bool true := hdep 18 (by kernel_rfl) (by decide)
                have h19 : S 19 = .agg #[.int .i64 y0, .int .i64 y1, .slice A2 len2 cap2] := hdep 19 (by kernel_rfl) (by decide)
                have h20 : S 20 = .int .i64 (d : Int) := hdep 20 (by kernel_rfl) (by decide)
                have KEY := Lib.hid (HMENT.out _ _ (HRK.out.below hbx))
                refine opOk_guarded rfl rfl 52 (by kernel_rfl) (by simp only [nv, Nat.reduceAdd, h18, List.getElem?_toArray, List.getElem?_cons_succ, List.getElem?_cons_zero]) fun KK hKK => ?_
                have HK := Lib.hid hKK
                clear hKK hdep hio
                simp only [nv, Nat.reduceAdd] at HK ⊢
                generalize S 18 = t18 at *
                subst h18
                generalize S 19 = t19 at *
                subst h19
                generalize S 20 = t20 at *
                subst h20
                go_wp2_with fail
                refine (KEY.out).mono ?_
                rintro e xN ⟨rfl, hbN⟩
                exact HK.out _ _ ⟨_, rfl, rfl, hbN⟩
              · cases ho
                have h12 : S 12 = .bool false := hdep 12 (by kernel_rfl) (by decide)
                have h18 : S 18 = .bool true := hdep 18 (by kernel_rfl) (by decide)
                have h21 : (S 21) = .bool mb := hdep 21 (by kernel_rfl) (by decide)
                refine opOk_guarded rfl rfl 46 (by kernel_rfl) (by simp only [nv, Nat.reduceAdd, h12, List.getElem?_toArray, List.getElem?_cons_succ, List.getElem?_cons_zero]) fun KK hKK => ?_
                have HK := Lib.hid hKK
                clear hKK hdep hio
                simp only [nv, Nat.reduceAdd] at HK ⊢
                generalize S 12 = t12 at *
                subst h12
                generalize S 18 = t18 at *
                subst h18
                generalize S 21 = t21 at *
                subst h21
                go_wp2
                exact HK.out _ _ ⟨_, rfl, rfl, Below.refl _ _⟩
              · exact absurd hio (by simp)
            · intro S x hbx hF
              have g0 : S 0 = .slice (some ⟨b, off, none⟩) dl dc := hF 0 (by decide)
              have g1 : S 1 = .int .i64 (d : Int) := hF 1 (by decide)
              have g2 : S 2 = .int .i64 ((d : Int) + 1) := hF 2 (by decide)
              have g3 : S 3 = .slice (some ⟨b, off, none⟩) (d + 1) dc := hF 3 (by decide)
              have g4 : S 4 = .agg #[.int .i64 y0, .int .i64 y1, .slice A2 len2 cap2] := hF 4 (by decide)
              have g5 : S 5 = .slice (some ⟨b, off, none⟩) dl dc := hF 5 (by decide)
              have g6 : S 6 = .int .i64 (d : Int) := hF 6 (by decide)
              have g7 : S 7 = .pointer (some ⟨b, off + d * 3, none⟩) := hF 7 (by decide)
              have g8 : S 8 = .pointer (some ⟨b, off + d * 3 + 1, none⟩) := hF 8 (by decide)
              have g9 : S 9 = .int .i64 vr := hF 9 (by decide)
              have g10 : (S 10) = .bool true := hF 10 (by decide)
              have g11 : S 11 = .bool false := hF 11 (by decide)
              have g12 : S 12 = .bool false := hF 12 (by decide)
              have g13 : S 13 = .slice (some ⟨zb, zo, none⟩) al al := hF 13 (by decide)
              have g14 : S 14 = .int .i64 (i : Int) := hF 14 (by decide)
              have g15 : S 15 = .pointer (some ⟨zb, zo + i, none⟩) := hF 15 (by decide)
              have g16 : S 16 = .bool false := hF 16 (by decide)
              have g17 : S 17 = .bool true := hF 17 (by decide)
              have g18 : S 18 = .bool true := hF 18 (by decide)
              have g19 : S 19 = .agg #[.int .i64 y0, .int .i64 y1, .slice A2 len2 cap2] := hF 19 (by decide)
              have g20 : S 20 = .int .i64 (d : Int) := hF 20 (by decide)
              have g21 : (S 21) = .bool mb := hF 21 (by decide)
              have g22 : S 22 = .bool mb := hF 22 (by decide)
              clear hF
              simp only [nv, Nat.reduceAdd, List.length_cons, List.length_nil, List.drop_succ_cons, List.drop_zero]
              generalize S 0 = t0 at *
              subst g0
              generalize S 1 = t1 at *
              subst g1
              generalize S 2 = t2 at *
              subst g2
              generalize S 3 = t3 at *
              subst g3
              generalize S 4 = t4 at *
              subst g4
              generalize S 5 = t5 at *
              subst g5
              generalize S 6 = t6 at *
              subst g6
              generalize S 7 = t7 at *
              subst g7
              generalize S 8 = t8 at *
              subst g8
              generalize S 9 = t9 at *
              subst g9
              generalize S 10 = t10 at *
              generalize S 11 = t11 at *
              subst g11
              generalize S 12 = t12 at *
              subst g12
              generalize S 13 = t13 at *
              subst g13
              generalize S 14 = t14 at *
              subst g14
              generalize S 15 = t15 at *
              subst g15
              generalize S 16 = t16 at *
              subst g16
              generalize S 17 = t17 at *
              subst g17
              generalize S 18 = t18 at *
              subst g18
              generalize S 19 = t19 at *
              subst g19
              generalize S 20 = t20 at *
              subst g20
              generalize S 21 = t21 at *
              generalize S 22 = t22 at *
              subst g22
              have HBE := Lib.hid (HBI.out.trans (hbx.mono HBI.out.size))
              have HBF := Lib.hid (HBJ.out.trans (hbx.mono HBJ.out.size))
              clear hbx
              cases mb with
              | true =>
                go_wp2
                go_ret
                exact ⟨by rw [show q = false from HFAIL.out (by rw [show recD d vr args[i] = false from HRB.out, show ment d args[i] = true from HMB.out]; simp)]; rfl, HBE.out⟩
              | false =>
                go_wp2
                go_roundw
                case rel => exact ⟨i + 1, by omega, by go_num, HOK.out (by rw [show (validT (dat.take (d + 1)) vr 200 args[i]).isSome = true from HVB.out, show ment d args[i] = false from HMB.out]; simp), HBF⟩
                case measure => simp [intOf]; omega
      · obtain rfl : i = al := by omega
        have hqt : q = true := by rw [HQ2.out, ← show (args.take i).all (argOk dat d vr) = args.all (argOk dat d vr) from by rw [HAL.out, List.take_length]]; exact HL.out
        have HQT := Lib.hid hqt
        clear hqt
        go_wp2
        go_ret
        exact ⟨by rw [show q = true from HQT.out]; rfl, HBW.out⟩
  · have h6i : (6 : Int) < (al : Int) := by omega
    have hqf : q = false := by
      rw [← HQ.out, argsOk, decide_eq_false (by have := HAL.out; omega), Bool.false_and]
    have HQF := Lib.hid hqf
    clear hqf hD HREC
    go_wp2
    go_ret
    exact ⟨by rw [show q = false from HQF.out]; rfl, Below.refl _ _⟩
end Go.Proofs.YtdbiedpdibjdlaaGreat

