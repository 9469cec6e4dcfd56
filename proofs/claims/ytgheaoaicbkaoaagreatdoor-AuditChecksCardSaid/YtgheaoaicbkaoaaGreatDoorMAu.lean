/-
  Audits: the law's sanity check returns true.
-/
import Derived.Test.YtgheaoaicbkaoaaGreatDoorMAr
import Derived.Test.YtgheaoaicbkaoaaGreatDoorMYt
import Derived.Test.YtgheaoaicbkaoaaGreatDoorMAn
import Derived.Test.YtgheaoaicbkaoaaGreatDoorMRefL
import Derived.Test.YtgheaoaicbkaoaaGreatDoorMAa
import Derived.Test.YtgheaoaicbkaoaaGreatDoorRows
import Derived.Deep.Slices
import Derived.Deep.Strs
import Derived.ProofKit
import Derived.OpenShut
namespace Go.Proofs.YtgheaoaicbkaoaaGreatDoor
open Go.RowKit AC
/-- What the law reads of package-level variables. -/
def GlA (w : World) : Prop := w.heap[0]? = some (.cells stepsV.toArray 272 (0, 0))
theorem nongA : Ev.NoNG Tryz.prog extA := by
  refine ⟨fun f fn h => ?_, extA_ok⟩
  obtain ⟨hf, e⟩ := Array.getElem?_eq_some_iff.1 h
  have := Array.all_eq_true.1 nong_all f hf
  rw [e] at this
  simpa using this
theorem saneA_any (w : World) (hg : GlA w) : Calls Tryz.prog 4 #[] w (fun e w' => e = .returned (.bool true) ∧ Below w.heap.size w w') := by
  refine (Ev.closed_call nongA (by kernel_rfl) saneA_eval (Nat.le_refl _) w fun g o h => ?_).mono ?_
  · have h0 : ∀ n, (memA : Ev.Tr).get n = some o → n = 0 ∧ o = .row stepsV 272 true 0 false [] := by
      intro n hn
      unfold memA Ev.Trie.get at hn
      cases hb : Nat.beq n 0 with
      | true =>
        rw [hb] at hn
        injection hn with hn
        exact ⟨Nat.eq_of_beq_eq_true hb, hn.symm⟩
      | false =>
        rw [hb] at hn
        cases hc : Nat.beq (n % 2) 1 <;> rw [hc] at hn <;> cases hn
    obtain ⟨rfl, rfl⟩ := h0 g h
    exact ⟨by omega, stepsV.toArray, 272, (0, 0), rfl, hg, .inl (Nat.le_refl _), fun v hv => by
      have : stepsV.all Ev.plainV = true := by decide
      exact List.all_eq_true.1 this v (by simpa using hv)⟩
  · rintro e w' ⟨v, v', m', φ', hK, rfl, hv, h1, h2, h3, h4, h5⟩
    have hv2 : v = .bool true := by
      cases v with
      | bool b => cases b with
        | true => rfl
        | false => cases hK
      | _ => cases hK
    subst hv2
    exact ⟨by rw [hv.bool_inv], h1, h2, h3, h4, h5⟩
end Go.Proofs.YtgheaoaicbkaoaaGreatDoor

/-
  Audits: the walk of the law AuditChecks.
-/
namespace Go.Proofs.YtgheaoaicbkaoaaGreatDoor
open Go.RowKit AC
set_option linter.unusedVariables false
set_option linter.unusedSimpArgs false
theorem PtsV.empty (w : World) (lo c K : Nat) (A : Option Addr) (nd kd ct : Nat → Int) (r : Nat → Rat) (hc : c ≤ 9223372036854775807) : PtsV w lo (.slice A 0 c) 0 K nd kd ct r :=
  ⟨A, c, rfl, Nat.zero_le _, by unfold maxLen; omega, fun h => absurd h (by omega)⟩
theorem PtsV.snoc {w : World} {lo b off i c K : Nat} {nd kd ct : Nat → Int} {r : Nat → Rat} (h : PtsV w lo (.slice (some ⟨b, off, none⟩) i c) i K nd kd ct r) (hb : lo ≤ b) (hlt : b < w.heap.size) (hic : i + 1 ≤ c) {s : Bool} {An Ad : Option Addr} {kn cn km cm : Nat}
    (e1 : w.cell? ⟨b, off + i * 6, none⟩ = some (.int .i64 (nd i))) (e2 : w.cell? ⟨b, off + i * 6 + 1, none⟩ = some (.int .i64 (kd i))) (e3 : w.cell? ⟨b, off + i * 6 + 2, none⟩ = some (.int .i64 (ct i))) (e4 : w.cell? ⟨b, off + i * 6 + 3, none⟩ = some (.bool s)) (e5 : w.cell? ⟨b, off + i * 6 + 4, none⟩ = some (.slice An kn cn)) (e6 : w.cell? ⟨b, off + i * 6 + 5, none⟩ = some (.slice Ad km cm)) (e7 : -9223372036854775808 ≤ ct i ∧ ct i ≤ 9223372036854775807) (e8 : RatV w lo (.agg #[.bool s, .slice An kn cn, .slice Ad km cm]) K (r i)) :
    PtsV w lo (.slice (some ⟨b, off, none⟩) (i + 1) c) (i + 1) K nd kd ct r := by
  obtain ⟨A', c', e, h1, h2, h3⟩ := h
  injection e with eA _ ec
  subst eA
  subst ec
  refine ⟨_, _, rfl, hic, h2, fun _ => ⟨b, off, rfl, hb, hlt, fun j hj => ?_⟩⟩
  rcases Nat.lt_or_ge j i with h | h
  · obtain ⟨b', off', e', h4, h5, h6⟩ := h3 (by omega)
    injection e' with e'
    injection e' with e5' e6'
    subst e5'
    subst e6'
    exact h6 j h
  · obtain rfl : j = i := by omega
    exact ⟨s, An, kn, cn, Ad, km, cm, e1, e2, e3, e4, e5, e6, e7, e8⟩
set_option maxHeartbeats 4000000 in
set_option maxRecDepth 100000 in
theorem checks_any {w : World} {lo n K : Nat} {v : Value} {nd kd ct : Nat → Int} {r : Nat → Rat} (hv : PtsV w lo v n K nd kd ct r) (hg : GlA w) (lower : Bool) (peak : Int) (hp1 : -9223372036854775808 ≤ peak) (hp2 : peak ≤ 9223372036854775807) :
    Calls Tryz.prog 3 #[v, .int .i64 peak, .bool lower] w (fun e w' => e = .returned (.bool true) ∧ Below w.heap.size w w') := by
  have HV := Lib.hid hv
  have HG := Lib.hid hg
  have HP1 := Lib.hid hp1
  have HP2 := Lib.hid hp2
  obtain ⟨A, c, rfl, hnc, hcm⟩ := hv.form
  clear hv hg hp1 hp2
  go_enter Tryz.func3, Tryz.ntmps3
  go_wp2_with fail
  refine (saneA_any w HG.out).mono ?_
  rintro e w1 ⟨rfl, hb1⟩
  have HB1 := Lib.hid hb1
  clear hb1
  by_cases hn : 12 < n
  · go_wp2
    go_ret
    exact ⟨rfl, HB1.out⟩
  · go_wp2
    go_loopw [15] (fun iv wr => ∃ i : Nat, i ≤ n ∧ iv = .int .i64 i ∧ Hid (PtsV w lo (.slice A i c) i 2 nd kd ct r) ∧ Hid (Below w.heap.size w wr)) (fun iv _ => n - (intOf iv).toNat)
    case atStart => exact ⟨0, Nat.zero_le _, rfl, PtsV.empty _ _ _ _ _ _ _ _ _ hcm, HB1.out⟩
    case round =>
      obtain ⟨i, hi, rfl, hso, hbw⟩ := hrel
      by_cases hlt : i < n
      · obtain ⟨b, off, s0, An, kn, cn, Ad, km, cm, rfl, hlb, hbb, g1, g2, g3, g4, g5, g6, hc, hr, hkn, hkm⟩ := HV.out.elem hlt
        have c4 := (hbw.out.cell (p := ⟨b, off + i * 6 + 3, none⟩) hbb).trans g4
        have c5 := (hbw.out.cell (p := ⟨b, off + i * 6 + 4, none⟩) hbb).trans g5
        have c6 := (hbw.out.cell (p := ⟨b, off + i * 6 + 5, none⟩) hbb).trans g6
        have HSN : Hid (shortB kn km = true → PtsV w lo (.slice (some ⟨b, off, none⟩) (i + 1) c) (i + 1) 2 nd kd ct r) := fun h => PtsV.snoc hso.out hlb hbb (by omega) g1 g2 g3 g4 g5 g6 hc (hr.short h)
        clear g1 g2 g3 g4 g5 g6 hc hr
        go_wp2_with fail
        refine (kRat_any _ s0 An Ad kn cn km cm hkn hkm).mono ?_
        rintro e w2 ⟨rfl, hb2⟩
        have hbw2 := Lib.hid (hbw.out.trans (hb2.mono hbw.out.size))
        clear hb2 c4 c5 c6
        obtain ⟨t, ht⟩ : ∃ t, Hid (t = shortB kn km) := ⟨_, rfl⟩
        rw [← ht.out]
        cases t
        · go_wp2
          go_ret
          exact ⟨rfl, hbw2.out⟩
        · go_wp2
          go_roundw
          case rel => exact ⟨i + 1, by omega, by simp, HSN.out ht.out.symm, hbw2.out⟩
          case measure => simp [intOf]; omega
      · have hni : n = i := by omega
        subst hni
        obtain ⟨lv, hlv⟩ : ∃ lv : Nat → Rat, Hid (∀ i, lv i = lvl (ct i) (r i)) := ⟨fun i => lvl (ct i) (r i), fun _ => rfl⟩
        obtain ⟨z, hz⟩ : ∃ z, Hid (ansP lower nd kd ct lv n peak = z) := ⟨_, rfl⟩
        go_wp2_with fail
        refine (Check_any (hso.out.below hbw.out) hlv.out (by omega) (by omega) lower peak HP1.out HP2.out).mono ?_
        rintro e w3 ⟨rfl, hb3⟩
        have HB3 := Lib.hid (hbw.out.trans (hb3.mono hbw.out.size))
        rw [hz.out]
        clear hb3
        go_wp2_with fail
        refine (cpoints_any (hso.out.below HB3.out) hlv.out (by omega) (by omega) lower peak HP1.out HP2.out).mono ?_
        rintro e w4 ⟨rfl, hb4⟩
        have HB4 := Lib.hid (HB3.out.trans (hb4.mono HB3.out.size))
        rw [hz.out]
        clear hb4
        go_wp2
        go_ret
        exact ⟨by simp, HB4.out⟩
end Go.Proofs.YtgheaoaicbkaoaaGreatDoor

/-
  An argument that is a list of rational numbers, read out of memory.
-/
namespace Go.Proofs.YtgheaoaicbkaoaaGreatDoor
open Go.RowKit AC Go.ChangeShapes Go.WideShapes Go.Deep
set_option linter.unusedVariables false
set_option linter.unusedSimpArgs false

theorem cells_bool : Tryz.prog.cellsOf 4 = 1 := by kernel_rfl
theorem cells_u32s : Tryz.prog.cellsOf 25 = 1 := by kernel_rfl
theorem cells_u32 : Tryz.prog.cellsOf 120 = 1 := by kernel_rfl
theorem cells_rat : Tryz.prog.cellsOf 27 = 3 := by kernel_rfl

theorem cell_lt {w : World} {a : Addr} {v : Value} (h : w.cell? a = some v) : a.block < w.heap.size := by
  rcases Nat.lt_or_ge a.block w.heap.size with h1 | h1
  · exact h1
  · unfold World.cell? at h
    rw [Array.getElem?_eq_none h1] at h
    simp at h

section
variable {H : Type} {enc : TypeId × Value → H} {W : World} {base : Nat} {spare : Nat → Bool} {held : Bool}

/-- A list of limbs. -/
theorem open_limbs {n : Nat} {cs : List Value} {x : DataW H × List MemPlace} (h : DataW.trod enc Tryz.prog W base spare held n 25 cs = some x) :
    ∃ A k c f, cs = [.slice A k c] ∧ k ≤ maxLen ∧ Limbs W 0 (.slice A k c) k f := by
  rcases open_ints Tryz.underlying25 Tryz.underlying120 cells_u32 h with ⟨rfl, _⟩ | ⟨a, len, cap, zs, rfl, _, hl, hm, hz, _, hcell, hwz⟩
  · exact ⟨none, 0, 0, fun _ => 0, rfl, Nat.zero_le _, Limbs.nil _ _ _⟩
  · have hlz : len ≤ zs.length := by rw [hz]; split <;> omega
    have hb : ∀ i, i < zs.length → 0 ≤ zs.getD i 0 ∧ zs.getD i 0 ≤ 4294967295 := by
      intro i hi
      refine bounds_u32 (hwz _ ?_)
      rw [List.getD_eq_getElem?_getD, List.getElem?_eq_getElem hi]
      exact List.getElem_mem hi
    refine ⟨some a, len, cap, fun i => (zs.getD i 0).toNat, rfl, by omega, fun i hi => ?_, _, _, rfl, hl, hm, fun h0 => ?_⟩
    · have := hb i (by omega)
      show (zs.getD i 0).toNat < 4294967296
      omega
    · have h1 := hcell 0 (by omega)
      have hs : a.spot = none := by simpa [Addr.add] using World.cell?_spot h1
      obtain ⟨b, off, spot⟩ := a
      simp only at hs
      subst hs
      refine ⟨b, off, rfl, Nat.zero_le _, cell_lt h1, fun i hi => ?_⟩
      have h2 := hcell i (by omega)
      rw [Addr.add_lit] at h2
      rw [h2]
      have := hb i (by omega)
      simp only [Option.some.injEq, Value.int.injEq, true_and]
      omega

set_option maxRecDepth 100000 in
/-- A rational number. -/
theorem open_rat {n : Nat} {cs : List Value} {x : DataW H × List MemPlace} (h : DataW.trod enc Tryz.prog W base spare held n 27 cs = some x) :
    ∃ s An kn cn Ad kd cd q, cs = [.bool s, .slice An kn cn, .slice Ad kd cd] ∧ RatV W 0 (.agg #[.bool s, .slice An kn cn, .slice Ad kd cd]) maxLen q := by
  obtain ⟨y0, y1, y2, m, _, hl, h0, h1, h2⟩ := trod_struct3 Tryz.underlying27 h
  rw [cells_rat] at hl
  match cs, hl with
  | [c0, c1, c2], _ =>
    have e0 := h0
    have e1 := h1
    have e2 := h2
    simp only [cells_bool, cells_u32s, List.drop_zero, List.take_succ_cons, List.take_zero, List.drop_succ_cons] at e0 e1 e2
    obtain ⟨s, e3, _⟩ := DataW.trod_bool Tryz.underlying4 e0
    obtain ⟨A, k, c, f, e4, hk, hL⟩ := open_limbs e1
    obtain ⟨A', k', c', f', e5, hk', hL'⟩ := open_limbs e2
    injection e3 with e3 _
    injection e4 with e4 _
    injection e5 with e5 _
    subst e3
    subst e4
    subst e5
    exact ⟨s, A, k, c, A', k', c', _, rfl, s, k, k', f, f', _, _, rfl, hL, hL', hk, hk', rfl⟩

set_option maxRecDepth 100000 in
/-- A list of them. -/
theorem open_rats {v : Value} {d : DataW H} {p : List MemPlace} (h : DataW.Trod enc Tryz.prog W base spare held 97 v d p) (hv : ∃ A k c, v = .slice A k c) :
    ∃ k r, RatsV W 0 v k maxLen r := by
  obtain ⟨A, k, c, rfl⟩ := hv
  obtain ⟨fuel, hf⟩ := h
  rcases open_slice Tryz.underlying97 hf with ⟨hcs, _⟩ | ⟨a, len, cap, m, n, D, Pl, hcs, _, hl, hm, hmm, _, hel⟩
  · simp [Value.cells] at hcs
    obtain ⟨rfl, rfl, rfl⟩ := hcs
    exact ⟨0, fun _ => 0, none, 0, rfl, Nat.le_refl _, Nat.zero_le _, fun h => absurd h (by omega)⟩
  · simp [Value.cells] at hcs
    obtain ⟨rfl, rfl, rfl⟩ := hcs
    have hlm : k ≤ m := by rw [hmm]; split <;> omega
    have key : ∀ i, i < k → ∃ s An kn cn Ad kd cd q, W.cell? (a.add (i * 3)) = some (.bool s) ∧ W.cell? (a.add (i * 3 + 1)) = some (.slice An kn cn) ∧ W.cell? (a.add (i * 3 + 2)) = some (.slice Ad kd cd) ∧ RatV W 0 (.agg #[.bool s, .slice An kn cn, .slice Ad kd cd]) maxLen q := by
      intro i hi
      obtain ⟨cs', hc, ht⟩ := hel i (by omega)
      obtain ⟨s, An, kn, cn, Ad, kd, cd, q, rfl, hq⟩ := open_rat ht
      rw [cells_rat] at hc
      obtain ⟨_, _, hat⟩ := World.cells?_some hc
      refine ⟨s, An, kn, cn, Ad, kd, cd, q, ?_, ?_, ?_, hq⟩
      · have := hat 0 (by omega); rw [Go.Deep.add_add] at this; exact this
      · have := hat 1 (by omega); rw [Go.Deep.add_add] at this; exact this
      · have := hat 2 (by omega); rw [Go.Deep.add_add] at this; exact this
    have hq : ∃ r : Nat → Rat, ∀ i, i < k → ∃ s An kn cn Ad kd cd, W.cell? (a.add (i * 3)) = some (.bool s) ∧ W.cell? (a.add (i * 3 + 1)) = some (.slice An kn cn) ∧ W.cell? (a.add (i * 3 + 2)) = some (.slice Ad kd cd) ∧ RatV W 0 (.agg #[.bool s, .slice An kn cn, .slice Ad kd cd]) maxLen (r i) := by
      refine ⟨fun i => if hi : i < k then (key i hi).choose_spec.choose_spec.choose_spec.choose_spec.choose_spec.choose_spec.choose_spec.choose else 0, fun i hi => ?_⟩
      simp only [hi, dif_pos]
      exact ⟨_, _, _, _, _, _, _, (key i hi).choose_spec.choose_spec.choose_spec.choose_spec.choose_spec.choose_spec.choose_spec.choose_spec⟩
    obtain ⟨r, hr⟩ := hq
    refine ⟨k, r, _, _, rfl, hl, hm, fun h0 => ?_⟩
    obtain ⟨s, _, _, _, _, _, _, h1, _⟩ := hr 0 h0
    have hs : a.spot = none := by simpa [Addr.add] using World.cell?_spot h1
    obtain ⟨b, off, spot⟩ := a
    simp only at hs
    subst hs
    refine ⟨b, off, rfl, Nat.zero_le _, by have := cell_lt h1; simpa [Addr.add] using this, fun i hi => ?_⟩
    obtain ⟨s, An, kn, cn, Ad, kd, cd, h1, h2, h3, h4⟩ := hr i hi
    rw [Addr.add_lit] at h1 h2 h3
    exact ⟨s, An, kn, cn, Ad, kd, cd, h1, h2, h3, h4⟩
end
end Go.Proofs.YtgheaoaicbkaoaaGreatDoor

