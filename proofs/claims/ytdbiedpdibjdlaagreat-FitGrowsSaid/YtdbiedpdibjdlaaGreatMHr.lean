/-
  FitGrows in plain Lean: if a chain is granted, so are the chain on it and the longer chain, and they are one.
-/
import Derived.Test.YtdbiedpdibjdlaaGreatMHn
import Derived.Test.YtdbiedpdibjdlaaGreatMGc
namespace Go.Proofs.YtdbiedpdibjdlaaGreat
open Go.RowKit AC
set_option linter.unusedVariables false
theorem stepN_le {B : Nat} : ∀ {ps : List Tr}, (∀ (i : Nat) (h : i < ps.length), ps[i].size ≤ B) → stepN ps ≤ 1 + B * ps.length
  | [], _ => by rw [stepN]; omega
  | p :: ps, h => by
    have h0 := h 0 (by simp)
    have ih := stepN_le (B := B) (ps := ps) fun i hi => h (i + 1) (Nat.succ_lt_succ hi)
    simp only [List.getElem_cons_zero] at h0
    rw [stepN, List.length_cons, Nat.mul_succ]
    omega
theorem chain_law {dat : List DaD} {t : Tr} {c : Int} {ps : List Tr} {ev : Tr} {n m : Nat} (h : ChainOk dat t c ps ev n) (hn : n ≤ 9) (hm : m ≤ 9) (hp4 : ps.length ≤ 4) (hev : ev.size ≤ 40) (hps : ∀ (i : Nat) (h : i < ps.length), ps[i].size ≤ 40) :
    ChainOk dat t c ps (chainV (flagsD dat t c) c ps n ev) m ∧ ChainOk dat t c ps ev ((n : Int) + m) ∧ hasTypeB dat (chainV (flagsD dat t c) c ps (n + m) ev) t = true ∧ chainV (flagsD dat t c) c ps m (chainV (flagsD dat t c) c ps n ev) = chainV (flagsD dat t c) c ps (n + m) ev := by
  obtain ⟨hk, h5, hn5, ⟨fs, hf, hr1, hpl, hpt⟩, hte, hsz⟩ := h
  have hst : stepN ps ≤ 161 := by
    have h1 := stepN_le hps
    have h2 : 40 * ps.length ≤ 40 * 4 := Nat.mul_le_mul_left _ hp4
    omega
  have hDOK : DOk dat := by
    have hk' := hk
    unfold knownB at hk'
    rw [Bool.and_eq_true] at hk'
    exact (dataOk_ok hk'.1).2
  obtain ⟨i, j, hi, hj, _, hmi, hcj, hlen, hfs, hfl⟩ := fieldsD_at2 hf
  have hc8 : c < 8 := by
    have := (hDOK _ (List.getElem_mem hi)).1
    omega
  have hc0 : 0 ≤ c := by omega
  have hff : fs.length = (flagsD dat t c).length := by rw [hfs, hfl, List.length_map, List.length_map]
  have hcf : (flagsD dat t c).count false = ps.length := by rw [hpl, posL_len]
  have hct : (flagsD dat t c).count true = 1 := by rw [← hr1, posL_len]
  have hrec : recOk t (flagsD dat t c) fs := by
    rw [hfs, hfl]
    exact recOk_of h5 hmi hlen _
  have hpay : payOk dat (flagsD dat t c) ps fs = true := by
    refine payOk_of (fun j => fs.getD j (.n 0 0 [])) _ _ _ 0 hff hcf.symm (fun j hj => ?_) fun i h1 h2 => ?_
    · simp only [Nat.zero_add]
      rw [List.getD_eq_getElem?_getD, List.getElem?_eq_getElem hj]
      rfl
    · have h3 := hpt i h1
      rw [show (posL false 0 (flagsD dat t c)).getD i 0 = (posL false 0 (flagsD dat t c))[i] from by rw [List.getD_eq_getElem?_getD, List.getElem?_eq_getElem h2]; rfl] at h3
      unfold hasTypeB at h3
      simp only [Bool.and_eq_true] at h3
      exact h3.2.2
  have hhas : hasT dat ev t = true := by
    unfold hasTypeB at hte
    simp only [Bool.and_eq_true] at hte
    exact hte.2.2
  have hsize : ∀ k, (chainV (flagsD dat t c) c ps k ev).size = ev.size + k * stepN ps := fun k => size_chain _ c ps hct hcf k ev
  have hmul : ∀ k : Nat, k ≤ 18 → k * stepN ps ≤ 18 * 161 := fun k hk => Nat.mul_le_mul hk hst
  have hht : ∀ k, k ≤ 18 → hasTypeB dat (chainV (flagsD dat t c) c ps k ev) t = true := fun k hk18 => by
    unfold hasTypeB
    simp only [Bool.and_eq_true, decide_eq_true_eq]
    refine ⟨hk, ?_, hasT_chain dat t c _ ps fs h5 hc0 hc8 hf hpay hrec k ev hhas⟩
    rw [hsize]
    have := hmul k hk18
    omega
  refine ⟨⟨hk, h5, by omega, ⟨fs, hf, hr1, hpl, hpt⟩, hht n (by omega), ?_⟩, ⟨hk, h5, by omega, ⟨fs, hf, hr1, hpl, hpt⟩, hte, ?_⟩, hht _ (by omega), chainV_add _ _ _ _ _ _⟩
  · rw [hsize]
    have h1 := hmul n (by omega)
    have h2 := hmul m (by omega)
    have h3 := hmul (n + m) (by omega)
    rw [Nat.add_mul] at h3
    have e : (m : Int) * (stepN ps : Int) = ((m * stepN ps : Nat) : Int) := by simp
    rw [e]
    omega
  · have h3 := hmul (n + m) (by omega)
    have e : ((n : Int) + m) * (stepN ps : Int) = (((n + m) * stepN ps : Nat) : Int) := by simp
    rw [e]
    omega
end Go.Proofs.YtdbiedpdibjdlaaGreat

/-
  Few nodes: the law's own look at its arguments.
-/
namespace Go.Proofs.YtdbiedpdibjdlaaGreat
open Go.RowKit AC
set_option linter.unusedVariables false
set_option linter.unusedSimpArgs false

/-- The number of nodes, or one above the limit. -/
def NPost (s L : Nat) (w : World) (e : Ending) (w' : World) : Prop := ∃ r : Nat, e = .returned (.int .i64 (r : Int)) ∧ 1 ≤ r ∧ r ≤ L + 1 ∧ (r ≤ L → r = s) ∧ Below w.heap.size w w'
set_option maxHeartbeats 4000000 in
set_option maxRecDepth 100000 in
theorem knodes_any (D : Nat → Prop) : ∀ (n : Nat) (t : Tr) (L : Nat) (w : World) (v : List Value), t.size ≤ n → L ≤ 41 → TrR w D t v →
    Calls Tryz.prog 34 #[.agg v.toArray, .int .i64 (L : Int)] w (NPost t.size L w)
  | 0, t, L, w, v, h, _, _ => absurd t.size_pos (by omega)
  | n + 1, t, L, w, v, hn, hL, hr => by
    have HIH := Lib.hid (knodes_any D n)
    obtain ⟨A, len, cap, rfl, hs, _, _⟩ := hr.form
    have hsz := Tr.size_eq t
    generalize t.kids = l at hs hsz
    have HS := Lib.hid hs
    have hlen : len = l.length := hs.1
    have hl2 := sizes_len l
    have hcap : cap ≤ maxLen := hs.2.2.1
    have hlc := hs.2.1
    have HLEN := Lib.hid hlen
    have HSZ := Lib.hid hsz
    unfold maxLen at hcap
    clear hs hr hlen hsz
    obtain ⟨C, hC⟩ : ∃ C, C = w.alloc (.cells #[.int .i64 t.k, .int .i64 t.m, .slice A len cap] 28) := ⟨_, rfl⟩
    have HB0 : Hid (Below w.heap.size w C) := by rw [hC]; exact (Below.refl _ _).alloc (Nat.le_refl _) _
    have HBX : Hid (Bk C w.heap.size 28 #[.int .i64 t.k, .int .i64 t.m, .slice A len cap]) := by rw [hC]; exact Bk.new _ _ _
    show Calls Tryz.prog 34 #[.agg #[.int .i64 t.k, .int .i64 t.m, .slice A len cap], .int .i64 (L : Int)] w _
    go_enter Tryz.func34, Tryz.ntmps34
    go_upto_region 1 with (fail)
    rw [← hC]
    clear hC
    obtain ⟨hc0, _, _⟩ := HBX.out.facts
    go_wp2
    go_loopw [5, 10] (fun nv iv wr => ∃ (i r : Nat), i ≤ len ∧ iv = .int .i64 i ∧ nv = .int .i64 r ∧ 1 ≤ r ∧ r ≤ L + 1 ∧ Hid (r ≤ L → r = 1 + sizes (l.take i)) ∧ Hid (Below C.heap.size C wr)) (fun _ iv _ => len - (intOf iv).toNat)
    case atStart => exact ⟨0, 1, by omega, rfl, rfl, by omega, by omega, fun _ => by simp [sizes], Below.refl _ _⟩
    case round =>
      obtain ⟨i, r, hi, rfl, rfl, hr1, hr2, HR, HB⟩ := hrel
      have HBW := Lib.hid (HB0.out.trans (HB.out.mono HB0.out.size))
      obtain ⟨hc1, _, _⟩ := (HBX.out.below HB.out HBX.out.lt).facts
      clear hc0
      by_cases hlt : i < len
      · by_cases hrl : r ≤ L
        · obtain ⟨b, off, A', len', cap', rfl, hb, e0, e1, e2, hrk⟩ := (HS.out.below HBW.out).get (i := i) (by have := HLEN.out; omega)
          have hil : i < l.length := by have := HLEN.out; omega
          have hgs := sizes_get hil
          have htk2 := sizes_take hil
          have HTK2 := Lib.hid htk2
          clear htk2
          have key := HIH.out l[i] (L - r) wr _ (by have := HSZ.out; omega) (by omega) hrk
          have KEY := Lib.hid key
          clear key hrk hgs
          generalize l[i].k = x0 at *
          generalize l[i].m = x1 at *
          have hsub : ((L : Int) - (r : Int)) = ((L - r : Nat) : Int) := by omega
          go_wp2_with fail
          refine KEY.out.mono ?_
          rintro e w2 ⟨c, rfl, hc3, hc4, hcT, hb2⟩
          have HB2 := Lib.hid (HB.out.trans (hb2.mono HB.out.size))
          have HR2 : Hid (r + c ≤ L → r + c = 1 + sizes (l.take (i + 1))) := by
            intro h
            have h1 := HR.out hrl
            have h2 := hcT (by omega)
            rw [HTK2.out]
            omega
          clear hcT hb2 hsub
          go_wp2
          go_roundw
          case rel => exact ⟨i + 1, r + c, by omega, by go_num, by go_num, by omega, by omega, HR2, HB2⟩
          case measure => simp [intOf]; omega
        · have hrl' : L < r := by omega
          go_wp2
          go_ret
          exact ⟨r, rfl, hr1, hr2, (fun h => absurd h (by omega)), HBW.out⟩
      · obtain rfl : i = len := by omega
        go_wp2
        go_ret
        exact ⟨r, rfl, hr1, hr2, (fun h => by rw [HR.out h, HSZ.out, show l.take i = l from by rw [HLEN.out, List.take_length]]), HBW.out⟩

set_option maxHeartbeats 4000000 in
set_option maxRecDepth 100000 in
theorem kargs_any (D : Nat → Prop) (l : List Tr) (A : Option Addr) (len cap : Nat) (w : World) (hs : TrS w D l A len cap) :
    Calls Tryz.prog 14 #[.slice A len cap] w (fun e w' => ∃ b : Bool, e = .returned (.bool b) ∧ (b = true → len ≤ 6 ∧ sizes l ≤ 40) ∧ Below w.heap.size w w') := by
  have HS := Lib.hid hs
  have hlen : len = l.length := hs.1
  have hcap : cap ≤ maxLen := hs.2.2.1
  have hlc := hs.2.1
  have HLEN := Lib.hid hlen
  unfold maxLen at hcap
  clear hs hlen
  go_enter Tryz.func14, Tryz.ntmps14
  go_wp2
  go_loopw [3, 7] (fun nv iv wr => ∃ (i r : Nat), i ≤ len ∧ iv = .int .i64 i ∧ nv = .int .i64 r ∧ r ≤ 40 ∧ Hid (r = sizes (l.take i)) ∧ Hid (Below w.heap.size w wr)) (fun _ iv _ => len - (intOf iv).toNat)
  case atStart => exact ⟨0, 0, by omega, rfl, rfl, by omega, (by show 0 = sizes (l.take 0); simp [sizes]), Below.refl _ _⟩
  case round =>
    obtain ⟨i, r, hi, rfl, rfl, hr2, HR, HB⟩ := hrel
    by_cases hlt : i < len
    · obtain ⟨b, off, A', len', cap', rfl, hb, e0, e1, e2, hrk⟩ := (HS.out.below HB.out).get (i := i) (by have := HLEN.out; omega)
      have hil : i < l.length := by have := HLEN.out; omega
      have htk2 := sizes_take hil
      have HTK2 := Lib.hid htk2
      clear htk2
      have key := knodes_any D _ l[i] (41 - r) wr _ (Nat.le_refl _) (by omega) hrk
      have KEY := Lib.hid key
      clear key hrk
      generalize l[i].k = x0 at *
      generalize l[i].m = x1 at *
      have hsub : ((41 : Int) - (r : Int)) = ((41 - r : Nat) : Int) := by omega
      go_wp2_with fail
      refine KEY.out.mono ?_
      rintro e w2 ⟨c, rfl, hc3, hc4, hcT, hb2⟩
      have HB2 := Lib.hid (HB.out.trans (hb2.mono HB.out.size))
      have HCT := Lib.hid hcT
      clear hcT hb2 hsub
      by_cases hc40 : r + c ≤ 40
      · have HR2 : Hid (r + c = sizes (l.take (i + 1))) := by
          have h1 := HR.out
          have h2 := HCT.out (by omega)
          show _ = _
          rw [HTK2.out]
          omega
        go_wp2
        go_roundw
        case rel => exact ⟨i + 1, r + c, by omega, by go_num, by go_num, by omega, HR2, HB2⟩
        case measure => simp [intOf]; omega
      · have hc41 : 40 < r + c := by omega
        go_wp2
        go_ret
        exact ⟨false, rfl, (fun h => by cases h), HB2.out⟩
    · obtain rfl : i = len := by omega
      go_wp2
      go_ret
      refine ⟨decide ((i : Int) ≤ 6), rfl, fun h => ⟨by have := of_decide_eq_true h; omega, ?_⟩, HB.out⟩
      have h1 := HR.out
      rw [show l.take i = l from by rw [HLEN.out, List.take_length]] at h1
      omega
end Go.Proofs.YtdbiedpdibjdlaaGreat

/-
  Which arguments the law FitGrows looks at.
-/
namespace Go.Proofs.YtdbiedpdibjdlaaGreat
open Go.RowKit AC
set_option linter.unusedVariables false
set_option linter.unusedSimpArgs false

/-- A tree in a new block, as a slice of one. -/
theorem TrS.new {w : World} {D : Nat → Prop} {t : Tr} {A : Option Addr} {len cap : Nat} (h : TrR w D t [.int .i64 t.k, .int .i64 t.m, .slice A len cap]) (T : TypeId) :
    TrS (w.alloc (.cells #[.int .i64 t.k, .int .i64 t.m, .slice A len cap] T)) (fun _ => True) [t] (some ⟨w.heap.size, 0, none⟩) 1 1 := by
  refine ⟨rfl, Nat.le_refl _, by unfold maxLen; omega, fun _ => ⟨w.heap.size, 0, rfl, trivial, by simp, ?_⟩⟩
  rw [TrL, TrL]
  refine ⟨⟨_, fun j x hx => ?_, (h.sub fun _ _ _ => trivial).below ((Below.refl _ _).alloc (Nat.le_refl _) _)⟩, trivial⟩
  rw [(Bk.new w T _).cell]
  simpa using hx
def KGPost (ld : Nat) (l : List Tr) (t : Tr) (w : World) (e : Ending) (w' : World) : Prop := ∃ b : Bool, e = .returned (.bool b) ∧ (b = true → ld ≤ 2 ∧ l.length ≤ 4 ∧ t.size ≤ 40 ∧ ∀ (i : Nat) (h : i < l.length), l[i].size ≤ 40) ∧ Below w.heap.size w w'
set_option maxHeartbeats 4000000 in
set_option maxRecDepth 100000 in
theorem keptG_any (D : Nat → Prop) (l : List Tr) (t : Tr) (Ad A : Option Addr) (ld cd len cap : Nat) (v : List Value) (w : World) (hld : ld ≤ cd) (hcd : cd ≤ maxLen) (hs : TrS w D l A len cap) (hr : TrR w D t v) :
    Calls Tryz.prog 5 #[.slice Ad ld cd, .slice A len cap, .agg v.toArray] w (KGPost ld l t w) := by
  have HS := Lib.hid hs
  have hlen : len = l.length := hs.1
  have hcap : cap ≤ maxLen := hs.2.2.1
  have hlc := hs.2.1
  have HLEN := Lib.hid hlen
  unfold maxLen at hcap hcd
  obtain ⟨A1, len1, cap1, rfl, _, _, _⟩ := hr.form
  have HR := Lib.hid hr
  clear hs hlen hr
  obtain ⟨x0, hx0⟩ : ∃ x, t.k = x := ⟨_, rfl⟩
  obtain ⟨x1, hx1⟩ : ∃ x, t.m = x := ⟨_, rfl⟩
  obtain ⟨C, hC⟩ : ∃ C, C = w.alloc (.cells #[.int .i64 t.k, .int .i64 t.m, .slice A1 len1 cap1] 28) := ⟨_, rfl⟩
  have HB0 : Hid (Below w.heap.size w C) := by rw [hC]; exact (Below.refl _ _).alloc (Nat.le_refl _) _
  have HBX : Hid (Bk C w.heap.size 28 #[.int .i64 t.k, .int .i64 t.m, .slice A1 len1 cap1]) := by rw [hC]; exact Bk.new _ _ _
  have key := kargs_any (fun _ => True) [t] _ 1 1 _ (TrS.new (HR.out.below HB0.out) 28)
  have KEY := Lib.hid key
  clear key
  show Calls Tryz.prog 5 #[.slice Ad ld cd, .slice A len cap, .agg #[.int .i64 t.k, .int .i64 t.m, .slice A1 len1 cap1]] w _
  rw [hx0, hx1] at HBX KEY ⊢
  rw [hx0, hx1] at hC
  have HX0 := Lib.hid hx0
  have HX1 := Lib.hid hx1
  clear hx0 hx1
  go_enter Tryz.func5, Tryz.ntmps5
  go_upto_region 1 with (fail)
  rw [← hC]
  clear hC
  obtain ⟨hc0, _, _⟩ := HBX.out.facts
  by_cases h2 : ld ≤ 2
  · by_cases h4 : len ≤ 4
    · have d2 : ¬ 2 < ld := by omega
      have d4 : ¬ 4 < len := by omega
      go_wp2_with fail
      refine KEY.out.mono ?_
      rintro e w2 ⟨b, rfl, hbt, hb2⟩
      have HB2 := Lib.hid ((HB0.out.alloc HB0.out.size (.cells #[.int .i64 x0, .int .i64 x1, .slice A1 len1 cap1] 28)).trans (hb2.mono (by have := HB0.out.size; simp; omega)))
      cases b with
      | false =>
        clear hb2 hbt
        go_wp2
        go_ret
        exact ⟨false, rfl, (fun h => by cases h), HB2.out⟩
      | true =>
        have HSZ : Hid (t.size ≤ 40) := by
          have := (hbt rfl).2
          simp only [sizes] at this
          exact this
        clear hb2 hbt
        go_wp2
        go_loopw [24] (fun iv wr => ∃ i : Nat, i ≤ len ∧ iv = .int .i64 i ∧ Hid (∀ (j : Nat) (h : j < l.length), j < i → l[j].size ≤ 40) ∧ Hid (Below w2.heap.size w2 wr)) (fun iv _ => len - (intOf iv).toNat)
        case atStart => exact ⟨0, by omega, rfl, (fun j _ h => absurd h (by omega)), Below.refl _ _⟩
        case round =>
          obtain ⟨i, hi, rfl, HA, HB⟩ := hrel
          have HBW := Lib.hid (HB2.out.trans (HB.out.mono HB2.out.size))
          by_cases hlt : i < len
          · have hil : i < l.length := by have := HLEN.out; omega
            obtain ⟨b, off, A', len', cap', rfl, hb, _, _, _, _⟩ := (HS.out.below HBW.out).get (i := i) hil
            have key := kargs_any D [l[i]] _ 1 (cap - i) wr ((HS.out.below HBW.out).one hil)
            have KEY2 := Lib.hid key
            clear key
            go_wp2_with fail
            refine KEY2.out.mono ?_
            rintro e w3 ⟨b3, rfl, hbt, hb3⟩
            have HB3 := Lib.hid (HB.out.trans (hb3.mono HB.out.size))
            cases b3 with
            | false =>
              clear hb3 hbt
              go_wp2
              go_ret
              exact ⟨false, rfl, (fun h => by cases h), HB2.out.trans (HB3.out.mono HB2.out.size)⟩
            | true =>
              have HA2 : Hid (∀ (j : Nat) (h : j < l.length), j < i + 1 → l[j].size ≤ 40) := by
                intro j h hj
                rcases Nat.lt_or_ge j i with h5 | h5
                · exact HA.out j h h5
                · obtain rfl : j = i := by omega
                  have := (hbt rfl).2
                  simp only [sizes] at this
                  exact this
              clear hb3 hbt
              go_wp2
              go_roundw
              case rel => exact ⟨i + 1, by omega, by go_num, HA2, HB3⟩
              case measure => simp [intOf]; omega
          · obtain rfl : i = len := by omega
            go_wp2
            go_ret
            exact ⟨true, rfl, (fun _ => ⟨h2, by have := HLEN.out; omega, HSZ.out, fun j h => HA.out j h (by have := HLEN.out; omega)⟩), HBW.out⟩
    · have d4 : 4 < len := by omega
      have d2 : ¬ 2 < ld := by omega
      go_wp2
      go_ret
      exact ⟨false, rfl, (fun h => by cases h), HB0.out⟩
  · have d2 : 2 < ld := by omega
    go_wp2
    go_ret
    exact ⟨false, rfl, (fun h => by cases h), HB0.out⟩
end Go.Proofs.YtdbiedpdibjdlaaGreat

