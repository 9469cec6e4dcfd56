/-
  index.Trivial, index.Payload: the places of a constructor's arguments.
-/
import Derived.Test.YtdbiedpdibjdlaaGreatMHk
import Derived.Test.YtdbiedpdibjdlaaGreatMHa
namespace Go.Proofs.YtdbiedpdibjdlaaGreat
open Go.RowKit AC
set_option linter.unusedVariables false
set_option linter.unusedSimpArgs false
def TrivialPost (ok : Bool) (w : World) (e : Ending) (w' : World) : Prop := ∃ A l c, e = .returned (.tuple #[.agg #[.int .i64 0, .slice A l c], .bool ok]) ∧ Below w.heap.size w w'
set_option maxHeartbeats 4000000 in
set_option maxRecDepth 100000 in
theorem Trivial_any {D D' : Nat → Prop} {dat : List DaD} {A : Option Addr} {dl dc : Nat} (t : Tr) (w : World) (v : List Value) (hr : TrR w D' t v) (hD : DaS w D dat A dl dc) :
    Calls Tryz.prog 15 #[.slice A dl dc, .agg v.toArray] w (TrivialPost (knownB dat t) w) := by
  obtain ⟨B, len, cap, rfl, _, _, _⟩ := hr.form
  obtain ⟨C, hC⟩ : ∃ C, C = (w.alloc (.cells #[.int .i64 t.k, .int .i64 t.m, .slice B len cap] 25)).alloc (.cells #[.int .i64 0, .slice none 0 0] 51) := ⟨_, rfl⟩
  have HB0 : Hid (Below w.heap.size w C) := by rw [hC]; exact ((Below.refl _ _).alloc (Nat.le_refl _) _).alloc (by simp) _
  have HX0 : Hid (Bk C w.heap.size 25 #[.int .i64 t.k, .int .i64 t.m, .slice B len cap]) := by rw [hC]; exact (Bk.new _ _ _).alloc _
  have HY0 : Hid (Bk C (w.heap.size + 1) 51 #[.int .i64 0, .slice none 0 0]) := by rw [hC]; exact bk_two _ _ _ _
  have K0 := Lib.hid (sound_any t C _ (hr.below HB0.out) (hD.below HB0.out))
  have K1 : Hid (knownB dat t = true → ∀ x, Below w.heap.size w x → Calls Tryz.prog 36 #[.agg #[.int .i64 t.k, .int .i64 t.m, .slice B len cap]] x (IdxPost x)) :=
    fun h x hx => by
      unfold knownB at h
      rw [Bool.and_eq_true] at h
      exact trivial_any t.size D' t x _ (Nat.le_refl _) (by have := (TOk.valid h.2).1; omega) (hr.below hx)
  have K2 := Lib.hid (show Calls Tryz.prog 35 #[.slice A dl dc, .agg #[.int .i64 t.k, .int .i64 t.m, .slice B len cap]] C _ from K0.out)
  clear hD hr K0
  show Calls Tryz.prog 15 #[.slice A dl dc, .agg #[.int .i64 t.k, .int .i64 t.m, .slice B len cap]] w _
  generalize knownB dat t = q at *
  generalize t.k = x0 at *
  generalize t.m = x1 at *
  go_enter Tryz.func15, Tryz.ntmps15
  go_upto_region 1 with (fail)
  rw [← hC]
  clear hC
  obtain ⟨hx0, _, _⟩ := HX0.out.facts
  go_wp2_with fail
  refine K2.out.mono ?_
  rintro e w1 ⟨rfl, hb⟩
  have HB1 := Lib.hid (HB0.out.trans (hb.mono HB0.out.size))
  have HX1 := Lib.hid (HX0.out.below hb HX0.out.lt)
  have HY1 := Lib.hid (HY0.out.below hb HY0.out.lt)
  clear hb hx0
  cases q with
  | false =>
    obtain ⟨hy, hyf, _⟩ := HY1.out.facts
    go_wp2
    have hg : Bk ((w1.setCell ⟨w.heap.size + 1, 0, none⟩ (.int .i64 0)).setCell ⟨w.heap.size + 1, 1, none⟩ (.slice none 0 0)) (w.heap.size + 1) 51 #[.int .i64 0, .slice none 0 0] := bk_duo HY1.out
    refine bodyPost_ret (res_ct rfl _ _ (w.heap.size + 1) 51 #[.int .i64 0, .slice none 0 0] (0, 0) _ rfl hg Tryz.underlying51 rfl (by kernel_rfl)) rfl ?_
    exact ⟨none, 0, 0, rfl, (HB1.out.setCell (p := ⟨w.heap.size + 1, 0, none⟩) (by show w.heap.size ≤ w.heap.size + 1; omega) _).setCell (p := ⟨w.heap.size + 1, 1, none⟩) (by show w.heap.size ≤ w.heap.size + 1; omega) _⟩
  | true =>
    obtain ⟨hx1, _, _⟩ := HX1.out.facts
    go_wp2_with fail
    refine (K1.out (by first | rfl | trivial) _ HB1.out).mono ?_
    rintro e w2 ⟨A2, l2, c2, rfl, hb⟩
    have HB2 := Lib.hid (HB1.out.trans (hb.mono HB1.out.size))
    have HY2 := Lib.hid (HY1.out.below hb HY1.out.lt)
    clear hb hx1
    obtain ⟨hy, hyf, _⟩ := HY2.out.facts
    go_wp2
    have hg : Bk ((w2.setCell ⟨w.heap.size + 1, 0, none⟩ (.int .i64 0)).setCell ⟨w.heap.size + 1, 1, none⟩ (.slice A2 l2 c2)) (w.heap.size + 1) 51 #[.int .i64 0, .slice A2 l2 c2] := bk_duo HY2.out
    refine bodyPost_ret (res_ct rfl _ _ (w.heap.size + 1) 51 #[.int .i64 0, .slice A2 l2 c2] (0, 0) _ rfl hg Tryz.underlying51 rfl (by kernel_rfl)) rfl ?_
    exact ⟨A2, l2, c2, rfl, (HB2.out.setCell (p := ⟨w.heap.size + 1, 0, none⟩) (by show w.heap.size ≤ w.heap.size + 1; omega) _).setCell (p := ⟨w.heap.size + 1, 1, none⟩) (by show w.heap.size ≤ w.heap.size + 1; omega) _⟩
theorem NsR.sub {w : World} {D D' : Nat → Prop} {ss : List Nat} {A : Option Addr} {len : Nat} (h : NsR w D ss A len) (hd : ∀ b, D b → D' b) : NsR w D' ss A len := by
  obtain ⟨h1, h2⟩ := h
  refine ⟨h1, fun hp => ?_⟩
  obtain ⟨b, off, hA, hD, hb, hL⟩ := h2 hp
  exact ⟨b, off, hA, hd b hD, hb, hL⟩
/-! ### A growing row of ints -/
theorem info_int3 : (Tryz.prog.info? 3).map (fun i => (i.size, i.bytes, i.zero.map fun z => z.cells.size)) = some (1, 8, some 1) := by kernel_rfl
def nsL (ss : List Nat) : List Value := ss.map fun (n : Nat) => .int .i64 (n : Int)
def OwnN (base : Nat) (w : World) (lv : Value) (ss : List Nat) : Prop := w.ownsRow base 3 1 lv ss.length (nsL ss)
theorem OwnN.nil (base : Nat) (w : World) : OwnN base w (.slice none 0 0) [] := World.ownsRow_nil _ _ _ _
theorem OwnN.kept {base : Nat} {w w' : World} {lv : Value} {ss : List Nat} {row : Option Nat} (h : OwnN base w lv ss) (hg : w.grownBy w' row) (hne : lv.ownBlock = none ∨ lv.ownBlock ≠ row) : OwnN base w' lv ss := World.ownsRow.kept h hg hne
theorem OwnN.form {base : Nat} {w : World} {lv : Value} {ss : List Nat} (h : OwnN base w lv ss) : ∃ A c, lv = .slice A ss.length c ∧ ss.length ≤ c ∧ c ≤ maxLen := by
  rcases h.2 with ⟨hv, hn0⟩ | ⟨g, cap, cur, hv, _, _, hnc, hcm, _⟩
  · exact ⟨none, 0, by rw [hv, hn0], by omega, by unfold maxLen; omega⟩
  · exact ⟨_, _, hv, hnc, hcm⟩
theorem OwnN.done {base : Nat} {w : World} {lv : Value} {ss : List Nat} (h : OwnN base w lv ss) : ∃ A c, lv = .slice A ss.length c ∧ ss.length ≤ c ∧ c ≤ maxLen ∧ NsR w (base ≤ ·) ss A ss.length := by
  have hcells := fun g (hg : lv.ownBlock = some g) => World.ownsRow.cells h hg
  have hlts := World.ownsRow.lt h
  rcases h.2 with ⟨hv, hn0⟩ | ⟨g, cap, cur, hv, hb, hgg, hnc, hcm, _⟩
  · exact ⟨none, 0, by rw [hv, hn0], by omega, by unfold maxLen; omega, rfl, fun h => absurd h (by omega)⟩
  · have hob : lv.ownBlock = some g := by rw [hv]; rfl
    refine ⟨_, _, hv, hnc, hcm, rfl, fun _ => ⟨g, 0, rfl, hb, (hlts g hob).2, fun i hi => ?_⟩⟩
    have := hcells g hob i (.int .i64 (ss[i] : Nat)) (by rw [nsL, List.getElem?_map, List.getElem?_eq_getElem hi]; rfl)
    rw [Addr.add_lit] at this
    rw [List.getD_eq_getElem?_getD, List.getElem?_eq_getElem hi]
    simpa using this
theorem OwnN.next {base : Nat} {w3 : World} {g cap n : Nat} {ss : List Nat} {i : Nat} (hn : ss.length = n) (h : w3.ownsRow base 3 1 (.slice (some ⟨g, 0, none⟩) (n + 1) cap) (n + 1) (nsL ss ++ [.int .i64 (i : Int)])) : OwnN base w3 (.slice (some ⟨g, 0, none⟩) (n + 1) cap) (ss ++ [i]) := by
  unfold OwnN
  rw [List.length_append, List.length_singleton, hn]
  simpa [nsL] using h
/-- Two rows lie apart when one has grown. -/
theorem own_apart {w : World} {base e1 s1 n1 : Nat} {x1 : List Value} {p r : Value} (hp : w.ownsRow base e1 s1 p n1 x1) (h : p.ownBlock = none ∨ p.ownBlock ≠ r.ownBlock) {g n cap : Nat} (hg : r.ownBlock = some g ∨ g = w.heap.size + 1) :
    p.ownBlock = none ∨ p.ownBlock ≠ (Value.slice (some ⟨g, 0, none⟩) n cap).ownBlock := by
  rcases h with h | h
  · exact .inl h
  · refine .inr fun e => ?_
    have e' : p.ownBlock = some g := e
    rcases hg with hg | hg
    · exact h (e'.trans hg.symm)
    · have := (hp.lt g e').2
      omega
/-! ### Payload -/
/-- The places of the arguments that are recursive (or not), of the first n. -/
def posF (b : Bool) (fl : List Bool) (n : Nat) : List Nat := (List.range n).filter fun j => fl.getD j false == b
theorem posF_succ (b : Bool) (fl : List Bool) (n : Nat) : posF b fl (n + 1) = if fl.getD n false = b then posF b fl n ++ [n] else posF b fl n := by
  unfold posF
  rw [List.range_succ, List.filter_append]
  by_cases h : fl.getD n false = b
  · rw [if_pos h, List.filter_cons_of_pos (by simpa using h)]; rfl
  · rw [if_neg h, List.filter_cons_of_neg (by simpa using h)]; simp
theorem posF_len (b : Bool) (fl : List Bool) (n : Nat) : (posF b fl n).length ≤ n := by
  unfold posF
  exact Nat.le_trans (List.length_filter_le _ _) (by simp)
def flagsD (dat : List DaD) (t : Tr) (c : Int) : List Bool :=
  match dat[t.m.toNat]? with
  | none => []
  | some d => match d.cons[c.toNat]? with
    | none => []
    | some e => e.args.map (recD t.m d.vars)
noncomputable def payB (dat : List DaD) (t : Tr) (c : Int) : Bool := knownB dat t && (fieldsD dat t c).isSome
def PayPost (ok : Bool) (fl : List Bool) (w : World) (e : Ending) (w' : World) : Prop :=
  Below w.heap.size w w' ∧ ((ok = false ∧ e = .returned (.tuple #[.slice none 0 0, .slice none 0 0, .bool false])) ∨
    (ok = true ∧ ∃ PA pc RA rc, e = .returned (.tuple #[.slice PA (posF false fl fl.length).length pc, .slice RA (posF true fl fl.length).length rc, .bool true]) ∧
      (posF false fl fl.length).length ≤ pc ∧ pc ≤ maxLen ∧ (posF true fl fl.length).length ≤ rc ∧ rc ≤ maxLen ∧
      NsR w' (w.heap.size ≤ ·) (posF false fl fl.length) PA (posF false fl fl.length).length ∧ NsR w' (w.heap.size ≤ ·) (posF true fl fl.length) RA (posF true fl fl.length).length))
theorem fieldsD_at2 {dat : List DaD} {t : Tr} {c : Int} {fs : List Tr} (h : fieldsD dat t c = some fs) : ∃ (i j : Nat) (hi : i < dat.length) (hj : j < dat[i].cons.length), t.k = 5 ∧ t.m = i ∧ c = j ∧ (t.kids.length : Int) = dat[i].vars ∧ fs = dat[i].cons[j].args.map (subst t.kids) ∧ flagsD dat t c = dat[i].cons[j].args.map (recD i dat[i].vars) := by
  unfold fieldsD at h
  split at h
  · next h1 =>
    obtain ⟨h1, h2, h3⟩ := h1
    have hi : t.m.toNat < dat.length := by omega
    rw [List.getElem?_eq_getElem hi] at h
    simp only at h
    split at h
    · next h4 =>
      have hj : c.toNat < dat[t.m.toNat].cons.length := by omega
      rw [List.getElem?_eq_getElem hj] at h
      simp only at h
      split at h
      · injection h with h
        refine ⟨t.m.toNat, c.toNat, hi, hj, h1, by omega, by omega, h4.1, h.symm, ?_⟩
        rw [flagsD, List.getElem?_eq_getElem hi]
        simp only
        rw [List.getElem?_eq_getElem hj]
        simp only
        rw [show ((t.m.toNat : Nat) : Int) = t.m from by omega]
      · cases h
    · cases h
  · cases h
set_option maxHeartbeats 8000000 in
set_option maxRecDepth 100000 in
theorem payload_any {D D' : Nat → Prop} {dat : List DaD} {A : Option Addr} {dl dc : Nat} (t : Tr) (c : Int) (hc : rng c) (w : World) (v : List Value) (hr : TrR w D' t v) (hD : DaS w D dat A dl dc) :
    Calls Tryz.prog 16 #[.slice A dl dc, .agg v.toArray, .int .i64 c] w (PayPost (payB dat t c) (flagsD dat t c) w) := by
  obtain ⟨B, len, cap, rfl, _, hk, hm⟩ := hr.form
  obtain ⟨C, hC⟩ : ∃ C, C = w.alloc (.cells #[.int .i64 t.k, .int .i64 t.m, .slice B len cap] 25) := ⟨_, rfl⟩
  have HB0 : Hid (Below w.heap.size w C) := by rw [hC]; exact (Below.refl _ _).alloc (Nat.le_refl _) _
  have HX0 : Hid (Bk C w.heap.size 25 #[.int .i64 t.k, .int .i64 t.m, .slice B len cap]) := by rw [hC]; exact Bk.new _ _ _
  have K0 := Lib.hid (show Calls Tryz.prog 35 #[.slice A dl dc, .agg #[.int .i64 t.k, .int .i64 t.m, .slice B len cap]] C _ from sound_any t C _ (hr.below HB0.out) (hD.below HB0.out))
  have HKN : Hid (knownB dat t = true → DOk dat ∧ TOk t) := fun h => by
    unfold knownB at h
    rw [Bool.and_eq_true] at h
    exact ⟨(dataOk_ok h.1).2, TOk.valid h.2⟩
  have K1 : Hid (knownB dat t = true → ∀ x, Below w.heap.size w x → Calls Tryz.prog 17 #[.slice A dl dc, .agg #[.int .i64 t.k, .int .i64 t.m, .slice B len cap], .int .i64 c] x (FieldsPost (fieldsD dat t c) x)) :=
    fun h x hx => by
      obtain ⟨h1, h2⟩ := HKN.out h
      exact fields_any c hc x (hD.below hx) h1.small (hr.below hx) (by have := h2.1; omega)
  have K2 : Hid (knownB dat t = true → (fieldsD dat t c).isSome = true → ∀ x, Below w.heap.size w x → (flagsD dat t c).length ≤ 6 ∧ Calls Tryz.prog 37 #[.slice A dl dc, .int .i64 t.m, .int .i64 c] x (RecPost (flagsD dat t c) x)) :=
    fun h hs x hx => by
      obtain ⟨h1, h2⟩ := HKN.out h
      obtain ⟨fs, hfs⟩ := Option.isSome_iff_exists.1 hs
      obtain ⟨i, j, hi, hj, _, hmi, hcj, _, _, hfl⟩ := fieldsD_at2 hfs
      have h6 := ((h1 _ (List.getElem_mem hi)).2.2.2 _ (List.getElem_mem hj)).1
      rw [hfl, hmi, hcj]
      exact ⟨by simpa using h6, recursive_any i j hi hj (by omega) x (hD.below hx)⟩
  have hpay : payB dat t c = (knownB dat t && (fieldsD dat t c).isSome) := rfl
  rw [hpay]
  clear hD hr hpay HKN
  show Calls Tryz.prog 16 #[.slice A dl dc, .agg #[.int .i64 t.k, .int .i64 t.m, .slice B len cap], .int .i64 c] w _
  generalize knownB dat t = q at *
  generalize fieldsD dat t c = fd at *
  generalize flagsD dat t c = fl at *
  generalize t.k = x0 at *
  generalize t.m = x1 at *
  unfold rng at hc hm hk
  go_enter Tryz.func16, Tryz.ntmps16
  go_upto_region 1 with (fail)
  rw [← hC]
  clear hC
  obtain ⟨hx0, _, _⟩ := HX0.out.facts
  go_wp2_with fail
  refine K0.out.mono ?_
  rintro e w1 ⟨rfl, hb⟩
  have HB1 := Lib.hid (HB0.out.trans (hb.mono HB0.out.size))
  have HX1 := Lib.hid (HX0.out.below hb HX0.out.lt)
  clear hb hx0
  cases q with
  | false =>
    go_wp2
    go_ret3
    exact ⟨HB1.out, .inl ⟨rfl, rfl⟩⟩
  | true =>
    obtain ⟨hx1, _, _⟩ := HX1.out.facts
    go_wp2_with fail
    refine (K1.out (by first | rfl | trivial) _ HB1.out).mono ?_
    rintro e w2 ⟨hb, (⟨rfl, rfl⟩ | ⟨fs, FA, fl1, fc, rfl, rfl, hfs⟩)⟩
    · have HB2 := Lib.hid (HB1.out.trans (hb.mono HB1.out.size))
      clear hb
      go_wp2
      go_ret3
      exact ⟨HB2.out, .inl ⟨rfl, rfl⟩⟩
    · have HB2 := Lib.hid (HB1.out.trans (hb.mono HB1.out.size))
      have HX2 := Lib.hid (HX1.out.below hb HX1.out.lt)
      clear hb hx1 hfs
      obtain ⟨hx2, _, _⟩ := HX2.out.facts
      obtain ⟨hf6, KR⟩ := K2.out (by first | rfl | trivial) (by first | rfl | trivial) _ HB2.out
      have KRH := Lib.hid KR
      clear KR
      go_wp2_with fail
      refine KRH.out.mono ?_
      rintro e w3 ⟨Z, rfl, hz, hb⟩
      have HB3 := Lib.hid (HB2.out.trans (hb.mono HB2.out.size))
      have HZ := Lib.hid hz
      clear hb hz hx2
      obtain ⟨n, hn⟩ : ∃ n, fl.length = n := ⟨_, rfl⟩
      rw [hn] at hf6 HZ ⊢
      have HNN := Lib.hid hn
      clear hn
      go_wp2
      go_loopw [6, 7, 32] (fun pv rv jv wr => ∃ (i : Nat), i ≤ n ∧ jv = .int .i64 i ∧ Hid (OwnN w3.heap.size wr pv (posF false fl i)) ∧ Hid (OwnN w3.heap.size wr rv (posF true fl i)) ∧ Hid (pv.ownBlock = none ∨ pv.ownBlock ≠ rv.ownBlock) ∧ Hid (Below w3.heap.size w3 wr)) (fun _ _ jv _ => n - (intOf jv).toNat)
      case atStart => exact ⟨0, by omega, rfl, OwnN.nil _ _, OwnN.nil _ _, .inl rfl, Below.refl _ _⟩
      case round =>
        obtain ⟨i, hi, rfl, HP, HR, HD, HB⟩ := hrel
        obtain ⟨PA, pc, rfl, hpc, hpm⟩ := HP.out.form
        obtain ⟨RA, rc, rfl, hrc, hrm⟩ := HR.out.form
        unfold maxLen at hpm hrm
        have hpl := posF_len false fl i
        have hrl := posF_len true fl i
        by_cases hlt : i < n
        · obtain ⟨bz, oz, rfl, hDz, hbz, hcz⟩ := HZ.out.2 (by omega)
          have cz := cell_below (hcz i hlt) HB.out hbz
          have hbr : bz < wr.heap.size := by have := HB.out.size; omega
          obtain ⟨W1, hW1⟩ : ∃ x, x = wr := ⟨_, rfl⟩
          subst hW1
          have hps := posF_succ false fl i
          have hrs := posF_succ true fl i
          have hw3 := HB.out.size
          have HPS := Lib.hid hps
          have HRS := Lib.hid hrs
          have hP := HP.out
          have hR := HR.out
          unfold OwnN at hP hR
          generalize hpp : posF false fl i = ps at *
          generalize hrr : posF true fl i = rs at *
          clear hpp hrr hps hrs hcz
          cases hfl : fl.getD i false with
          | true =>
            rw [hfl] at cz HPS HRS
            have HPS2 := Lib.hid (HPS.out.trans (if_neg (by decide)))
            have HRS2 := Lib.hid (HRS.out.trans (if_pos rfl))
            clear hfl HPS HRS
            go_wp2_with (first | refine wpList_oneT rfl 57 3 (.tmp 39) rfl Tryz.underlying57 1 8 info_int3 (by decide) (by decide) [.int .i64 (i : Int)] (.int .i64 (i : Int)) rfl rfl rfl ?_ | (at_builtin; refine wpList_pushTr W1 rfl _ _ 57 3 rfl Tryz.underlying57 1 8 info_int3 (by decide) (by decide) w3.heap.size _ _ (nsL rs) [.int .i64 (i : Int)] (by rfl) hR (by rfl) rfl (by intro y hy; simp at hy; subst hy; rfl) (by omega) hw3 ?_))
            intro g cap3 w4 hown' hg hgb hglt
            have HR4 : Hid (OwnN w3.heap.size w4 (.slice (some ⟨g, 0, none⟩) (rs.length + 1) cap3) (posF true fl (i + 1))) := by
              show OwnN _ _ _ _
              rw [HRS2.out]
              exact OwnN.next rfl hown'
            have HP4 : Hid (OwnN w3.heap.size w4 (.slice PA ps.length pc) (posF false fl (i + 1))) := by
              show OwnN _ _ _ _
              rw [HPS2.out]
              exact (HP.out.kept (World.grownBy_alloc W1 _ _) HD.out).kept hg HD.out
            have HD4 := Lib.hid (own_apart HP.out HD.out (n := rs.length + 1) (cap := cap3) hgb)
            have HB4 : Hid (Below w3.heap.size w3 w4) := (HB.out.alloc hw3 _).grown hg (by simp; omega) (fun j hj => (World.ownsRow.lt HR.out j hj).1)
            clear hown' hg hgb hP hR
            go_wp2
            go_roundw
            case rel => exact ⟨i + 1, by omega, by go_num, HP4, HR4, HD4, HB4⟩
            case measure => simp [intOf]; omega
          | false =>
            rw [hfl] at cz HPS HRS
            have HPS2 := Lib.hid (HPS.out.trans (if_pos rfl))
            have HRS2 := Lib.hid (HRS.out.trans (if_neg (by decide)))
            clear hfl HPS HRS
            have HDR : Hid ((Value.slice RA rs.length rc).ownBlock = none ∨ (Value.slice RA rs.length rc).ownBlock ≠ (Value.slice PA ps.length pc).ownBlock) := by
              show _ ∨ _
              rcases HD.out with h | h
              · rcases hr : (Value.slice RA rs.length rc).ownBlock with _ | g
                · exact .inl rfl
                · exact .inr (by rw [h]; simp)
              · exact .inr fun e => h e.symm
            go_wp2_with (first | refine wpList_oneT rfl 57 3 (.tmp 43) rfl Tryz.underlying57 1 8 info_int3 (by decide) (by decide) [.int .i64 (i : Int)] (.int .i64 (i : Int)) rfl rfl rfl ?_ | (at_builtin; refine wpList_pushTr W1 rfl _ _ 57 3 rfl Tryz.underlying57 1 8 info_int3 (by decide) (by decide) w3.heap.size _ _ (nsL ps) [.int .i64 (i : Int)] (by rfl) hP (by rfl) rfl (by intro y hy; simp at hy; subst hy; rfl) (by omega) hw3 ?_))
            intro g cap3 w4 hown' hg hgb hglt
            have HP4 : Hid (OwnN w3.heap.size w4 (.slice (some ⟨g, 0, none⟩) (ps.length + 1) cap3) (posF false fl (i + 1))) := by
              show OwnN _ _ _ _
              rw [HPS2.out]
              exact OwnN.next rfl hown'
            have HR4 : Hid (OwnN w3.heap.size w4 (.slice RA rs.length rc) (posF true fl (i + 1))) := by
              show OwnN _ _ _ _
              rw [HRS2.out]
              exact (HR.out.kept (World.grownBy_alloc W1 _ _) HDR.out).kept hg HDR.out
            have HD4 : Hid ((Value.slice (some ⟨g, 0, none⟩) (ps.length + 1) cap3).ownBlock = none ∨ (Value.slice (some ⟨g, 0, none⟩) (ps.length + 1) cap3).ownBlock ≠ (Value.slice RA rs.length rc).ownBlock) := by
              show _ ∨ _
              rcases own_apart HR.out HDR.out (n := ps.length + 1) (cap := cap3) hgb with h | h
              · exact .inr (by rw [h]; exact fun e => by cases e)
              · exact .inr fun e => h e.symm
            have HB4 : Hid (Below w3.heap.size w3 w4) := (HB.out.alloc hw3 _).grown hg (by simp; omega) (fun j hj => (World.ownsRow.lt HP.out j hj).1)
            clear hown' hg hgb hP hR
            go_wp2
            go_roundw
            case rel => exact ⟨i + 1, by omega, by go_num, HP4, HR4, HD4, HB4⟩
            case measure => simp [intOf]; omega
        · obtain rfl : i = n := by omega
          go_wp2
          go_ret3
          obtain ⟨PA2, pc2, hpe, h1, h2, h3⟩ := HP.out.done
          obtain ⟨RA2, rc2, hre, h4, h5, h6⟩ := HR.out.done
          injection hpe with e1 e2 e3
          injection hre with e4 e5 e6
          subst e1; subst e3; subst e4; subst e6
          have hs3 := HB3.out.size
          refine ⟨HB3.out.trans (HB.out.mono hs3), .inr ⟨rfl, PA, pc, RA, rc, ?_, ?_⟩⟩
          · rw [HNN.out]; rfl
          · rw [HNN.out]
            exact ⟨h1, h2, h4, h5, NsR.sub h3 fun b hb => Nat.le_trans hs3 hb, NsR.sub h6 fun b hb => Nat.le_trans hs3 hb⟩
end Go.Proofs.YtdbiedpdibjdlaaGreat

