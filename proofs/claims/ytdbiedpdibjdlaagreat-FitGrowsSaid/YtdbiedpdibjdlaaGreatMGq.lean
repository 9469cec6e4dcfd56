/-
  slices.EqualFunc over values and types.
-/
import Derived.Test.YtdbiedpdibjdlaaGreatMGg
import Derived.Test.YtdbiedpdibjdlaaGreatMHk
import Derived.StillTailTactics
namespace Go.Proofs.YtdbiedpdibjdlaaGreat
open Go.RowKit AC
set_option linter.unusedVariables false
set_option linter.unusedSimpArgs false

/-- Two lists of one length whose elements answer to each other. -/
def allP (p : Tr → Tr → Bool) : List Tr → List Tr → Bool
  | [], [] => true
  | v :: l, t :: ts => p v t && allP p l ts
  | _, _ => false
theorem allP_len {p : Tr → Tr → Bool} : ∀ {l ts : List Tr}, l.length ≠ ts.length → allP p l ts = false
  | [], [], h => absurd rfl h
  | [], _ :: _, _ => rfl
  | _ :: _, [], _ => rfl
  | v :: l, t :: ts, h => by rw [allP, allP_len (l := l) (ts := ts) (by simpa using h), Bool.and_false]
theorem allP_no {p : Tr → Tr → Bool} : ∀ {l ts : List Tr} {i : Nat} (h1 : i < l.length) (h2 : i < ts.length), p l[i] ts[i] = false → allP p l ts = false
  | v :: l, t :: ts, 0, _, _, h => by rw [allP]; simp at h; simp [h]
  | v :: l, t :: ts, i + 1, h1, h2, h => by
    rw [allP, allP_no (l := l) (ts := ts) (i := i) (by simpa using h1) (by simpa using h2) (by simpa using h), Bool.and_false]
theorem allP_yes {p : Tr → Tr → Bool} : ∀ {l ts : List Tr}, l.length = ts.length → (∀ (i : Nat) (h1 : i < l.length) (h2 : i < ts.length), p l[i] ts[i] = true) → allP p l ts = true
  | [], [], _, _ => rfl
  | v :: l, t :: ts, hl, h => by
    have h0 := h 0 (by simp) (by simp)
    have h1 := allP_yes (l := l) (ts := ts) (by simpa using hl) fun i h1 h2 => h (i + 1) (Nat.succ_lt_succ h1) (Nat.succ_lt_succ h2)
    simp at h0
    rw [allP, h0, h1]
    rfl
set_option maxHeartbeats 4000000 in
set_option maxRecDepth 100000 in
theorem equalFunc_any {D D' : Nat → Prop} (p : Tr → Tr → Bool) (l ts : List Tr) (A A' : Option Addr) (len cap len' cap' : Nat) (g : FuncId) (fi ca : Array Value) (w : World) (hs : TrS w D l A len cap) (hs' : TrS w D' ts A' len' cap') (he : Enters Tryz.prog g)
    (hst : ∀ (i : Nat) (h1 : i < l.length) (h2 : i < ts.length) (W : World) (v v' : List Value), Below w.heap.size w W → TrR W D l[i] v → TrR W D' ts[i] v' → Calls Tryz.prog g (fi ++ #[.agg v.toArray, .agg v'.toArray] ++ ca) W (RetV (.bool (p l[i] ts[i])) W)) :
    Calls Tryz.prog 75 #[.slice A len cap, .slice A' len' cap', .func (.func g) fi ca] w (RetV (.bool (allP p l ts)) w) := by
  have hlen : len = l.length := hs.1
  have hlen' : len' = ts.length := hs'.1
  have hcap : cap ≤ maxLen := hs.2.2.1
  have hlc := hs.2.1
  obtain ⟨q, hq⟩ : ∃ q, allP p l ts = q := ⟨_, rfl⟩
  rw [hq]
  have HQ := Lib.hid hq
  have HLEN := Lib.hid hlen
  have HLEN2 := Lib.hid hlen'
  have HS := Lib.hid hs
  have HS2 := Lib.hid hs'
  have HST := Lib.hid hst
  unfold maxLen at hcap
  unfold Enters at he
  clear hs hs' hlen hlen' hst hq
  go_enter Tryz.func75, Tryz.ntmps75
  by_cases hl : len = len'
  · subst hl
    go_wp2
    go_loopw [17] (fun iv wr => ∃ i : Nat, i ≤ len ∧ iv = .int .i64 i ∧ Hid (Below w.heap.size w wr) ∧ Hid (∀ (j : Nat) (h1 : j < l.length) (h2 : j < ts.length), j < i → p l[j] ts[j] = true)) (fun iv _ => len - (intOf iv).toNat)
    case atStart => exact ⟨0, by omega, rfl, Below.refl _ _, fun j _ _ h => absurd h (by omega)⟩
    case round =>
      obtain ⟨i, hi, rfl, HB, HP⟩ := hrel
      by_cases hlt : i < len
      · have hil : i < l.length := by have := HLEN.out; omega
        have hil2 : i < ts.length := by have := HLEN2.out; omega
        obtain ⟨b, off, A1, len1, cap1, rfl, hb, e0, e1, e2, hrk⟩ := (HS.out.below HB.out).get (i := i) hil
        obtain ⟨b', off', A2, len2, cap2, rfl, hb', f0, f1, f2, hrk'⟩ := (HS2.out.below HB.out).get (i := i) hil2
        have HK1 := Lib.hid hrk
        have HK2 := Lib.hid hrk'
        clear hrk hrk'
        obtain ⟨x0, hx0⟩ : ∃ x, l[i].k = x := ⟨_, rfl⟩
        obtain ⟨x1, hx1⟩ : ∃ x, l[i].m = x := ⟨_, rfl⟩
        obtain ⟨y0, hy0⟩ : ∃ x, ts[i].k = x := ⟨_, rfl⟩
        obtain ⟨y1, hy1⟩ : ∃ x, ts[i].m = x := ⟨_, rfl⟩
        rw [hx0, hx1] at HK1
        rw [hy0, hy1] at HK2
        rw [hx0] at e0
        rw [hx1] at e1
        rw [hy0] at f0
        rw [hy1] at f1
        clear hx0 hx1 hy0 hy1
        obtain ⟨r, hr⟩ : ∃ r, p l[i] ts[i] = r := ⟨_, rfl⟩
        have key := fun W (hW : Below wr.heap.size wr W) => HST.out i hil hil2 W _ _ (HB.out.trans (hW.mono HB.out.size)) (HK1.out.below hW) (HK2.out.below hW)
        rw [hr] at key
        have KEY : Hid (∀ W, Below wr.heap.size wr W → Calls Tryz.prog g (fi ++ (#[.agg #[.int .i64 x0, .int .i64 x1, .slice A1 len1 cap1], .agg #[.int .i64 y0, .int .i64 y1, .slice A2 len2 cap2]] ++ ca)) W (RetV (.bool r) W)) := fun W hW => by
          have := key W hW
          rw [Array.append_assoc] at this
          exact this
        have HR := Lib.hid hr
        clear key hr
        go_wp2_with fail
        refine (KEY.out _ ?_).mono ?_
        · repeat first | exact Below.refl _ _ | refine Below.alloc ?_ (by first | (simp; done) | (simp; omega)) _
        rintro e w2 ⟨rfl, hb2⟩
        have HB2 : Hid (Below w.heap.size w w2) := by
          refine HB.out.trans (Below.mono ?_ HB.out.size)
          refine Below.trans ?_ (hb2.mono (by first | (simp; done) | (simp; omega)))
          repeat first | exact Below.refl _ _ | refine Below.alloc ?_ (by first | (simp; done) | (simp; omega)) _
        clear hb2
        cases r with
        | true =>
          go_wp2
          refine ⟨⟨i + 1, by omega, rfl, HB2, fun j h1 h2 h => ?_⟩, ?_⟩
          · by_cases hj : j = i
            · subst hj
              exact HR.out
            · exact HP.out j h1 h2 (by omega)
          · simp only [intOf]
            omega
        | false =>
          have e : q = false := by
            rw [← HQ.out]
            exact allP_no (i := i) hil hil2 HR.out
          go_wp2
          go_ret
          exact ⟨by rw [e]; rfl, HB2.out⟩
      · obtain rfl : i = len := by omega
        have e : q = true := by
          rw [← HQ.out]
          exact allP_yes (by rw [← HLEN.out, ← HLEN2.out]) fun j h1 h2 => HP.out j h1 h2 (by have := HLEN.out; omega)
        go_wp2
        go_ret
        exact ⟨by rw [e]; rfl, HB.out⟩
  · have e : q = false := by rw [← HQ.out]; exact allP_len (by rw [← HLEN.out, ← HLEN2.out]; exact hl)
    have hli : ¬ (len : Int) = (len' : Int) := by omega
    go_wp2
    go_ret
    exact ⟨by rw [e]; rfl, Below.refl _ _⟩
end Go.Proofs.YtdbiedpdibjdlaaGreat

/-
  has: a value has a type; haveAll.
-/
namespace Go.Proofs.YtdbiedpdibjdlaaGreat
open Go.RowKit AC
set_option linter.unusedVariables false
set_option linter.unusedSimpArgs false
theorem hasAll_allP (dat : List DaD) : ∀ (l ts : List Tr), hasAll dat l ts = allP (hasT dat) l ts
  | [], [] => by rw [hasAll, allP]
  | v :: l, t :: ts => by rw [hasAll, allP, hasAll_allP dat l ts]
  | [], t :: ts => by rw [hasAll, allP] <;> simp
  | v :: l, [] => by rw [hasAll, allP] <;> simp
def HasOk (dat : List DaD) (n : Nat) : Prop := ∀ (D D' DD : Nat → Prop) (A : Option Addr) (dl dc : Nat) (v t : Tr) (w : World) (cv ct : List Value), v.size ≤ n → TOk t → TrR w D v cv → TrR w D' t ct → DaS w DD dat A dl dc →
  Calls Tryz.prog 22 #[.slice A dl dc, .agg cv.toArray, .agg ct.toArray] w (RetV (.bool (hasT dat v t)) w)
set_option maxHeartbeats 4000000 in
set_option maxRecDepth 100000 in
theorem haveAll1_any {dat : List DaD} {n : Nat} (ih : HasOk dat n) {D D' DD : Nat → Prop} {A : Option Addr} {dl dc b2 : Nat} (v t : Tr) (w : World) (cv ct : List Value) (hn : v.size ≤ n) (ht : TOk t) (hv : TrR w D v cv) (htr : TrR w D' t ct) (hd : DaS w DD dat A dl dc) (h2 : Bk w b2 22 #[.slice A dl dc]) :
    Calls Tryz.prog 76 #[.agg cv.toArray, .agg ct.toArray, .pointer (some ⟨b2, 0, none⟩)] w (RetV (.bool (hasT dat v t)) w) := by
  obtain ⟨VA, vl, vc, rfl, _, _, _⟩ := hv.form
  obtain ⟨TA, tl, tc, rfl, _, _, _⟩ := htr.form
  obtain ⟨C, hC⟩ : ∃ C, C = (w.alloc (.cells #[.int .i64 v.k, .int .i64 v.m, .slice VA vl vc] 28)).alloc (.cells #[.int .i64 t.k, .int .i64 t.m, .slice TA tl tc] 25) := ⟨_, rfl⟩
  have HB0 : Hid (Below w.heap.size w C) := by rw [hC]; exact ((Below.refl _ _).alloc (Nat.le_refl _) _).alloc (by simp) _
  have HX0 : Hid (Bk C w.heap.size 28 #[.int .i64 v.k, .int .i64 v.m, .slice VA vl vc]) := by rw [hC]; exact (Bk.new _ _ _).alloc _
  have HX1 : Hid (Bk C (w.heap.size + 1) 25 #[.int .i64 t.k, .int .i64 t.m, .slice TA tl tc]) := by rw [hC]; exact bk_two _ _ _ _
  have HX2 := Lib.hid (h2.below HB0.out h2.lt)
  have h2lt := h2.lt
  have KEY := Lib.hid (ih D D' DD A dl dc v t C _ _ hn ht (hv.below HB0.out) (htr.below HB0.out) (hd.below HB0.out))
  clear hv htr hd h2 ih
  show Calls Tryz.prog 76 #[.agg #[.int .i64 v.k, .int .i64 v.m, .slice VA vl vc], .agg #[.int .i64 t.k, .int .i64 t.m, .slice TA tl tc], .pointer (some ⟨b2, 0, none⟩)] w _
  have KEY2 := Lib.hid (show Calls Tryz.prog 22 #[.slice A dl dc, .agg #[.int .i64 v.k, .int .i64 v.m, .slice VA vl vc], .agg #[.int .i64 t.k, .int .i64 t.m, .slice TA tl tc]] C _ from KEY.out)
  clear KEY
  generalize hasT dat v t = q at *
  generalize v.k = y0 at *
  generalize v.m = y1 at *
  generalize t.k = x0 at *
  generalize t.m = x1 at *
  go_enter Tryz.func76, Tryz.ntmps76
  go_upto_region 1 with (fail)
  rw [← hC]
  clear hC
  obtain ⟨hc0, _, _⟩ := HX0.out.facts
  obtain ⟨hc1, _, _⟩ := HX1.out.facts
  obtain ⟨hc2, _, _⟩ := HX2.out.facts
  go_wp2_with fail
  refine KEY2.out.mono ?_
  rintro e w2 ⟨rfl, hb⟩
  have HB2 := Lib.hid (HB0.out.trans (hb.mono HB0.out.size))
  clear hb
  go_wp2
  go_ret
  exact ⟨rfl, HB2.out⟩
set_option maxHeartbeats 4000000 in
set_option maxRecDepth 100000 in
theorem haveAll_any {dat : List DaD} {n : Nat} (ih : HasOk dat n) {D D' DD : Nat → Prop} {A VA TA : Option Addr} {dl dc vl vc tl tc : Nat} (l ts : List Tr) (w : World) (hn : ∀ x ∈ l, x.size ≤ n) (ht : ∀ x ∈ ts, TOk x) (hv : TrS w D l VA vl vc) (htr : TrS w D' ts TA tl tc) (hd : DaS w DD dat A dl dc) :
    Calls Tryz.prog 45 #[.slice A dl dc, .slice VA vl vc, .slice TA tl tc] w (RetV (.bool (hasAll dat l ts)) w) := by
  obtain ⟨C, hC⟩ : ∃ C, C = w.alloc (.cells #[.slice A dl dc] 22) := ⟨_, rfl⟩
  have HB0 : Hid (Below w.heap.size w C) := by rw [hC]; exact (Below.refl _ _).alloc (Nat.le_refl _) _
  have HX0 : Hid (Bk C w.heap.size 22 #[.slice A dl dc]) := by rw [hC]; exact Bk.new _ _ _
  have KEY := Lib.hid (equalFunc_any (hasT dat) l ts VA TA vl vc tl tc 76 #[] #[.pointer (some ⟨w.heap.size, 0, none⟩)] C (hv.below HB0.out) (htr.below HB0.out)
    (enters_of Tryz.func76 (by kernel_rfl) rfl)
    (fun i h1 h2 W cv ct hW hcv hct => by
      have := haveAll1_any ih (b2 := w.heap.size) l[i] ts[i] W cv ct (hn _ (List.getElem_mem _)) (ht _ (List.getElem_mem _)) hcv hct ((hd.below HB0.out).below hW) (HX0.out.below hW HX0.out.lt)
      simpa using this))
  rw [← hasAll_allP] at KEY
  clear hn ht hv htr hd ih
  generalize hasAll dat l ts = q at *
  go_enter Tryz.func45, Tryz.ntmps45
  go_upto_region 1 with (fail)
  rw [← hC]
  clear hC
  go_wp2_with fail
  refine KEY.out.mono ?_
  rintro e w2 ⟨rfl, hb⟩
  have HB2 := Lib.hid (HB0.out.trans (hb.mono HB0.out.size))
  clear hb
  go_wp2
  go_ret
  exact ⟨rfl, HB2.out⟩
set_option maxHeartbeats 4000000 in
set_option maxRecDepth 100000 in
theorem has1_any {dat : List DaD} {n : Nat} (ih : HasOk dat n) {D D' DD : Nat → Prop} {A TA : Option Addr} {dl dc b1 b2 tl tc : Nat} {x0 x1 : Int} {ts : List Tr} (v : Tr) (w : World) (cv : List Value) (hn : v.size ≤ n) (htl : 0 < ts.length) (ht : TOk (ts.getD 0 (.n 0 0 []))) (hv : TrR w D v cv) (htr : TrS w D' ts TA tl tc) (hd : DaS w DD dat A dl dc) (h1 : Bk w b1 22 #[.slice A dl dc]) (h2 : Bk w b2 25 #[.int .i64 x0, .int .i64 x1, .slice TA tl tc]) :
    Calls Tryz.prog 46 #[.agg cv.toArray, .pointer (some ⟨b1, 0, none⟩), .pointer (some ⟨b2, 0, none⟩)] w (RetV (.bool (!hasT dat v (ts.getD 0 (.n 0 0 [])))) w) := by
  obtain ⟨VA, vl, vc, rfl, _, _, _⟩ := hv.form
  have htlen : tl = ts.length := htr.1
  have htlc := htr.2.1
  have htcap : tc ≤ maxLen := htr.2.2.1
  unfold maxLen at htcap
  have htl2 : 0 < tl := by omega
  have e0 : ts.getD 0 (.n 0 0 []) = ts[0] := by rw [List.getD_eq_getElem?_getD, List.getElem?_eq_getElem htl]; rfl
  rw [e0] at ht ⊢
  obtain ⟨bt, ot, TA', tl', tc', rfl, hbt, g0, g1, g2, hrk⟩ := htr.get (i := 0) htl
  simp only [Nat.zero_mul, Nat.add_zero] at g0 g1 g2
  obtain ⟨C, hC⟩ : ∃ C, C = w.alloc (.cells #[.int .i64 v.k, .int .i64 v.m, .slice VA vl vc] 28) := ⟨_, rfl⟩
  have HB0 : Hid (Below w.heap.size w C) := by rw [hC]; exact (Below.refl _ _).alloc (Nat.le_refl _) _
  have HX0 : Hid (Bk C w.heap.size 28 #[.int .i64 v.k, .int .i64 v.m, .slice VA vl vc]) := by rw [hC]; exact Bk.new _ _ _
  have HX1 := Lib.hid (h1.below HB0.out h1.lt)
  have HX2 := Lib.hid (h2.below HB0.out h2.lt)
  have h1lt := h1.lt
  have h2lt := h2.lt
  have k0 := cell_below g0 HB0.out hbt
  have k1 := cell_below g1 HB0.out hbt
  have k2 := cell_below g2 HB0.out hbt
  have KEY : Hid (∀ x, Below C.heap.size C x → Calls Tryz.prog 22 #[.slice A dl dc, .agg #[.int .i64 v.k, .int .i64 v.m, .slice VA vl vc], .agg #[.int .i64 ts[0].k, .int .i64 ts[0].m, .slice TA' tl' tc']] x (RetV (.bool (hasT dat v ts[0])) x)) := fun x hx => by
    have hb := HB0.out.trans (hx.mono HB0.out.size)
    exact ih D D' DD A dl dc v ts[0] x _ _ hn ht (hv.below hb) (hrk.below hb) (hd.below hb)
  show Calls Tryz.prog 46 #[.agg #[.int .i64 v.k, .int .i64 v.m, .slice VA vl vc], .pointer (some ⟨b1, 0, none⟩), .pointer (some ⟨b2, 0, none⟩)] w _
  clear hv htr hd h2 h1 ih hrk g0 g1 g2 e0 ht
  have HTL := Lib.hid htlen
  clear htlen
  generalize hasT dat v ts[0] = q at *
  generalize v.k = y0 at *
  generalize v.m = y1 at *
  generalize ts[0].k = z0 at *
  generalize ts[0].m = z1 at *
  have hbc : bt < C.heap.size := by have := HB0.out.size; omega
  go_enter Tryz.func46, Tryz.ntmps46
  go_upto_region 1 with (fail)
  rw [← hC]
  clear hC
  obtain ⟨hc0, _, _⟩ := HX0.out.facts
  obtain ⟨hc1, _, _⟩ := HX1.out.facts
  obtain ⟨hc2, _, _⟩ := HX2.out.facts
  go_still_tail 6, (by kernel_rfl)
  change wpList _ _ _ _ _ C.drew
  obtain ⟨wd, hwd⟩ : ∃ x, x = C.drew := ⟨_, rfl⟩
  have HBD : Hid (Below C.heap.size C wd) := by rw [hwd]; exact (Below.refl _ _).drew
  rw [← hwd]
  clear hwd
  go_wp2_with fail
  refine (KEY.out _ HBD.out).mono ?_
  rintro e w2 ⟨rfl, hb⟩
  have HB2 := Lib.hid (HB0.out.trans ((HBD.out.trans (hb.mono HBD.out.size)).mono HB0.out.size))
  clear hb
  go_wp2
  go_ret
  exact ⟨rfl, HB2.out⟩
end Go.Proofs.YtdbiedpdibjdlaaGreat

