/-
  Split and isUpper: what is wanted of them for names of data types.
-/
import Derived.Test.YtdbiedpdibjdlaaGreatMGw
import Derived.Test.YtdbiedpdibjdlaaGreatMGs
import Derived.Deep.LoopGhost
namespace Go.Proofs.YtdbiedpdibjdlaaGreat
open Go.RowKit AC
set_option linter.unusedVariables false
set_option linter.unusedSimpArgs false

/-- An upper name: 1 to 24 bytes, the first an upper letter, all within names. -/
def U (s : ByteArray) : Prop := ∃ h : 0 < s.size, s.size ≤ 24 ∧ upperB (s[0]'h).toNat = true ∧ ∀ (j : Nat) (h : j < s.size), withinB s[j].toNat = true
/-- The tokens so far: n of them, with the cells xs, up to place p. -/
def SplitI (s : ByteArray) (p n : Nat) (xs : List Value) : Prop :=
  (n = 0 → xs = []) ∧ (1 ≤ n → ∃ (k : Int) (t : ByteArray) (q : Int) (r : List Value), xs = [.int .i64 k, .string t, .int .i64 q] ++ r ∧ (k = 2 → t = s → U s) ∧ (U s → k = 2 ∧ t = s)) ∧ (U s → (p = 0 ∧ n = 0) ∨ (p = s.size ∧ n = 1))
theorem toList_inj {s t : ByteArray} (h : s.toList = t.toList) : s = t := by
  rw [ByteArray.toList_eq, ByteArray.toList_eq] at h
  apply ByteArray.ext
  exact Array.toList_inj.mp h
theorem extract_all (s : ByteArray) : s.extract 0 s.size = s := by
  apply ByteArray.ext
  simp [ByteArray.data_extract]
theorem U.longest {s : ByteArray} (h : U s) : Longest withinB (s.extract 0 s.size) s.size := by
  rw [extract_all]
  exact ⟨Nat.le_refl _, fun j hj _ => h.2.2.2 j hj, fun hh => absurd hh (by omega)⟩
theorem SplitI.step {s : ByteArray} {p n : Nat} {xs : List Value} (hI : SplitI s p n xs) (hp : p < s.size) {kind q err : Int} {txt : ByteArray} (h0 : err = 0)
    (h1 : err = 0 → 1 ≤ txt.size ∧ p + txt.size ≤ s.size ∧ (kind = 2 → upperB (s[p]'hp).toNat = true ∧ ∃ n, n ≤ 24 ∧ Longest withinB (s.extract p s.size) n ∧ txt = (s.extract p s.size).extract 0 n))
    (h2 : upperB (s[p]'hp).toNat = true → ∀ n, Longest withinB (s.extract p s.size) n → n ≤ 24 → err = 0 ∧ kind = 2 ∧ txt = (s.extract p s.size).extract 0 n) :
    SplitI s (p + txt.size) (n + 1) (xs ++ [.int .i64 kind, .string txt, .int .i64 q]) := by
  obtain ⟨ha, hb, hc⟩ := hI
  have key : U s → p = 0 ∧ n = 0 ∧ kind = 2 ∧ txt = s := fun hu => by
    rcases hc hu with ⟨h5, h6⟩ | ⟨h5, _⟩
    · subst h5
      obtain ⟨_, h7, h8⟩ := h2 hu.2.2.1 s.size hu.longest hu.2.1
      exact ⟨rfl, h6, h7, by rw [h8, extract_all, extract_all]⟩
    · omega
  refine ⟨fun h => by omega, fun _ => ?_, fun hu => ?_⟩
  · rcases Nat.eq_zero_or_pos n with hn | hn
    · refine ⟨kind, txt, q, [], by rw [ha hn]; rfl, fun hk ht => ?_, fun hu => ⟨(key hu).2.2.1, (key hu).2.2.2⟩⟩
      obtain ⟨h4, _, h6⟩ := h1 h0
      obtain ⟨hup, m, hm, hL, htx⟩ := h6 hk
      have hsz : txt.size = m := by
        have := hL.1
        rw [htx]
        simp [ByteArray.size_extract] at this ⊢
        omega
      have hm2 := hL.1
      simp [ByteArray.size_extract] at hm2
      have hss : s.size = m := by rw [← ht]; exact hsz
      obtain rfl : p = 0 := by omega
      rw [extract_all] at hL
      exact ⟨hp, by omega, hup, fun j hj => hL.2.1 j hj (by omega)⟩
    · obtain ⟨k, t, q', r, e, h5, h6⟩ := hb hn
      exact ⟨k, t, q', r ++ [.int .i64 kind, .string txt, .int .i64 q], by rw [e]; simp, h5, h6⟩
  · obtain ⟨h5, h6, _, h8⟩ := key hu
    exact .inr ⟨by rw [h5, h8]; omega, by omega⟩
theorem SplitI.on {s : ByteArray} {p p' n : Nat} {xs : List Value} (hI : SplitI s p n xs) (hp : p < s.size) (h : upperB (s[p]'hp).toNat = false) : SplitI s p' n xs ∧ ¬ U s := by
  have hn : ¬ U s := fun hu => by
    rcases hI.2.2 hu with ⟨rfl, _⟩ | ⟨h5, _⟩
    · have := hu.2.2.1
      rw [h] at this
      cases this
    · omega
  exact ⟨⟨hI.1, hI.2.1, fun hu => absurd hu hn⟩, hn⟩
theorem blank_upper (k : Nat) (h : blankB k = true) : upperB k = false := by
  unfold blankB at h
  unfold upperB
  simp at h ⊢
  omega
/-- What Split leaves. -/
def SplitPost (s : ByteArray) (w : World) (e : Ending) (w' : World) : Prop :=
  ∃ (lv : Value) (pos err : Int), e = .returned (.tuple #[lv, .int .i64 pos, .int .i64 err]) ∧ Below w.heap.size w w' ∧ (err ≠ 0 → ¬ U s) ∧
    (err = 0 → ∃ n xs, w'.ownsRow w.heap.size 157 3 lv (n + 1) xs ∧ (n = 1 → ∃ (k : Int) (t : ByteArray) (q : Int) (r : List Value), xs = [.int .i64 k, .string t, .int .i64 q] ++ r ∧ ((k = 2 ∧ t = s) ↔ U s)) ∧ (n ≠ 1 → ¬ U s))
/-- At the end: what the tokens say. -/
def Fin (s : ByteArray) (n : Nat) (xs : List Value) : Prop := (n = 1 → ∃ (k : Int) (t : ByteArray) (q : Int) (r : List Value), xs = [.int .i64 k, .string t, .int .i64 q] ++ r ∧ ((k = 2 ∧ t = s) ↔ U s)) ∧ (n ≠ 1 → ¬ U s)
theorem SplitI.fin {s : ByteArray} {p n : Nat} {xs : List Value} (h : SplitI s p n xs) (hn : U s → n = 1) : Fin s n xs := by
  refine ⟨fun h1 => ?_, fun h1 hu => h1 (hn hu)⟩
  obtain ⟨k, t, q, r, e, h5, h6⟩ := h.2.1 (by omega)
  exact ⟨k, t, q, r, e, fun h => h5 h.1 h.2, h6⟩
theorem split_end {s : ByteArray} {w wr w3 : World} {lv : Value} {n g cap : Nat} {xs v : List Value} (ho : wr.ownsRow w.heap.size 157 3 lv n xs) (hb : Below w.heap.size w wr)
    (hown : w3.ownsRow w.heap.size 157 3 (.slice (some ⟨g, 0, none⟩) (n + 1) cap) (n + 1) (xs ++ v)) (hg : (wr.alloc (.cells v.toArray 157)).grownBy w3 lv.ownBlock) (z : Value) (hf : Fin s n xs) :
    SplitPost s w (.returned (.tuple #[.slice (some ⟨g, 0, none⟩) (n + 1) cap, .int .i64 0, .int .i64 0])) w3 := by
  have hb5 := hb.alloc hb.size (.cells v.toArray 157)
  refine ⟨_, _, _, rfl, ⟨hg.os.trans hb5.os, hg.tape.trans hb5.tape, hg.output.trans hb5.output, Nat.le_trans hb5.size hg.size, fun k hk => (hg.block k (Nat.lt_of_lt_of_le hk hb5.size) (fun e => by have := (ho.lt k e.symm).1; omega)).trans (hb5.block k hk)⟩, fun h => absurd rfl h, fun _ => ⟨n, _, hown, fun h => ?_, hf.2⟩⟩
  obtain ⟨k, t, q, r, e, h5⟩ := hf.1 h
  exact ⟨k, t, q, r ++ v, by rw [e]; simp, h5⟩
theorem info_tok : (Tryz.prog.info? 157).map (fun i => (i.size, i.bytes, i.zero.map fun z => z.cells.size)) = some (3, 32, some 3) := by kernel_rfl
set_option maxHeartbeats 8000000 in
set_option maxRecDepth 100000 in
theorem split_any (s : ByteArray) (w : World) : Calls Tryz.prog 107 #[.string s] w (SplitPost s w) := by
  have KB := Lib.hid fun k w => blank_any k w
  go_enter Tryz.func107, Tryz.ntmps107
  by_cases hbig : 16384 < s.size
  · have hi : (16384 : Int) < (s.size : Int) := by omega
    go_wp2
    go_step3
    go_wp2
    rw [Exit.noGoto_ret]
    go_ret3
    exact ⟨_, _, _, rfl, Below.refl _ _, fun _ hu => by have := hu.2.1; omega, fun h => absurd h (by decide)⟩
  · have hi : ¬ (16384 : Int) < (s.size : Int) := by omega
    have hs6 : s.size ≤ 1000000 := by omega
    have KS := Lib.hid fun p hp w => scan_any s p hp hs6 w
    go_wp2
    go_step3
    go_wp2
    go_step3
    go_wp2
    go_loopg [5, 6] s.size (fun g lv pv wr => ∃ (p n : Nat) (xs : List Value), p + g = s.size ∧ pv = .int .i64 p ∧ n ≤ p ∧ Hid (wr.ownsRow w.heap.size 157 3 lv n xs) ∧ Hid (SplitI s p n xs) ∧ Hid (Below w.heap.size w wr))
    case atStart => exact ⟨0, 0, [], by omega, rfl, Nat.le_refl _, World.ownsRow_nil _ _ _ _, ⟨fun _ => rfl, fun h => absurd h (by omega), fun _ => .inl ⟨rfl, rfl⟩⟩, Below.refl _ _⟩
    case round =>
      obtain ⟨p, n, xs, hpg, rfl, hnp, HO, HI, HB⟩ := hrel
      obtain ⟨lv, hlv⟩ : ∃ x, x = u5 := ⟨_, rfl⟩
      subst hlv
      by_cases hlt : p < s.size
      · obtain ⟨c, hc⟩ : ∃ c : UInt8, s[p]'hlt = c := ⟨_, rfl⟩
        have HC := Lib.hid hc
        obtain ⟨bb, hbb⟩ : ∃ b, blankB c.toNat = b := ⟨_, rfl⟩
        have HBB := Lib.hid hbb
        have KEY := Lib.hid (KB.out c.toNat wr)
        rw [hbb] at KEY
        clear hbb
        go_wp2_with fail
        refine KEY.out.mono ?_
        rintro e w2 ⟨rfl, hb2⟩
        have HB2 := Lib.hid (HB.out.trans (hb2.mono HB.out.size))
        have HO2 : Hid (w2.ownsRow w.heap.size 157 3 lv n xs) := HO.out.kept (row := none) ⟨hb2.os, hb2.tape, hb2.output, hb2.size, fun k hk _ => hb2.block k hk⟩ (by cases lv.ownBlock <;> simp)
        clear hb2
        cases bb with
        | true =>
          go_wp2
          go_roundg (gk - 1)
          case measure => omega
          case rel => exact ⟨p + 1, n, xs, by omega, by go_num, by omega, HO2, (HI.out.on hlt (by rw [HC.out]; exact blank_upper _ HBB.out)).1, HB2⟩
        | false =>
          by_cases h35 : c.toNat = 35
          · have h35i : (c.toNat : Int) = 35 := by omega
            obtain ⟨hI2, hnu⟩ := HI.out.on (p' := s.size) hlt (by rw [HC.out]; unfold upperB; simp; omega)
            have HNU := Lib.hid hnu
            have HI2 := Lib.hid hI2
            clear hI2 hnu
            go_wp2
            go_loopg [6] (s.size - p) (fun g2 pv wy => ∃ p' : Nat, p' + g2 = s.size ∧ pv = .int .i64 p' ∧ p ≤ p' ∧ w2 = wy)
            case atStart => exact ⟨p, by omega, rfl, Nat.le_refl _, rfl⟩
            case round =>
              obtain ⟨p', hpg', rfl, hpp, rfl⟩ := hrel
              by_cases hlt2 : p' < s.size
              · obtain ⟨c2, hc2⟩ : ∃ c : UInt8, s[p']'hlt2 = c := ⟨_, rfl⟩
                have HC2 := Lib.hid hc2
                by_cases h10 : c2.toNat = 10
                · have h10i : (c2.toNat : Int) = 10 := by omega
                  have hne : p' ≠ p := fun e => by
                    subst e
                    have h1 := HC.out
                    have h2 := HC2.out
                    rw [h1] at h2
                    rw [h2] at h35
                    omega
                  go_wp2
                  go_roundg (s.size - p')
                  case measure => omega
                  case rel => exact ⟨p', n, xs, by omega, by go_num, by omega, HO2, ⟨HI2.out.1, HI2.out.2.1, fun hu => absurd hu HNU.out⟩, HB2⟩
                · have h10i : ¬ (c2.toNat : Int) = 10 := by omega
                  go_wp2
                  go_roundg (gk - 1)
                  case measure => omega
                  case rel => exact ⟨p' + 1, by omega, by go_num, by omega, rfl⟩
              · have HF := Lib.hid (HI2.out.fin fun hu => absurd hu HNU.out)
                go_wp2_with (first | refine wpList_oneT rfl 153 157 (.tmp 58) rfl Tryz.underlying153 3 32 info_tok (by decide) (by decide) [.int .i64 6, .string { data := #[] }, .int .i64 s.size] (.agg #[.int .i64 6, .string { data := #[] }, .int .i64 s.size]) rfl rfl rfl ?_ | (at_builtin; refine wpList_pushTr w2 rfl _ _ 153 157 rfl Tryz.underlying153 3 32 info_tok (by decide) (by decide) w.heap.size lv n xs [.int .i64 6, .string { data := #[] }, .int .i64 s.size] (by rfl) HO2.out (by rfl) rfl (by intro u hu; simp at hu; rcases hu with rfl | rfl | rfl <;> rfl) (by omega) HB2.out.size ?_))
                intro g cap3 w3 hown' hg hgb hglt
                go_wp2
                try rw [Exit.noGoto_ret]
                go_ret3
                exact split_end HO2.out HB2.out hown' hg (.int .i64 0) HF.out
          · have h35i : ¬ (c.toNat : Int) = 35 := by omega
            have KEY2 := Lib.hid (KS.out p hlt w2)
            go_wp2_with fail
            refine KEY2.out.mono ?_
            rintro e w3 ⟨kind, txt, q, err, rfl, hb3, h1, h2⟩
            unfold Tok
            have HB3 := Lib.hid (HB2.out.trans (hb3.mono HB2.out.size))
            have HO3 : Hid (w3.ownsRow w.heap.size 157 3 lv n xs) := HO2.out.kept (row := none) ⟨hb3.os, hb3.tape, hb3.output, hb3.size, fun k hk _ => hb3.block k hk⟩ (by cases lv.ownBlock <;> simp)
            have H1 := Lib.hid h1
            have H2 := Lib.hid h2
            clear hb3 h1 h2
            by_cases h0 : err = 0
            · obtain ⟨ht1, ht2, _⟩ := H1.out h0
              have HST := Lib.hid (HI.out.step hlt (q := q) h0 H1.out H2.out)
              have HB4 := Lib.hid (HB3.out.alloc HB3.out.size (.cells #[.int .i64 kind, .string txt, .int .i64 q] 157))
              have HO4 := Lib.hid (HO3.out.alloc (.cells #[.int .i64 kind, .string txt, .int .i64 q] 157))
              subst h0
              go_wp2_with (first | refine wpList_oneT rfl 153 157 (.tmp 47) rfl Tryz.underlying153 3 32 info_tok (by decide) (by decide) [.int .i64 kind, .string txt, .int .i64 q] (.agg #[.int .i64 kind, .string txt, .int .i64 q]) rfl rfl rfl ?_ | (at_builtin; refine wpList_pushTr (w3.alloc (.cells #[.int .i64 kind, .string txt, .int .i64 q] 157)) rfl _ _ 153 157 rfl Tryz.underlying153 3 32 info_tok (by decide) (by decide) w.heap.size lv n xs [.int .i64 kind, .string txt, .int .i64 q] (by rfl) HO4.out (by rfl) rfl (by intro u hu; simp at hu; rcases hu with rfl | rfl | rfl <;> rfl) (by omega) HB4.out.size ?_))
              intro g cap3 w5 hown' hg hgb hglt
              have HO5 := Lib.hid hown'
              have hb5 := HB4.out.alloc HB4.out.size (.cells [.int .i64 kind, .string txt, .int .i64 q].toArray 157)
              have HB5 : Hid (Below w.heap.size w w5) := ⟨hg.os.trans hb5.os, hg.tape.trans hb5.tape, hg.output.trans hb5.output, Nat.le_trans hb5.size hg.size, fun k hk => (hg.block k (Nat.lt_of_lt_of_le hk hb5.size) (fun e => by have := (HO4.out.lt k e.symm).1; omega)).trans (hb5.block k hk)⟩
              have hbk : Bk w5 w3.heap.size 157 #[.int .i64 kind, .string txt, .int .i64 q] := ((Bk.new w3 _ _).alloc _).grown hg (fun e => by have := (HO3.out.lt _ e.symm).2; omega)
              obtain ⟨hk0, _, _⟩ := hbk.facts
              clear hown' hg hgb hb5
              go_wp2
              go_roundg (gk - txt.size)
              case measure => omega
              case rel => exact ⟨p + txt.size, n + 1, _, by omega, by go_num, by omega, HO5, HST, HB5⟩
            · have hnu : ¬ U s := fun hu => by
                rcases HI.out.2.2 hu with ⟨h5, h6⟩ | ⟨h5, _⟩
                · subst h5
                  exact h0 (H2.out hu.2.2.1 s.size hu.longest hu.2.1).1
                · omega
              go_wp2
              try rw [Exit.noGoto_ret]
              go_ret3
              exact ⟨_, _, _, rfl, HB3.out.alloc HB3.out.size _, fun _ => hnu, fun h => absurd h h0⟩
      · have HF := Lib.hid (HI.out.fin fun hu => by
          have := hu.1
          rcases HI.out.2.2 hu with ⟨h5, _⟩ | ⟨_, h⟩
          · omega
          · exact h)
        go_wp2_with (first | refine wpList_oneT rfl 153 157 (.tmp 58) rfl Tryz.underlying153 3 32 info_tok (by decide) (by decide) [.int .i64 6, .string { data := #[] }, .int .i64 s.size] (.agg #[.int .i64 6, .string { data := #[] }, .int .i64 s.size]) rfl rfl rfl ?_ | (at_builtin; refine wpList_pushTr wr rfl _ _ 153 157 rfl Tryz.underlying153 3 32 info_tok (by decide) (by decide) w.heap.size lv n xs [.int .i64 6, .string { data := #[] }, .int .i64 s.size] (by rfl) HO.out (by rfl) rfl (by intro u hu; simp at hu; rcases hu with rfl | rfl | rfl <;> rfl) (by omega) HB.out.size ?_))
        intro g cap3 w3 hown' hg hgb hglt
        go_wp2
        try rw [Exit.noGoto_ret]
        go_ret3
        exact split_end HO.out HB.out hown' hg (.int .i64 0) HF.out
set_option maxHeartbeats 4000000 in
set_option maxRecDepth 100000 in
theorem isUpper_any (s : ByteArray) (w : World) : Calls Tryz.prog 92 #[.string s] w (fun e w' => ∃ b : Bool, e = .returned (.bool b) ∧ (b = true ↔ U s) ∧ Below w.heap.size w w') := by
  have KEY := Lib.hid (split_any s w)
  go_enter Tryz.func92, Tryz.ntmps92
  go_wp2_with fail
  refine KEY.out.mono ?_
  rintro e w2 ⟨lv, pos, err, rfl, hb, h1, h2⟩
  have HB := Lib.hid hb
  have H1 := Lib.hid h1
  have H2 := Lib.hid h2
  clear hb h1 h2
  by_cases h0 : err = 0
  · obtain ⟨n, xs, hown, h3, h4⟩ := H2.out h0
    subst h0
    obtain ⟨g, cap, rfl⟩ : ∃ g cap, lv = .slice (some ⟨g, 0, none⟩) (n + 1) cap := by
      rcases hown.2 with ⟨_, hn0⟩ | ⟨g, cap, cur, hv, _⟩
      · omega
      · exact ⟨g, cap, hv⟩
    have hcells := hown.cells rfl
    simp only [Addr.add_lit, Nat.zero_add] at hcells
    have hlt := (hown.lt g rfl).2
    clear hown
    by_cases hn : n = 1
    · obtain ⟨k, t, q, r, rfl, hiff⟩ := h3 hn
      have HIFF := Lib.hid hiff
      have hc0 := hcells 0 (.int .i64 k) rfl
      have hc1 := hcells 1 (.string t) rfl
      subst hn
      clear h3 h4 hcells hiff
      by_cases hk : k = 2
      · by_cases ht : t = s
        · have HT := Lib.hid (HIFF.out.1 ⟨hk, ht⟩)
          subst hk
          subst ht
          go_wp2
          go_ret
          exact ⟨true, rfl, by simp [HT.out], HB.out⟩
        · have HT : Hid (¬ U s) := fun hu => ht (HIFF.out.2 hu).2
          subst hk
          have hts : ¬ t.toList = s.toList := fun h => ht (toList_inj h)
          go_wp2
          go_ret
          exact ⟨false, by simp [hts], by simp [show ¬ U s from HT.out], HB.out⟩
      · have HT : Hid (¬ U s) := fun hu => hk (HIFF.out.2 hu).1
        go_wp2
        go_ret
        exact ⟨false, rfl, by simp [show ¬ U s from HT.out], HB.out⟩
    · have HT := Lib.hid (h4 hn)
      have hni : ¬ ((n : Int) + 1 = 2) := by omega
      have hni2 : ¬ (((n + 1 : Nat) : Int) = 2) := by omega
      go_wp2
      go_ret
      exact ⟨false, rfl, by simp [show ¬ U s from HT.out], HB.out⟩
  · go_wp2
    go_ret
    exact ⟨false, rfl, by simp [H1.out h0], HB.out⟩
end Go.Proofs.YtdbiedpdibjdlaaGreat

