/-
  Which certificates are looked at: numbers, lists of numbers, forms, relations.
-/
import Derived.Test.YtpbdkkoanedimaaGreatDoorHRTa
import Derived.Test.YtpbdkkoanedimaaGreatDoorHRefE
import Derived.Test.YtpbdkkoanedimaaGreatDoorHCRa
import Derived.Handy
import Derived.Test.YtpbdkkoanedimaaGreatDoorHOpen
namespace Go.Proofs.YtpbdkkoanedimaaGreatDoor
open Go.Lib (hid)
open Go.RowKit AC
set_option linter.unusedVariables false
set_option linter.unusedSimpArgs false
def KP (P : Prop) (w : World) (e : Ending) (w' : World) : Prop := ∃ b : Bool, e = .returned (.bool b) ∧ (b = true → P) ∧ Below w.heap.size w w'
theorem KP.no {P : Prop} {w w' : World} (h : Below w.heap.size w w') : KP P w (.returned (.bool false)) w' := ⟨false, rfl, (fun h => by cases h), h⟩
theorem KP.yes {P : Prop} {w w' : World} (hp : P) (h : Below w.heap.size w w') : KP P w (.returned (.bool true)) w' := ⟨true, rfl, fun _ => hp, h⟩
theorem kR_any (w W : World) (D : Nat → Prop) (b : Bool) (A A' : Option Addr) (k c k' c' : Nat) (t : List UInt8) (h : Rep w D .big [.bool b, .slice A k c, .slice A' k' c'] [t]) :
 Calls Tryz.prog 18 #[.agg #[.bool b, .slice A k c, .slice A' k' c']] W (KP (Rep w D .rat [.bool b, .slice A k c, .slice A' k' c'] [t] ∧ t.length ≤ 58) W) := by
 obtain ⟨q, ⟨neg, kn, kd, fn, fd, vn, vd, hv, h1, h2, hq⟩, ht⟩ := h
 injection ht with ht _
 subst ht
 injection hv with hv
 have hv' : ([.bool b, .slice A k c, .slice A' k' c'] : List Value) = [.bool neg, vn, vd] := by simpa using congrArg Array.toList hv
 injection hv' with e1 hv'
 injection hv' with e2 hv'
 injection hv' with e3 _
 injection e1 with e1
 subst e1; subst e2; subst e3
 obtain ⟨hf1, A1, c1, e4, hk1, hc1, hl1⟩ := h1
 obtain ⟨hf2, A2, c2, e5, hk2, hc2, hl2⟩ := h2
 injection e4 with e6 e7 e8
 injection e5 with e9 e10 e11
 subst e6; subst e7; subst e8; subst e9; subst e10; subst e11
 unfold maxLen at hc1 hc2
 refine (kRat_any W b A A' k c k' c' (by omega) (by omega)).mono ?_
 rintro e w' ⟨rfl, hb⟩
 refine ⟨_, rfl, fun hs => ?_, hb⟩
 unfold shortB at hs
 simp only [Bool.and_eq_true, decide_eq_true_eq] at hs
 refine ⟨⟨q, ⟨b, k, k', fn, fd, _, _, rfl, ⟨hf1, A, c, rfl, hk1, hc1, hl1⟩, ⟨hf2, A', c', rfl, hk2, hc2, hl2⟩, by omega, by omega, hq⟩, rfl⟩, ?_⟩
 rw [hq]
 exact fmtQ_len hf1 hf2 hs.1 hs.2
theorem ty_big {v : List Value} (h : Ty .big v) : ∃ zb zA zk zc zD zl zd, v = [.bool zb, .slice zA zk zc, .slice zD zl zd] := h
theorem st2_le {a b : List UInt8} {N : Nat} (h : a.length + b.length + 3 ≤ N) : (par (fun i => [a, b].getD i []) [a, b].length).length ≤ N := by rw [st_len2]; exact h
theorem st3_le {a b c : List UInt8} {N : Nat} (h : a.length + b.length + c.length + 4 ≤ N) : (par (fun i => [a, b, c].getD i []) [a, b, c].length).length ≤ N := by rw [st_len3]; exact h
theorem st4_le {a b c d : List UInt8} {N : Nat} (h : a.length + b.length + c.length + d.length + 5 ≤ N) : (par (fun i => [a, b, c, d].getD i []) [a, b, c, d].length).length ≤ N := by rw [st_len4]; exact h
theorem st5_le {a b c d e : List UInt8} {N : Nat} (h : a.length + b.length + c.length + d.length + e.length + 6 ≤ N) : (par (fun i => [a, b, c, d, e].getD i []) [a, b, c, d, e].length).length ≤ N := by rw [st_len5]; exact h
theorem lin_len2 {w : World} {D : Nat → Prop} {v : List Value} {A : Option Addr} {k c : Nat} {t1 t2 : List UInt8} (h1 : Rep w D .int v [t1]) (h2 : Rep w D (.list linTermS) [.slice A k c] [t2]) {r : Nat} (hk : k ≤ r) : (par (fun i => [t1, t2].getD i []) [t1, t2].length).length ≤ 26 + 46 * r := by
 have q1 := h1.int_len
 have q2 := h2.list_len hk (M := 45) fun v t h => linTerm_len h
 exact st2_le (by omega)
def KS (t : List UInt8) (limit : Nat) (w : World) (e : Ending) (w' : World) : Prop := ∃ r : Nat, e = .returned (.int .i64 r) ∧ 1 ≤ r ∧ r ≤ limit + 1 ∧ (r ≤ limit → t.length + 1 ≤ 50 * r) ∧ Below w.heap.size w w'
set_option maxHeartbeats 4000000 in
set_option maxRecDepth 100000 in
theorem kSize_any : ∀ (n : Nat) (w W : World) (D : Nat → Prop) (v : List Value) (t : List UInt8) (limit : Nat), limit ≤ 13 → Rep w D (indexS n) v [t] → Below w.heap.size w W →
 Calls Tryz.prog 43 #[valOf (indexS n) v, .int .i64 limit] W (KS t limit W)
 | 0, w, W, D, v, t, limit, _, h, _ => False.elim h
 | n + 1, w, W, D, v, t, limit, hlim, hrep, hW => by
  have ih := kSize_any n w
  have HIH := hid ih
  clear ih
  obtain ⟨_, ht, l0, _, t0, _, rfl, rfl, r0, l1, _, t1, _, rfl, rfl, rL, rfl, rfl⟩ := hrep
  injection ht with ht _
  subst ht
  obtain ⟨z0, rfl⟩ := ty_int r0.ty
  obtain ⟨zA, zk, zc, rfl⟩ := ty_list rL.ty
  obtain ⟨us, tx, hte, hkc, hcm, hcl, hrp⟩ := rL.unlist
  subst hte
  unfold maxLen at hcm
  have HLEN : Hid (∀ r, 1 ≤ r → (body tx zk).length ≤ 50 * (r - 1) → (par (fun i => [t0, par tx zk].getD i []) [t0, par tx zk].length).length + 1 ≤ 50 * r) := by
   intro r h1 h2
   have q0 := r0.int_len
   have e : (par tx zk).length = (body tx zk).length + 2 := by unfold par; simp
   rw [st_len2]
   omega
  have HCL := hid hcl
  have HRP := hid hrp
  have HW := hid hW
  clear hcl hrp hW rL r0
  show Calls Tryz.prog 43 #[.agg #[.int .i64 z0, .slice zA zk zc], .int .i64 limit] W _
  have hbx := Bk.new W 125 #[.int .i64 z0, .slice zA zk zc]
  have HBX := hid hbx
  clear hbx
  go_enter Tryz.func43, Tryz.ntmps43
  go_upto_region 1 with (fail)
  obtain ⟨C, hC⟩ : ∃ C, C = W.alloc (.cells #[.int .i64 z0, .slice zA zk zc] 125) := ⟨_, rfl⟩
  have HBC : Hid (Below W.heap.size W C) := by rw [hC]; exact (Below.refl _ _).alloc (Nat.le_refl _) _
  rw [← hC] at HBX ⊢
  obtain ⟨hc0, _, _⟩ := HBX.out.facts
  clear hC
  go_wp2
  go_loopw [5, 10] (fun nv iv wr => ∃ (i r : Nat), i ≤ zk ∧ iv = .int .i64 i ∧ nv = .int .i64 r ∧ 1 ≤ r ∧ r ≤ limit + 1 ∧ Hid (r ≤ limit → (body tx i).length ≤ 50 * (r - 1)) ∧ Hid (Below C.heap.size C wr)) (fun _ iv _ => zk - (intOf iv).toNat)
  case atStart => exact ⟨0, 1, by omega, rfl, rfl, by omega, by omega, (fun _ => by simp [body]), Below.refl _ _⟩
  case round =>
   obtain ⟨i, r, hi, rfl, rfl, hr1, hr2, HS, HB⟩ := hrel
   have HBW := hid (HBC.out.trans (HB.out.mono HBC.out.size))
   obtain ⟨hc1, _, _⟩ := (HBX.out.below HB.out HBX.out.lt).facts
   clear hc0
   by_cases hlt : i < zk
   ·by_cases hrl : r ≤ limit
    ·obtain ⟨b, off, hAx, _, hbl, hce⟩ := HCL.out (by omega)
     subst hAx
     have hrk := HRP.out i hlt
     have hsz : Shape.sz (indexS n) = 2 := sz_index
     obtain ⟨u, hu⟩ : ∃ u, us i = u := ⟨_, rfl⟩
     rw [hu] at hrk
     obtain ⟨y0, yA, yk, yc, rfl⟩ := ty_index hrk.ty
     have a0 : wr.cell? ⟨b, off + i * 2, none⟩ = some (.int .i64 y0) := by
      have h9 := ((HW.out.trans (HBW.out.mono HW.out.size)).cell (p := ⟨b, off + i * Shape.sz (indexS n) + 0, none⟩) hbl).trans (hce i hlt 0 (.int .i64 y0) (by rw [hu]; rfl))
      rw [hsz] at h9
      simpa using h9
     have a1 : wr.cell? ⟨b, off + i * 2 + 1, none⟩ = some (.slice yA yk yc) := by
      have h9 := ((HW.out.trans (HBW.out.mono HW.out.size)).cell (p := ⟨b, off + i * Shape.sz (indexS n) + 1, none⟩) hbl).trans (hce i hlt 1 (.slice yA yk yc) (by rw [hu]; rfl))
      rw [hsz] at h9
      simpa using h9
     clear hce hu hsz
     have key := HIH.out wr D _ _ (limit - r) (by omega) hrk (HW.out.trans (HBW.out.mono HW.out.size))
     rw [val_index] at key
     have KEY := hid key
     clear key hrk
     have hsub : ((limit : Int) - (r : Int)) = ((limit - r : Nat) : Int) := by omega
     go_wp2_with fail
     refine KEY.out.mono ?_
     rintro e w2 ⟨c, rfl, hc3, hc4, hcT, hb2⟩
     have HB2 := hid (HB.out.trans (hb2.mono HB.out.size))
     have HS2 : Hid (r + c ≤ limit → (body tx (i + 1)).length ≤ 50 * (r + c - 1)) := by
      intro h
      have h1 := HS.out hrl
      have h2 := hcT (by omega)
      rcases Nat.eq_zero_or_pos i with h0 | h0
      ·subst h0
       have : body tx 1 = tx 0 := rfl
       rw [this]
       omega
      ·rw [body_succ tx h0]
       simp
       omega
     have hcb : c ≤ 14 := by omega
     have hrb : r ≤ 13 := by omega
     clear hcT hb2 hsub
     go_wp2
     go_roundw
     case rel => first | exact ⟨i + 1, r + c, by omega, by go_num, by go_num, by omega, by omega, HS2, HB2⟩ | ((repeat apply Exists.intro); exact ⟨⟨i + 1, r + c, by omega, by go_num, by go_num, by omega, by omega, HS2, HB2⟩, rfl⟩)
     case measure => simp [intOf]; omega
    ·have hrl' : limit < r := by omega
     go_wp2
     go_ret
     exact ⟨r, rfl, hr1, hr2, (fun h => absurd h (by omega)), HBW.out⟩
   ·obtain rfl : i = zk := by omega
    go_wp2
    go_ret
    exact ⟨r, rfl, hr1, hr2, (fun h => HLEN.out r hr1 (HS.out h)), HBW.out⟩
set_option maxHeartbeats 4000000 in
set_option maxRecDepth 100000 in
theorem kTypeSize_any : ∀ (n : Nat) (w W : World) (D : Nat → Prop) (v : List Value) (t : List UInt8) (limit : Nat), limit ≤ 13 → Rep w D (typS n) v [t] → Below w.heap.size w W →
 Calls Tryz.prog 42 #[valOf (typS n) v, .int .i64 limit] W (KS t limit W)
 | 0, w, W, D, v, t, limit, _, h, _ => False.elim h
 | n + 1, w, W, D, v, t, limit, hlim, hrep, hW => by
  have ih := kTypeSize_any n w
  have HIH := hid ih
  clear ih
  obtain ⟨_, ht, l0, _, t0, _, rfl, rfl, r0, l1, _, t1, _, rfl, rfl, r1, l2, _, t2, _, rfl, rfl, rL, rfl, rfl⟩ := hrep
  injection ht with ht _
  subst ht
  obtain ⟨z0, rfl⟩ := ty_int r0.ty
  obtain ⟨z1, rfl⟩ := ty_int r1.ty
  obtain ⟨zA, zk, zc, rfl⟩ := ty_list rL.ty
  obtain ⟨us, tx, hte, hkc, hcm, hcl, hrp⟩ := rL.unlist
  subst hte
  unfold maxLen at hcm
  have HLEN : Hid (∀ r, 1 ≤ r → (body tx zk).length ≤ 50 * (r - 1) → (par (fun i => [t0, t1, par tx zk].getD i []) [t0, t1, par tx zk].length).length + 1 ≤ 50 * r) := by
   intro r h1 h2
   have q0 := r0.int_len
   have q1 := r1.int_len
   have e : (par tx zk).length = (body tx zk).length + 2 := by unfold par; simp
   rw [st_len3]
   omega
  have HCL := hid hcl
  have HRP := hid hrp
  have HW := hid hW
  clear hcl hrp hW rL r0 r1
  show Calls Tryz.prog 42 #[.agg #[.int .i64 z0, .int .i64 z1, .slice zA zk zc], .int .i64 limit] W _
  have hbx := Bk.new W 92 #[.int .i64 z0, .int .i64 z1, .slice zA zk zc]
  have HBX := hid hbx
  clear hbx
  go_enter Tryz.func42, Tryz.ntmps42
  go_upto_region 1 with (fail)
  obtain ⟨C, hC⟩ : ∃ C, C = W.alloc (.cells #[.int .i64 z0, .int .i64 z1, .slice zA zk zc] 92) := ⟨_, rfl⟩
  have HBC : Hid (Below W.heap.size W C) := by rw [hC]; exact (Below.refl _ _).alloc (Nat.le_refl _) _
  rw [← hC] at HBX ⊢
  obtain ⟨hc0, _, _⟩ := HBX.out.facts
  clear hC
  go_wp2
  go_loopw [5, 10] (fun nv iv wr => ∃ (i r : Nat), i ≤ zk ∧ iv = .int .i64 i ∧ nv = .int .i64 r ∧ 1 ≤ r ∧ r ≤ limit + 1 ∧ Hid (r ≤ limit → (body tx i).length ≤ 50 * (r - 1)) ∧ Hid (Below C.heap.size C wr)) (fun _ iv _ => zk - (intOf iv).toNat)
  case atStart => exact ⟨0, 1, by omega, rfl, rfl, by omega, by omega, (fun _ => by simp [body]), Below.refl _ _⟩
  case round =>
   obtain ⟨i, r, hi, rfl, rfl, hr1, hr2, HS, HB⟩ := hrel
   have HBW := hid (HBC.out.trans (HB.out.mono HBC.out.size))
   obtain ⟨hc1, _, _⟩ := (HBX.out.below HB.out HBX.out.lt).facts
   clear hc0
   by_cases hlt : i < zk
   ·by_cases hrl : r ≤ limit
    ·obtain ⟨b, off, hAx, _, hbl, hce⟩ := HCL.out (by omega)
     subst hAx
     have hrk := HRP.out i hlt
     have hsz : Shape.sz (typS n) = 3 := sz_typ
     obtain ⟨u, hu⟩ : ∃ u, us i = u := ⟨_, rfl⟩
     rw [hu] at hrk
     obtain ⟨y0, y1, yA, yk, yc, rfl⟩ := ty_typ hrk.ty
     have a0 : wr.cell? ⟨b, off + i * 3, none⟩ = some (.int .i64 y0) := by
      have h9 := ((HW.out.trans (HBW.out.mono HW.out.size)).cell (p := ⟨b, off + i * Shape.sz (typS n) + 0, none⟩) hbl).trans (hce i hlt 0 (.int .i64 y0) (by rw [hu]; rfl))
      rw [hsz] at h9
      simpa using h9
     have a1 : wr.cell? ⟨b, off + i * 3 + 1, none⟩ = some (.int .i64 y1) := by
      have h9 := ((HW.out.trans (HBW.out.mono HW.out.size)).cell (p := ⟨b, off + i * Shape.sz (typS n) + 1, none⟩) hbl).trans (hce i hlt 1 (.int .i64 y1) (by rw [hu]; rfl))
      rw [hsz] at h9
      simpa using h9
     have a2 : wr.cell? ⟨b, off + i * 3 + 2, none⟩ = some (.slice yA yk yc) := by
      have h9 := ((HW.out.trans (HBW.out.mono HW.out.size)).cell (p := ⟨b, off + i * Shape.sz (typS n) + 2, none⟩) hbl).trans (hce i hlt 2 (.slice yA yk yc) (by rw [hu]; rfl))
      rw [hsz] at h9
      simpa using h9
     clear hce hu hsz
     have key := HIH.out wr D _ _ (limit - r) (by omega) hrk (HW.out.trans (HBW.out.mono HW.out.size))
     rw [val_typ] at key
     have KEY := hid key
     clear key hrk
     have hsub : ((limit : Int) - (r : Int)) = ((limit - r : Nat) : Int) := by omega
     go_wp2_with fail
     refine KEY.out.mono ?_
     rintro e w2 ⟨c, rfl, hc3, hc4, hcT, hb2⟩
     have HB2 := hid (HB.out.trans (hb2.mono HB.out.size))
     have HS2 : Hid (r + c ≤ limit → (body tx (i + 1)).length ≤ 50 * (r + c - 1)) := by
      intro h
      have h1 := HS.out hrl
      have h2 := hcT (by omega)
      rcases Nat.eq_zero_or_pos i with h0 | h0
      ·subst h0
       have : body tx 1 = tx 0 := rfl
       rw [this]
       omega
      ·rw [body_succ tx h0]
       simp
       omega
     have hcb : c ≤ 14 := by omega
     have hrb : r ≤ 13 := by omega
     clear hcT hb2 hsub
     go_wp2
     go_roundw
     case rel => first | exact ⟨i + 1, r + c, by omega, by go_num, by go_num, by omega, by omega, HS2, HB2⟩ | ((repeat apply Exists.intro); exact ⟨⟨i + 1, r + c, by omega, by go_num, by go_num, by omega, by omega, HS2, HB2⟩, rfl⟩)
     case measure => simp [intOf]; omega
    ·have hrl' : limit < r := by omega
     go_wp2
     go_ret
     exact ⟨r, rfl, hr1, hr2, (fun h => absurd h (by omega)), HBW.out⟩
   ·obtain rfl : i = zk := by omega
    go_wp2
    go_ret
    exact ⟨r, rfl, hr1, hr2, (fun h => HLEN.out r hr1 (HS.out h)), HBW.out⟩
set_option maxHeartbeats 4000000 in
set_option maxRecDepth 100000 in
theorem kRs_any (n : Nat) (w W : World) (D : Nat → Prop) (A : Option Addr) (k c : Nat) (t : List UInt8) (m : Nat) (hm : m ≤ 1000) (h : Rep w D (.list .big) [.slice A k c] [t]) (hW : Below w.heap.size w W) :
 Calls Tryz.prog 16 #[.slice A k c, .int .i64 m] W (KP (Rep w D (.list .rat) [.slice A k c] [t] ∧ t.length ≤ 2 + m * (58 + 1)) W) := by
 have HW := hid hW
 clear hW
 have HB0 := hid (Below.refl W.heap.size W)
 have HR0 := hid h
 clear h
 obtain ⟨us1, tx2, d2, d3, c1, c2, c3⟩ := HR0.out.unlist
 subst d2
 unfold maxLen at c1
 have c4 := hid c2
 have d4 := hid c3
 clear c2 c3
 by_cases hkm : k ≤ m
 ·have hdm : decide (m < k) = false := decide_eq_false (by omega)
  go_enter Tryz.func16, Tryz.ntmps16
  go_wp2
  go_loopw [12] (fun iv wr => ∃ (i : Nat), i ≤ k ∧ iv = .int .i64 i ∧ Hid (∀ j, j < i → Rep w D .rat (us1 j) [tx2 j] ∧ (tx2 j).length ≤ 58) ∧ Hid (Below W.heap.size W wr)) (fun iv _ => k - (intOf iv).toNat)
  case atStart => exact ⟨0, by omega, rfl, (fun j hj => absurd hj (by omega)), Below.refl _ _⟩
  obtain ⟨k8, d7, rfl, HE9, b6⟩ := hrel
  obtain ⟨b7, hwr⟩ : ∃ w : World, w = wr := ⟨_, rfl⟩
  subst hwr
  have c5 := b6.out
  have a1 := hid (HB0.out.trans (c5.mono HB0.out.size))
  clear c5
  by_cases b2 : k8 < k
  ·obtain ⟨b16, a0, hAx, _, a2, b3⟩ := c4.out (by omega)
   subst hAx
   have a4 := d4.out k8 b2
   obtain ⟨u20, a3⟩ : ∃ u, us1 k8 = u := ⟨_, rfl⟩
   rw [a3] at a4
   have b4 : Shape.sz .big = 3 := rfl
   obtain ⟨t24, b8⟩ : ∃ t, tx2 k8 = t := ⟨_, rfl⟩
   rw [b8] at a4
   have c6 := hid b8
   clear b8
   obtain ⟨a5, a6, a7, a8, a9, b0, b1, rfl⟩ := ty_big a4.ty
   have d5 := hid a4
   clear a4
   have d6 := hid a3
   have c7 : Hid (w.cell? ⟨b16, a0 + k8 * 3, none⟩ = some (.bool a5)) := by
    have h9 := b3 k8 b2 0 (.bool a5) (by rw [a3]; rfl)
    rw [b4] at h9
    show w.cell? ⟨b16, a0 + k8 * 3, none⟩ = some (.bool a5)
    simpa using h9
   have d8 : b7.cell? ⟨b16, a0 + k8 * 3, none⟩ = some (.bool a5) := ((HW.out.trans (a1.out.mono HW.out.size)).cell (p := ⟨b16, a0 + k8 * 3, none⟩) a2).trans c7.out
   have c8 : Hid (w.cell? ⟨b16, a0 + k8 * 3 + 1, none⟩ = some (.slice a6 a7 a8)) := by
    have h9 := b3 k8 b2 1 (.slice a6 a7 a8) (by rw [a3]; rfl)
    rw [b4] at h9
    show w.cell? ⟨b16, a0 + k8 * 3 + 1, none⟩ = some (.slice a6 a7 a8)
    exact h9
   have d9 : b7.cell? ⟨b16, a0 + k8 * 3 + 1, none⟩ = some (.slice a6 a7 a8) := ((HW.out.trans (a1.out.mono HW.out.size)).cell (p := ⟨b16, a0 + k8 * 3 + 1, none⟩) a2).trans c8.out
   have c9 : Hid (w.cell? ⟨b16, a0 + k8 * 3 + 2, none⟩ = some (.slice a9 b0 b1)) := by
    have h9 := b3 k8 b2 2 (.slice a9 b0 b1) (by rw [a3]; rfl)
    rw [b4] at h9
    show w.cell? ⟨b16, a0 + k8 * 3 + 2, none⟩ = some (.slice a9 b0 b1)
    exact h9
   have e0 : b7.cell? ⟨b16, a0 + k8 * 3 + 2, none⟩ = some (.slice a9 b0 b1) := ((HW.out.trans (a1.out.mono HW.out.size)).cell (p := ⟨b16, a0 + k8 * 3 + 2, none⟩) a2).trans c9.out
   clear b3 a3 b4
   go_wp2_with fail
   refine (kR_any w _ D _ _ _ _ _ _ _ _ d5.out).mono ?_
   rintro e w35 ⟨bb, rfl, b9, c0⟩
   have b5 := hid (a1.out.trans (c0.mono a1.out.size))
   have d0 := hid (b6.out.trans (c0.mono b6.out.size))
   have e1 : w35.cell? ⟨b16, a0 + k8 * 3, none⟩ = some (.bool a5) := ((HW.out.trans (b5.out.mono HW.out.size)).cell (p := ⟨b16, a0 + k8 * 3, none⟩) a2).trans c7.out
   have e2 : w35.cell? ⟨b16, a0 + k8 * 3 + 1, none⟩ = some (.slice a6 a7 a8) := ((HW.out.trans (b5.out.mono HW.out.size)).cell (p := ⟨b16, a0 + k8 * 3 + 1, none⟩) a2).trans c8.out
   have e3 : w35.cell? ⟨b16, a0 + k8 * 3 + 2, none⟩ = some (.slice a9 b0 b1) := ((HW.out.trans (b5.out.mono HW.out.size)).cell (p := ⟨b16, a0 + k8 * 3 + 2, none⟩) a2).trans c9.out
   clear c0
   rcases bb with _ | _
   ·clear b9
    go_wp2
    go_ret
    exact KP.no b5.out
   have HT1 := hid (b9 rfl)
   clear b9
   have d1 : Hid (∀ j, j < k8 + 1 → Rep w D .rat (us1 j) [tx2 j] ∧ (tx2 j).length ≤ 58) := fun j hj => by
    rcases Nat.lt_or_ge j k8 with h | h
    ·exact HE9.out j h
    ·obtain rfl : j = k8 := by omega
     first | rw [d6.out, c6.out] | rw [c6.out]
     exact HT1.out
   go_wp2
   go_roundw
   case rel => first | exact ⟨k8 + 1, by omega, by go_num, d1, d0⟩ | ((repeat apply Exists.intro); exact ⟨⟨k8 + 1, by omega, by go_num, d1, d0⟩, rfl⟩)
   case measure => simp [intOf]; omega
  obtain rfl : k8 = k := by omega
  go_wp2
  go_ret
  exact KP.yes (⟨Rep.relist rfl d3 c1 c4.out (fun j hj => (HE9.out j hj).1), par_len_le hkm fun j hj => (HE9.out j hj).2⟩) a1.out
 ·have hkm' : m < k := by omega
  go_enter Tryz.func16, Tryz.ntmps16
  go_wp2
  go_ret
  exact KP.no HB0.out
set_option maxHeartbeats 4000000 in
set_option maxRecDepth 100000 in
theorem kLs_any (n : Nat) (w W : World) (D : Nat → Prop) (A : Option Addr) (k c : Nat) (t : List UInt8) (m r : Nat) (hm : m ≤ 1000) (hr : r ≤ 1000) (h : Rep w D (.list linS) [.slice A k c] [t]) (hW : Below w.heap.size w W) :
 Calls Tryz.prog 41 #[.slice A k c, .int .i64 m, .int .i64 r] W (KP (t.length ≤ 2 + m * (26 + 46 * r + 1)) W) := by
 have HW := hid hW
 clear hW
 have HB0 := hid (Below.refl W.heap.size W)
 have HR0 := hid h
 clear h
 obtain ⟨c4, a7, c5, d4, c6, b5, b6⟩ := HR0.out.unlist
 subst c5
 unfold maxLen at c6
 have c7 := hid b5
 have c8 := hid b6
 clear b5 b6
 by_cases hkm : k ≤ m
 ·have hdm : decide (m < k) = false := decide_eq_false (by omega)
  go_enter Tryz.func41, Tryz.ntmps41
  go_wp2
  go_loopw [14] (fun iv wr => ∃ (i : Nat), i ≤ k ∧ iv = .int .i64 i ∧ Hid (∀ j, j < i → (a7 j).length ≤ 26 + 46 * r) ∧ Hid (Below W.heap.size W wr)) (fun iv _ => k - (intOf iv).toNat)
  case atStart => exact ⟨0, by omega, rfl, (fun j hj => absurd hj (by omega)), Below.refl _ _⟩
  obtain ⟨k51, d5, rfl, b7, a8⟩ := hrel
  obtain ⟨b8, hwr⟩ : ∃ w : World, w = wr := ⟨_, rfl⟩
  subst hwr
  have b9 := a8.out
  have a3 := hid (HB0.out.trans (b9.mono HB0.out.size))
  clear b9
  by_cases a9 : k51 < k
  ·obtain ⟨b59, a0, hAx, _, c0, b0⟩ := c7.out (by omega)
   subst hAx
   have b1 := c8.out k51 a9
   obtain ⟨u63, a2⟩ : ∃ u, c4 k51 = u := ⟨_, rfl⟩
   rw [a2] at b1
   have b2 : Shape.sz linS = 2 := sz_lin
   obtain ⟨t67, b3⟩ : ∃ t, a7 k51 = t := ⟨_, rfl⟩
   rw [b3] at b1
   have c1 := hid b3
   clear b3
   obtain ⟨_, b4, l73, _, t69, _, rfl, rfl, r71, l74, _, t70, _, rfl, rfl, r72, rfl, rfl⟩ := b1
   injection b4 with b4 _
   obtain ⟨a4, rfl⟩ := ty_int r71.ty
   obtain ⟨a5, a1, a6, rfl⟩ := ty_list r72.ty
   subst b4
   have c9 := hid r71
   clear r71
   have d0 := hid r72
   clear r72
   have d1 := hid a2
   have d2 : Hid (w.cell? ⟨b59, a0 + k51 * 2, none⟩ = some (.int .i64 a4)) := by
    have h9 := b0 k51 a9 0 (.int .i64 a4) (by rw [a2]; rfl)
    rw [b2] at h9
    show w.cell? ⟨b59, a0 + k51 * 2, none⟩ = some (.int .i64 a4)
    simpa using h9
   have d6 : b8.cell? ⟨b59, a0 + k51 * 2, none⟩ = some (.int .i64 a4) := ((HW.out.trans (a3.out.mono HW.out.size)).cell (p := ⟨b59, a0 + k51 * 2, none⟩) c0).trans d2.out
   have d3 : Hid (w.cell? ⟨b59, a0 + k51 * 2 + 1, none⟩ = some (.slice a5 a1 a6)) := by
    have h9 := b0 k51 a9 1 (.slice a5 a1 a6) (by rw [a2]; rfl)
    rw [b2] at h9
    show w.cell? ⟨b59, a0 + k51 * 2 + 1, none⟩ = some (.slice a5 a1 a6)
    exact h9
   have d7 : b8.cell? ⟨b59, a0 + k51 * 2 + 1, none⟩ = some (.slice a5 a1 a6) := ((HW.out.trans (a3.out.mono HW.out.size)).cell (p := ⟨b59, a0 + k51 * 2 + 1, none⟩) c0).trans d3.out
   clear b0 a2 b2
   rcases Nat.lt_or_ge r a1 with d8 | c2
   ·go_wp2
    go_ret
    exact KP.no a3.out
   have c2 : a1 ≤ r := c2
   have c3 : Hid (∀ j, j < k51 + 1 → (a7 j).length ≤ 26 + 46 * r) := fun j hj => by
    rcases Nat.lt_or_ge j k51 with h | h
    ·exact b7.out j h
    ·obtain rfl : j = k51 := by omega
     first | rw [d1.out, c1.out] | rw [c1.out]
     exact lin_len2 c9.out d0.out (by assumption)
   go_wp2
   go_roundw
   case rel => first | exact ⟨k51 + 1, by omega, by go_num, c3, a8⟩ | ((repeat apply Exists.intro); exact ⟨⟨k51 + 1, by omega, by go_num, c3, a8⟩, rfl⟩)
   case measure => simp [intOf]; omega
  obtain rfl : k51 = k := by omega
  go_wp2
  go_ret
  exact KP.yes (par_len_le hkm b7.out) a3.out
 ·have hkm' : m < k := by omega
  go_enter Tryz.func41, Tryz.ntmps41
  go_wp2
  go_ret
  exact KP.no HB0.out
set_option maxHeartbeats 4000000 in
set_option maxRecDepth 100000 in
theorem kTb_any (n : Nat) (w W : World) (D : Nat → Prop) (A : Option Addr) (k c : Nat) (t : List UInt8) (m : Nat) (hm : m ≤ 1000) (h : Rep w D (.list relationS) [.slice A k c] [t]) (hW : Below w.heap.size w W) :
 Calls Tryz.prog 13 #[.slice A k c, .int .i64 m] W (KP (t.length ≤ 2 + 8 * (2 * (2 + m * (26 + 46 * 5 + 1)) + 3 + 1)) W) := by
 have HW := hid hW
 clear hW
 have HB0 := hid (Below.refl W.heap.size W)
 have HR0 := hid h
 clear h
 obtain ⟨e0, b2, e1, e8, e2, c9, d0⟩ := HR0.out.unlist
 subst e1
 unfold maxLen at e2
 have e3 := hid c9
 have e4 := hid d0
 clear c9 d0
 by_cases hkm : k ≤ 8
 ·have hdm : decide (8 < k) = false := decide_eq_false (by omega)
  go_enter Tryz.func13, Tryz.ntmps13
  go_wp2
  go_loopw [11] (fun iv wr => ∃ (i : Nat), i ≤ k ∧ iv = .int .i64 i ∧ Hid (∀ j, j < i → (b2 j).length ≤ 2 * (2 + m * (26 + 46 * 5 + 1)) + 3) ∧ Hid (Below W.heap.size W wr)) (fun iv _ => k - (intOf iv).toNat)
  case atStart => exact ⟨0, by omega, rfl, (fun j hj => absurd hj (by omega)), Below.refl _ _⟩
  obtain ⟨k94, e9, rfl, d1, b3⟩ := hrel
  obtain ⟨d2, hwr⟩ : ∃ w : World, w = wr := ⟨_, rfl⟩
  subst hwr
  have d3 := b3.out
  have a2 := hid (HB0.out.trans (d3.mono HB0.out.size))
  clear d3
  by_cases b4 : k94 < k
  ·obtain ⟨a0, a1, hAx, _, a3, b5⟩ := e3.out (by omega)
   subst hAx
   have b6 := e4.out k94 b4
   obtain ⟨f0, b1⟩ : ∃ u, e0 k94 = u := ⟨_, rfl⟩
   rw [b1] at b6
   have b7 : Shape.sz relationS = 2 := sz_relation
   obtain ⟨f1, b8⟩ : ∃ t, b2 k94 = t := ⟨_, rfl⟩
   rw [b8] at b6
   have d4 := hid b8
   clear b8
   obtain ⟨_, b9, f2, _, f3, _, rfl, rfl, c0, f4, _, f5, _, rfl, rfl, c1, rfl, rfl⟩ := b6
   injection b9 with b9 _
   obtain ⟨a4, a5, a6, rfl⟩ := ty_list c0.ty
   obtain ⟨a7, a8, a9, rfl⟩ := ty_list c1.ty
   subst b9
   have e5 := hid c0
   clear c0
   have e6 := hid c1
   clear c1
   have e7 := hid b1
   have c2 : Hid (w.cell? ⟨a0, a1 + k94 * 2, none⟩ = some (.slice a4 a5 a6)) := by
    have h9 := b5 k94 b4 0 (.slice a4 a5 a6) (by rw [b1]; rfl)
    rw [b7] at h9
    show w.cell? ⟨a0, a1 + k94 * 2, none⟩ = some (.slice a4 a5 a6)
    simpa using h9
   have f6 : d2.cell? ⟨a0, a1 + k94 * 2, none⟩ = some (.slice a4 a5 a6) := ((HW.out.trans (a2.out.mono HW.out.size)).cell (p := ⟨a0, a1 + k94 * 2, none⟩) a3).trans c2.out
   have c3 : Hid (w.cell? ⟨a0, a1 + k94 * 2 + 1, none⟩ = some (.slice a7 a8 a9)) := by
    have h9 := b5 k94 b4 1 (.slice a7 a8 a9) (by rw [b1]; rfl)
    rw [b7] at h9
    show w.cell? ⟨a0, a1 + k94 * 2 + 1, none⟩ = some (.slice a7 a8 a9)
    exact h9
   have f7 : d2.cell? ⟨a0, a1 + k94 * 2 + 1, none⟩ = some (.slice a7 a8 a9) := ((HW.out.trans (a2.out.mono HW.out.size)).cell (p := ⟨a0, a1 + k94 * 2 + 1, none⟩) a3).trans c3.out
   clear b5 b1 b7
   go_wp2_with fail
   refine (kLs_any n w _ D _ _ _ _ m 5 hm (by omega) e5.out (HW.out.trans (a2.out.mono HW.out.size))).mono ?_
   rintro e d5 ⟨bb, rfl, c4, c5⟩
   have b0 := hid (a2.out.trans (c5.mono a2.out.size))
   have d6 := hid (b3.out.trans (c5.mono b3.out.size))
   have f8 : d5.cell? ⟨a0, a1 + k94 * 2, none⟩ = some (.slice a4 a5 a6) := ((HW.out.trans (b0.out.mono HW.out.size)).cell (p := ⟨a0, a1 + k94 * 2, none⟩) a3).trans c2.out
   have f9 : d5.cell? ⟨a0, a1 + k94 * 2 + 1, none⟩ = some (.slice a7 a8 a9) := ((HW.out.trans (b0.out.mono HW.out.size)).cell (p := ⟨a0, a1 + k94 * 2 + 1, none⟩) a3).trans c3.out
   clear c5
   rcases bb with _ | _
   ·clear c4
    go_wp2
    go_ret
    exact KP.no b0.out
   have HT1 := hid (c4 rfl)
   clear c4
   go_wp2_with fail
   refine (kLs_any n w _ D _ _ _ _ m 5 hm (by omega) e6.out (HW.out.trans (b0.out.mono HW.out.size))).mono ?_
   rintro e d7 ⟨bb, rfl, c6, c7⟩
   have c8 := hid (b0.out.trans (c7.mono b0.out.size))
   have d8 := hid (d6.out.trans (c7.mono d6.out.size))
   have g0 : d7.cell? ⟨a0, a1 + k94 * 2, none⟩ = some (.slice a4 a5 a6) := ((HW.out.trans (c8.out.mono HW.out.size)).cell (p := ⟨a0, a1 + k94 * 2, none⟩) a3).trans c2.out
   have g1 : d7.cell? ⟨a0, a1 + k94 * 2 + 1, none⟩ = some (.slice a7 a8 a9) := ((HW.out.trans (c8.out.mono HW.out.size)).cell (p := ⟨a0, a1 + k94 * 2 + 1, none⟩) a3).trans c3.out
   clear c7
   rcases bb with _ | _
   ·clear c6
    go_wp2
    go_ret
    exact KP.no c8.out
   have HT2 := hid (c6 rfl)
   clear c6
   have d9 : Hid (∀ j, j < k94 + 1 → (b2 j).length ≤ 2 * (2 + m * (26 + 46 * 5 + 1)) + 3) := fun j hj => by
    rcases Nat.lt_or_ge j k94 with h | h
    ·exact d1.out j h
    ·obtain rfl : j = k94 := by omega
     first | rw [e7.out, d4.out] | rw [d4.out]
     have q1 := HT1.out
     have q2 := HT2.out
     exact st2_le (by omega)
   go_wp2
   go_roundw
   case rel => first | exact ⟨k94 + 1, by omega, by go_num, d9, d8⟩ | ((repeat apply Exists.intro); exact ⟨⟨k94 + 1, by omega, by go_num, d9, d8⟩, rfl⟩)
   case measure => simp [intOf]; omega
  obtain rfl : k94 = k := by omega
  go_wp2
  go_ret
  exact KP.yes (par_len_le hkm d1.out) a2.out
 ·have hkm' : 8 < k := by omega
  go_enter Tryz.func13, Tryz.ntmps13
  go_wp2
  go_ret
  exact KP.no HB0.out
end Go.Proofs.YtpbdkkoanedimaaGreatDoor
