/-
  Audits: the walk of slices.Delete at the row of open points.
-/
import Derived.Test.YtgheaoaicbkaoaaGreatDoorMAe
import Derived.Test.YtgheaoaicbkaoaaGreatDoorMAb
import Derived.StillTailTactics
import Derived.Test.YtgheaoaicbkaoaaGreatDoorMRefL
import Derived.Deep.OwnRows
namespace Go.Proofs.YtgheaoaicbkaoaaGreatDoor
open Go.RowKit AC
set_option linter.unusedVariables false
set_option linter.unusedSimpArgs false
set_option maxHeartbeats 4000000 in
set_option maxRecDepth 100000 in
theorem Delete_at {w : World} {base k K g c : Nat} {N : Nat → Int} {s t : Nat → Rat} (h : OwnO w base (.slice (some ⟨g, 0, none⟩) k c) k K N s t) {i j : Nat} (hj : j = i + 1) (hjk : j ≤ k) (hk : k ≤ 1000000) :
    Calls Tryz.prog 15 #[.slice (some ⟨g, 0, none⟩) k c, .int .i64 i, .int .i64 j] w (fun e w' => e = .returned (.slice (some ⟨g, 0, none⟩) (k - 1) c) ∧ OwnO w' base (.slice (some ⟨g, 0, none⟩) (k - 1) c) (k - 1) K (cutF i N) (cutF i s) (cutF i t) ∧ w.grownBy w' (some g)) := by
  obtain ⟨A, c', e, hkc, hcm⟩ := h.form
  injection e with eA _ ec
  subst eA
  subst ec
  have HO := Lib.hid (OwnO.below h (Below.refl _ _).drew)
  have hij : i < j := by omega
  have HJ := Lib.hid hj
  have hij2 : ¬ i = j := by omega
  have hic : i ≤ c := by omega
  have hjc : j ≤ c := by omega
  obtain ⟨Ad, hA, hAd⟩ : ∃ Ad, (if c = j then some (⟨g, 0, none⟩ : Addr) else some ⟨g, j * 7, none⟩) = some Ad ∧ Hid (Ad = ⟨g, (i + 1) * 7, none⟩ ∨ k = i + 1) := by
    by_cases hcj : c = j
    · exact ⟨_, if_pos hcj, .inr (by omega)⟩
    · exact ⟨_, if_neg hcj, .inl (by rw [hj])⟩
  clear h hj
  go_enter Tryz.func15, Tryz.ntmps15
  go_upto_region 5 with (fail)
  go_still_tail 6, (by kernel_rfl)
  obtain ⟨w1, w2, hr1, hr2, hO2, hG2⟩ := HO.out.del (i := i) (by omega) (c - j) (c - (k - 1)) Ad hAd.out
  rw [← HJ.out] at hr1
  try simp only [Option.map_some, Addr.add_lit, Nat.zero_add, hA]
  change wpList _ _ _ _ _ w.drew
  refine wpList_plain rfl fun KK hKK => wp_append' (.tmp 22) (.tmp 25) _ rfl rfl rfl (hr1 _) (hKK _ _ ?_)
  have hr3 : ∀ ty2, (Builtin.clear_ #[61] ty2 #[.slice (some ⟨g, (k - 1) * 7, none⟩) (k - (k - 1)) (c - (k - 1))]).run Tryz.prog w1 = .ok (.tuple #[]) w2 := by
    rw [show k - (k - 1) = 1 by omega]
    exact hr2
  have HO2 := Lib.hid hO2
  have HG2 := Lib.hid hG2
  clear hr1 hr2 hO2 hG2
  go_wp2
  go_ret
  exact ⟨rfl, HO2.out, ((grown_below (Below.refl _ _).drew).trans HG2.out)⟩
theorem Delete_any {w : World} {base k K g c : Nat} {N : Nat → Int} {s t : Nat → Rat} (h : OwnO w base (.slice (some ⟨g, 0, none⟩) k c) k K N s t) {i : Nat} (hi : i < k) (hk : k ≤ 1000000) :
    Calls Tryz.prog 15 #[.slice (some ⟨g, 0, none⟩) k c, .int .i64 i, .int .i64 ((i : Int) + 1)] w (fun e w' => e = .returned (.slice (some ⟨g, 0, none⟩) (k - 1) c) ∧ OwnO w' base (.slice (some ⟨g, 0, none⟩) (k - 1) c) (k - 1) K (cutF i N) (cutF i s) (cutF i t) ∧ w.grownBy w' (some g)) :=
  Delete_at (j := i + 1) h rfl (by omega) hk
end Go.Proofs.YtgheaoaicbkaoaaGreatDoor

/-
  A region that draws its order: an invariant of what is done, of the values and of the world.
-/
namespace AC
open Go Go.RowKit
set_option linter.unusedVariables false
set_option linter.unusedSimpArgs false
section
variable {P : Program} {ops : Array Oper} {Q : Exit → Act → World → Prop}
theorem wp_region_st {id : Nat} {a0 : Act} {w0 : World} (hm : P.follows .mixedOrders = true)
    (hlow : lowOk ops = true) (slots : List Nat) (f : Nat) (hok : (dstsOk ops slots && lastOk ops slots.length f && decide slots.Nodup && decide (slots.length ≤ ops.size)) = true)
    (J : (Nat → Bool) → (Nat → Value) → World → Prop) (h0 : ∀ s, J (fun _ => false) s w0.drew)
    (step : ∀ (i : Nat) (o : Oper) (s : Nat → Value) (d : Nat → Bool) (x : World), ops[i]? = some o → i < slots.length → d i = false →
      (∀ j, ahead ops f i j = true → d j = true) → (∀ j, j < ops.size → ahead ops f j i = true → d j = false) → J d s x →
      opOk P ops Q i (fun a' x' => ∃ v, a' = (putAll a0 slots 0 s).put (some (slots.getD i 0)) v ∧ J (fun k => d k || k == i) (fun k => if k = i then v else s k) x') (putAll a0 slots 0 s) x)
    (fin : ∀ (s : Nat → Value) (d : Nat → Bool) (x : World), (∀ i, i < slots.length → d i = true) → J d s x → wpList P ops Q (ops.toList.drop slots.length) (putAll a0 slots 0 s) x) :
    (Code.region id ops true).wp P Q a0 w0 := by
  simp only [Bool.and_eq_true, decide_eq_true_eq] at hok
  obtain ⟨⟨⟨hdst, hlast⟩, hnd⟩, hsz⟩ := hok
  have hl := lowOk_spec hlow
  have hlast' : ∀ i, i < ops.size → slots.length ≤ i → ∀ j, j < i → ahead ops f i j = true := by
    intro i hi hn j hj
    have h1 := List.all_eq_true.1 hlast i (List.mem_range.2 hi)
    simp only [Bool.or_eq_true, decide_eq_true_eq] at h1
    rcases h1 with h1 | h1
    · omega
    · exact List.all_eq_true.1 h1 j (List.mem_range.2 hj)
  refine wp_region_inv hm hl (fun d a x => (∀ (i : Nat) (o : Oper), ops[i]? = some o → d i = true → ∀ e ∈ o.after, Region.binds .any e = true → d e.on = true) ∧
    (((∀ j, slots.length ≤ j → d j = false) ∧ ∃ s : Nat → Value, a = putAll a0 slots 0 s ∧ J d s x) ∨ (∃ k, slots.length < k ∧ (∀ j, d j = decide (j < k)) ∧ wpList P ops Q (ops.toList.drop k) a x))) ?_ ?_ ?_
  · refine ⟨(fun i o _ h => by cases h), .inl ⟨fun _ _ => rfl, ?_⟩⟩
    obtain ⟨s, hs⟩ := putAll_self slots a0 0 hnd
    exact ⟨s, hs.symm, h0 s⟩
  · rintro d i o a x ho hdi hed ⟨hcl, hI⟩
    have hi : i < ops.size := (Array.getElem?_eq_some_iff.1 ho).1
    have hcl' : ∀ (k : Nat) (o' : Oper), ops[k]? = some o' → (d k || k == i) = true → ∀ e ∈ o'.after, Region.binds .any e = true → (d e.on || e.on == i) = true := by
      intro k o' ho' hk e he hb
      rw [Bool.or_eq_true] at hk ⊢
      rcases hk with hk | hk
      · exact .inl (hcl k o' ho' hk e he hb)
      · have : k = i := by simpa using hk
        subst this
        rw [ho] at ho'
        injection ho' with ho'
        subst ho'
        exact .inl (hed e he hb)
    rcases Nat.lt_or_ge i slots.length with hin | hin
    · rcases hI with ⟨hnone, s, rfl, hJ⟩ | ⟨k, hk, hdk, hw⟩
      · refine wpOp_mono ?_ (step i o s d x ho hin hdi (fun j hj => ahead_done hcl f i j o ho hed hj) (fun j hjs ha => by
          cases hdj : d j with
          | false => rfl
          | true =>
            have hoj : ops[j]? = some ops[j] := Array.getElem?_eq_getElem hjs
            have := ahead_done hcl f j i _ hoj (hcl j _ hoj hdj) ha
            rw [hdi] at this
            cases this) hJ).out
        rintro a' x' ⟨v, rfl, hJ'⟩
        refine ⟨hcl', .inl ⟨fun j hj => ?_, ?_⟩⟩
        · have : (j == i) = false := by rw [beq_eq_false_iff_ne]; omega
          show (d j || j == i) = false
          rw [hnone j hj, this]; rfl
        · refine ⟨fun j => if j = i then v else s j, ?_, hJ'⟩
          have ht : slots[i]? = some (slots.getD i 0) := by rw [List.getD_eq_getElem?_getD, List.getElem?_eq_getElem hin]; rfl
          rw [putAll_upd slots a0 0 i s (slots.getD i 0) v hnd ht, Nat.zero_add]
      · rw [hdk i] at hdi
        simp at hdi
        omega
    · have hall : ∀ j, j < i → d j = true := fun j hj => ahead_done hcl f i j o ho hed (hlast' i hi hin j hj)
      have key : ∃ w', w' = wpList P ops Q (ops.toList.drop i) a x ∧ w' := by
        refine ⟨_, rfl, ?_⟩
        rcases hI with ⟨hnone, s, rfl, hJ⟩ | ⟨k, hk, hdk, hw⟩
        · have hin' : i = slots.length := by
            rcases Nat.lt_or_ge slots.length i with h | h
            · have := hall slots.length h; rw [hnone _ (Nat.le_refl _)] at this; cases this
            · omega
          rw [hin']
          exact fin s d x (fun j hj => hall j (by omega)) hJ
        · have : i = k := by
            rcases Nat.lt_trichotomy i k with h | h | h
            · rw [hdk i] at hdi; simp at hdi; omega
            · exact h
            · have := hall k h; rw [hdk k] at this; simp at this
          rw [this]; exact hw
      obtain ⟨_, rfl, key⟩ := key
      rw [drop_at ho] at key
      refine wpOp_mono ?_ (wpOp_of_wpList ho key)
      intro a' x' hw
      refine ⟨hcl', .inr ⟨i + 1, by omega, fun j => ?_, hw⟩⟩
      show (d j || j == i) = _
      rcases Nat.lt_trichotomy j i with h | h | h
      · rw [hall j h]; simp; omega
      · subst h; simp
      · have hdj : d j = false := by
          rcases hI with ⟨hnone, _⟩ | ⟨k, hk, hdk, hw⟩
          · exact hnone j (by omega)
          · rw [hdk i] at hdi; rw [hdk j]; simp at hdi ⊢; omega
        rw [hdj]
        have : (j == i) = false := by rw [beq_eq_false_iff_ne]; omega
        rw [this]; simp; omega
  · rintro d a x hall ⟨hcl, hI⟩
    rcases hI with ⟨hnone, s, rfl, hJ⟩ | ⟨k, hk, hdk, hw⟩
    · have hn : slots.length = ops.size := by
        rcases Nat.lt_or_ge slots.length ops.size with h | h
        · have := hall _ h; rw [hnone _ (Nat.le_refl _)] at this; cases this
        · omega
      have := fin s d x (fun j hj => hall j (by omega)) hJ
      rw [hn, List.drop_of_length_le (by simp)] at this
      exact this
    · have hks : ops.size ≤ k := by
        rcases Nat.lt_or_ge k ops.size with h | h
        · have := hall k h; rw [hdk k] at this; simp at this
        · exact h
      rw [List.drop_of_length_le (by simpa using hks)] at hw
      exact hw
end

end AC

/-
  Audits: the region of Check that enters a point: its invariant.
-/

namespace Go.Proofs.YtgheaoaicbkaoaaGreatDoor
open Go.RowKit AC
set_option linter.unusedVariables false
set_option linter.unusedSimpArgs false
/-- What holds while the operations of a region are done: 7 and 10 write, those below 7 stand ahead of 7; F: what each leaves. -/
def J8 (F : Nat → Value → World → Prop) (W : World) (d : Nat → Bool) (s : Nat → Value) (x : World) : Prop :=
  (d 7 = false → d 10 = false ∧ Below W.heap.size W x ∧ ∀ j, j < 7 → d j = true → F j (s j) x) ∧ (∀ j, j = 8 ∨ j = 9 → d j = true → F j (s j) x) ∧ (d 7 = true → d 10 = false → F 7 (s 7) x) ∧ (d 10 = true → F 10 (s 10) x)
section
variable {F : Nat → Value → World → Prop} {W x x' : World} {d : Nat → Bool} {s : Nat → Value}
theorem J8.start {w0 : World} (h : Below W.heap.size W w0) : J8 F W (fun _ => false) s w0 :=
  ⟨fun _ => ⟨rfl, h, fun _ _ h => by cases h⟩, (fun _ _ h => by cases h), (fun h => by cases h), fun h => by cases h⟩
theorem J8.early (h : J8 F W d s x) {i : Nat} (hi : i < 7) (h7 : d 7 = false) {v : Value} (hv : F i v x') (hb : Below x.heap.size x x') (hk : ∀ j, j < 7 → j ≠ i → d j = true → F j (s j) x → F j (s j) x') (h89 : ∀ j v, j = 8 ∨ j = 9 → F j v x → F j v x') :
    J8 F W (fun k => d k || k == i) (fun k => if k = i then v else s k) x' := by
  obtain ⟨h1, h2, h3, h4⟩ := h
  obtain ⟨h10, hw, hj⟩ := h1 h7
  have n7 : (7 == i) = false := by rw [beq_eq_false_iff_ne]; omega
  have n10 : (10 == i) = false := by rw [beq_eq_false_iff_ne]; omega
  refine ⟨fun _ => ⟨by simp only [h10, n10, Bool.or_false], hw.trans (hb.mono hw.size), fun j hj7 hd => ?_⟩, fun j hj8 hd => ?_, fun h => ?_, fun h => ?_⟩
  · by_cases e : j = i
    · subst e
      simp only [if_true]
      exact hv
    · simp only [if_neg e]
      have hd : d j = true := by
        rw [Bool.or_eq_true] at hd
        rcases hd with h | h
        · exact h
        · exact absurd (by simpa using h) e
      exact hk j hj7 e hd (hj j hj7 hd)
  · have e : j ≠ i := by omega
    simp only [if_neg e]
    have hd : d j = true := by
      rw [Bool.or_eq_true] at hd
      rcases hd with h | h
      · exact h
      · exact absurd (by simpa using h) e
    exact h89 j _ hj8 (h2 j hj8 hd)
  · simp only [h7, n7, Bool.or_false] at h; cases h
  · simp only [h10, n10, Bool.or_false] at h; cases h
theorem J8.pure (h : J8 F W d s x) {i : Nat} (hi : i = 8 ∨ i = 9) {v : Value} (hv : F i v x) : J8 F W (fun k => d k || k == i) (fun k => if k = i then v else s k) x := by
  obtain ⟨h1, h2, h3, h4⟩ := h
  have n7 : (7 == i) = false := by rw [beq_eq_false_iff_ne]; omega
  have n10 : (10 == i) = false := by rw [beq_eq_false_iff_ne]; omega
  have e7 : (7 : Nat) ≠ i := by omega
  have e10 : (10 : Nat) ≠ i := by omega
  simp only [J8, n7, n10, Bool.or_false, if_neg e7, if_neg e10]
  refine ⟨fun h7 => ⟨(h1 h7).1, (h1 h7).2.1, fun j hj hd => ?_⟩, fun j hj hd => ?_, h3, h4⟩
  · have e : j ≠ i := by omega
    simp only [if_neg e]
    rw [Bool.or_eq_true] at hd
    rcases hd with h | h
    · exact (h1 h7).2.2 j hj h
    · exact absurd (by simpa using h) e
  · by_cases e : j = i
    · subst e
      simp only [if_true]
      exact hv
    · simp only [if_neg e]
      rw [Bool.or_eq_true] at hd
      rcases hd with h | h
      · exact h2 j hj h
      · exact absurd (by simpa using h) e
theorem J8.app (h : J8 F W d s x) (h10 : d 10 = false) {v : Value} (hv : F 7 v x') (h89 : ∀ j v, j = 8 ∨ j = 9 → F j v x → F j v x') : J8 F W (fun k => d k || k == 7) (fun k => if k = 7 then v else s k) x' := by
  obtain ⟨h1, h2, h3, h4⟩ := h
  refine ⟨fun h => ?_, fun j hj hd => ?_, fun _ _ => hv, fun h => ?_⟩
  · simp at h
  · have e : j ≠ 7 := by omega
    simp only [if_neg e]
    rw [Bool.or_eq_true] at hd
    rcases hd with h | h
    · exact h89 j _ hj (h2 j hj h)
    · exact absurd (by simpa using h) e
  · simp [h10] at h
theorem J8.last (h : J8 F W d s x) (h7 : d 7 = true) {v : Value} (hv : F 10 v x') (h89 : ∀ j v, j = 8 ∨ j = 9 → F j v x → F j v x') : J8 F W (fun k => d k || k == 10) (fun k => if k = 10 then v else s k) x' := by
  obtain ⟨h1, h2, h3, h4⟩ := h
  refine ⟨fun h => ?_, fun j hj hd => ?_, fun _ h => ?_, fun _ => hv⟩
  · simp [h7] at h
  · have e : j ≠ 10 := by omega
    simp only [if_neg e]
    rw [Bool.or_eq_true] at hd
    rcases hd with h | h
    · exact h89 j _ hj (h2 j hj h)
    · exact absurd (by simpa using h) e
  · simp at h
end
end Go.Proofs.YtgheaoaicbkaoaaGreatDoor

/-
  Audits: the walk of the reference's opened.
-/
namespace Go.Proofs.YtgheaoaicbkaoaaGreatDoor
open Go.RowKit AC
set_option linter.unusedVariables false
set_option linter.unusedSimpArgs false
/-- The last point ahead of i that is entered, not closed, and has node x. -/
def OpnAt (kd nd : Nat → Int) (cl : Nat → Bool) (i : Nat) (x r : Int) : Prop :=
  (r = -1 ∧ ∀ j, j < i → kd j = 1 → cl j = false → nd j ≠ x) ∨ ∃ m : Nat, r = m ∧ m < i ∧ kd m = 1 ∧ cl m = false ∧ nd m = x ∧ ∀ j, m < j → j < i → kd j = 1 → cl j = false → nd j ≠ x
theorem cells6 {w : World} {b o : Nat} {x0 x1 x2 x3 x4 x5 : Value} (h0 : w.cell? ⟨b, o, none⟩ = some x0) (h1 : w.cell? ⟨b, o + 1, none⟩ = some x1) (h2 : w.cell? ⟨b, o + 2, none⟩ = some x2) (h3 : w.cell? ⟨b, o + 3, none⟩ = some x3) (h4 : w.cell? ⟨b, o + 4, none⟩ = some x4) (h5 : w.cell? ⟨b, o + 5, none⟩ = some x5) : CellsA w b o [x0, x1, x2, x3, x4, x5] := by
  intro j x hx
  rcases j with _ | _ | _ | _ | _ | _ | j <;> simp at hx
  · subst hx; exact h0
  · subst hx; exact h1
  · subst hx; exact h2
  · subst hx; exact h3
  · subst hx; exact h4
  · subst hx; exact h5
section
variable {w w' : World} {lo n K : Nat} {nd kd ct : Nat → Int} {r : Nat → Rat}
/-- The points of a slice in one block. -/
theorem PtsV.at {A : Option Addr} {c : Nat} (h : PtsV w lo (.slice A n c) n K nd kd ct r) (h0 : 0 < n) : ∃ b off, A = some ⟨b, off, none⟩ ∧ b < w.heap.size ∧
    ∀ i, i < n → ∃ s An kn cn Ad km cm, CellsA w b (off + i * 6) [.int .i64 (nd i), .int .i64 (kd i), .int .i64 (ct i), .bool s, .slice An kn cn, .slice Ad km cm] ∧ (-9223372036854775808 ≤ ct i ∧ ct i ≤ 9223372036854775807) ∧ RatV w lo (.agg #[.bool s, .slice An kn cn, .slice Ad km cm]) K (r i) := by
  obtain ⟨A', c', e, _, _, h3⟩ := h
  injection e with e1 e2 e3
  subst e1
  obtain ⟨b, off, rfl, h4, h5, h6⟩ := h3 h0
  refine ⟨b, off, rfl, h5, fun i hi => ?_⟩
  obtain ⟨s, An, kn, cn, Ad, km, cm, g1, g2, g3, g4, g5, g6, g7, g8⟩ := h6 i hi
  exact ⟨s, An, kn, cn, Ad, km, cm, cells6 g1 g2 g3 g4 g5 g6, g7, g8⟩
end
theorem row1 {w : World} {b j : Nat} {x : Value} (h : w.cell? ⟨b, j, none⟩ = some x) : CellsA w b (0 + j * 1) [x] := by
  rw [Nat.zero_add, Nat.mul_one]
  exact cells1 h
theorem opn_found {kd nd : Nat → Int} {cl : Nat → Bool} {i j : Nat} {x : Int} (hj : j < i) (h1 : kd j = 1) (h2 : cl j = false) (h3 : nd j = x) (h : ∀ m, j + 1 ≤ m → m < i → kd m = 1 → cl m = false → nd m ≠ x) : OpnAt kd nd cl i x (j : Nat) :=
  .inr ⟨j, rfl, hj, h1, h2, h3, fun m hm1 hm2 => h m hm1 hm2⟩
set_option maxHeartbeats 8000000 in
set_option maxRecDepth 100000 in
theorem opened_any {w : World} {lo n K : Nat} {v : Value} {nd kd ct : Nat → Int} {r : Nat → Rat} (hv : PtsV w lo v n K nd kd ct r) {bb : Nat} {cl : Nat → Bool} (hb : w.rowIs bb 4 n (fun j => .bool (cl j))) (i : Nat) (hi : i < n) (hn : n ≤ 1000) :
    Calls Tryz.prog 19 #[v, .slice (some ⟨bb, 0, none⟩) n n, .int .i64 i] w (fun e w' => (∃ r, e = .returned (.int .i64 r) ∧ OpnAt kd nd cl i (nd i) r) ∧ Below w.heap.size w w') := by
  obtain ⟨A, c, rfl, hnc, hcm⟩ := hv.form
  obtain ⟨b, off, rfl, hbl, hat⟩ := hv.at (by omega)
  obtain ⟨si, Ani, kni, cni, Adi, kmi, cmi, hci, _, _⟩ := hat i hi
  obtain ⟨xi, hxi⟩ : ∃ x, Hid (x = nd i) := ⟨_, rfl⟩
  obtain ⟨yi, hyi⟩ : ∃ x, Hid (x = kd i) := ⟨_, rfl⟩
  obtain ⟨zi, hzi⟩ : ∃ x, Hid (x = ct i) := ⟨_, rfl⟩
  rw [← hxi.out, ← hyi.out, ← hzi.out] at hci
  rw [← hxi.out]
  have HCI := Lib.hid hci
  have HBL := Lib.hid hbl
  have HAT := Lib.hid hat
  have HBB := Lib.hid hb
  have hBl := Lib.hid hb.lt
  clear hv hat hci hb hbl
  go_enter Tryz.func19, Tryz.ntmps19
  go_wp2
  go_loopw [7] (fun iv wr => ∃ k : Nat, k ≤ i ∧ iv = .int .i64 ((k : Int) - 1) ∧ Hid (∀ m, k ≤ m → m < i → kd m = 1 → cl m = false → nd m ≠ xi) ∧ Hid (Below w.heap.size w wr)) (fun iv _ => (intOf iv + 1).toNat)
  case atStart => exact ⟨i, Nat.le_refl _, rfl, (fun m h1 h2 => absurd h1 (by omega)), Below.refl _ _⟩
  case round =>
    obtain ⟨k, hk, rfl, hno, hbw⟩ := hrel
    rcases Nat.eq_zero_or_pos k with hk0 | hk0
    · subst hk0
      go_wp2
      go_ret
      exact ⟨⟨_, rfl, .inl ⟨rfl, fun j hj h1 h2 => hno.out j (Nat.zero_le _) hj h1 h2⟩⟩, hbw.out⟩
    · obtain ⟨j, rfl⟩ : ∃ j, k = j + 1 := ⟨k - 1, by omega⟩
      have ej : (((j + 1 : Nat) : Int) - 1) = (j : Int) := by omega
      rw [ej]
      obtain ⟨sj, Anj, knj, cnj, Adj, kmj, cmj, hcj, _, _⟩ := HAT.out j (by omega)
      obtain ⟨xj, hxj⟩ : ∃ x, Hid (x = nd j) := ⟨_, rfl⟩
      obtain ⟨yj, hyj⟩ : ∃ x, Hid (x = kd j) := ⟨_, rfl⟩
      obtain ⟨zj, hzj⟩ : ∃ x, Hid (x = ct j) := ⟨_, rfl⟩
      rw [← hxj.out, ← hyj.out, ← hzj.out] at hcj
      obtain ⟨lj, hlj⟩ : ∃ x, Hid (x = cl j) := ⟨_, rfl⟩
      have hcb := (hbw.out.cell (p := ⟨bb, j, none⟩) hBl.out).trans (HBB.out.cell (i := j) (by omega))
      rw [← hlj.out] at hcb
      have HB1 : Hid (CellsA wr bb (0 + j * 1) [.bool lj]) := row1 hcb
      have HB1l : Hid (bb < wr.heap.size) := Nat.lt_of_lt_of_le hBl.out hbw.out.size
      have HI1 : Hid (CellsA wr b (off + i * 6) [.int .i64 xi, .int .i64 yi, .int .i64 zi, .bool si, .slice Ani kni cni, .slice Adi kmi cmi]) := HCI.out.sure hbw.out HBL.out
      have HI1l : Hid (b < wr.heap.size) := Nat.lt_of_lt_of_le HBL.out hbw.out.size
      have HJ1 : Hid (CellsA wr b (off + j * 6) [.int .i64 xj, .int .i64 yj, .int .i64 zj, .bool sj, .slice Anj knj cnj, .slice Adj kmj cmj]) := hcj.sure hbw.out HBL.out
      have HJ1l := HI1l
      have hjn : j < n := by omega
      have hj0 : ¬ ((j : Int) < 0) := by omega
      clear hcj hcb ej
      go_upto_region 4 with (fail)
      by_cases h1 : yj = 1
      · by_cases h2 : xj = xi
        · cases lj with
          | true =>
            refine wp_region_sym (⟨[(b, (off + j * 6), [.int .i64 xj, .int .i64 yj, .int .i64 zj, .bool sj, .slice Anj knj cnj, .slice Adj kmj cmj]), (b, (off + i * 6), [.int .i64 xi, .int .i64 yi, .int .i64 zi, .bool si, .slice Ani kni cni, .slice Adi kmi cmi]), (bb, (0 + j * 1), [.bool true])], [], [], [(0, .v (.slice (some ⟨b, off, none⟩) n c)), (1, .v (.slice (some ⟨bb, 0, none⟩) n n)), (2, .v (.int .i64 ((i : Int)))), (7, .v (.int .i64 ((j : Int))))], [(2, .p 0 0), (5, .b .t), (9, .p 0 0), (14, .p 1 0), (17, .b .t), (22, .p 2 0)]⟩ : Sp) [14, 15, 16, 17, 18, 19, 20, 21, 22, 23, 24, 25, 26, 27, 28, 29, 30, 31, 32, 33, 34, 35, 36, 37, 38, 39] wr ((Below.refl _ _).drew) (by kernel_rfl) (by kernel_rfl) (by kernel_rfl) sN (by kernel_rfl)
              (fun x hx => (mI (HJ1.out.sure hx HJ1l.out) (mI (HI1.out.sure hx HI1l.out) (mI (HB1.out.sure hx HB1l.out) mN)))) (dI (duty_index rfl rfl b (off) n c .i64 j 6 0 (by kernel_rfl) (by kernel_rfl) (fun _ => by omega) rfl) (
              dI (duty_cmp (op := .eql) rfl rfl .i64 yj 1 .t (by kernel_rfl) (cmp_t (show (yj : Int) = 1 by omega))) (
              dI (duty_index rfl rfl b (off) n c .i64 j 6 0 (by kernel_rfl) (by kernel_rfl) (fun _ => by omega) rfl) (
              dI (duty_index rfl rfl b (off) n c .i64 i 6 1 (by kernel_rfl) (by kernel_rfl) (fun _ => by omega) rfl) (
              dI (duty_cmp (op := .eql) rfl rfl .i64 xj xi .t (by kernel_rfl) (cmp_t (show (xj : Int) = xi by omega))) (
              dI (duty_index rfl rfl bb (0) n n .i64 j 1 2 (by kernel_rfl) (by kernel_rfl) (fun _ => by omega) rfl) (dN))))))) ?_
            intro S x1 hbx hS
            obtain ⟨g25, _⟩ : S 25 = .bool false ∧ True := hS (l := [(25, .b .f)]) (by kernel_rfl)
            clear hS
            simp only [nv, Nat.reduceAdd, List.length_cons, List.length_nil, List.drop_succ_cons, List.drop_zero, g25]
            clear g25
            go_wp2
            go_roundw
            case rel =>
              refine ⟨j, by omega, rfl, fun m hm1 hm2 h3 h4 => ?_, hbw.out.trans (hbx.mono hbw.out.size)⟩
              rcases Nat.eq_or_lt_of_le hm1 with e | hm1
              · subst e
                rw [← hlj.out] at h4; cases h4
              · exact hno.out m hm1 hm2 h3 h4
            case measure => simp [intOf]
          | false =>
            refine wp_region_sym (⟨[(b, (off + j * 6), [.int .i64 xj, .int .i64 yj, .int .i64 zj, .bool sj, .slice Anj knj cnj, .slice Adj kmj cmj]), (b, (off + i * 6), [.int .i64 xi, .int .i64 yi, .int .i64 zi, .bool si, .slice Ani kni cni, .slice Adi kmi cmi]), (bb, (0 + j * 1), [.bool false])], [], [], [(0, .v (.slice (some ⟨b, off, none⟩) n c)), (1, .v (.slice (some ⟨bb, 0, none⟩) n n)), (2, .v (.int .i64 ((i : Int)))), (7, .v (.int .i64 ((j : Int))))], [(2, .p 0 0), (5, .b .t), (9, .p 0 0), (14, .p 1 0), (17, .b .t), (22, .p 2 0)]⟩ : Sp) [14, 15, 16, 17, 18, 19, 20, 21, 22, 23, 24, 25, 26, 27, 28, 29, 30, 31, 32, 33, 34, 35, 36, 37, 38, 39] wr ((Below.refl _ _).drew) (by kernel_rfl) (by kernel_rfl) (by kernel_rfl) sN (by kernel_rfl)
              (fun x hx => (mI (HJ1.out.sure hx HJ1l.out) (mI (HI1.out.sure hx HI1l.out) (mI (HB1.out.sure hx HB1l.out) mN)))) (dI (duty_index rfl rfl b (off) n c .i64 j 6 0 (by kernel_rfl) (by kernel_rfl) (fun _ => by omega) rfl) (
              dI (duty_cmp (op := .eql) rfl rfl .i64 yj 1 .t (by kernel_rfl) (cmp_t (show (yj : Int) = 1 by omega))) (
              dI (duty_index rfl rfl b (off) n c .i64 j 6 0 (by kernel_rfl) (by kernel_rfl) (fun _ => by omega) rfl) (
              dI (duty_index rfl rfl b (off) n c .i64 i 6 1 (by kernel_rfl) (by kernel_rfl) (fun _ => by omega) rfl) (
              dI (duty_cmp (op := .eql) rfl rfl .i64 xj xi .t (by kernel_rfl) (cmp_t (show (xj : Int) = xi by omega))) (
              dI (duty_index rfl rfl bb (0) n n .i64 j 1 2 (by kernel_rfl) (by kernel_rfl) (fun _ => by omega) rfl) (dN))))))) ?_
            intro S x1 hbx hS
            obtain ⟨g25, _⟩ : S 25 = .bool true ∧ True := hS (l := [(25, .b .t)]) (by kernel_rfl)
            clear hS
            simp only [nv, Nat.reduceAdd, List.length_cons, List.length_nil, List.drop_succ_cons, List.drop_zero, g25]
            clear g25
            go_wp2
            go_ret
            exact ⟨⟨_, rfl, opn_found (by omega) (by rw [← hyj.out]; exact h1) hlj.out.symm (by rw [← hxj.out]; exact h2) hno.out⟩, hbw.out.trans (hbx.mono hbw.out.size)⟩
        · skip
          refine wp_region_sym (⟨[(b, (off + j * 6), [.int .i64 xj, .int .i64 yj, .int .i64 zj, .bool sj, .slice Anj knj cnj, .slice Adj kmj cmj]), (b, (off + i * 6), [.int .i64 xi, .int .i64 yi, .int .i64 zi, .bool si, .slice Ani kni cni, .slice Adi kmi cmi]), (bb, (0 + j * 1), [.bool lj])], [], [], [(0, .v (.slice (some ⟨b, off, none⟩) n c)), (2, .v (.int .i64 ((i : Int)))), (7, .v (.int .i64 ((j : Int))))], [(2, .p 0 0), (5, .b .t), (9, .p 0 0), (14, .p 1 0), (17, .b .f)]⟩ : Sp) [14, 15, 16, 17, 18, 19, 20, 21, 22, 23, 24, 25, 26, 27, 28, 29, 30, 31, 32, 33, 34, 35, 36, 37, 38, 39] wr ((Below.refl _ _).drew) (by kernel_rfl) (by kernel_rfl) (by kernel_rfl) sN (by kernel_rfl)
            (fun x hx => (mI (HJ1.out.sure hx HJ1l.out) (mI (HI1.out.sure hx HI1l.out) (mI (HB1.out.sure hx HB1l.out) mN)))) (dI (duty_index rfl rfl b (off) n c .i64 j 6 0 (by kernel_rfl) (by kernel_rfl) (fun _ => by omega) rfl) (
            dI (duty_cmp (op := .eql) rfl rfl .i64 yj 1 .t (by kernel_rfl) (cmp_t (show (yj : Int) = 1 by omega))) (
            dI (duty_index rfl rfl b (off) n c .i64 j 6 0 (by kernel_rfl) (by kernel_rfl) (fun _ => by omega) rfl) (
            dI (duty_index rfl rfl b (off) n c .i64 i 6 1 (by kernel_rfl) (by kernel_rfl) (fun _ => by omega) rfl) (
            dI (duty_cmp (op := .eql) rfl rfl .i64 xj xi .f (by kernel_rfl) (cmp_f (show ¬ (xj : Int) = xi by omega))) (dN)))))) ?_
          intro S x1 hbx hS
          obtain ⟨g25, _⟩ : S 25 = .bool false ∧ True := hS (l := [(25, .v (.bool false))]) (by kernel_rfl)
          clear hS
          simp only [nv, Nat.reduceAdd, List.length_cons, List.length_nil, List.drop_succ_cons, List.drop_zero, g25]
          clear g25
          go_wp2
          go_roundw
          case rel =>
            refine ⟨j, by omega, rfl, fun m hm1 hm2 h3 h4 => ?_, hbw.out.trans (hbx.mono hbw.out.size)⟩
            rcases Nat.eq_or_lt_of_le hm1 with e | hm1
            · subst e
              exact fun e => h2 (hxj.out.trans e)
            · exact hno.out m hm1 hm2 h3 h4
          case measure => simp [intOf]
      · skip
        refine wp_region_sym (⟨[(b, (off + j * 6), [.int .i64 xj, .int .i64 yj, .int .i64 zj, .bool sj, .slice Anj knj cnj, .slice Adj kmj cmj]), (b, (off + i * 6), [.int .i64 xi, .int .i64 yi, .int .i64 zi, .bool si, .slice Ani kni cni, .slice Adi kmi cmi]), (bb, (0 + j * 1), [.bool lj])], [], [], [(0, .v (.slice (some ⟨b, off, none⟩) n c)), (7, .v (.int .i64 ((j : Int))))], [(2, .p 0 0), (5, .b .f)]⟩ : Sp) [14, 15, 16, 17, 18, 19, 20, 21, 22, 23, 24, 25, 26, 27, 28, 29, 30, 31, 32, 33, 34, 35, 36, 37, 38, 39] wr ((Below.refl _ _).drew) (by kernel_rfl) (by kernel_rfl) (by kernel_rfl) sN (by kernel_rfl)
          (fun x hx => (mI (HJ1.out.sure hx HJ1l.out) (mI (HI1.out.sure hx HI1l.out) (mI (HB1.out.sure hx HB1l.out) mN)))) (dI (duty_index rfl rfl b (off) n c .i64 j 6 0 (by kernel_rfl) (by kernel_rfl) (fun _ => by omega) rfl) (
          dI (duty_cmp (op := .eql) rfl rfl .i64 yj 1 .f (by kernel_rfl) (cmp_f (show ¬ (yj : Int) = 1 by omega))) (dN))) ?_
        intro S x1 hbx hS
        obtain ⟨g25, _⟩ : S 25 = .bool false ∧ True := hS (l := [(25, .v (.bool false))]) (by kernel_rfl)
        clear hS
        simp only [nv, Nat.reduceAdd, List.length_cons, List.length_nil, List.drop_succ_cons, List.drop_zero, g25]
        clear g25
        go_wp2
        go_roundw
        case rel =>
          refine ⟨j, by omega, rfl, fun m hm1 hm2 h3 h4 => ?_, hbw.out.trans (hbx.mono hbw.out.size)⟩
          rcases Nat.eq_or_lt_of_le hm1 with e | hm1
          · subst e
            exact absurd (hyj.out.trans h3) h1
          · exact hno.out m hm1 hm2 h3 h4
        case measure => simp [intOf]
end Go.Proofs.YtgheaoaicbkaoaaGreatDoor

