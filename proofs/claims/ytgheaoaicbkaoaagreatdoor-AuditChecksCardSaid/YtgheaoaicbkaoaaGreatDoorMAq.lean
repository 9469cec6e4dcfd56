/-
  closes, for the evaluator: what it computes, known otherwise.
-/
import Derived.Test.YtgheaoaicbkaoaaGreatDoorMAg
import Derived.Test.YtgheaoaicbkaoaaGreatDoorMYh
namespace Go.Proofs.YtgheaoaicbkaoaaGreatDoor
open Go.RowKit Go.Shelf AC
set_option linter.unusedVariables false
set_option linter.unusedSimpArgs false
/-- The nodes of n open points, out of their cells. -/
def opsK : Nat → List Value → (List Int → Bool) → Bool
  | 0, _, K => K []
  | l + 1, cs, K => match cs with
    | .int .i64 n :: .bool _ :: .slice _ _ _ :: .slice _ _ _ :: .bool _ :: .slice _ _ _ :: .slice _ _ _ :: r => opsK l r fun ns => K (n :: ns)
    | _ => false
/-- The last place of a number. -/
def lastF (x : Int) : List Int → Option Nat
  | [] => none
  | n :: l => match lastF x l with
    | some k => some (k + 1)
    | none => if n = x then some 0 else none
def closesE (m : Ev.Mem) (args : List Value) (K : Value → Ev.Mem → Bool) : Bool := Ev.two args fun s x => match x with
  | .int .i64 n => Ev.asSli s (fun l _ => match l with
      | 0 => K (.int .i64 (-1)) m
      | _ + 1 => false) fun g off l _ => Ev.rowOf m.t g fun cs _ _ _ _ _ => Ev.takeL cs off (l * 7) fun cs => Nat.ble l 1000 && opsK l cs fun ns => match lastF n ns with
        | none => K (.int .i64 (-1)) m
        | some k => K (.int .i64 (k : Nat)) m
  | _ => false
theorem opsK_ok : ∀ (l : Nat) (cs : List Value) (K : List Int → Bool), opsK l cs K = true → ∃ ns, ns.length = l ∧ K ns = true ∧ ∀ j, j < l → ∃ b1 A1 k1 c1 A2 k2 c2 b2 A3 k3 c3 A4 k4 c4, cs[j * 7]? = some (.int .i64 (ns.getD j 0)) ∧ cs[j * 7 + 1]? = some (.bool b1) ∧ cs[j * 7 + 2]? = some (.slice A1 k1 c1) ∧ cs[j * 7 + 3]? = some (.slice A2 k2 c2) ∧ cs[j * 7 + 4]? = some (.bool b2) ∧ cs[j * 7 + 5]? = some (.slice A3 k3 c3) ∧ cs[j * 7 + 6]? = some (.slice A4 k4 c4)
  | 0, _, K, h => ⟨[], rfl, h, fun j hj => absurd hj (by omega)⟩
  | l + 1, cs, K, h => by
    unfold opsK at h
    split at h
    · rename_i n b1 A1 k1 c1 A2 k2 c2 b2 A3 k3 c3 A4 k4 c4 r
      obtain ⟨ns, h1, h2, h3⟩ := opsK_ok l r _ h
      refine ⟨n :: ns, by simp [h1], h2, fun j hj => ?_⟩
      rcases j with _ | j
      · exact ⟨b1, A1, k1, c1, A2, k2, c2, b2, A3, k3, c3, A4, k4, c4, rfl, rfl, rfl, rfl, rfl, rfl, rfl⟩
      · obtain ⟨b1', A1', k1', c1', A2', k2', c2', b2', A3', k3', c3', A4', k4', c4', e0, e1, e2, e3, e4, e5, e6⟩ := h3 j (by omega)
        exact ⟨b1', A1', k1', c1', A2', k2', c2', b2', A3', k3', c3', A4', k4', c4', by rw [show (j + 1) * 7 = j * 7 + 7 by omega]; exact e0, by rw [show (j + 1) * 7 + 1 = j * 7 + 1 + 7 by omega]; exact e1, by rw [show (j + 1) * 7 + 2 = j * 7 + 2 + 7 by omega]; exact e2, by rw [show (j + 1) * 7 + 3 = j * 7 + 3 + 7 by omega]; exact e3, by rw [show (j + 1) * 7 + 4 = j * 7 + 4 + 7 by omega]; exact e4, by rw [show (j + 1) * 7 + 5 = j * 7 + 5 + 7 by omega]; exact e5, by rw [show (j + 1) * 7 + 6 = j * 7 + 6 + 7 by omega]; exact e6⟩
    · cases h
theorem lastF_ok (x : Int) : ∀ l : List Int, (lastF x l = none → ∀ j, j < l.length → l.getD j 0 ≠ x) ∧ ∀ k, lastF x l = some k → k < l.length ∧ l.getD k 0 = x ∧ ∀ j, k < j → j < l.length → l.getD j 0 ≠ x
  | [] => ⟨fun _ j hj => absurd hj (by simp), fun k h => by cases h⟩
  | n :: l => by
    obtain ⟨h1, h2⟩ := lastF_ok x l
    cases hl : lastF x l with
    | some k =>
      obtain ⟨e1, e2, e3⟩ := h2 k hl
      have e : lastF x (n :: l) = some (k + 1) := by rw [lastF, hl]
      refine ⟨(fun h => by rw [e] at h; cases h), fun k' h => ?_⟩
      rw [e] at h
      injection h with h
      subst h
      refine ⟨by simp; omega, e2, fun j hj1 hj2 => ?_⟩
      rcases j with _ | j
      · omega
      · exact e3 j (by omega) (by simpa using hj2)
    | none =>
      have e : lastF x (n :: l) = if n = x then some 0 else none := by rw [lastF, hl]
      have h3 := h1 hl
      by_cases hn : n = x
      · rw [if_pos hn] at e
        refine ⟨(fun h => by rw [e] at h; cases h), fun k' h => ?_⟩
        rw [e] at h
        injection h with h
        subst h
        refine ⟨by simp, hn, fun j hj1 hj2 => ?_⟩
        rcases j with _ | j
        · omega
        · exact h3 j (by simpa using hj2)
      · rw [if_neg hn] at e
        refine ⟨fun _ j hj => ?_, (fun k' h => by rw [e] at h; cases h)⟩
        rcases j with _ | j
        · exact hn
        · exact h3 j (by simpa using hj)
theorem lastAt_one {N : Nat → Int} {k : Nat} {x r r' : Int} (h : LastAt N k x r) (h' : LastAt N k x r') : r = r' := by
  rcases h with ⟨rfl, h⟩ | ⟨m, rfl, h1, h2, h3⟩ <;> rcases h' with ⟨rfl, h'⟩ | ⟨m', rfl, h1', h2', h3'⟩
  · rfl
  · exact absurd h2' (h m' h1')
  · exact absurd h2 (h' m h1)
  · rcases Nat.lt_trichotomy m m' with h4 | h4 | h4
    · exact absurd h2' (h3 m' h4 h1')
    · rw [h4]
    · exact absurd h2 (h3' m h4 h1)
theorem rep_below {φ : Ev.Phi} {L : Ev.Look} {w w' : World} (h : Ev.Rep φ L w) (hb : Below w.heap.size w w') : Ev.Rep φ L w' where
  ob := fun g o hg => by
    have h1 := h.ob g o hg
    have hlt : ∀ im, φ g = some im → im.b < w.heap.size := fun im hi => h.bound hg hi
    cases o with
    | row cells e ex un top st =>
      obtain ⟨im, e1, e2, e3, e4, C, fr, e5, e6⟩ := h1
      exact ⟨im, e1, e2, e3, e4, C, fr, (hb.block _ (hlt im e1)).trans e5, e6⟩
    | map es clock =>
      obtain ⟨im, es', e1, e2, e3⟩ := h1
      exact ⟨im, es', e1, (hb.block _ (hlt im e1)).trans e2, e3⟩
  sep := h.sep
  grp := h.grp
  out := h.out
  glob := h.glob
theorem ext_below {φ : Ev.Phi} {L : Ev.Look} {n : Nat} {w w' : World} (hb : Below w.heap.size w w') : Ev.Ext φ L n φ L n w w' where
  le := .refl φ
  nx := Nat.le_refl _
  new := fun g h => absurd rfl h
  os := hb.os
  tape := hb.tape
  output := hb.output
  size := hb.size
  fr := fun b h _ => hb.block b h
  live := fun g o im h1 h2 => .inr ⟨g, o, im, h1, h2, rfl, id⟩
  dom := fun g o h => .inl ⟨o, h⟩
  men := fun k h => .inl h
/-- What is known otherwise. -/
def extA : Ev.ExtT := fun f => bif Nat.beq f 14 then some closesE else none
theorem closesG {m : Ev.Mem} {args : List Value} {K : Value → Ev.Mem → Bool} (h : closesE m args K = true) : ∃ v m', K v m' = true ∧ m.next ≤ m'.next ∧ Ev.CallG Tryz.prog m 14 args v m' := by
  unfold closesE at h
  obtain ⟨s, x, ea, h2⟩ := Ev.two_ok h
  subst ea
  clear h
  split at h2
  case h_2 => cases h2
  rename_i n
  -- every way: a call over l open points
  have key : ∀ (φ : Ev.Phi) (w : World) (A : Option Addr) (l c : Nat) (N : Nat → Int) (O : Nat → OpD) (r : Int), l ≤ 1000 → (l = 0 ∨ ∃ g off, A = some ⟨g, off, none⟩ ∧ g < w.heap.size ∧ OpC w g off l N O) → LastAt N l n r → Ev.Rep φ m.t.get w →
      Calls Tryz.prog 14 #[.slice A l c, .int .i64 n] w fun e w' => ∃ v' φ', e = .returned v' ∧ Ev.RV φ' (.int .i64 r) v' ∧ Ev.Rep φ' m.t.get w' ∧ Ev.Ext φ m.t.get m.next φ' m.t.get m.next w w' := by
    intro φ w A l c N O r hl hI hr hrep
    refine ((callsIn_wide (n := 3)).1 (closes_in Fence.wide 3 trivial trivial trivial rfl (by omega) A l c n N O w (by omega) hI)).mono ?_
    rintro e w' ⟨⟨r', rfl, hr'⟩, hb⟩
    obtain rfl := lastAt_one hr hr'
    exact ⟨_, φ, rfl, .int _ _, rep_below hrep hb, ext_below hb⟩
  rcases Ev.asSli_ok h2 with ⟨l, c, es, h⟩ | ⟨g, off, l, c, es, h⟩ <;> subst es <;> clear h2
  · split at h
    · refine ⟨_, m, h, Nat.le_refl _, fun φ w args' ha hrep _ => ?_⟩
      obtain ⟨s', x', e, h1, h2⟩ := ha.two
      obtain rfl : args' = #[s', x'] := by cases args'; simp_all
      obtain rfl := h1.nils_inv
      obtain rfl := h2.int_inv
      exact key φ w none 0 c (fun _ => 0) (fun _ => ⟨false, none, 0, 0, none, 0, 0, false, none, 0, 0, none, 0, 0⟩) (-1) (by omega) (.inl rfl) (.inl ⟨rfl, fun j hj => absurd hj (by omega)⟩) hrep
    · cases h
  · obtain ⟨cs, e, ex, u, p, st, hg, h⟩ := Ev.rowOf_ok h
    obtain ⟨h, hlen⟩ := Ev.takeL_ok _ _ _ _ h
    rw [Bool.and_eq_true] at h
    have hl1000 : l ≤ 1000 := Nat.le_of_ble_eq_true h.1
    obtain ⟨ns, hnl, h, hcs⟩ := opsK_ok _ _ _ h.2
    have hl := lastF_ok n ns
    have fin : ∃ r, LastAt (fun j => ns.getD j 0) l n r ∧ K (.int .i64 r) m = true := by
      cases hf : lastF n ns with
      | none =>
        rw [hf] at h
        exact ⟨_, .inl ⟨rfl, fun j hj => hl.1 hf j (by omega)⟩, h⟩
      | some k =>
        rw [hf] at h
        obtain ⟨e1, e2, e3⟩ := hl.2 k hf
        exact ⟨_, .inr ⟨k, rfl, by omega, e2, fun j h1 h2 => e3 j h1 (by omega)⟩, h⟩
    obtain ⟨r, hr, h⟩ := fin
    refine ⟨_, m, h, Nat.le_refl _, fun φ w args' ha hrep _ => ?_⟩
    obtain ⟨s', x', e', h1, h2⟩ := ha.two
    obtain rfl : args' = #[s', x'] := by cases args'; simp_all
    obtain rfl := h2.int_inv
    obtain ⟨im, o', c', hi, rfl, hlc, _, _, ho⟩ := h1.sli_inv
    rcases Nat.eq_zero_or_pos l with h0 | h0
    · exact key φ w _ l c' _ (fun _ => ⟨false, none, 0, 0, none, 0, 0, false, none, 0, 0, none, 0, 0⟩) r hl1000 (.inl h0) hr hrep
    · obtain ⟨im2, hi2, _, _, _, C, fr, hheap, _, _, _, hcells⟩ := hrep.ob g _ hg
      rw [hi] at hi2
      injection hi2 with hi2
      subst hi2
      have ho' : o' = im.d + off := by
        rcases ho with ⟨h, _⟩ | h
        · exact h
        · omega
      have hat : ∀ q v, ((cs.drop off).take (l * 7))[q]? = some v → ∃ v', w.cell? ⟨im.b, o' + q, none⟩ = some v' ∧ Ev.RV φ v v' := by
        intro q v hq
        rw [List.getElem?_take] at hq
        split at hq
        · rw [List.getElem?_drop] at hq
          obtain ⟨v', h3, h4⟩ := hcells _ _ hq
          refine ⟨v', ?_, h4⟩
          simp only [World.cell?, hheap]
          rw [ho', Nat.add_assoc]
          exact h3
        · cases hq
      have hO : ∀ j, ∃ o : OpD, j < l → w.cell? ⟨im.b, o' + j * 7, none⟩ = some (.int .i64 (ns.getD j 0)) ∧ w.cell? ⟨im.b, o' + j * 7 + 1, none⟩ = some (.bool o.b1) ∧ w.cell? ⟨im.b, o' + j * 7 + 2, none⟩ = some (.slice o.A1 o.k1 o.c1) ∧ w.cell? ⟨im.b, o' + j * 7 + 3, none⟩ = some (.slice o.A2 o.k2 o.c2) ∧ w.cell? ⟨im.b, o' + j * 7 + 4, none⟩ = some (.bool o.b2) ∧ w.cell? ⟨im.b, o' + j * 7 + 5, none⟩ = some (.slice o.A3 o.k3 o.c3) ∧ w.cell? ⟨im.b, o' + j * 7 + 6, none⟩ = some (.slice o.A4 o.k4 o.c4) := by
        intro j
        by_cases hj : j < l
        · obtain ⟨b1, A1, k1, c1, A2, k2, c2, b2, A3, k3, c3, A4, k4, c4, e0, e1, e2, e3, e4, e5, e6⟩ := hcs j hj
          obtain ⟨_, f0, r0⟩ := hat _ _ e0
          obtain ⟨_, f1, r1⟩ := hat _ _ e1
          obtain ⟨_, f2, r2⟩ := hat _ _ e2
          obtain ⟨_, f3, r3⟩ := hat _ _ e3
          obtain ⟨_, f4, r4⟩ := hat _ _ e4
          obtain ⟨_, f5, r5⟩ := hat _ _ e5
          obtain ⟨_, f6, r6⟩ := hat _ _ e6
          obtain rfl := r0.int_inv
          obtain rfl := r1.bool_inv
          obtain ⟨_, _, rfl, _⟩ := r2.slice_inv
          obtain ⟨_, _, rfl, _⟩ := r3.slice_inv
          obtain rfl := r4.bool_inv
          obtain ⟨_, _, rfl, _⟩ := r5.slice_inv
          obtain ⟨_, _, rfl, _⟩ := r6.slice_inv
          exact ⟨⟨_, _, _, _, _, _, _, _, _, _, _, _, _, _⟩, fun _ => ⟨f0, f1, f2, f3, f4, f5, f6⟩⟩
        · exact ⟨⟨false, none, 0, 0, none, 0, 0, false, none, 0, 0, none, 0, 0⟩, fun h => absurd h hj⟩
      obtain ⟨O, hO⟩ := Classical.axiomOfChoice hO
      exact key φ w _ l c' (fun j => ns.getD j 0) O r hl1000 (.inr ⟨_, _, rfl, (Array.getElem?_eq_some_iff.1 hheap).1, hO⟩) hr hrep
theorem extA_ok : Ev.ExtOk Tryz.prog extA := by
  intro f E hf
  unfold extA at hf
  cases hb : Nat.beq f 14 with
  | false => rw [hb] at hf; cases hf
  | true =>
    rw [hb] at hf
    injection hf with hf
    subst hf
    obtain rfl := Nat.eq_of_beq_eq_true hb
    exact ⟨⟨_, Tryz.func14, rfl⟩, fun m args K h => closesG h⟩
end Go.Proofs.YtgheaoaicbkaoaaGreatDoor

