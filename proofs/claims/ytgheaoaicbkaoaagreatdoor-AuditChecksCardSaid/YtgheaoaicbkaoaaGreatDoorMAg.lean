/-
  Audits: the walks of slices.Backward and closes: a range over a function.
-/
import Derived.Test.YtgheaoaicbkaoaaGreatDoorMAb
import Derived.RangeFuncNested
import Derived.RangeFuncBound
import Derived.RangeFuncCalls
import Derived.RangeFuncLeaves
import Derived.Shelf.Abstract
import Derived.Shelf.RegionOpen
import Derived.WalkKit
import Derived.OwnWalkIn
import Derived.TacticsInMore
import Derived.LoopNIn
import Derived.LoopIn
namespace Go.Proofs.YtgheaoaicbkaoaaGreatDoor
open Go.RowKit Go.Shelf AC
attribute [local go_sem] Oper.semAt_some
set_option linter.unusedVariables false
set_option linter.unusedSimpArgs false
/-- What an open point holds beside its node. -/
structure OpD where
  b1 : Bool
  A1 : Option Addr
  k1 : Nat
  c1 : Nat
  A2 : Option Addr
  k2 : Nat
  c2 : Nat
  b2 : Bool
  A3 : Option Addr
  k3 : Nat
  c3 : Nat
  A4 : Option Addr
  k4 : Nat
  c4 : Nat
/-- The cells of k open points in block g. -/
def OpC (w : World) (g off k : Nat) (N : Nat → Int) (O : Nat → OpD) : Prop :=
  ∀ j, j < k → w.cell? ⟨g, off + j * 7, none⟩ = some (.int .i64 (N j)) ∧ w.cell? ⟨g, off + j * 7 + 1, none⟩ = some (.bool (O j).b1) ∧ w.cell? ⟨g, off + j * 7 + 2, none⟩ = some (.slice (O j).A1 (O j).k1 (O j).c1) ∧ w.cell? ⟨g, off + j * 7 + 3, none⟩ = some (.slice (O j).A2 (O j).k2 (O j).c2) ∧ w.cell? ⟨g, off + j * 7 + 4, none⟩ = some (.bool (O j).b2) ∧ w.cell? ⟨g, off + j * 7 + 5, none⟩ = some (.slice (O j).A3 (O j).k3 (O j).c3) ∧ w.cell? ⟨g, off + j * 7 + 6, none⟩ = some (.slice (O j).A4 (O j).k4 (O j).c4)
theorem OpC.below {w w' : World} {g off k n : Nat} {N : Nat → Int} {O : Nat → OpD} (h : OpC w g off k N O) (hb : Below n w w') (hg : g < n) : OpC w' g off k N O := fun j hj => by
  obtain ⟨e0, e1, e2, e3, e4, e5, e6⟩ := h j hj
  exact ⟨(hb.cell (p := ⟨g, _, none⟩) hg).trans e0, (hb.cell (p := ⟨g, _, none⟩) hg).trans e1, (hb.cell (p := ⟨g, _, none⟩) hg).trans e2, (hb.cell (p := ⟨g, _, none⟩) hg).trans e3, (hb.cell (p := ⟨g, _, none⟩) hg).trans e4, (hb.cell (p := ⟨g, _, none⟩) hg).trans e5, (hb.cell (p := ⟨g, _, none⟩) hg).trans e6⟩
theorem OwnO.opC {w : World} {base k K : Nat} {A : Option Addr} {c : Nat} {N : Nat → Int} {s t : Nat → Rat} (h : OwnO w base (.slice A k c) k K N s t) : (A = none ∧ k = 0) ∨ ∃ g O, A = some ⟨g, 0, none⟩ ∧ g < w.heap.size ∧ OpC w g 0 k N O := by
  cases A with
  | none =>
    rcases Nat.eq_zero_or_pos k with h0 | h0
    · exact .inl ⟨rfl, h0⟩
    · obtain ⟨g, _, _, _, _, _, _, _, _, _, _, _, _, _, _, e, _⟩ := h.elem h0
      cases e
  | some a =>
    have hx := h
    obtain ⟨xs, h1, _⟩ := hx
    rcases h1.2 with ⟨e, _⟩ | ⟨g, cap, cur, e, hb, hgg, _⟩
    · cases e
    · injection e with e _ _
      injection e with e
      subst e
      have hO : ∀ j, ∃ o : OpD, j < k → w.cell? ⟨g, j * 7, none⟩ = some (.int .i64 (N j)) ∧ w.cell? ⟨g, j * 7 + 1, none⟩ = some (.bool o.b1) ∧ w.cell? ⟨g, j * 7 + 2, none⟩ = some (.slice o.A1 o.k1 o.c1) ∧ w.cell? ⟨g, j * 7 + 3, none⟩ = some (.slice o.A2 o.k2 o.c2) ∧ w.cell? ⟨g, j * 7 + 4, none⟩ = some (.bool o.b2) ∧ w.cell? ⟨g, j * 7 + 5, none⟩ = some (.slice o.A3 o.k3 o.c3) ∧ w.cell? ⟨g, j * 7 + 6, none⟩ = some (.slice o.A4 o.k4 o.c4) := by
        intro j
        by_cases hj : j < k
        · obtain ⟨g', b1, A1, k1, c1, A2, k2, c2, b2, A3, k3, c3, A4, k4, c4, e, _, _, e0, e1, e2, e3, e4, e5, e6, _⟩ := h.elem hj
          injection e with e
          injection e with e
          subst e
          exact ⟨⟨b1, A1, k1, c1, A2, k2, c2, b2, A3, k3, c3, A4, k4, c4⟩, fun _ => ⟨e0, e1, e2, e3, e4, e5, e6⟩⟩
        · exact ⟨⟨false, none, 0, 0, none, 0, 0, false, none, 0, 0, none, 0, 0⟩, fun h => absurd h hj⟩
      obtain ⟨O, hO⟩ := Classical.axiomOfChoice hO
      exact .inr ⟨g, O, rfl, (Array.getElem?_eq_some_iff.1 hgg).1, fun j hj => by simp only [Nat.zero_add]; exact hO j hj⟩
/-- The places of a row from its end on. -/
def downs (len k : Nat) : List Nat := (List.range k).map fun m => len - 1 - m
theorem downs_length (len k : Nat) : (downs len k).length = k := by simp [downs]
theorem downs_succ (len k : Nat) : downs len (k + 1) = downs len k ++ [len - 1 - k] := by simp [downs, List.range_succ]
theorem downs_mem {len k j : Nat} (hk : k ≤ len) : j ∈ downs len k ↔ len - k ≤ j ∧ j < len := by
  simp only [downs, List.mem_map, List.mem_range]
  constructor
  · rintro ⟨m, h1, h2⟩; omega
  · rintro ⟨h1, h2⟩; exact ⟨len - 1 - j, by omega, by omega⟩
set_option maxRecDepth 100000 in
set_option maxHeartbeats 4000000 in
/-- The iterator. -/
theorem back1_in (F : Fence) (n : Nat) (hf : F.fn 66) (hro : F.round = none) (hn : 1 ≤ n) (l Bs n₀ g off len cap : Nat) (N : Nat → Int) (O : Nat → OpD) (hBn : Bs < n₀) (hgn : g < n₀) (hlen : len ≤ 1000000) (J Jx : List Nat → World → Prop)
    (hY : ∀ pre x W, J pre W → pre.length < len → YieldAt F (n - 1) Tryz.prog l #[.int .i64 (x : Nat), .agg #[.int .i64 (N x), .bool (O x).b1, .slice (O x).A1 (O x).k1 (O x).c1, .slice (O x).A2 (O x).k2 (O x).c2, .bool (O x).b2, .slice (O x).A3 (O x).k3 (O x).c3, .slice (O x).A4 (O x).k4 (O x).c4]] W fun e W' =>
      (e = .returned (.bool true) ∧ J (pre ++ [x]) W' ∧ Below n₀ W W') ∨ (e = .returned (.bool false) ∧ Jx (pre ++ [x]) W'))
    (W : World) (hBs : W.cell? ⟨Bs, 0, none⟩ = some (.slice (some ⟨g, off, none⟩) len cap)) (hc : OpC W g off len N O) (h0 : J [] W) :
    CallsIn F n Tryz.prog 66 #[.func (.yield l) #[] #[], .pointer (some ⟨Bs, 0, none⟩)] W fun e W' => (∃ v, e = .returned v) ∧
      ((∃ ys, ys = downs len len ∧ J ys W') ∨ (∃ pre, (∃ k, k ≤ len ∧ pre = downs len k) ∧ Jx pre W')) := by
  refine callsIn_of_wp Tryz.func66 rfl hf ?_ hro
  simp only [Tryz.ntmps66, List.size_toArray, List.length_cons, List.length_nil, Nat.reduceAdd, Nat.reduceSub, Array.replicate_succ, Array.replicate_zero, List.push_toArray, List.append_toArray, List.nil_append, List.cons_append]
  gi_wp2
  gi_loopw [3] (fun i wr => ∃ (k : Nat) (m : Int), k ≤ len ∧ m = (len : Int) - 1 - k ∧ i = .int .i64 m ∧ J (downs len k) wr ∧ Below n₀ W wr) (fun i _ => (intOf i + 1).toNat)
  case atStart => exact ⟨0, _, Nat.zero_le _, by simp, rfl, h0, Below.refl _ _⟩
  case round =>
    obtain ⟨k, m, hk, hm, rfl, hJs, hnx⟩ := hrel
    by_cases hlt : k < len
    · obtain ⟨j, rfl⟩ := Int.eq_ofNat_of_zero_le (show 0 ≤ m by omega)
      have hj : j = len - 1 - k := by omega
      obtain ⟨fn, tmps, assign, body, hy, hR⟩ := hY _ j wr hJs (by rw [downs_length]; exact hlt)
      obtain ⟨e0, e1, e2, e3, e4, e5, e6⟩ := (hc.below hnx hgn) j (by omega)
      have hb := (hnx.cell (p := ⟨Bs, 0, none⟩) hBn).trans hBs
      have hjl : j < len := by omega
      have HJ := Lib.hid hj
      clear hm hj
      gi_wp2
      refine hR.mono ?_
      rintro e W3 (⟨rfl, hJ3, hk3⟩ | ⟨rfl, hJx3⟩)
      · gi_wp2
        go_roundw
        case rel => exact ⟨k + 1, (j : Int) - 1, by omega, by have := HJ.out; omega, rfl, by rw [downs_succ, ← HJ.out]; exact hJ3, hnx.trans hk3⟩
        case measure => simp [intOf]
      · gi_wp2
        refine bodyPost_ret (results_none rfl _ _ _) rfl ?_
        exact ⟨⟨_, rfl⟩, .inr ⟨_, ⟨k + 1, by omega, by rw [downs_succ, ← HJ.out]⟩, hJx3⟩⟩
    · obtain rfl : k = len := by omega
      obtain rfl : m = -1 := by omega
      gi_wp2
      go_end0
      exact ⟨⟨_, rfl⟩, .inl ⟨_, rfl, hJs⟩⟩
set_option maxRecDepth 100000 in
set_option maxHeartbeats 1000000 in
theorem back1_nil_in (F : Fence) (n : Nat) (hf : F.fn 66) (hro : F.round = none) (l Bs cap : Nat) (A : Option Addr) (J : List Nat → World → Prop) (W : World) (hBs : W.cell? ⟨Bs, 0, none⟩ = some (.slice A 0 cap)) (h0 : J [] W) :
    CallsIn F n Tryz.prog 66 #[.func (.yield l) #[] #[], .pointer (some ⟨Bs, 0, none⟩)] W fun e W' => (∃ v, e = .returned v) ∧ J [] W' := by
  refine callsIn_of_wp Tryz.func66 rfl hf ?_ hro
  simp only [Tryz.ntmps66, List.size_toArray, List.length_cons, List.length_nil, Nat.reduceAdd, Nat.reduceSub, Array.replicate_succ, Array.replicate_zero, List.push_toArray, List.append_toArray, List.nil_append, List.cons_append]
  gi_wp2
  gi_loopw [3] (fun i wr => i = .int .i64 (-1) ∧ J [] wr) (fun _ _ => 0)
  case atStart => exact ⟨rfl, h0⟩
  case round =>
    obtain ⟨rfl, hJs⟩ := hrel
    gi_wp2
    go_end0
    exact ⟨⟨_, rfl⟩, hJs⟩
set_option maxHeartbeats 1000000 in
theorem back_in (F : Fence) (n : Nat) (hf : F.fn 32) (hro : F.round = none) (A : Option Addr) (len cap : Nat) (w : World) :
    CallsIn F n Tryz.prog 32 #[.slice A len cap] w fun e w' => e = .returned (.func (.func 66) #[] #[.pointer (some ⟨w.heap.size, 0, none⟩)]) ∧ w' = w.alloc (.cells #[.slice A len cap] 61) := by
  refine callsIn_of_wp Tryz.func32 rfl hf ?_ hro
  simp only [Tryz.ntmps32, List.size_toArray, List.length_cons, List.length_nil, Nat.reduceAdd, Nat.reduceSub, Array.replicate_succ, Array.replicate_zero, List.push_toArray, List.append_toArray, List.nil_append, List.cons_append]
  gi_wp2
  go_ret
  exact ⟨rfl, rfl⟩
theorem back_stops (F : Fence) (n : Nat) (hf : F.fn 66) (hro : F.round = none) (hn : 1 ≤ n) (Bs n₀ : Nat) (A : Option Addr) (len cap : Nat) (N : Nat → Int) (O : Nat → OpD) (w : World) (hBs : Bs < n₀) (hn₀ : n₀ ≤ w.heap.size) (hlen : len ≤ 1000000)
    (hc : w.cell? ⟨Bs, 0, none⟩ = some (.slice A len cap)) (hI : len = 0 ∨ ∃ g off, A = some ⟨g, off, none⟩ ∧ g < n₀ ∧ OpC w g off len N O) :
    SeqStopsK F n Tryz.prog 66 #[.pointer (some ⟨Bs, 0, none⟩)] (fun x : Nat => #[Value.int .i64 (x : Nat), .agg #[.int .i64 (N x), .bool (O x).b1, .slice (O x).A1 (O x).k1 (O x).c1, .slice (O x).A2 (O x).k2 (O x).c2, .bool (O x).b2, .slice (O x).A3 (O x).k3 (O x).c3, .slice (O x).A4 (O x).k4 (O x).c4]]) (Below n₀) (fun ys => ys = downs len len)
      (fun pre => ∃ k, k ≤ len ∧ pre = downs len k) len w := fun l J Jx W hW _ _ hY h0 => by
  have hc' := (hW.cell (p := ⟨Bs, 0, none⟩) (Nat.lt_of_lt_of_le hBs hn₀)).trans hc
  rcases hI with rfl | ⟨g, off, rfl, hg, hC⟩
  · exact (back1_nil_in F n hf hro l Bs cap A J W hc' h0).mono fun e W' ⟨he, hj⟩ => ⟨he, .inl ⟨_, rfl, hj⟩⟩
  · exact back1_in F n hf hro hn l Bs n₀ g off len cap N O hBs hg hlen J Jx hY W hc' (hC.below hW (Nat.lt_of_lt_of_le hg hn₀)) h0
end Go.Proofs.YtgheaoaicbkaoaaGreatDoor

/-
  Audits: the walk of closes.
-/
namespace Go.Proofs.YtgheaoaicbkaoaaGreatDoor
open Go.RowKit Go.Shelf AC
attribute [local go_sem] Oper.semAt_some
set_option linter.unusedVariables false
set_option linter.unusedSimpArgs false
/-- The last of k places with a node. -/
def LastAt (N : Nat → Int) (k : Nat) (x r : Int) : Prop :=
  (r = -1 ∧ ∀ j, j < k → N j ≠ x) ∨ ∃ m : Nat, r = m ∧ m < k ∧ N m = x ∧ ∀ j, m < j → j < k → N j ≠ x
/-- Block b of W is the given box. -/
def BoxO (W : World) (b : Nat) (cs : Array Value) : Prop := W.heap[b]? = some (.cells cs 65 (0, 0))
theorem BoxO.cell {W : World} {b : Nat} {cs : Array Value} (h : BoxO W b cs) (o : Nat) : W.cell? ⟨b, o, none⟩ = cs[o]? := Bk.cell h o
set_option maxRecDepth 100000 in
set_option maxHeartbeats 4000000 in
theorem closes_in (F : Fence) (n : Nat) (h0 : F.fn 14) (hf : F.fn 32) (hf1 : F.fn 66) (hro : F.round = none) (hn : 3 ≤ n) (A : Option Addr) (k c : Nat) (node : Int) (N : Nat → Int) (O : Nat → OpD) (w : World) (hk : k ≤ 1000000)
    (hI : k = 0 ∨ ∃ g off, A = some ⟨g, off, none⟩ ∧ g < w.heap.size ∧ OpC w g off k N O) :
    CallsIn F n Tryz.prog 14 #[.slice A k c, .int .i64 node] w fun e W' => (∃ r, e = .returned (.int .i64 r) ∧ LastAt N k node r) ∧ Below w.heap.size w W' := by
  have h1 : 1 ≤ n := by omega
  refine callsIn_of_wp_marks Tryz.func14 rfl h0 ?_ hro
  simp only [Tryz.ntmps14, List.size_toArray, List.length_cons, List.length_nil, Nat.reduceAdd, Nat.reduceSub, Array.replicate_succ, Array.replicate_zero, List.push_toArray, List.append_toArray, List.nil_append, List.cons_append]
  gi_wp2_with (gi_at_call 32; refine (back_in F (n - 1) hf hro _ _ _ _).mono ?_; rintro e w' ⟨rfl, rfl⟩)
  have bN := ((Boxed.new w 3 (.int .i64 node)).alloc (.cells #[.int .i64 0] 3)).alloc (.cells #[.slice A k c] 61)
  have bR := (Boxed.new (w.alloc (.cells #[.int .i64 node] 3)) 3 (.int .i64 0)).alloc (.cells #[.slice A k c] 61)
  have bS := Boxed.new ((w.alloc (.cells #[.int .i64 node] 3)).alloc (.cells #[.int .i64 0] 3)) 61 (.slice A k c)
  simp only [World.size_alloc] at bR bS
  have hB0 : Below w.heap.size w (((w.alloc (.cells #[.int .i64 node] 3)).alloc (.cells #[.int .i64 0] 3)).alloc (.cells #[.slice A k c] 61)) := (((Below.refl _ w).alloc (Nat.le_refl _) _).alloc (by simp) _).alloc (by simp; omega) _
  have hsz : (((w.alloc (.cells #[.int .i64 node] 3)).alloc (.cells #[.int .i64 0] 3)).alloc (.cells #[.slice A k c] 61)).heap.size = w.heap.size + 3 := by simp
  obtain ⟨W0, hW0⟩ : ∃ W0, ((w.alloc (.cells #[.int .i64 node] 3)).alloc (.cells #[.int .i64 0] 3)).alloc (.cells #[.slice A k c] 61) = W0 := ⟨_, rfl⟩
  rw [hW0] at bN bR bS hB0 hsz ⊢
  clear hW0
  have hI0 : k = 0 ∨ ∃ g off, A = some ⟨g, off, none⟩ ∧ g < w.heap.size + 3 ∧ OpC W0 g off k N O := by
    rcases hI with h | ⟨g, off, e, hg, hC⟩
    · exact .inl h
    · exact .inr ⟨g, off, e, by omega, hC.below hB0 hg⟩
  refine wpIn_rangeFunc_ownH hro h1 (gf := 66) (lb := #[.pointer (some ⟨w.heap.size + 1 + 1, 0, none⟩)]) rfl hf1 (enters_of Tryz.func66 (by kernel_rfl) rfl)
    (back_stops F (n - 1) hf1 hro (by omega) (w.heap.size + 1 + 1) (w.heap.size + 3) A k c N O W0 (by omega) (by omega) hk bS.cell hI0) belowK_t (belowK_b (by omega)) (Below.refl _ _) (fun _ => rfl)
    (fun pre W => (∀ x ∈ pre, N x ≠ node) ∧ Below (w.heap.size + 3) W0 W)
    (fun c pre W => ((c = .ret ∧ ∃ ini x, pre = ini ++ [x] ∧ (∀ y ∈ ini, N y ≠ node) ∧ N x = node ∧ W.cell? ⟨w.heap.size + 1, 0, none⟩ = some (.int .i64 (x : Nat)))) ∧ Below w.heap.size w W)
    (OwnFrom.and (ownFrom_pure _ _) (ownFrom_below (by omega) (by omega)))
    (fun c => OwnFrom.and (Own.from (fun s A B row hs hg hr => by obtain ⟨hc, ini, x, e1, e2, e3, e4⟩ := hs; exact ⟨hc, ini, x, e1, e2, e3, cell_kept e4 hg hr⟩) _) (ownFrom_below (Nat.le_refl _) (by omega)))
    ⟨by simp, Below.refl _ _⟩
    (fun x a' W => ∃ Bx, w.heap.size + 3 ≤ Bx ∧ BoxO W Bx #[.int .i64 (N x), .bool (O x).b1, .slice (O x).A1 (O x).k1 (O x).c1, .slice (O x).A2 (O x).k2 (O x).c2, .bool (O x).b2, .slice (O x).A3 (O x).k3 (O x).c3, .slice (O x).A4 (O x).k4 (O x).c4] ∧ a' = { tmps := #[.slice A k c, .int .i64 node, undef, .pointer (some ⟨w.heap.size, 0, none⟩), .pointer (some ⟨w.heap.size + 1, 0, none⟩), .int .i64 (x : Nat), .pointer (some ⟨Bx, 0, none⟩), .slice A k c, .func (.func 66) #[] #[.pointer (some ⟨w.heap.size + 1 + 1, 0, none⟩)], .int .i64 (x : Nat), .agg #[.int .i64 (N x), .bool (O x).b1, .slice (O x).A1 (O x).k1 (O x).c1, .slice (O x).A2 (O x).k2 (O x).c2, .bool (O x).b2, .slice (O x).A3 (O x).k3 (O x).c3, .slice (O x).A4 (O x).k4 (O x).c4], undef, undef, undef, undef, undef], defers := [] })
    (fun x a' _ X Y row hs hg hr => by
      obtain ⟨Bx, e1, e2, e3⟩ := hs
      refine ⟨Bx, e1, (hg.block Bx (Array.getElem?_eq_some_iff.1 e2).1 fun e => ?_).trans e2, e3⟩
      obtain ⟨_, o, ho, hc⟩ := hr Bx e.symm
      rw [show X.heap[Bx]? = _ from e2] at ho
      cases ho
      cases hc)
    ?assign ?body ?done ?stop
  case assign =>
    rintro l pre x W K ⟨hp, hB1⟩ hK
    have hs1 := hB1.size
    gi_wp2
    exact hK _ _ ((KeepsOthers.alloc _ _).from _) ((Below.refl _ W).alloc (by omega) _) ⟨hp, hB1.alloc (by omega) _⟩ ⟨W.heap.size, by omega, World.alloc_heap_new W _, rfl⟩
  case body =>
    rintro l pre x a' W hl ⟨r, hr⟩ ⟨hp, hB1⟩ ⟨Bx, hBx, bX, rfl⟩ hlt
    have cX := bX.cell 0
    have cN := (hB1.cell (p := ⟨w.heap.size, 0, none⟩) (by show w.heap.size < w.heap.size + 3; omega)).trans bN.cell
    have cR := (hB1.cell (p := ⟨w.heap.size + 1, 0, none⟩) (by show w.heap.size + 1 < w.heap.size + 3; omega)).trans bR.cell
    have fR : W.frozen? ⟨w.heap.size + 1, 0, none⟩ = false := (World.frozen?_of_block (hB1.block (w.heap.size + 1) (by omega))).trans bR.frozen
    have hB2 : Below w.heap.size w W := hB0.trans (hB1.mono (by omega))
    simp only [List.getElem?_toArray, List.getElem?_cons_zero] at cX
    by_cases hx : N x = node
    · gi_wp2
      exact ⟨(KeepsOthers.setCell _ _ _).from _, ⟨rfl, pre, x, rfl, hp, hx, World.cell?_setCell_same' _ _ _ (by rw [cR]; rfl)⟩, hB2.setCell (p := ⟨w.heap.size + 1, 0, none⟩) (by simp) _⟩
    · gi_wp2
      exact ⟨KeepsFrom.refl _ _, Below.refl _ _, fun y hy => (List.mem_append.1 hy).elim (hp y) (fun e => by simp at e; subst e; exact hx), hB1⟩
  case done =>
    rintro D ys W hD rfl ⟨hp, hB1⟩ hK
    have cR := (hB1.cell (p := ⟨w.heap.size + 1, 0, none⟩) (by show w.heap.size + 1 < w.heap.size + 3; omega)).trans bR.cell
    have fR : W.frozen? ⟨w.heap.size + 1, 0, none⟩ = false := (World.frozen?_of_block (hB1.block (w.heap.size + 1) (by omega))).trans bR.frozen
    have hB2 : Below w.heap.size w W := hB0.trans (hB1.mono (by omega))
    gi_wp2
    have hK' := (KeepsOthers.setCell W ⟨w.heap.size + 1, 0, none⟩ (.int .i64 (-1))).same D _ hK rfl
    refine ⟨by simp, .inl ⟨_, _, rfl, run_takeDeferred hK', ?_⟩⟩
    have hc5 := cell_kept (World.cell?_setCell_same' W ⟨w.heap.size + 1, 0, none⟩ (.int .i64 (-1)) (by rw [cR]; rfl)) (grownBy_putObj' _ D (.deferred none)) (fun r e => by cases e; exact ⟨_, hK', rfl⟩)
    refine ⟨.int .i64 (-1), ?_, ⟨_, rfl, .inl ⟨rfl, fun j hj => hp j ((downs_mem (Nat.le_refl _)).2 ⟨by omega, hj⟩)⟩⟩, (hB2.setCell (p := ⟨w.heap.size + 1, 0, none⟩) (by simp) _).trans (belowK_b (w := w) (Nat.le_refl _) _ D _ _ (by omega) hK' rfl rfl)⟩
    simp [results, Tryz.results14, go_sem, hc5]
  case stop =>
    rintro D c pre W hD ⟨q, hq, rfl⟩ ⟨⟨rfl, ini, x, e1, e2, e3, hcr⟩, hB2⟩ hK
    gi_wp2
    refine ⟨by simp, .inl ⟨_, _, rfl, run_takeDeferred hK, ?_⟩⟩
    have hc5 := cell_kept hcr (grownBy_putObj' _ D (.deferred none)) (fun r e => by cases e; exact ⟨_, hK, rfl⟩)
    obtain ⟨q', rfl⟩ : ∃ q', q = q' + 1 := by
      cases q with
      | zero => simp [downs] at e1
      | succ q' => exact ⟨q', rfl⟩
    rw [downs_succ] at e1
    obtain ⟨e4, e5⟩ := List.append_inj' e1 rfl
    have e5 : k - 1 - q' = x := by simpa using e5
    refine ⟨.int .i64 (x : Nat), ?_, ⟨_, rfl, .inr ⟨x, rfl, by omega, e3, fun j hj1 hj2 => e2 j (by rw [← e4]; exact (downs_mem (by omega)).2 ⟨by omega, hj2⟩)⟩⟩, hB2.trans (belowK_b (w := w) (Nat.le_refl _) W D _ _ (by omega) hK rfl rfl)⟩
    simp [results, Tryz.results14, go_sem, hc5]
theorem closes_any {w : World} {base k K : Nat} {v : Value} {N : Nat → Int} {s t : Nat → Rat} (h : OwnO w base v k K N s t) (hk : k ≤ 1000000) (node : Int) :
    Calls Tryz.prog 14 #[v, .int .i64 node] w fun e W' => (∃ r, e = .returned (.int .i64 r) ∧ LastAt N k node r) ∧ Below w.heap.size w W' := by
  obtain ⟨A, c, rfl, _, _⟩ := h.form
  refine (callsIn_wide (n := 3)).1 ?_
  rcases h.opC with ⟨e, h0⟩ | ⟨g, O, e, hg, hC⟩
  · exact closes_in Fence.wide 3 trivial trivial trivial rfl (by omega) A k c node N (fun _ => ⟨false, none, 0, 0, none, 0, 0, false, none, 0, 0, none, 0, 0⟩) w hk (.inl h0)
  · exact closes_in Fence.wide 3 trivial trivial trivial rfl (by omega) A k c node N O w hk (.inr ⟨g, 0, e, hg, hC⟩)
end Go.Proofs.YtgheaoaicbkaoaaGreatDoor

