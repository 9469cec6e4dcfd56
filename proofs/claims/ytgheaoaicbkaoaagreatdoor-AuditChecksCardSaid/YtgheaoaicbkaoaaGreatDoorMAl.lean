/-
  Audits: the walk of Check.
-/
import Derived.Test.YtgheaoaicbkaoaaGreatDoorMAg
import Derived.Test.YtgheaoaicbkaoaaGreatDoorMAj
namespace Go.Proofs.YtgheaoaicbkaoaaGreatDoor
open Go.RowKit AC
set_option linter.unusedVariables false
set_option linter.unusedSimpArgs false
section
variable {lower : Bool} {nd kd ct : Nat → Int} {lv : Nat → Rat} {n i : Nat} {Zs : List Nat} {peak : Int}
theorem run_bad (hi : i < n) (hb : badP lower nd kd ct lv i Zs = true) (hr : runP lower nd kd ct lv n 0 [] = runP lower nd kd ct lv (n - i) i Zs) : ansP lower nd kd ct lv n peak = i := by
  rw [show n - i = n - (i + 1) + 1 by omega, runP_bad hb] at hr
  exact ansP_bad hr
theorem run_next (hi : i < n) (hb : badP lower nd kd ct lv i Zs = false) (hr : runP lower nd kd ct lv n 0 [] = runP lower nd kd ct lv (n - i) i Zs) : runP lower nd kd ct lv n 0 [] = runP lower nd kd ct lv (n - (i + 1)) (i + 1) (nxtP nd kd i Zs) := by
  rw [show n - i = n - (i + 1) + 1 by omega, runP_next hb] at hr
  exact hr
end
/-- The sums of the open points. -/
def lvS (lv : Nat → Rat) (Zs : List Nat) : Nat → Rat := fun j => lv (Zs.getD j 0)
def ndS (nd : Nat → Int) (Zs : List Nat) : Nat → Int := fun j => nd (Zs.getD j 0)
/-- Ahead of point i. -/
def ChkI (w : World) (n K : Nat) (lower : Bool) (nd kd ct : Nat → Int) (lv : Nat → Rat) (i q : Nat) (Zs : List Nat) (ov iv : Value) (wr : World) : Prop :=
  i ≤ n ∧ q = Zs.length ∧ Zs.Nodup ∧ (∀ j ∈ Zs, j < i) ∧ q ≤ i ∧ iv = .int .i64 i ∧ OwnO wr w.heap.size ov q (K + 5) (ndS nd Zs) (lvS lv Zs) (mn (lvS lv Zs)) ∧ (∀ g, ov.ownBlock = some g → g < wr.heap.size) ∧ Below w.heap.size w wr ∧ runP lower nd kd ct lv n 0 [] = runP lower nd kd ct lv (n - i) i Zs
theorem snoc_lt {α : Type} (f : Nat → α) {Zs : List Nat} {i j : Nat} (h : j < Zs.length) : f ((Zs ++ [i]).getD j 0) = f (Zs.getD j 0) := by
  rw [List.getD_eq_getElem?_getD, List.getElem?_append_left h, ← List.getD_eq_getElem?_getD]
theorem snoc_eq {α : Type} (f : Nat → α) (Zs : List Nat) (i : Nat) : f ((Zs ++ [i]).getD Zs.length 0) = f i := by
  rw [List.getD_eq_getElem?_getD, List.getElem?_append_right (Nat.le_refl _)]
  simp
/-- The least sums behind an append. -/
def tEnt (s : Nat → Rat) (q : Nat) : Nat → Rat := fun j => if j < q then mn s j else 0
theorem ent_own {w : World} {base K q : Nat} {v : Value} {nd : Nat → Int} {lv : Nat → Rat} {Zs : List Nat} (hq : q = Zs.length) (i : Nat) (h : OwnO w base v q K (ndS nd Zs) (lvS lv Zs) (mn (lvS lv Zs))) : OwnO w base v q K (ndS nd (Zs ++ [i])) (lvS lv (Zs ++ [i])) (tEnt (lvS lv (Zs ++ [i])) q) := by
  subst hq
  refine h.congr fun j hj => ⟨(snoc_lt nd hj).symm, (snoc_lt lv hj).symm, ?_⟩
  unfold tEnt
  rw [if_pos hj]
  exact mn_congr j fun m hm => (snoc_lt lv (by omega)).symm
theorem ent_done {w : World} {base K q : Nat} {v : Value} {N : Nat → Int} {s : Nat → Rat} (h : OwnO w base v (q + 1) K N s (fun j => if j < q then tEnt s q j else mn s j)) : OwnO w base v (q + 1) K N s (mn s) := by
  refine h.congr fun j hj => ⟨rfl, rfl, ?_⟩
  by_cases h : j < q
  · simp only [if_pos h, tEnt]
  · simp only [if_neg h]
theorem del_done {w : World} {base K q m : Nat} {v : Value} {nd : Nat → Int} {lv : Nat → Rat} {Zs : List Nat} (hq : q = Zs.length) (hm : m < q) (h : OwnO w base v (q - 1) K (cutF m (ndS nd Zs)) (cutF m (lvS lv Zs)) (fun j => if j < m then cutF m (mn (lvS lv Zs)) j else mn (cutF m (lvS lv Zs)) j)) :
    OwnO w base v (q - 1) K (ndS nd (Zs.eraseIdx m)) (lvS lv (Zs.eraseIdx m)) (mn (lvS lv (Zs.eraseIdx m))) := by
  have hN : ∀ {α : Type} (f : Nat → α) (j : Nat), cutF m (fun j => f (Zs.getD j 0)) j = f ((Zs.eraseIdx m).getD j 0) := fun f j => by
    unfold cutF
    rw [getD_erase]
    by_cases h : j < m <;> simp [h]
  have hS : cutF m (lvS lv Zs) = lvS lv (Zs.eraseIdx m) := funext fun j => hN lv j
  refine h.congr fun j hj => ⟨hN nd j, hN lv j, ?_⟩
  by_cases h : j < m
  · simp only [if_pos h]
    rw [cutF, if_pos h]
    refine mn_congr j fun x hx => ?_
    rw [← hS, cutF, if_pos (by omega)]
  · simp only [if_neg h]
    rw [hS]
theorem del_pre {m : Nat} (s : Nat → Rat) (hm : 0 < m) : cutF m (mn s) (m - 1) = mn (cutF m s) (m - 1) := by
  rw [cutF, if_pos (by omega)]
  refine mn_congr _ fun x hx => ?_
  rw [cutF, if_pos (by omega)]
theorem erase_len {Zs : List Nat} {m : Nat} (h : m < Zs.length) : (Zs.eraseIdx m).length = Zs.length - 1 := by rw [List.length_eraseIdx]; simp [h]
theorem fnd_S_none {nd : Nat → Int} {x : Int} {Zs : List Nat} (h : ∀ j, j < Zs.length → ndS nd Zs j ≠ x) : fnd nd x Zs = none := fnd_none fun j hj => by
  obtain ⟨k, hk⟩ := List.getElem?_of_mem hj
  have hlt := (List.getElem?_eq_some_iff.1 hk).1
  have := h k hlt
  unfold ndS at this
  rw [List.getD_eq_getElem?_getD, hk] at this
  exact this
theorem fnd_S_some {nd : Nat → Int} {x : Int} {Zs : List Nat} {m : Nat} (hm : m < Zs.length) (h1 : ndS nd Zs m = x) (h2 : ∀ j, m < j → j < Zs.length → ndS nd Zs j ≠ x) : fnd nd x Zs = some (Zs.getD m 0) := fnd_at (getD_at hm) h1 fun k j hk hj => by
  have hlt := (List.getElem?_eq_some_iff.1 hj).1
  have := h2 k hk hlt
  unfold ndS at this
  rw [List.getD_eq_getElem?_getD, hj] at this
  exact this
/-- What the operations that enter a point leave. -/
def F8 (w W : World) (pb q K : Nat) (ov : Value) (x0 c0 : Int) (pv : Value) (Q : Rat) (N : Nat → Int) (s : Nat → Rat) : Nat → Value → World → Prop
  | 0, v, x => v = ov
  | 1, v, x => v = .pointer (some ⟨pb, 0, none⟩)
  | 2, v, x => v = .int .i64 x0
  | 3, v, x => v = pv
  | 4, v, x => RatR x W.heap.size v Q
  | 5, v, x => ∃ b A1 k1 c1 A2 k2 c2, v = .agg #[.int .i64 x0, .bool b, .slice A1 k1 c1, .slice A2 k2 c2, .bool false, .slice none 0 0, .slice none 0 0] ∧ RatR x W.heap.size (.agg #[.bool b, .slice A1 k1 c1, .slice A2 k2 c2]) Q
  | 6, v, x => ∃ X b A1 k1 c1 A2 k2 c2, x = X.alloc (.cells #[.int .i64 x0, .bool b, .slice A1 k1 c1, .slice A2 k2 c2, .bool false, .slice none 0 0, .slice none 0 0] 65) ∧ v = .slice (some ⟨X.heap.size, 0, none⟩) 1 1 ∧ RatR X W.heap.size (.agg #[.bool b, .slice A1 k1 c1, .slice A2 k2 c2]) Q ∧ Below W.heap.size W X
  | 7, v, x => OwnO x w.heap.size v (q + 1) K N s (tEnt s q) ∧ Below w.heap.size w x ∧ ∀ g, v.ownBlock = some g → g < x.heap.size
  | 8, v, x => v = ov
  | 9, v, x => v = .int .i64 q
  | _, v, x => OwnO x w.heap.size v (q + 1) K N s (mn s) ∧ Below w.heap.size w x ∧ ∀ g, v.ownBlock = some g → g < x.heap.size
theorem f89 {w W : World} {pb q K : Nat} {ov : Value} {x0 c0 : Int} {pv : Value} {Q : Rat} {N : Nat → Int} {s : Nat → Rat} {x x' : World} : ∀ j v, j = 8 ∨ j = 9 → F8 w W pb q K ov x0 c0 pv Q N s j v x → F8 w W pb q K ov x0 c0 pv Q N s j v x' := by
  rintro j v (rfl | rfl) h
  · exact h
  · exact h
set_option maxHeartbeats 40000000 in
set_option maxRecDepth 100000 in
theorem Check_any {w : World} {lo n K : Nat} {v : Value} {nd kd ct : Nat → Int} {r lv : Nat → Rat} (hv : PtsV w lo v n K nd kd ct r) (hlv : ∀ i, lv i = lvl (ct i) (r i)) (hn : n ≤ 1000) (hK : K ≤ 100) (lower : Bool) (peak : Int) (hp1 : -9223372036854775808 ≤ peak) (hp2 : peak ≤ 9223372036854775807) :
    Calls Tryz.prog 6 #[v, .int .i64 peak, .bool lower] w (fun e w' => e = .returned (.int .i64 (ansP lower nd kd ct lv n peak)) ∧ Below w.heap.size w w') := by
  have HV := Lib.hid hv
  have HL := Lib.hid hlv
  have HP1 := Lib.hid hp1
  have HP2 := Lib.hid hp2
  obtain ⟨A, c, rfl, hnc, hcm⟩ := hv.form
  clear hv hlv hp1 hp2
  go_enter Tryz.func6, Tryz.ntmps6
  go_wp2
  go_loopw [7, 14] (fun ov iv wr => ∃ (i q : Nat) (Zs : List Nat), ChkI w n K lower nd kd ct lv i q Zs ov iv wr) (fun _ iv _ => n - (intOf iv).toNat)
  case atStart => exact ⟨0, 0, [], Nat.zero_le _, rfl, List.nodup_nil, (fun j h => by cases h), Nat.le_refl _, rfl, OwnO.nil _ _ _ _ _ _, (fun g h => by cases h), Below.refl _ _, rfl⟩
  case round =>
    obtain ⟨i, q, Zs, hin, hq, hnd, hSi, hqi, rfl, hO, hfar, hbw, hrun⟩ := hrel
    obtain ⟨A7, c7, rfl, hqc, hc7⟩ := hO.form
    have HQ := Lib.hid hq
    have HND := Lib.hid hnd
    have HSI := Lib.hid hSi
    have HO := Lib.hid hO
    have HF := Lib.hid hfar
    have HRUN := Lib.hid hrun
    clear hq hnd hSi hO hfar hrun
    by_cases hlt : i < n
    · obtain ⟨b, off, s0, An, kn, cn, Ad, km, cm, rfl, hlb, hbb, g1, g2, g3, g4, g5, g6, ⟨h1, h2⟩, hr, hkn, hkm⟩ := HV.out.elem hlt
      obtain ⟨x0, hx0⟩ : ∃ x, Hid (x = nd i) := ⟨_, rfl⟩
      obtain ⟨y0, hy0⟩ : ∃ x, Hid (x = kd i) := ⟨_, rfl⟩
      obtain ⟨c0, hc0⟩ : ∃ x, Hid (x = ct i) := ⟨_, rfl⟩
      rw [← hx0.out] at g1
      rw [← hy0.out] at g2
      rw [← hc0.out] at g3 h1 h2
      have H1 := Lib.hid h1
      have H2 := Lib.hid h2
      have HR := Lib.hid (hr.below hbw)
      have c1 := (hbw.cell (p := ⟨b, off + i * 6, none⟩) hbb).trans g1
      have c2 := (hbw.cell (p := ⟨b, off + i * 6 + 1, none⟩) hbb).trans g2
      have c3 := (hbw.cell (p := ⟨b, off + i * 6 + 2, none⟩) hbb).trans g3
      have c4 := (hbw.cell (p := ⟨b, off + i * 6 + 3, none⟩) hbb).trans g4
      have c5 := (hbw.cell (p := ⟨b, off + i * 6 + 4, none⟩) hbb).trans g5
      have c6 := (hbw.cell (p := ⟨b, off + i * 6 + 5, none⟩) hbb).trans g6
      clear g1 g2 g3 g4 g5 g6 h1 h2 hr
      have hlvi : Hid (lv i = lvl c0 (r i)) := by rw [hc0.out]; exact HL.out i
      have hszi : Hid (sz (lv i) ≤ K + 5) := by
        show sz (lv i) ≤ K + 5
        rw [hlvi.out]
        exact sz_lvl H1.out H2.out HR.out.size
      go_upto_region 5 with (fail)
      obtain ⟨W, hW⟩ : ∃ W, W = wr.alloc (.cells #[.int .i64 x0, .int .i64 y0, .int .i64 c0, .bool s0, .slice An kn cn, .slice Ad km cm] 29) := ⟨_, rfl⟩
      have HP : Hid (Bk W wr.heap.size 29 #[.int .i64 x0, .int .i64 y0, .int .i64 c0, .bool s0, .slice An kn cn, .slice Ad km cm]) := by rw [hW]; exact Bk.new _ _ _
      have HB : Hid (Below w.heap.size w W) := by rw [hW]; exact hbw.alloc hbw.size _
      have HBR : Hid (Below wr.heap.size wr W) := by rw [hW]; exact (Below.refl _ _).alloc (Nat.le_refl _) _
      have HO1 : Hid (OwnO W w.heap.size (.slice A7 q c7) q (K + 5) (ndS nd Zs) (lvS lv Zs) (mn (lvS lv Zs))) := HO.out.below HBR.out
      have HF1 : Hid (∀ g, (Value.slice A7 q c7).ownBlock = some g → g < wr.heap.size) := HF
      have HR1 : Hid (RatV W lo (.agg #[.bool s0, .slice An kn cn, .slice Ad km cm]) K (r i)) := HR.out.below HBR.out
      rw [← hW]
      have hzW : Hid (wr.heap.size < W.heap.size) := HP.out.lt
      have hzw : Hid (w.heap.size ≤ wr.heap.size) := hbw.size
      clear hW HO HF HR c1 c2 c3 c4 c5 c6 hbw
      obtain ⟨qb, hqb⟩ : ∃ qb, Hid (over lower ct lv i Zs = qb) := ⟨_, rfl⟩
      go_cut [39] from 19 to 39 (fun v wx => v = .bool qb ∧ Hid (Below W.heap.size W wx))
      case first =>
        cases lower with
        | true =>
          have hqf : qb = false := hqb.out.symm.trans (over_none (.inl rfl))
          subst hqf
          refine wp_region_sym (⟨[], [], [], [(2, .v (.bool true))], []⟩ : Sp) [19, 20, 21, 22, 23, 24, 25, 26, 27, 28, 29, 30, 31, 32, 33, 34, 35, 36, 37, 38, 39] W ((Below.refl _ _).drew) (by kernel_rfl) (by kernel_rfl) (by kernel_rfl) sN (by kernel_rfl)
            (fun x hx => mN) (dN) ?_
          intro S x1 hbx hS
          obtain ⟨g20, _⟩ : S 20 = .bool false ∧ True := hS (l := [(20, .v (.bool false))]) (by kernel_rfl)
          clear hS
          simp only [nv, Nat.reduceAdd, List.length_cons, List.length_nil, List.drop_succ_cons, List.drop_zero, g20]
          clear g20
          go_wp2
          go_meet
          exact ⟨rfl, hbx⟩
        | false =>
          by_cases hq0 : q = 0
          · have hqf : qb = false := hqb.out.symm.trans (over_none (.inr (List.eq_nil_of_length_eq_zero (by rw [← HQ.out]; exact hq0))))
            subst hqf
            subst hq0
            refine wp_region_sym (⟨[], [], [], [(2, .v (.bool false)), (7, .v (.slice A7 0 c7))], []⟩ : Sp) [19, 20, 21, 22, 23, 24, 25, 26, 27, 28, 29, 30, 31, 32, 33, 34, 35, 36, 37, 38, 39] W ((Below.refl _ _).drew) (by kernel_rfl) (by kernel_rfl) (by kernel_rfl) sN (by kernel_rfl)
              (fun x hx => mN) (dN) ?_
            intro S x1 hbx hS
            obtain ⟨g20, _⟩ : S 20 = .bool false ∧ True := hS (l := [(20, .v (.bool false))]) (by kernel_rfl)
            clear hS
            simp only [nv, Nat.reduceAdd, List.length_cons, List.length_nil, List.drop_succ_cons, List.drop_zero, g20]
            clear g20
            go_wp2
            go_meet
            exact ⟨rfl, hbx⟩
          · have hqp : 0 < q := by omega
            obtain ⟨M, hM⟩ : ∃ M, Hid (M = mn (lvS lv Zs) (q - 1)) := ⟨_, rfl⟩
            obtain ⟨z, hz⟩ : ∃ z : Int, Hid (z = cmpQ (mkRat c0 1) M) := ⟨_, rfl⟩
            obtain ⟨g, b1, A1, k1, c1, A2, k2, c2, b2, A3, k3, c3, A4, k4, c4, rfl, hg1, hg2, e0, e1, e2, e3, e4, e5, e6, _, _, hrt⟩ := HO1.out.elem (j := q - 1) (by omega)
            have HC : Hid (CellsA W g (0 + (q - 1) * 7) [.int .i64 (ndS nd Zs (q - 1)), .bool b1, .slice A1 k1 c1, .slice A2 k2 c2, .bool b2, .slice A3 k3 c3, .slice A4 k4 c4]) := by rw [Nat.zero_add]; exact cells7 e0 e1 e2 e3 e4 e5 e6
            have HCl := Lib.hid hg2
            have HT : Hid (RatV W w.heap.size (.agg #[.bool b2, .slice A3 k3 c3, .slice A4 k4 c4]) (K + 5) M) := by rw [hM.out]; exact hrt.toB
            have hqe : Hid (qb = decide (0 < z)) := by
              show qb = decide (0 < z)
              rw [← hqb.out, over_some rfl (fun e => by have := HQ.out; rw [e] at this; simp at this; omega), hz.out, hM.out, ← HQ.out, hc0.out]
              rfl
            clear hrt e0 e1 e2 e3 e4 e5 e6
            by_cases hzp : 0 < z
            · have hqt : qb = true := hqe.out.trans (decide_eq_true hzp)
              subst hqt
              refine wp_region_sym (⟨[(wr.heap.size, 0, [.int .i64 x0, .int .i64 y0, .int .i64 c0, .bool s0, .slice An kn cn, .slice Ad km cm]), (g, (0 + (q - 1) * 7), [.int .i64 ((ndS nd Zs (q - 1))), .bool b1, .slice A1 k1 c1, .slice A2 k2 c2, .bool b2, .slice A3 k3 c3, .slice A4 k4 c4])], [], [fun v x => RatV x W.heap.size v 3 (mkRat c0 1)], [(2, .v (.bool false)), (7, .v (.slice (some ⟨g, 0, none⟩) q c7)), (9, .p 0 0)], [(5, .b .t), (10, .f 0), (14, .v (.int .i64 (((q - 1 : Nat) : Int)))), (15, .p 1 0), (18, .v (.int .i64 z)), (19, .b .t)]⟩ : Sp) [19, 20, 21, 22, 23, 24, 25, 26, 27, 28, 29, 30, 31, 32, 33, 34, 35, 36, 37, 38, 39] W ((Below.refl _ _).drew) (by kernel_rfl) (by kernel_rfl) (by kernel_rfl) (sI (fun v x x' h hb => RatV.below h hb) sN) (by kernel_rfl)
                (fun x hx => (mI (bk_cells (HP.out.below hx HP.out.lt)) (mI (HC.out.sure hx HCl.out) mN))) (dI (duty_cmp (op := .gtr) rfl rfl .i64 q 0 .t (by kernel_rfl) (cmp_t (show (q : Int) > 0 by omega))) (
                dI (duty_call [.v (.int .i64 c0)] rfl rfl (by kernel_rfl) (by kernel_rfl) fun x vs hx hC hv => by
                  obtain ⟨v1, rfl, rfl⟩ := satL1 hv
                  refine (fromInt_any x c0 H1.out H2.out).mono ?_
                  rintro en w2 ⟨v2, rfl, hr2, hb⟩
                  exact ⟨_, rfl, (hr2.lower hx.size).toV (sz_i64 H1.out H2.out), hb⟩) (
                dI (duty_arith (op := .sub) rfl rfl q 1 (((q - 1 : Nat) : Int)) (by kernel_rfl) (.inr ⟨rfl, (by omega)⟩) (fun _ => by omega)) (
                dI (duty_index rfl rfl g (0) q c7 .i64 (q - 1) 7 1 (by kernel_rfl) (by kernel_rfl) (fun _ => by omega) rfl) (
                dI (duty_call [.f 0, .v (.agg #[.bool b2, .slice A3 k3 c3, .slice A4 k4 c4])] rfl rfl (by kernel_rfl) (by kernel_rfl) fun x vs hx hC hv => by
                  obtain ⟨v1, v2, rfl, h1, rfl⟩ := satL2 hv
                  have h1 : RatV x W.heap.size v1 3 (mkRat c0 1) := h1
                  refine (Cmp_any x W.heap.size w.heap.size v1 _ 3 (K + 5) (mkRat c0 1) M h1 (HT.out.below hx) (by omega)).mono ?_
                  rintro en w2 ⟨rfl, hb⟩
                  rw [← hz.out]
                  exact ⟨_, rfl, rfl, hb⟩) (
                dI (duty_cmp (op := .gtr) rfl rfl .i64 z 0 .t (by kernel_rfl) (cmp_t (show (z : Int) > 0 by omega))) (dN))))))) ?_
              intro S x1 hbx hS
              obtain ⟨g20, _⟩ : S 20 = .bool true ∧ True := hS (l := [(20, .b .t)]) (by kernel_rfl)
              clear hS
              simp only [nv, Nat.reduceAdd, List.length_cons, List.length_nil, List.drop_succ_cons, List.drop_zero, g20]
              clear g20
              go_wp2
              go_meet
              exact ⟨rfl, hbx⟩
            · have hqt : qb = false := hqe.out.trans (decide_eq_false hzp)
              subst hqt
              refine wp_region_sym (⟨[(wr.heap.size, 0, [.int .i64 x0, .int .i64 y0, .int .i64 c0, .bool s0, .slice An kn cn, .slice Ad km cm]), (g, (0 + (q - 1) * 7), [.int .i64 ((ndS nd Zs (q - 1))), .bool b1, .slice A1 k1 c1, .slice A2 k2 c2, .bool b2, .slice A3 k3 c3, .slice A4 k4 c4])], [], [fun v x => RatV x W.heap.size v 3 (mkRat c0 1)], [(2, .v (.bool false)), (7, .v (.slice (some ⟨g, 0, none⟩) q c7)), (9, .p 0 0)], [(5, .b .t), (10, .f 0), (14, .v (.int .i64 (((q - 1 : Nat) : Int)))), (15, .p 1 0), (18, .v (.int .i64 z)), (19, .b .f)]⟩ : Sp) [19, 20, 21, 22, 23, 24, 25, 26, 27, 28, 29, 30, 31, 32, 33, 34, 35, 36, 37, 38, 39] W ((Below.refl _ _).drew) (by kernel_rfl) (by kernel_rfl) (by kernel_rfl) (sI (fun v x x' h hb => RatV.below h hb) sN) (by kernel_rfl)
                (fun x hx => (mI (bk_cells (HP.out.below hx HP.out.lt)) (mI (HC.out.sure hx HCl.out) mN))) (dI (duty_cmp (op := .gtr) rfl rfl .i64 q 0 .t (by kernel_rfl) (cmp_t (show (q : Int) > 0 by omega))) (
                dI (duty_call [.v (.int .i64 c0)] rfl rfl (by kernel_rfl) (by kernel_rfl) fun x vs hx hC hv => by
                  obtain ⟨v1, rfl, rfl⟩ := satL1 hv
                  refine (fromInt_any x c0 H1.out H2.out).mono ?_
                  rintro en w2 ⟨v2, rfl, hr2, hb⟩
                  exact ⟨_, rfl, (hr2.lower hx.size).toV (sz_i64 H1.out H2.out), hb⟩) (
                dI (duty_arith (op := .sub) rfl rfl q 1 (((q - 1 : Nat) : Int)) (by kernel_rfl) (.inr ⟨rfl, (by omega)⟩) (fun _ => by omega)) (
                dI (duty_index rfl rfl g (0) q c7 .i64 (q - 1) 7 1 (by kernel_rfl) (by kernel_rfl) (fun _ => by omega) rfl) (
                dI (duty_call [.f 0, .v (.agg #[.bool b2, .slice A3 k3 c3, .slice A4 k4 c4])] rfl rfl (by kernel_rfl) (by kernel_rfl) fun x vs hx hC hv => by
                  obtain ⟨v1, v2, rfl, h1, rfl⟩ := satL2 hv
                  have h1 : RatV x W.heap.size v1 3 (mkRat c0 1) := h1
                  refine (Cmp_any x W.heap.size w.heap.size v1 _ 3 (K + 5) (mkRat c0 1) M h1 (HT.out.below hx) (by omega)).mono ?_
                  rintro en w2 ⟨rfl, hb⟩
                  rw [← hz.out]
                  exact ⟨_, rfl, rfl, hb⟩) (
                dI (duty_cmp (op := .gtr) rfl rfl .i64 z 0 .f (by kernel_rfl) (cmp_f (show ¬ (z : Int) > 0 by omega))) (dN))))))) ?_
              intro S x1 hbx hS
              obtain ⟨g20, _⟩ : S 20 = .bool false ∧ True := hS (l := [(20, .b .f)]) (by kernel_rfl)
              clear hS
              simp only [nv, Nat.reduceAdd, List.length_cons, List.length_nil, List.drop_succ_cons, List.drop_zero, g20]
              clear g20
              go_wp2
              go_meet
              exact ⟨rfl, hbx⟩
      case rest =>
      obtain ⟨rfl, hB2⟩ := hcut
      cases qb with
      | true =>
        go_wp2
        go_ret
        exact ⟨by rw [run_bad hlt (badP_over hqb.out) HRUN.out]; rfl, HB.out.trans (hB2.out.mono HB.out.size)⟩
      | false =>
        have HPc := Lib.hid (HP.out.below hB2.out HP.out.lt)
        have HBc := Lib.hid (HB.out.trans (hB2.out.mono HB.out.size))
        have HOc := Lib.hid (HO1.out.below hB2.out)
        have HRc := Lib.hid (HR1.out.below hB2.out)
        have hzc : Hid (W.heap.size ≤ wc.heap.size) := hB2.out.size
        clear HP HB HO1 HR1 hB2 HBR
        obtain ⟨hp0, hpf, hpl⟩ := HPc.out.facts
        by_cases hk1 : y0 = 1
        · subst hk1
          have hkd : Hid (kd i = 1) := hy0.out.symm
          have hx0q : Hid (x0 = ndS nd (Zs ++ [i]) q) := by
            show x0 = _
            rw [hx0.out, HQ.out]
            exact (snoc_eq nd Zs i).symm
          have hlvq : Hid (lvS lv (Zs ++ [i]) q = lv i) := by
            show _ = _
            rw [HQ.out]
            exact snoc_eq lv Zs i
          have HOe := Lib.hid (ent_own HQ.out i HOc.out)
          have hwc : Hid (w.heap.size ≤ wc.heap.size) := HBc.out.size
          have hpw : Hid (w.heap.size ≤ wr.heap.size ∧ wr.heap.size < wc.heap.size) := ⟨hzw.out, HPc.out.lt⟩
          have hq1 : q ≤ 1000 := by omega
          go_upto_region 8 with (fail)
          clear hp0 hpf hpl
          refine wp_region_st (by kernel_rfl) (by kernel_rfl) [44, 45, 46, 47, 48, 49, 50, 51, 52, 53, 54] 6 (by kernel_rfl) (J8 (F8 w wc wr.heap.size q (K + 5) (.slice A7 q c7) x0 c0 (.agg #[.int .i64 x0, .int .i64 1, .int .i64 c0, .bool s0, .slice An kn cn, .slice Ad km cm]) (lv i) (ndS nd (Zs ++ [i])) (lvS lv (Zs ++ [i]))) wc) (fun s => J8.start (Below.refl _ _).drew) ?_ ?_
          · intro io oo s d x ho hio hdi hah hbe hJ
            rcases io with _ | _ | _ | _ | _ | _ | _ | _ | _ | _ | _ | io
            · cases ho
              have d7 := hbe 7 (by decide) (by kernel_rfl)
              refine opOk_plain rfl rfl fun KK hKK => ?_
              have HK := Lib.hid hKK
              clear hKK hah hbe
              simp only [nv, Nat.reduceAdd] at HK ⊢
              have HJ := Lib.hid hJ
              clear hJ
              go_wp2
              exact HK.out _ _ ⟨_, rfl, HJ.out.early (by omega) d7 rfl (Below.refl _ _) (fun _ _ _ _ h => h) (fun _ _ _ h => h)⟩
            · cases ho
              have d7 := hbe 7 (by decide) (by kernel_rfl)
              refine opOk_plain rfl rfl fun KK hKK => ?_
              have HK := Lib.hid hKK
              clear hKK hah hbe
              simp only [nv, Nat.reduceAdd] at HK ⊢
              have HJ := Lib.hid hJ
              clear hJ
              go_wp2
              exact HK.out _ _ ⟨_, rfl, HJ.out.early (by omega) d7 rfl (Below.refl _ _) (fun _ _ _ _ h => h) (fun _ _ _ h => h)⟩
            · cases ho
              have d7 := hbe 7 (by decide) (by kernel_rfl)
              have h1 : s 1 = .pointer (some ⟨wr.heap.size, 0, none⟩) := (hJ.1 d7).2.2 1 (by omega) (hah 1 (by kernel_rfl))
              obtain ⟨hq0, hqf, hql⟩ := (HPc.out.below (hJ.1 d7).2.1 HPc.out.lt).facts
              refine opOk_plain rfl rfl fun KK hKK => ?_
              have HK := Lib.hid hKK
              clear hKK hah hbe
              simp only [nv, Nat.reduceAdd] at HK ⊢
              simp only [h1] at HK ⊢
              have HJ := Lib.hid hJ
              clear hJ h1
              go_wp2
              exact HK.out _ _ ⟨_, rfl, HJ.out.early (by omega) d7 rfl (Below.refl _ _) (fun _ _ _ _ h => h) (fun _ _ _ h => h)⟩
            · cases ho
              have d7 := hbe 7 (by decide) (by kernel_rfl)
              obtain ⟨hq0, hqf, hql⟩ := (HPc.out.below (hJ.1 d7).2.1 HPc.out.lt).facts
              refine opOk_plain rfl rfl fun KK hKK => ?_
              have HK := Lib.hid hKK
              clear hKK hah hbe
              simp only [nv, Nat.reduceAdd] at HK ⊢
              have HJ := Lib.hid hJ
              clear hJ
              go_wp2
              exact HK.out _ _ ⟨_, rfl, HJ.out.early (by omega) d7 rfl (Below.refl _ _) (fun _ _ _ _ h => h) (fun _ _ _ h => h)⟩
            · cases ho
              have d7 := hbe 7 (by decide) (by kernel_rfl)
              have d5 := hbe 5 (by decide) (by kernel_rfl)
              have d6 := hbe 6 (by decide) (by kernel_rfl)
              have h3 : s 3 = .agg #[.int .i64 x0, .int .i64 1, .int .i64 c0, .bool s0, .slice An kn cn, .slice Ad km cm] := (hJ.1 d7).2.2 3 (by omega) (hah 3 (by kernel_rfl))
              have hBx := (hJ.1 d7).2.1
              refine opOk_plain rfl rfl fun KK hKK => ?_
              have HK := Lib.hid hKK
              clear hKK hah hbe
              simp only [nv, Nat.reduceAdd] at HK ⊢
              simp only [h3] at HK ⊢
              have HJ := Lib.hid hJ
              clear hJ h3
              go_wp2_with fail
              refine (total_any x lo K x0 1 c0 s0 An Ad kn cn km cm (r i) H1.out H2.out (HRc.out.below hBx) (by omega)).mono ?_
              rintro e w2 ⟨v2, rfl, hr2, hb2⟩
              refine HK.out _ _ ⟨_, rfl, HJ.out.early (by omega) d7 ?_ hb2 (fun j hj hne hd h => ?_) f89⟩
              · show RatR w2 wc.heap.size v2 (lv i)
                rw [hlvi.out]
                exact hr2.lower hBx.size
              · rcases j with _ | _ | _ | _ | _ | _ | _ | j
                · exact h
                · exact h
                · exact h
                · exact h
                · exact absurd rfl hne
                · rw [d5] at hd; cases hd
                · rw [d6] at hd; cases hd
                · omega
            · cases ho
              have d7 := hbe 7 (by decide) (by kernel_rfl)
              have h2 : s 2 = .int .i64 x0 := (hJ.1 d7).2.2 2 (by omega) (hah 2 (by kernel_rfl))
              have h4 : RatR x wc.heap.size (s 4) (lv i) := (hJ.1 d7).2.2 4 (by omega) (hah 4 (by kernel_rfl))
              obtain ⟨A1, c1, A2, c2, e4, _, _⟩ := FracR.form h4
              rw [e4] at h4
              have H4 := Lib.hid h4
              refine opOk_plain rfl rfl fun KK hKK => ?_
              have HK := Lib.hid hKK
              clear hKK hah hbe h4
              simp only [nv, Nat.reduceAdd] at HK ⊢
              simp only [h2, e4] at HK ⊢
              have HJ := Lib.hid hJ
              clear hJ h2 e4
              go_wp2
              exact HK.out _ _ ⟨_, rfl, HJ.out.early (by omega) d7 ⟨_, _, _, _, _, _, _, rfl, H4.out⟩ (Below.refl _ _) (fun _ _ _ _ h => h) (fun _ _ _ h => h)⟩
            · cases ho
              have d7 := hbe 7 (by decide) (by kernel_rfl)
              obtain ⟨b5, A1, k1, c1, A2, k2, c2, e5, h5⟩ : ∃ b A1 k1 c1 A2 k2 c2, s 5 = .agg #[.int .i64 x0, .bool b, .slice A1 k1 c1, .slice A2 k2 c2, .bool false, .slice none 0 0, .slice none 0 0] ∧ RatR x wc.heap.size (.agg #[.bool b, .slice A1 k1 c1, .slice A2 k2 c2]) (lv i) := (hJ.1 d7).2.2 5 (by omega) (hah 5 (by kernel_rfl))
              have hBx := Lib.hid (hJ.1 d7).2.1
              have H5 := Lib.hid h5
              refine opOk_plain rfl rfl fun KK hKK => ?_
              have HK := Lib.hid hKK
              clear hKK hah hbe h5
              simp only [nv, Nat.reduceAdd] at HK ⊢
              simp only [e5] at HK ⊢
              have HJ := Lib.hid hJ
              clear hJ e5
              go_wp2
              refine HK.out _ _ ⟨_, rfl, HJ.out.early (by omega) d7 ⟨x, _, _, _, _, _, _, _, rfl, rfl, H5.out, hBx.out⟩ (bel1 _ _) (fun j hj hne hd h => ?_) f89⟩
              rcases j with _ | _ | _ | _ | _ | _ | _ | j
              · exact h
              · exact h
              · exact h
              · exact h
              · exact RatR.below h (bel1 _ _)
              · obtain ⟨b', B1, l1, m1, B2, l2, m2, e, h⟩ := h
                exact ⟨b', B1, l1, m1, B2, l2, m2, e, RatR.below h (bel1 _ _)⟩
              · exact absurd rfl hne
              · omega
            · cases ho
              have d10 := hbe 10 (by decide) (by kernel_rfl)
              have h0 : s 0 = .slice A7 q c7 := (hJ.1 hdi).2.2 0 (by omega) (hah 0 (by kernel_rfl))
              obtain ⟨X, b6, A1, k1, c1, A2, k2, c2, rfl, e6, h6, hBX⟩ : ∃ (X : World) (b : Bool) (A1 : Option Addr) (k1 c1 : Nat) (A2 : Option Addr) (k2 c2 : Nat), x = X.alloc (.cells #[.int .i64 x0, .bool b, .slice A1 k1 c1, .slice A2 k2 c2, .bool false, .slice none 0 0, .slice none 0 0] 65) ∧ s 6 = .slice (some ⟨X.heap.size, 0, none⟩) 1 1 ∧ RatR X wc.heap.size (.agg #[.bool b, .slice A1 k1 c1, .slice A2 k2 c2]) (lv i) ∧ Below wc.heap.size wc X := (hJ.1 hdi).2.2 6 (by omega) (hah 6 (by kernel_rfl))
              refine opOk_plain rfl rfl fun KK hKK => ?_
              have HK := Lib.hid hKK
              clear hKK hah hbe
              simp only [nv, Nat.reduceAdd] at HK ⊢
              simp only [h0, e6] at HK ⊢
              have HJ := Lib.hid hJ
              clear hJ h0 e6
              have hX := hBX.size
              have ex : X.alloc (.cells #[.int .i64 x0, .bool b6, .slice A1 k1 c1, .slice A2 k2 c2, .bool false, .slice none 0 0, .slice none 0 0] 65) = X.alloc (.cells #[.int .i64 (ndS nd (Zs ++ [i]) q), .bool b6, .slice A1 k1 c1, .slice A2 k2 c2, .bool false, .slice none 0 0, .slice none 0 0] 65) := by rw [← hx0q.out]
              rw [ex]
              refine wp_pushO X (.tmp 44) (.tmp 50) rfl w.heap.size (.slice A7 q c7) q (K + 5) (ndS nd (Zs ++ [i])) (lvS lv (Zs ++ [i])) (tEnt (lvS lv (Zs ++ [i])) q) rfl (HOe.out.below hBX) b6 A1 A2 k1 c1 k2 c2 wc.heap.size (by rw [hlvq.out]; exact h6.toV hszi.out) (by unfold tEnt; rw [if_neg (Nat.lt_irrefl _)]) hwc.out (fun g hg => Nat.lt_trans (HF1.out g hg) hpw.out.2) rfl w (HBc.out.trans (hBX.mono hwc.out)) (Nat.le_trans hwc.out hX) (by omega) ?_
              intro v' w' hO' hB' hF' _ _
              exact HK.out _ _ ⟨_, rfl, HJ.out.app d10 ⟨hO', hB', hF'⟩ f89⟩
            · cases ho
              refine opOk_plain rfl rfl fun KK hKK => ?_
              have HK := Lib.hid hKK
              clear hKK hah hbe
              simp only [nv, Nat.reduceAdd] at HK ⊢
              have HJ := Lib.hid hJ
              clear hJ
              go_wp2
              exact HK.out _ _ ⟨_, rfl, HJ.out.pure (.inl rfl) rfl⟩
            · cases ho
              have h8 : s 8 = .slice A7 q c7 := hJ.2.1 8 (.inl rfl) (hah 8 (by kernel_rfl))
              refine opOk_plain rfl rfl fun KK hKK => ?_
              have HK := Lib.hid hKK
              clear hKK hah hbe
              simp only [nv, Nat.reduceAdd] at HK ⊢
              simp only [h8] at HK ⊢
              have HJ := Lib.hid hJ
              clear hJ h8
              go_wp2
              exact HK.out _ _ ⟨_, rfl, HJ.out.pure (.inr rfl) rfl⟩
            · cases ho
              have d7 := hah 7 (by kernel_rfl)
              have h9 : s 9 = .int .i64 q := hJ.2.1 9 (.inr rfl) (hah 9 (by kernel_rfl))
              obtain ⟨hO7, hB7, hF7⟩ : OwnO x w.heap.size (s 7) (q + 1) (K + 5) (ndS nd (Zs ++ [i])) (lvS lv (Zs ++ [i])) (tEnt (lvS lv (Zs ++ [i])) q) ∧ Below w.heap.size w x ∧ ∀ g, (s 7).ownBlock = some g → g < x.heap.size := hJ.2.2.1 d7 hdi
              refine opOk_plain rfl rfl fun KK hKK => ?_
              have HK := Lib.hid hKK
              clear hKK hah hbe
              simp only [nv, Nat.reduceAdd] at HK ⊢
              simp only [h9] at HK ⊢
              have HJ := Lib.hid hJ
              clear hJ h9
              go_wp2_with fail
              refine (least_any hO7 q (by omega) (fun hq => by unfold tEnt; rw [if_pos (by omega)]) (by omega) (by omega)).mono ?_
              rintro e w5 ⟨rfl, hO5, hg5⟩
              refine HK.out _ _ ⟨_, rfl, HJ.out.last d7 ⟨ent_done hO5, hB7.grown hg5 hB7.size (fun g hg => ?_), fun g hg => Nat.lt_of_lt_of_le (hF7 g hg) hg5.size⟩ f89⟩
              obtain ⟨xs, hx1, _⟩ := hO7
              exact (hx1.lt g hg).1
            · exact absurd hio (by simp)
          · intro s d x hall hJ
            obtain ⟨hO8, hB8, hF8⟩ : OwnO x w.heap.size (s 10) (q + 1) (K + 5) (ndS nd (Zs ++ [i])) (lvS lv (Zs ++ [i])) (mn (lvS lv (Zs ++ [i]))) ∧ Below w.heap.size w x ∧ ∀ g, (s 10).ownBlock = some g → g < x.heap.size := hJ.2.2.2 (hall 10 (by decide))
            simp only [nv, Nat.reduceAdd, List.length_cons, List.length_nil, List.drop_succ_cons, List.drop_zero]
            have HO8 := Lib.hid hO8
            have HB8 := Lib.hid hB8
            have HF8 := Lib.hid hF8
            generalize s 10 = v8 at *
            clear hO8 hB8 hF8 hJ
            go_wp2
            go_roundw
            case rel =>
              refine ⟨i + 1, q + 1, Zs ++ [i], by omega, by rw [List.length_append, HQ.out]; rfl, ?_, ?_, by omega, by simp, HO8.out, HF8.out, HB8.out, ?_⟩
              · exact List.nodup_append.2 ⟨HND.out, List.nodup_cons.2 ⟨by simp, List.nodup_nil⟩, fun a ha b hb e => by simp at hb; subst hb; subst e; exact absurd (HSI.out _ ha) (Nat.lt_irrefl _)⟩
              · intro j hj
                rcases List.mem_append.1 hj with h | h
                · exact Nat.lt_succ_of_lt (HSI.out j h)
                · simp at h; omega
              · rw [run_next hlt (badP_enter hkd.out hqb.out) HRUN.out, nxtP_enter hkd.out]
            case measure => simp [intOf]; omega
        · have hk1b : (y0 == 1) = false := by simp [hk1]
          have hkd1 : Hid (kd i ≠ 1) := by rw [← hy0.out]; exact hk1
          by_cases hk23 : y0 = 2 ∨ y0 = 3
          · rcases hk23 with rfl | rfl
            · have hkd : Hid (kd i = 2) := hy0.out.symm
              go_wp2_with fail
              refine (closes_any HOc.out (by omega) x0).mono ?_
              rintro e w3 ⟨⟨rr, rfl, hL⟩, hb3⟩
              rcases hL with ⟨rfl, hno⟩ | ⟨m, rfl, hmq, hNm, hlast⟩
              · have HN := Lib.hid hno
                have HB3 := Lib.hid (HBc.out.trans (hb3.mono HBc.out.size))
                clear hno hb3
                go_wp2
                go_ret
                exact ⟨by rw [run_bad hlt (badP_none hkd1.out (fnd_S_none (by rw [← hx0.out, ← HQ.out]; exact HN.out))) HRUN.out]; rfl, HB3.out⟩
              · have hfnd : Hid (fnd nd (nd i) Zs = some (Zs.getD m 0)) := by
                  rw [← hx0.out]
                  exact fnd_S_some (by rw [← HQ.out]; exact hmq) hNm (by rw [← HQ.out]; exact hlast)
                obtain ⟨g, _, _, _, _, _, _, _, _, _, _, _, _, _, _, rfl, hg1, _⟩ := HOc.out.elem hmq
                have HO3 := Lib.hid (HOc.out.below hb3)
                have HB3 := Lib.hid (HBc.out.trans (hb3.mono HBc.out.size))
                have HP3 := Lib.hid (HPc.out.below hb3 HPc.out.lt)
                have HR3 := Lib.hid (HRc.out.below hb3)
                obtain ⟨M, hM⟩ : ∃ M, Hid (M = lvS lv Zs m) := ⟨_, rfl⟩
                obtain ⟨z, hz⟩ : ∃ z : Int, Hid (z = cmpQ (lv i) M) := ⟨_, rfl⟩
                obtain ⟨d1, B1, l1, m1, B2, l2, m2, d2, B3, l3, m3, B4, l4, m4, hc, hsm, _⟩ := HO3.out.at hmq
                have HC := Lib.hid hc
                have HCl := Lib.hid HO3.out.has.2.1
                have HT : Hid (RatV w3 w.heap.size (.agg #[.bool d1, .slice B1 l1 m1, .slice B2 l2 m2]) (K + 5) M) := by rw [hM.out]; exact hsm.toB
                have hzv : Hid (viol lower z = viol lower (cmpQ (lv i) (lv (Zs.getD m 0)))) := by rw [hz.out, hM.out]; rfl
                obtain ⟨hq0, hqf, hql⟩ := HP3.out.facts
                clear hb3 hNm hlast hc hsm hp0 hpf hpl
                go_upto_region 15 with (fail)
                clear hq0 hqf hql
                refine wp_region_sym (⟨[(wr.heap.size, 0, [.int .i64 x0, .int .i64 2, .int .i64 c0, .bool s0, .slice An kn cn, .slice Ad km cm]), (g, (0 + m * 7), [.int .i64 ((ndS nd Zs m)), .bool d1, .slice B1 l1 m1, .slice B2 l2 m2, .bool d2, .slice B3 l3 m3, .slice B4 l4 m4])], [], [fun v x => RatR x w3.heap.size v (lv i)], [(7, .v (.slice (some ⟨g, 0, none⟩) q c7)), (9, .p 0 0), (10, .v (.int .i64 ((m : Int))))], [(1, .f 0), (4, .p 1 0), (7, .v (.int .i64 z))]⟩ : Sp) [74, 75, 76, 77, 78, 79, 80, 81, 11] w3 ((Below.refl _ _).drew) (by kernel_rfl) (by kernel_rfl) (by kernel_rfl) (sI (fun v x x' h hb => RatR.below h hb) sN) (by kernel_rfl)
                  (fun x hx => (mI (bk_cells (HP3.out.below hx HP3.out.lt)) (mI (HC.out.sure hx HCl.out) mN))) (dI (duty_call [.v (.agg #[.int .i64 x0, .int .i64 2, .int .i64 c0, .bool s0, .slice An kn cn, .slice Ad km cm])] rfl rfl (by kernel_rfl) (by kernel_rfl) fun x vs hx hC hv => by
                    obtain ⟨v1, rfl, rfl⟩ := satL1 hv
                    refine (total_any x lo K _ _ _ _ _ _ _ _ _ _ _ H1.out H2.out (HR3.out.below hx) (by omega)).mono ?_
                    rintro en w2 ⟨v2, rfl, hr2, hb⟩
                    refine ⟨_, rfl, ?_, hb⟩
                    show RatR w2 w3.heap.size v2 (lv i)
                    rw [hlvi.out]
                    exact hr2.lower hx.size) (
                  dI (duty_index rfl rfl g (0) q c7 .i64 m 7 1 (by kernel_rfl) (by kernel_rfl) (fun _ => by omega) rfl) (
                  dI (duty_call [.f 0, .v (.agg #[.bool d1, .slice B1 l1 m1, .slice B2 l2 m2])] rfl rfl (by kernel_rfl) (by kernel_rfl) fun x vs hx hC hv => by
                    obtain ⟨v1, v2, rfl, h1, rfl⟩ := satL2 hv
                    have h1 : RatV x w3.heap.size v1 (K + 5) (lv i) := RatR.toV (show RatR x w3.heap.size v1 (lv i) from h1) hszi.out
                    refine (Cmp_any x w3.heap.size w.heap.size v1 _ (K + 5) (K + 5) (lv i) M h1 (HT.out.below hx) (by omega)).mono ?_
                    rintro en w2 ⟨rfl, hb⟩
                    rw [← hz.out]
                    exact ⟨_, rfl, rfl, hb⟩) (dN)))) ?_
                intro S x1 hbx hS
                obtain ⟨g8, _⟩ : S 8 = .int .i64 z ∧ True := hS (l := [(8, .v (.int .i64 z))]) (by kernel_rfl)
                clear hS
                simp only [nv, Nat.reduceAdd, List.length_cons, List.length_nil, List.drop_succ_cons, List.drop_zero, g8]
                clear g8
                have HO4 := Lib.hid (HO3.out.below hbx)
                have HB4 := Lib.hid (HB3.out.trans (hbx.mono HB3.out.size))
                clear hbx
                cases hlo : lower with
                | true =>
                  subst hlo
                  by_cases hzp : z < 0
                  · go_wp2
                    go_ret
                    exact ⟨by rw [run_bad hlt (badP_viol hkd.out hfnd.out (hzv.out.symm.trans (by simp [viol, hzp]))) HRUN.out]; rfl, HB4.out⟩
                  · have HBAD : Hid (badP true nd kd ct lv i Zs = false) := badP_leave hkd.out hqb.out hfnd.out (hzv.out.symm.trans (by simp [viol, hzp]))
                    go_wp2_with fail
                    refine (Delete_any HO4.out hmq (by omega)).mono ?_
                    rintro e w4 ⟨rfl, hO4, hg4⟩
                    go_wp2_with fail
                    refine (least_any hO4 m (by omega) (fun hm0 => del_pre _ hm0) (by omega) (by omega)).mono ?_
                    rintro e w5 ⟨rfl, hO5, hg5⟩
                    have HO5 := Lib.hid (del_done HQ.out hmq hO5)
                    have HB5 : Hid (Below w.heap.size w w5) := by
                      have h1 := HB4.out.grown hg4 HB4.out.size (fun k e => by injection e with e; rw [← e]; exact hg1)
                      exact h1.grown hg5 h1.size (fun k e => by injection e with e; rw [← e]; exact hg1)
                    have HF5 : Hid (∀ g', (Value.slice (some ⟨g, 0, none⟩) (q - 1) c7).ownBlock = some g' → g' < w5.heap.size) := fun g' e => by
                      injection e with e
                      rw [← e]
                      exact HO5.out.has.2.1
                    clear hO4 hg4 hO5 hg5
                    go_wp2
                    go_roundw
                    case rel =>
                      refine ⟨i + 1, q - 1, Zs.eraseIdx m, by omega, by rw [erase_len (by rw [← HQ.out]; exact hmq), HQ.out], ?_, ?_, by omega, by simp, HO5.out, HF5.out, HB5.out, ?_⟩
                      · exact HND.out.sublist (List.eraseIdx_sublist _ _)
                      · intro j hj
                        exact Nat.lt_succ_of_lt (HSI.out j ((List.eraseIdx_sublist _ _).subset hj))
                      · rw [run_next hlt HBAD.out HRUN.out, nxtP_close hkd1.out hfnd.out, filter_ne HND.out (getD_at (by rw [← HQ.out]; exact hmq))]
                    case measure => simp [intOf]; omega
                | false =>
                  subst hlo
                  by_cases hzp : 0 < z
                  · go_wp2
                    go_ret
                    exact ⟨by rw [run_bad hlt (badP_viol hkd.out hfnd.out (hzv.out.symm.trans (by simp [viol, hzp]))) HRUN.out]; rfl, HB4.out⟩
                  · have HBAD : Hid (badP false nd kd ct lv i Zs = false) := badP_leave hkd.out hqb.out hfnd.out (hzv.out.symm.trans (by simp [viol, hzp]))
                    go_wp2_with fail
                    refine (Delete_any HO4.out hmq (by omega)).mono ?_
                    rintro e w4 ⟨rfl, hO4, hg4⟩
                    go_wp2_with fail
                    refine (least_any hO4 m (by omega) (fun hm0 => del_pre _ hm0) (by omega) (by omega)).mono ?_
                    rintro e w5 ⟨rfl, hO5, hg5⟩
                    have HO5 := Lib.hid (del_done HQ.out hmq hO5)
                    have HB5 : Hid (Below w.heap.size w w5) := by
                      have h1 := HB4.out.grown hg4 HB4.out.size (fun k e => by injection e with e; rw [← e]; exact hg1)
                      exact h1.grown hg5 h1.size (fun k e => by injection e with e; rw [← e]; exact hg1)
                    have HF5 : Hid (∀ g', (Value.slice (some ⟨g, 0, none⟩) (q - 1) c7).ownBlock = some g' → g' < w5.heap.size) := fun g' e => by
                      injection e with e
                      rw [← e]
                      exact HO5.out.has.2.1
                    clear hO4 hg4 hO5 hg5
                    go_wp2
                    go_roundw
                    case rel =>
                      refine ⟨i + 1, q - 1, Zs.eraseIdx m, by omega, by rw [erase_len (by rw [← HQ.out]; exact hmq), HQ.out], ?_, ?_, by omega, by simp, HO5.out, HF5.out, HB5.out, ?_⟩
                      · exact HND.out.sublist (List.eraseIdx_sublist _ _)
                      · intro j hj
                        exact Nat.lt_succ_of_lt (HSI.out j ((List.eraseIdx_sublist _ _).subset hj))
                      · rw [run_next hlt HBAD.out HRUN.out, nxtP_close hkd1.out hfnd.out, filter_ne HND.out (getD_at (by rw [← HQ.out]; exact hmq))]
                    case measure => simp [intOf]; omega
            · have hkd : Hid (kd i = 3) := hy0.out.symm
              go_wp2_with fail
              refine (closes_any HOc.out (by omega) x0).mono ?_
              rintro e w3 ⟨⟨rr, rfl, hL⟩, hb3⟩
              rcases hL with ⟨rfl, hno⟩ | ⟨m, rfl, hmq, hNm, hlast⟩
              · have HN := Lib.hid hno
                have HB3 := Lib.hid (HBc.out.trans (hb3.mono HBc.out.size))
                clear hno hb3
                go_wp2
                go_ret
                exact ⟨by rw [run_bad hlt (badP_none hkd1.out (fnd_S_none (by rw [← hx0.out, ← HQ.out]; exact HN.out))) HRUN.out]; rfl, HB3.out⟩
              · have hfnd : Hid (fnd nd (nd i) Zs = some (Zs.getD m 0)) := by
                  rw [← hx0.out]
                  exact fnd_S_some (by rw [← HQ.out]; exact hmq) hNm (by rw [← HQ.out]; exact hlast)
                obtain ⟨g, _, _, _, _, _, _, _, _, _, _, _, _, _, _, rfl, hg1, _⟩ := HOc.out.elem hmq
                have HO4 := Lib.hid (HOc.out.below hb3)
                have HB4 := Lib.hid (HBc.out.trans (hb3.mono HBc.out.size))
                obtain ⟨hq0, hqf, hql⟩ := (HPc.out.below hb3 HPc.out.lt).facts
                have HBAD : Hid (badP lower nd kd ct lv i Zs = false) := badP_cut hkd.out hqb.out hfnd.out
                clear hb3 hNm hlast hp0 hpf hpl
                go_wp2_with fail
                refine (Delete_any HO4.out hmq (by omega)).mono ?_
                rintro e w4 ⟨rfl, hO4, hg4⟩
                go_wp2_with fail
                refine (least_any hO4 m (by omega) (fun hm0 => del_pre _ hm0) (by omega) (by omega)).mono ?_
                rintro e w5 ⟨rfl, hO5, hg5⟩
                have HO5 := Lib.hid (del_done HQ.out hmq hO5)
                have HB5 : Hid (Below w.heap.size w w5) := by
                  have h1 := HB4.out.grown hg4 HB4.out.size (fun k e => by injection e with e; rw [← e]; exact hg1)
                  exact h1.grown hg5 h1.size (fun k e => by injection e with e; rw [← e]; exact hg1)
                have HF5 : Hid (∀ g', (Value.slice (some ⟨g, 0, none⟩) (q - 1) c7).ownBlock = some g' → g' < w5.heap.size) := fun g' e => by
                  injection e with e
                  rw [← e]
                  exact HO5.out.has.2.1
                clear hO4 hg4 hO5 hg5
                go_wp2
                go_roundw
                case rel =>
                  refine ⟨i + 1, q - 1, Zs.eraseIdx m, by omega, by rw [erase_len (by rw [← HQ.out]; exact hmq), HQ.out], ?_, ?_, by omega, by simp, HO5.out, HF5.out, HB5.out, ?_⟩
                  · exact HND.out.sublist (List.eraseIdx_sublist _ _)
                  · intro j hj
                    exact Nat.lt_succ_of_lt (HSI.out j ((List.eraseIdx_sublist _ _).subset hj))
                  · rw [run_next hlt HBAD.out HRUN.out, nxtP_close hkd1.out hfnd.out, filter_ne HND.out (getD_at (by rw [← HQ.out]; exact hmq))]
                case measure => simp [intOf]; omega
          · have hk2b : (y0 == 2) = false := by simp; omega
            have hk3b : (y0 == 3) = false := by simp; omega
            have hk2c : (y0 != 2) = true := by simp; omega
            have hk3c : (y0 != 3) = true := by simp; omega
            have hk2n : ¬ y0 = 2 := by omega
            have hk3n : ¬ y0 = 3 := by omega
            go_wp2_with fail
            go_ret
            exact ⟨by rw [run_bad hlt (badP_kind hkd1.out (by rw [← hy0.out]; exact hk2n) (by rw [← hy0.out]; exact hk3n)) HRUN.out]; rfl, HBc.out⟩
    · have hni : n = i := by omega
      subst hni
      have HANS : Hid (ansP lower nd kd ct lv n peak = if lower = false ∧ 0 < n ∧ 0 < cmpQ (mkRat peak 1) (lv 0) then (n : Int) else -1) := ansP_end (by rw [HRUN.out, Nat.sub_self]; rfl)
      have HBW := Lib.hid hbw
      clear HRUN HO HF HND HSI HQ
      go_upto_region 20 with (fail)
      cases lower with
      | true =>
        refine wp_region_sym (⟨[], [], [], [(2, .v (.bool true))], []⟩ : Sp) [104, 105, 106, 107, 108, 109, 110, 111, 112, 113, 114, 115, 116, 117, 118, 119, 120] wr ((Below.refl _ _).drew) (by kernel_rfl) (by kernel_rfl) (by kernel_rfl) sN (by kernel_rfl)
          (fun x hx => mN) (dN) ?_
        intro S x1 hbx hS
        obtain ⟨g16, _⟩ : S 16 = .bool false ∧ True := hS (l := [(16, .v (.bool false))]) (by kernel_rfl)
        clear hS
        simp only [nv, Nat.reduceAdd, List.length_cons, List.length_nil, List.drop_succ_cons, List.drop_zero, g16]
        clear g16
        have HX := Lib.hid hbx
        clear hbx
        go_wp2
        go_ret
        exact ⟨by rw [HANS.out, if_neg (by simp)]; rfl, HBW.out.trans (HX.out.mono HBW.out.size)⟩
      | false =>
        rcases Nat.eq_zero_or_pos n with hn0 | hn0
        · subst hn0
          refine wp_region_sym (⟨[], [], [], [(0, .v (.slice A 0 c)), (2, .v (.bool false))], []⟩ : Sp) [104, 105, 106, 107, 108, 109, 110, 111, 112, 113, 114, 115, 116, 117, 118, 119, 120] wr ((Below.refl _ _).drew) (by kernel_rfl) (by kernel_rfl) (by kernel_rfl) sN (by kernel_rfl)
            (fun x hx => mN) (dN) ?_
          intro S x1 hbx hS
          obtain ⟨g16, _⟩ : S 16 = .bool false ∧ True := hS (l := [(16, .v (.bool false))]) (by kernel_rfl)
          clear hS
          simp only [nv, Nat.reduceAdd, List.length_cons, List.length_nil, List.drop_succ_cons, List.drop_zero, g16]
          clear g16
          have HX := Lib.hid hbx
          clear hbx
          go_wp2
          go_ret
          exact ⟨by rw [HANS.out, if_neg (by simp)]; rfl, HBW.out.trans (HX.out.mono HBW.out.size)⟩
        · obtain ⟨b, off, rfl, hbl, hat⟩ := HV.out.at hn0
          obtain ⟨d1, B1, l1, m1, B2, l2, m2, hc, ⟨h1, h2⟩, hr0⟩ := hat 0 hn0
          have HC0 : Hid (CellsA wr b (off + 0 * 6) [.int .i64 (nd 0), .int .i64 (kd 0), .int .i64 (ct 0), .bool d1, .slice B1 l1 m1, .slice B2 l2 m2]) := hc.sure hbw hbl
          have HC0l : Hid (b < wr.heap.size) := Nat.lt_of_lt_of_le hbl hbw.size
          have HR0 : Hid (RatV wr lo (.agg #[.bool d1, .slice B1 l1 m1, .slice B2 l2 m2]) K (r 0)) := hr0.below hbw
          have HC1 := Lib.hid h1
          have HC2 := Lib.hid h2
          have hlv0 : Hid (lv 0 = lvl (ct 0) (r 0)) := HL.out 0
          have hsz0 : Hid (sz (lv 0) ≤ K + 5) := by
            show sz (lv 0) ≤ K + 5
            rw [hlv0.out]
            exact sz_lvl HC1.out HC2.out HR0.out.size
          obtain ⟨z, hz⟩ : ∃ z : Int, Hid (z = cmpQ (mkRat peak 1) (lv 0)) := ⟨_, rfl⟩
          clear hc h1 h2 hr0 hat hbl
          by_cases hzp : 0 < z
          · skip
            refine wp_region_sym (⟨[(b, (off + 0 * 6), [.int .i64 ((nd 0)), .int .i64 ((kd 0)), .int .i64 ((ct 0)), .bool d1, .slice B1 l1 m1, .slice B2 l2 m2])], [], [fun v x => RatV x wr.heap.size v 3 (mkRat peak 1), fun v x => RatR x wr.heap.size v (lv 0)], [(0, .v (.slice (some ⟨b, off, none⟩) n c)), (1, .v (.int .i64 peak)), (2, .v (.bool false))], [(5, .b .t), (9, .f 0), (11, .p 0 0), (13, .f 1), (14, .v (.int .i64 z)), (15, .b .t)]⟩ : Sp) [104, 105, 106, 107, 108, 109, 110, 111, 112, 113, 114, 115, 116, 117, 118, 119, 120] wr ((Below.refl _ _).drew) (by kernel_rfl) (by kernel_rfl) (by kernel_rfl) (sI (fun v x x' h hb => RatV.below h hb) (sI (fun v x x' h hb => RatR.below h hb) sN)) (by kernel_rfl)
              (fun x hx => (mI (HC0.out.sure hx HC0l.out) mN)) (dI (duty_cmp (op := .gtr) rfl rfl .i64 n 0 .t (by kernel_rfl) (cmp_t (show (n : Int) > 0 by omega))) (
              dI (duty_call [.v (.int .i64 peak)] rfl rfl (by kernel_rfl) (by kernel_rfl) fun x vs hx hC hv => by
                obtain ⟨v1, rfl, rfl⟩ := satL1 hv
                refine (fromInt_any x peak HP1.out HP2.out).mono ?_
                rintro en w2 ⟨v2, rfl, hr2, hb⟩
                exact ⟨_, rfl, (hr2.lower hx.size).toV (sz_i64 HP1.out HP2.out), hb⟩) (
              dI (duty_index rfl rfl b (off) n c .i64 0 6 0 (by kernel_rfl) (by kernel_rfl) (fun _ => by omega) rfl) (
              dI (duty_call [.v (.agg #[.int .i64 ((nd 0)), .int .i64 ((kd 0)), .int .i64 ((ct 0)), .bool d1, .slice B1 l1 m1, .slice B2 l2 m2])] rfl rfl (by kernel_rfl) (by kernel_rfl) fun x vs hx hC hv => by
                obtain ⟨v1, rfl, rfl⟩ := satL1 hv
                refine (total_any x lo K _ _ _ _ _ _ _ _ _ _ _ HC1.out HC2.out (HR0.out.below hx) (by omega)).mono ?_
                rintro en w2 ⟨v2, rfl, hr2, hb⟩
                refine ⟨_, rfl, ?_, hb⟩
                show RatR w2 wr.heap.size v2 (lv 0)
                rw [hlv0.out]
                exact hr2.lower hx.size) (
              dI (duty_call [.f 0, .f 1] rfl rfl (by kernel_rfl) (by kernel_rfl) fun x vs hx hC hv => by
                obtain ⟨v1, v2, rfl, h1, h2⟩ := satL2 hv
                have h1 : RatV x wr.heap.size v1 3 (mkRat peak 1) := h1
                have h2 : RatV x wr.heap.size v2 (K + 5) (lv 0) := RatR.toV (show RatR x wr.heap.size v2 (lv 0) from h2) hsz0.out
                refine (Cmp_any x _ _ v1 v2 _ _ _ _ h1 h2 (by omega)).mono ?_
                rintro en w2 ⟨rfl, hb⟩
                rw [← hz.out]
                exact ⟨_, rfl, rfl, hb⟩) (
              dI (duty_cmp (op := .gtr) rfl rfl .i64 z 0 .t (by kernel_rfl) (cmp_t (show (z : Int) > 0 by omega))) (dN))))))) ?_
            intro S x1 hbx hS
            obtain ⟨g16, _⟩ : S 16 = .bool true ∧ True := hS (l := [(16, .b .t)]) (by kernel_rfl)
            clear hS
            simp only [nv, Nat.reduceAdd, List.length_cons, List.length_nil, List.drop_succ_cons, List.drop_zero, g16]
            clear g16
            have HX := Lib.hid hbx
            clear hbx
            go_wp2
            go_ret
            exact ⟨by rw [HANS.out, if_pos (by refine ⟨by first | rfl | trivial, hn0, ?_⟩; rw [← hz.out]; exact hzp)]; rfl, HBW.out.trans (HX.out.mono HBW.out.size)⟩
          · skip
            refine wp_region_sym (⟨[(b, (off + 0 * 6), [.int .i64 ((nd 0)), .int .i64 ((kd 0)), .int .i64 ((ct 0)), .bool d1, .slice B1 l1 m1, .slice B2 l2 m2])], [], [fun v x => RatV x wr.heap.size v 3 (mkRat peak 1), fun v x => RatR x wr.heap.size v (lv 0)], [(0, .v (.slice (some ⟨b, off, none⟩) n c)), (1, .v (.int .i64 peak)), (2, .v (.bool false))], [(5, .b .t), (9, .f 0), (11, .p 0 0), (13, .f 1), (14, .v (.int .i64 z)), (15, .b .f)]⟩ : Sp) [104, 105, 106, 107, 108, 109, 110, 111, 112, 113, 114, 115, 116, 117, 118, 119, 120] wr ((Below.refl _ _).drew) (by kernel_rfl) (by kernel_rfl) (by kernel_rfl) (sI (fun v x x' h hb => RatV.below h hb) (sI (fun v x x' h hb => RatR.below h hb) sN)) (by kernel_rfl)
              (fun x hx => (mI (HC0.out.sure hx HC0l.out) mN)) (dI (duty_cmp (op := .gtr) rfl rfl .i64 n 0 .t (by kernel_rfl) (cmp_t (show (n : Int) > 0 by omega))) (
              dI (duty_call [.v (.int .i64 peak)] rfl rfl (by kernel_rfl) (by kernel_rfl) fun x vs hx hC hv => by
                obtain ⟨v1, rfl, rfl⟩ := satL1 hv
                refine (fromInt_any x peak HP1.out HP2.out).mono ?_
                rintro en w2 ⟨v2, rfl, hr2, hb⟩
                exact ⟨_, rfl, (hr2.lower hx.size).toV (sz_i64 HP1.out HP2.out), hb⟩) (
              dI (duty_index rfl rfl b (off) n c .i64 0 6 0 (by kernel_rfl) (by kernel_rfl) (fun _ => by omega) rfl) (
              dI (duty_call [.v (.agg #[.int .i64 ((nd 0)), .int .i64 ((kd 0)), .int .i64 ((ct 0)), .bool d1, .slice B1 l1 m1, .slice B2 l2 m2])] rfl rfl (by kernel_rfl) (by kernel_rfl) fun x vs hx hC hv => by
                obtain ⟨v1, rfl, rfl⟩ := satL1 hv
                refine (total_any x lo K _ _ _ _ _ _ _ _ _ _ _ HC1.out HC2.out (HR0.out.below hx) (by omega)).mono ?_
                rintro en w2 ⟨v2, rfl, hr2, hb⟩
                refine ⟨_, rfl, ?_, hb⟩
                show RatR w2 wr.heap.size v2 (lv 0)
                rw [hlv0.out]
                exact hr2.lower hx.size) (
              dI (duty_call [.f 0, .f 1] rfl rfl (by kernel_rfl) (by kernel_rfl) fun x vs hx hC hv => by
                obtain ⟨v1, v2, rfl, h1, h2⟩ := satL2 hv
                have h1 : RatV x wr.heap.size v1 3 (mkRat peak 1) := h1
                have h2 : RatV x wr.heap.size v2 (K + 5) (lv 0) := RatR.toV (show RatR x wr.heap.size v2 (lv 0) from h2) hsz0.out
                refine (Cmp_any x _ _ v1 v2 _ _ _ _ h1 h2 (by omega)).mono ?_
                rintro en w2 ⟨rfl, hb⟩
                rw [← hz.out]
                exact ⟨_, rfl, rfl, hb⟩) (
              dI (duty_cmp (op := .gtr) rfl rfl .i64 z 0 .f (by kernel_rfl) (cmp_f (show ¬ (z : Int) > 0 by omega))) (dN))))))) ?_
            intro S x1 hbx hS
            obtain ⟨g16, _⟩ : S 16 = .bool false ∧ True := hS (l := [(16, .b .f)]) (by kernel_rfl)
            clear hS
            simp only [nv, Nat.reduceAdd, List.length_cons, List.length_nil, List.drop_succ_cons, List.drop_zero, g16]
            clear g16
            have HX := Lib.hid hbx
            clear hbx
            go_wp2
            go_ret
            exact ⟨by rw [HANS.out, if_neg (fun h => by have h3 := h.2.2; rw [← hz.out] at h3; omega)]; rfl, HBW.out.trans (HX.out.mono HBW.out.size)⟩
end Go.Proofs.YtgheaoaicbkaoaaGreatDoor

