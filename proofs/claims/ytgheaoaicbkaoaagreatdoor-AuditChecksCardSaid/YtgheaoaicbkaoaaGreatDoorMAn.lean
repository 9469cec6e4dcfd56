/-
  Audits: the walk of the reference's CheckPoints.
-/
import Derived.Test.YtgheaoaicbkaoaaGreatDoorMAl
import Derived.Deep.CutBlock
import Derived.Deep.CutRange
namespace Go.Proofs.YtgheaoaicbkaoaaGreatDoor
open Go.RowKit AC
set_option linter.unusedVariables false
set_option linter.unusedSimpArgs false
theorem info_bool1 : (Tryz.prog.info? 4).map (fun i => (i.size, i.bytes, i.zero)) = some (1, 1, some (.bool false)) := by kernel_rfl
theorem run_mkBo (w : World) (n : Nat) (hn : n ≤ 1000000) :
    (Instr.makeSlice 70 (.int .i64 n) (.int .i64 n)).run Tryz.prog w = .ok (.slice (some ⟨w.heap.size, 0, none⟩) n n) (w.alloc (.cells (madeCells #[.bool false] n) 4)) := by
  obtain ⟨i, hi, hzz⟩ := Option.map_eq_some_iff.1 info_bool1
  simp only [Prod.mk.injEq] at hzz
  obtain ⟨h1, h2, h3⟩ := hzz
  have hrun := run_make (P := Tryz.prog) w 70 4 i _ Tryz.underlying70 hi h3 .i64 .i64 n n (by omega) (by omega) (by rw [h2]; omega) (by omega)
  simp only [Int.toNat_natCast] at hrun
  rw [h1, Nat.mul_one] at hrun
  exact hrun
/-- Ahead of point i. -/
def RefI (w : World) (n : Nat) (lower : Bool) (nd kd ct : Nat → Int) (lv : Nat → Rat) (i : Nat) (cl : Nat → Bool) (iv : Value) (wr : World) : Prop :=
  i ≤ n ∧ iv = .int .i64 i ∧ (∀ j, i ≤ j → cl j = false) ∧ wr.rowIs w.heap.size 4 n (fun j => .bool (cl j)) ∧ Below w.heap.size w wr ∧ runP lower nd kd ct lv n 0 [] = runP lower nd kd ct lv (n - i) i (opn kd cl i)
theorem ref_close {lower : Bool} {nd kd ct : Nat → Int} {lv : Nat → Rat} {cl : Nat → Bool} {n i m : Nat} (hi : i < n) (hk : kd i ≠ 1) (hf : fnd nd (nd i) (opn kd cl i) = some m) (hb : badP lower nd kd ct lv i (opn kd cl i) = false) (hr : runP lower nd kd ct lv n 0 [] = runP lower nd kd ct lv (n - i) i (opn kd cl i)) :
    runP lower nd kd ct lv n 0 [] = runP lower nd kd ct lv (n - (i + 1)) (i + 1) (opn kd (fun x => if x = m then true else cl x) (i + 1)) := by
  rw [run_next hi hb hr, nxtP_close hk hf, opn_skip hk, opn_close]
theorem PtsV.at2 {w : World} {lo n K b off c : Nat} {nd kd ct : Nat → Int} {r : Nat → Rat} (h : PtsV w lo (.slice (some ⟨b, off, none⟩) n c) n K nd kd ct r) {i : Nat} (hi : i < n) : b < w.heap.size ∧
    ∃ s An kn cn Ad km cm, CellsA w b (off + i * 6) [.int .i64 (nd i), .int .i64 (kd i), .int .i64 (ct i), .bool s, .slice An kn cn, .slice Ad km cm] ∧ (-9223372036854775808 ≤ ct i ∧ ct i ≤ 9223372036854775807) ∧ RatV w lo (.agg #[.bool s, .slice An kn cn, .slice Ad km cm]) K (r i) := by
  obtain ⟨b', off', e, hb, hat⟩ := h.at (by omega)
  injection e with e
  injection e with e1 e2
  subst e1
  subst e2
  exact ⟨hb, hat i hi⟩
set_option maxHeartbeats 40000000 in
set_option maxRecDepth 100000 in
theorem cpoints_any {w : World} {lo n K : Nat} {v : Value} {nd kd ct : Nat → Int} {r lv : Nat → Rat} (hv : PtsV w lo v n K nd kd ct r) (hlv : ∀ i, lv i = lvl (ct i) (r i)) (hn : n ≤ 1000) (hK : K ≤ 100) (lower : Bool) (peak : Int) (hp1 : -9223372036854775808 ≤ peak) (hp2 : peak ≤ 9223372036854775807) :
    Calls Tryz.prog 7 #[v, .int .i64 peak, .bool lower] w (fun e w' => e = .returned (.int .i64 (ansP lower nd kd ct lv n peak)) ∧ Below w.heap.size w w') := by
  have HV := Lib.hid hv
  have HL := Lib.hid hlv
  have HP1 := Lib.hid hp1
  have HP2 := Lib.hid hp2
  obtain ⟨A, c, rfl, hnc, hcm⟩ := hv.form
  have hmk := run_mkBo w n (by omega)
  clear hv hlv hp1 hp2
  go_enter Tryz.func7, Tryz.ntmps7
  go_upto_region 2 with (fail)
  clear hmk
  obtain ⟨G, hG⟩ : ∃ G, G = w.alloc (.cells (madeCells #[.bool false] n) 4) := ⟨_, rfl⟩
  have HR0 : Hid (G.rowIs w.heap.size 4 n (fun j => .bool ((fun _ => false) j))) := by rw [hG]; exact World.rowIs_made w (.bool false) n 4
  have HG : Hid (Below w.heap.size w G) := by rw [hG]; exact (Below.refl _ _).alloc (Nat.le_refl _) _
  rw [← hG]
  clear hG
  go_wp2
  go_loopw [18] (fun iv wr => ∃ (i : Nat) (cl : Nat → Bool), RefI w n lower nd kd ct lv i cl iv wr) (fun iv _ => n - (intOf iv).toNat)
  case atStart => exact ⟨0, fun _ => false, Nat.zero_le _, rfl, fun _ _ => rfl, HR0.out, HG.out, rfl⟩
  case round =>
    obtain ⟨i, cl, hin, rfl, hcl, hrow, hbw, hrun⟩ := hrel
    have HCL := Lib.hid hcl
    have HROW := Lib.hid hrow
    have HRUN := Lib.hid hrun
    clear hcl hrow hrun
    by_cases hlt : i < n
    · obtain ⟨b, off, s0, An, kn, cn, Ad, km, cm, rfl, hlb, hbb, g1, g2, g3, g4, g5, g6, ⟨h1, h2⟩, hr, hkn, hkm⟩ := HV.out.elem hlt
      obtain ⟨x0, hx0⟩ : ∃ x, Hid (x = nd i) := ⟨_, rfl⟩
      obtain ⟨y0, hy0⟩ : ∃ x, Hid (x = kd i) := ⟨_, rfl⟩
      obtain ⟨c0, hc0⟩ : ∃ x, Hid (x = ct i) := ⟨_, rfl⟩
      rw [← hx0.out] at g1
      rw [← hy0.out] at g2
      rw [← hc0.out] at g3 h1 h2
      have H1 := Lib.hid h1
      have H2 := Lib.hid h2
      have HR := Lib.hid (hr.below hbw)
      have HRW0 := Lib.hid hr
      have c1 := (hbw.cell (p := ⟨b, off + i * 6, none⟩) hbb).trans g1
      have c2 := (hbw.cell (p := ⟨b, off + i * 6 + 1, none⟩) hbb).trans g2
      have c3 := (hbw.cell (p := ⟨b, off + i * 6 + 2, none⟩) hbb).trans g3
      have c4 := (hbw.cell (p := ⟨b, off + i * 6 + 3, none⟩) hbb).trans g4
      have c5 := (hbw.cell (p := ⟨b, off + i * 6 + 4, none⟩) hbb).trans g5
      have c6 := (hbw.cell (p := ⟨b, off + i * 6 + 5, none⟩) hbb).trans g6
      clear g1 g2 g3 g4 g5 g6 h1 h2 hr
      have hlvi : Hid (lv i = lvl c0 (r i)) := by rw [hc0.out]; exact HL.out i
      have hszi : Hid (sz (lv i) ≤ K + 5) := by
        show sz (lv i) ≤ K + 5
        rw [hlvi.out]
        exact sz_lvl H1.out H2.out HR.out.size
      go_upto_region 5 with (fail)
      obtain ⟨W, hW⟩ : ∃ W, W = wr.alloc (.cells #[.int .i64 x0, .int .i64 y0, .int .i64 c0, .bool s0, .slice An kn cn, .slice Ad km cm] 29) := ⟨_, rfl⟩
      have HP : Hid (Bk W wr.heap.size 29 #[.int .i64 x0, .int .i64 y0, .int .i64 c0, .bool s0, .slice An kn cn, .slice Ad km cm]) := by rw [hW]; exact Bk.new _ _ _
      have HB : Hid (Below w.heap.size w W) := by rw [hW]; exact hbw.alloc hbw.size _
      have hBR : Below wr.heap.size wr W := by rw [hW]; exact (Below.refl _ _).alloc (Nat.le_refl _) _
      have HRW : Hid (W.rowIs w.heap.size 4 n (fun j => .bool (cl j))) := HROW.out.of_block (hBR.block _ HROW.out.lt)
      have HR1 : Hid (RatV W lo (.agg #[.bool s0, .slice An kn cn, .slice Ad km cm]) K (r i)) := HR.out.below hBR
      rw [← hW]
      obtain ⟨pb, hpb⟩ : ∃ pb, Hid (pb = wr.heap.size) := ⟨_, rfl⟩
      rw [← hpb.out] at HP ⊢
      have hzW : Hid (pb < W.heap.size) := HP.out.lt
      have hzw : Hid (w.heap.size < pb) := by rw [hpb.out]; exact HROW.out.lt
      have hbw0 : Hid (b < w.heap.size) := hbb
      clear hW HROW HR c1 c2 c3 c4 c5 c6 hbw hBR hpb
      obtain ⟨hp0, hpf, hpl⟩ := HP.out.facts
      by_cases hk1 : y0 < 1
      · go_wp2
        go_ret
        exact ⟨by rw [run_bad hlt (badP_kind (by rw [← hy0.out]; omega) (by rw [← hy0.out]; omega) (by rw [← hy0.out]; omega)) HRUN.out]; rfl, HB.out⟩
      by_cases hk3 : 3 < y0
      · go_wp2
        go_ret
        exact ⟨by rw [run_bad hlt (badP_kind (by rw [← hy0.out]; omega) (by rw [← hy0.out]; omega) (by rw [← hy0.out]; omega)) HRUN.out]; rfl, HB.out⟩
      go_upto_if 33 with (fail)
      go_cut [10] from 34 to 64 (fun jv wx => Hid (over lower ct lv i (opn kd cl i) = false) ∧ Hid (Below W.heap.size W wx))
      case first =>
        clear hp0 hpf
        cases lower with
        | true =>
          go_wp2
          go_meet
          exact ⟨over_none (.inl rfl), Below.refl _ _⟩
        | false =>
          go_wp2
          go_loopw [10] (fun jv wx => ∃ j : Nat, j ≤ i ∧ jv = .int .i64 j ∧ Hid (∀ m, m < j → kd m = 1 → cl m = false → ¬ 0 < cmpQ (mkRat (ct i) 1) (lv m)) ∧ Hid (Below W.heap.size W wx)) (fun jv _ => i - (intOf jv).toNat)
          case atStart => exact ⟨0, Nat.zero_le _, rfl, (fun m h => absurd h (by omega)), Below.refl _ _⟩
          case round =>
            obtain ⟨j, hji, rfl, hno, hX⟩ := hrel
            by_cases hlt2 : j < i
            · have hBx := Lib.hid (HB.out.trans (hX.out.mono HB.out.size))
              obtain ⟨_, sj, Anj, knj, cnj, Adj, kmj, cmj, hcj, ⟨h1, h2⟩, hrj⟩ := HV.out.at2 (i := j) (by omega)
              obtain ⟨xj, hxj⟩ : ∃ x, Hid (x = nd j) := ⟨_, rfl⟩
              obtain ⟨yj, hyj⟩ : ∃ x, Hid (x = kd j) := ⟨_, rfl⟩
              obtain ⟨zj, hzj⟩ : ∃ x, Hid (x = ct j) := ⟨_, rfl⟩
              rw [← hxj.out, ← hyj.out, ← hzj.out] at hcj
              rw [← hzj.out] at h1 h2
              have HJa := Lib.hid h1
              have HJb := Lib.hid h2
              obtain ⟨lj, hlj⟩ : ∃ x, Hid (x = cl j) := ⟨_, rfl⟩
              have hrow := HRW.out.of_block (hX.out.block _ HRW.out.lt)
              have hcb := hrow.cell (i := j) (by omega)
              simp only [← hlj.out] at hcb
              have HB1 : Hid (CellsA wr w.heap.size (0 + j * 1) [.bool lj]) := row1 hcb
              have HB1l : Hid (w.heap.size < wr.heap.size) := hrow.lt
              have HJ1 : Hid (CellsA wr b (off + j * 6) [.int .i64 xj, .int .i64 yj, .int .i64 zj, .bool sj, .slice Anj knj cnj, .slice Adj kmj cmj]) := hcj.sure hBx.out hbw0.out
              have HJ1l : Hid (b < wr.heap.size) := Nat.lt_of_lt_of_le hbw0.out hBx.out.size
              have HRj : Hid (RatV wr lo (.agg #[.bool sj, .slice Anj knj cnj, .slice Adj kmj cmj]) K (r j)) := hrj.below hBx.out
              have HPx : Hid (Bk wr pb 29 #[.int .i64 x0, .int .i64 y0, .int .i64 c0, .bool s0, .slice An kn cn, .slice Ad km cm]) := HP.out.below hX.out HP.out.lt
              have hlvj : Hid (lv j = lvl zj (r j)) := by rw [hzj.out]; exact HL.out j
              have hszj : Hid (sz (lv j) ≤ K + 5) := by
                show sz (lv j) ≤ K + 5
                rw [hlvj.out]
                exact sz_lvl HJa.out HJb.out HRj.out.size
              obtain ⟨z, hz⟩ : ∃ z : Int, Hid (z = cmpQ (mkRat c0 1) (lv j)) := ⟨_, rfl⟩
              have hjn : j < n := by omega
              clear hcj h1 h2 hrj hrow hcb
              go_upto_region 11 with (fail)
              by_cases h1 : yj = 1
              · cases lj with
                | true =>
                  refine wp_region_sym (⟨[(pb, 0, [.int .i64 x0, .int .i64 y0, .int .i64 c0, .bool s0, .slice An kn cn, .slice Ad km cm]), (b, (off + j * 6), [.int .i64 xj, .int .i64 yj, .int .i64 zj, .bool sj, .slice Anj knj cnj, .slice Adj kmj cmj]), (w.heap.size, (0 + j * 1), [.bool true])], [], [], [(0, .v (.slice (some ⟨b, off, none⟩) n c)), (7, .v (.slice (some ⟨w.heap.size, 0, none⟩) n n)), (10, .v (.int .i64 ((j : Int))))], [(2, .p 1 0), (5, .b .t), (9, .p 2 0)]⟩ : Sp) [39, 40, 41, 42, 43, 44, 45, 46, 47, 48, 49, 50, 51, 52, 53, 54, 55, 56, 57, 58, 59, 60, 61, 62, 63] wr ((Below.refl _ _).drew) (by kernel_rfl) (by kernel_rfl) (by kernel_rfl) sN (by kernel_rfl)
                    (fun x hx => (mI (bk_cells (HPx.out.below hx HPx.out.lt)) (mI (HJ1.out.sure hx HJ1l.out) (mI (HB1.out.sure hx HB1l.out) mN)))) (dI (duty_index rfl rfl b (off) n c .i64 j 6 1 (by kernel_rfl) (by kernel_rfl) (fun _ => by omega) rfl) (
                    dI (duty_cmp (op := .eql) rfl rfl .i64 yj 1 .t (by kernel_rfl) (cmp_t (show (yj : Int) = 1 by omega))) (
                    dI (duty_index rfl rfl w.heap.size (0) n n .i64 j 1 2 (by kernel_rfl) (by kernel_rfl) (fun _ => by omega) rfl) (dN)))) ?_
                  intro S x1 hbx hS
                  obtain ⟨g24, _⟩ : S 24 = .bool false ∧ True := hS (l := [(24, .v (.bool false))]) (by kernel_rfl)
                  clear hS
                  simp only [nv, Nat.reduceAdd, List.length_cons, List.length_nil, List.drop_succ_cons, List.drop_zero, g24]
                  clear g24
                  go_wp2
                  go_roundw
                  case rel =>
                    refine ⟨j + 1, by omega, by simp, fun m hm1 h3 h4 => ?_, hX.out.trans (hbx.mono hX.out.size)⟩
                    rcases Nat.lt_succ_iff_lt_or_eq.1 hm1 with hm1 | e
                    · exact hno.out m hm1 h3 h4
                    · subst e
                      rw [← hlj.out] at h4; cases h4
                  case measure => simp [intOf]; omega
                | false =>
                  by_cases hzp : 0 < z
                  · skip
                    refine wp_region_sym (⟨[(pb, 0, [.int .i64 x0, .int .i64 y0, .int .i64 c0, .bool s0, .slice An kn cn, .slice Ad km cm]), (b, (off + j * 6), [.int .i64 xj, .int .i64 yj, .int .i64 zj, .bool sj, .slice Anj knj cnj, .slice Adj kmj cmj]), (w.heap.size, (0 + j * 1), [.bool false])], [], [fun v x => RatV x wr.heap.size v 3 (mkRat c0 1), fun v x => RatR x wr.heap.size v (lv j)], [(0, .v (.slice (some ⟨b, off, none⟩) n c)), (7, .v (.slice (some ⟨w.heap.size, 0, none⟩) n n)), (9, .p 0 0), (10, .v (.int .i64 ((j : Int))))], [(2, .p 1 0), (5, .b .t), (9, .p 2 0), (16, .f 0), (19, .p 1 0), (21, .f 1), (22, .v (.int .i64 z)), (23, .b .t)]⟩ : Sp) [39, 40, 41, 42, 43, 44, 45, 46, 47, 48, 49, 50, 51, 52, 53, 54, 55, 56, 57, 58, 59, 60, 61, 62, 63] wr ((Below.refl _ _).drew) (by kernel_rfl) (by kernel_rfl) (by kernel_rfl) (sI (fun v x x' h hb => RatV.below h hb) (sI (fun v x x' h hb => RatR.below h hb) sN)) (by kernel_rfl)
                      (fun x hx => (mI (bk_cells (HPx.out.below hx HPx.out.lt)) (mI (HJ1.out.sure hx HJ1l.out) (mI (HB1.out.sure hx HB1l.out) mN)))) (dI (duty_index rfl rfl b (off) n c .i64 j 6 1 (by kernel_rfl) (by kernel_rfl) (fun _ => by omega) rfl) (
                      dI (duty_cmp (op := .eql) rfl rfl .i64 yj 1 .t (by kernel_rfl) (cmp_t (show (yj : Int) = 1 by omega))) (
                      dI (duty_index rfl rfl w.heap.size (0) n n .i64 j 1 2 (by kernel_rfl) (by kernel_rfl) (fun _ => by omega) rfl) (
                      dI (duty_call [.v (.int .i64 c0)] rfl rfl (by kernel_rfl) (by kernel_rfl) fun x vs hx hC hv => by
                        obtain ⟨v1, rfl, rfl⟩ := satL1 hv
                        refine (rFromInt_any x c0 H1.out H2.out).mono ?_
                        rintro en w2 ⟨v2, rfl, hr2, hb⟩
                        exact ⟨_, rfl, (hr2.lower hx.size).toV (sz_i64 H1.out H2.out), hb⟩) (
                      dI (duty_index rfl rfl b (off) n c .i64 j 6 1 (by kernel_rfl) (by kernel_rfl) (fun _ => by omega) rfl) (
                      dI (duty_call [.v (.agg #[.int .i64 xj, .int .i64 yj, .int .i64 zj, .bool sj, .slice Anj knj cnj, .slice Adj kmj cmj])] rfl rfl (by kernel_rfl) (by kernel_rfl) fun x vs hx hC hv => by
                        obtain ⟨v1, rfl, rfl⟩ := satL1 hv
                        refine (level_any x lo K _ _ _ _ _ _ _ _ _ _ _ HJa.out HJb.out (HRj.out.below hx) (by omega)).mono ?_
                        rintro en w2 ⟨v2, rfl, hr2, hb⟩
                        refine ⟨_, rfl, ?_, hb⟩
                        show RatR w2 wr.heap.size v2 (lv j)
                        rw [hlvj.out]
                        exact hr2.lower hx.size) (
                      dI (duty_call [.f 0, .f 1] rfl rfl (by kernel_rfl) (by kernel_rfl) fun x vs hx hC hv => by
                        obtain ⟨v1, v2, rfl, h1, h2⟩ := satL2 hv
                        have h1 : RatV x wr.heap.size v1 3 (mkRat c0 1) := h1
                        have h2 : RatV x wr.heap.size v2 (K + 5) (lv j) := RatR.toV (show RatR x wr.heap.size v2 (lv j) from h2) hszj.out
                        refine (rCmp_any x _ _ v1 v2 _ _ _ _ h1 h2 (by omega)).mono ?_
                        rintro en w2 ⟨rfl, hb⟩
                        rw [← hz.out]
                        exact ⟨_, rfl, rfl, hb⟩) (
                      dI (duty_cmp (op := .gtr) rfl rfl .i64 z 0 .t (by kernel_rfl) (cmp_t (show (z : Int) > 0 by omega))) (dN))))))))) ?_
                    intro S x1 hbx hS
                    obtain ⟨g24, _⟩ : S 24 = .bool true ∧ True := hS (l := [(24, .b .t)]) (by kernel_rfl)
                    clear hS
                    simp only [nv, Nat.reduceAdd, List.length_cons, List.length_nil, List.drop_succ_cons, List.drop_zero, g24]
                    clear g24
                    have HX2 := Lib.hid (hBx.out.trans (hbx.mono hBx.out.size))
                    clear hbx
                    go_wp2
                    go_ret
                    exact ⟨by rw [run_bad hlt (badP_over (over_opn_at rfl hlt2 (by rw [← hyj.out]; exact h1) hlj.out.symm (by rw [← hc0.out, ← hz.out]; exact hzp))) HRUN.out]; rfl, HX2.out⟩
                  · skip
                    refine wp_region_sym (⟨[(pb, 0, [.int .i64 x0, .int .i64 y0, .int .i64 c0, .bool s0, .slice An kn cn, .slice Ad km cm]), (b, (off + j * 6), [.int .i64 xj, .int .i64 yj, .int .i64 zj, .bool sj, .slice Anj knj cnj, .slice Adj kmj cmj]), (w.heap.size, (0 + j * 1), [.bool false])], [], [fun v x => RatV x wr.heap.size v 3 (mkRat c0 1), fun v x => RatR x wr.heap.size v (lv j)], [(0, .v (.slice (some ⟨b, off, none⟩) n c)), (7, .v (.slice (some ⟨w.heap.size, 0, none⟩) n n)), (9, .p 0 0), (10, .v (.int .i64 ((j : Int))))], [(2, .p 1 0), (5, .b .t), (9, .p 2 0), (16, .f 0), (19, .p 1 0), (21, .f 1), (22, .v (.int .i64 z)), (23, .b .f)]⟩ : Sp) [39, 40, 41, 42, 43, 44, 45, 46, 47, 48, 49, 50, 51, 52, 53, 54, 55, 56, 57, 58, 59, 60, 61, 62, 63] wr ((Below.refl _ _).drew) (by kernel_rfl) (by kernel_rfl) (by kernel_rfl) (sI (fun v x x' h hb => RatV.below h hb) (sI (fun v x x' h hb => RatR.below h hb) sN)) (by kernel_rfl)
                      (fun x hx => (mI (bk_cells (HPx.out.below hx HPx.out.lt)) (mI (HJ1.out.sure hx HJ1l.out) (mI (HB1.out.sure hx HB1l.out) mN)))) (dI (duty_index rfl rfl b (off) n c .i64 j 6 1 (by kernel_rfl) (by kernel_rfl) (fun _ => by omega) rfl) (
                      dI (duty_cmp (op := .eql) rfl rfl .i64 yj 1 .t (by kernel_rfl) (cmp_t (show (yj : Int) = 1 by omega))) (
                      dI (duty_index rfl rfl w.heap.size (0) n n .i64 j 1 2 (by kernel_rfl) (by kernel_rfl) (fun _ => by omega) rfl) (
                      dI (duty_call [.v (.int .i64 c0)] rfl rfl (by kernel_rfl) (by kernel_rfl) fun x vs hx hC hv => by
                        obtain ⟨v1, rfl, rfl⟩ := satL1 hv
                        refine (rFromInt_any x c0 H1.out H2.out).mono ?_
                        rintro en w2 ⟨v2, rfl, hr2, hb⟩
                        exact ⟨_, rfl, (hr2.lower hx.size).toV (sz_i64 H1.out H2.out), hb⟩) (
                      dI (duty_index rfl rfl b (off) n c .i64 j 6 1 (by kernel_rfl) (by kernel_rfl) (fun _ => by omega) rfl) (
                      dI (duty_call [.v (.agg #[.int .i64 xj, .int .i64 yj, .int .i64 zj, .bool sj, .slice Anj knj cnj, .slice Adj kmj cmj])] rfl rfl (by kernel_rfl) (by kernel_rfl) fun x vs hx hC hv => by
                        obtain ⟨v1, rfl, rfl⟩ := satL1 hv
                        refine (level_any x lo K _ _ _ _ _ _ _ _ _ _ _ HJa.out HJb.out (HRj.out.below hx) (by omega)).mono ?_
                        rintro en w2 ⟨v2, rfl, hr2, hb⟩
                        refine ⟨_, rfl, ?_, hb⟩
                        show RatR w2 wr.heap.size v2 (lv j)
                        rw [hlvj.out]
                        exact hr2.lower hx.size) (
                      dI (duty_call [.f 0, .f 1] rfl rfl (by kernel_rfl) (by kernel_rfl) fun x vs hx hC hv => by
                        obtain ⟨v1, v2, rfl, h1, h2⟩ := satL2 hv
                        have h1 : RatV x wr.heap.size v1 3 (mkRat c0 1) := h1
                        have h2 : RatV x wr.heap.size v2 (K + 5) (lv j) := RatR.toV (show RatR x wr.heap.size v2 (lv j) from h2) hszj.out
                        refine (rCmp_any x _ _ v1 v2 _ _ _ _ h1 h2 (by omega)).mono ?_
                        rintro en w2 ⟨rfl, hb⟩
                        rw [← hz.out]
                        exact ⟨_, rfl, rfl, hb⟩) (
                      dI (duty_cmp (op := .gtr) rfl rfl .i64 z 0 .f (by kernel_rfl) (cmp_f (show ¬ (z : Int) > 0 by omega))) (dN))))))))) ?_
                    intro S x1 hbx hS
                    obtain ⟨g24, _⟩ : S 24 = .bool false ∧ True := hS (l := [(24, .b .f)]) (by kernel_rfl)
                    clear hS
                    simp only [nv, Nat.reduceAdd, List.length_cons, List.length_nil, List.drop_succ_cons, List.drop_zero, g24]
                    clear g24
                    go_wp2
                    go_roundw
                    case rel =>
                      refine ⟨j + 1, by omega, by simp, fun m hm1 h3 h4 => ?_, hX.out.trans (hbx.mono hX.out.size)⟩
                      rcases Nat.lt_succ_iff_lt_or_eq.1 hm1 with hm1 | e
                      · exact hno.out m hm1 h3 h4
                      · subst e
                        intro h5; rw [← hc0.out, ← hz.out] at h5; omega
                    case measure => simp [intOf]; omega
              · skip
                refine wp_region_sym (⟨[(pb, 0, [.int .i64 x0, .int .i64 y0, .int .i64 c0, .bool s0, .slice An kn cn, .slice Ad km cm]), (b, (off + j * 6), [.int .i64 xj, .int .i64 yj, .int .i64 zj, .bool sj, .slice Anj knj cnj, .slice Adj kmj cmj]), (w.heap.size, (0 + j * 1), [.bool lj])], [], [], [(0, .v (.slice (some ⟨b, off, none⟩) n c)), (10, .v (.int .i64 ((j : Int))))], [(2, .p 1 0), (5, .b .f)]⟩ : Sp) [39, 40, 41, 42, 43, 44, 45, 46, 47, 48, 49, 50, 51, 52, 53, 54, 55, 56, 57, 58, 59, 60, 61, 62, 63] wr ((Below.refl _ _).drew) (by kernel_rfl) (by kernel_rfl) (by kernel_rfl) sN (by kernel_rfl)
                  (fun x hx => (mI (bk_cells (HPx.out.below hx HPx.out.lt)) (mI (HJ1.out.sure hx HJ1l.out) (mI (HB1.out.sure hx HB1l.out) mN)))) (dI (duty_index rfl rfl b (off) n c .i64 j 6 1 (by kernel_rfl) (by kernel_rfl) (fun _ => by omega) rfl) (
                  dI (duty_cmp (op := .eql) rfl rfl .i64 yj 1 .f (by kernel_rfl) (cmp_f (show ¬ (yj : Int) = 1 by omega))) (dN))) ?_
                intro S x1 hbx hS
                obtain ⟨g24, _⟩ : S 24 = .bool false ∧ True := hS (l := [(24, .v (.bool false))]) (by kernel_rfl)
                clear hS
                simp only [nv, Nat.reduceAdd, List.length_cons, List.length_nil, List.drop_succ_cons, List.drop_zero, g24]
                clear g24
                go_wp2
                go_roundw
                case rel =>
                  refine ⟨j + 1, by omega, by simp, fun m hm1 h3 h4 => ?_, hX.out.trans (hbx.mono hX.out.size)⟩
                  rcases Nat.lt_succ_iff_lt_or_eq.1 hm1 with hm1 | e
                  · exact hno.out m hm1 h3 h4
                  · subst e
                    exact absurd (hyj.out.trans h3) h1
                case measure => simp [intOf]; omega
            · have hji2 : j = i := by omega
              subst hji2
              go_wp2
              go_meet
              exact ⟨over_opn fun m h1 h2 h3 h4 => by have h5 := hno.out m h1 h2 h3; omega, hX⟩
      case rest =>
      obtain ⟨hov, hX⟩ := hcut
      have HBc := Lib.hid (HB.out.trans (hX.out.mono HB.out.size))
      have HRc := Lib.hid (HRW.out.of_block (hX.out.block _ HRW.out.lt))
      have HPc := Lib.hid (HP.out.below hX.out HP.out.lt)
      have hzc : Hid (pb < wc.heap.size) := HPc.out.lt
      clear hp0 hpf hpl HB HRW HP HR1 hX hzW
      obtain ⟨hp0, hpf, hpl⟩ := HPc.out.facts
      by_cases hy1 : y0 = 1
      · subst hy1
        have hkd : Hid (kd i = 1) := hy0.out.symm
        go_wp2
        go_roundw
        case rel => exact ⟨i + 1, cl, by omega, by simp, fun j hj => HCL.out j (by omega), HRc.out, HBc.out, by rw [run_next hlt (badP_enter hkd.out hov.out) HRUN.out, nxtP_enter hkd.out, opn_enter hkd.out (HCL.out i (Nat.le_refl _))]⟩
        case measure => simp [intOf]; omega
      · have hkd1 : Hid (kd i ≠ 1) := by rw [← hy0.out]; exact hy1
        have hy1b : (y0 == 1) = false := by simp [hy1]
        go_wp2_with fail
        refine (opened_any (HV.out.below HBc.out) HRc.out i hlt hn).mono ?_
        rintro e w3 ⟨⟨rr, rfl, hL⟩, hb3⟩
        have HB3 := Lib.hid (HBc.out.trans (hb3.mono HBc.out.size))
        rcases hL with ⟨rfl, hno⟩ | ⟨m, rfl, hmi, hkm, hclm, hndm, hlast⟩
        · have HN := Lib.hid hno
          clear hno hb3
          go_wp2
          go_ret
          exact ⟨by rw [run_bad hlt (badP_none hkd1.out (fnd_opn_none HN.out)) HRUN.out]; rfl, HB3.out⟩
        · have hfnd : Hid (fnd nd (nd i) (opn kd cl i) = some m) := fnd_opn_some hmi hkm hclm hndm hlast
          have HR3 := Lib.hid (HRc.out.of_block (hb3.block _ HRc.out.lt))
          have HP3 := Lib.hid (HPc.out.below hb3 HPc.out.lt)
          have hc3 := HR3.out.cell (i := m) (by omega)
          have hf3 := HR3.out.frozen m
          have hl3 := HR3.out.lt
          have hmn : m < n := by omega
          clear hp0 hpf hpl hb3 hkm hclm hndm hlast
          go_upto_region 18 with (fail)
          obtain ⟨w4, hw4⟩ : ∃ w4, w4 = w3.setCell ⟨w.heap.size, m, none⟩ (.bool true) := ⟨_, rfl⟩
          rw [← hw4]
          have HB4 : Hid (Below w.heap.size w w4) := by rw [hw4]; exact HB3.out.setCell (p := ⟨w.heap.size, m, none⟩) (Nat.le_refl _) _
          have HR4 : Hid (w4.rowIs w.heap.size 4 n (fun j => .bool (if j = m then true else cl j))) := by
            rw [hw4]
            exact (HR3.out.set m (.bool true)).congr fun j hj => by by_cases h : j = m <;> simp [h]
          have HP4 : Hid (Bk w4 pb 29 #[.int .i64 x0, .int .i64 y0, .int .i64 c0, .bool s0, .slice An kn cn, .slice Ad km cm]) := by rw [hw4]; exact Bk.far HP3.out (p := ⟨w.heap.size, m, none⟩) (by show pb ≠ w.heap.size; have := hzw.out; omega) _
          clear hw4 hc3 hf3 hl3 HR3 HP3 HB3
          obtain ⟨_, si, Ani, kni, cni, Adi, kmi, cmi, _, _, hri⟩ := HV.out.at2 hlt
          obtain ⟨_, sm, Anm, knm, cnm, Adm, kmm, cmm, hcm', ⟨h1, h2⟩, hrm⟩ := HV.out.at2 hmn
          obtain ⟨zm, hzm⟩ : ∃ x, Hid (x = ct m) := ⟨_, rfl⟩
          rw [← hzm.out] at hcm' h1 h2
          have HMa := Lib.hid h1
          have HMb := Lib.hid h2
          have HM4 : Hid (CellsA w4 b (off + m * 6) [.int .i64 (nd m), .int .i64 (kd m), .int .i64 zm, .bool sm, .slice Anm knm cnm, .slice Adm kmm cmm]) := hcm'.sure HB4.out hbw0.out
          have HM4l : Hid (b < w4.heap.size) := Nat.lt_of_lt_of_le hbw0.out HB4.out.size
          have HRm : Hid (RatV w4 lo (.agg #[.bool sm, .slice Anm knm cnm, .slice Adm kmm cmm]) K (r m)) := hrm.below HB4.out
          have HRi : Hid (RatV w4 lo (.agg #[.bool s0, .slice An kn cn, .slice Ad km cm]) K (r i)) := HRW0.out.below HB4.out
          have hlvm : Hid (lv m = lvl zm (r m)) := by rw [hzm.out]; exact HL.out m
          have hszm : Hid (sz (lv m) ≤ K + 5) := by
            show sz (lv m) ≤ K + 5
            rw [hlvm.out]
            exact sz_lvl HMa.out HMb.out HRm.out.size
          obtain ⟨z, hz⟩ : ∃ z : Int, Hid (z = cmpQ (lv i) (lv m)) := ⟨_, rfl⟩
          clear hcm' h1 h2 hrm hri
          refine wp_region_sym (⟨[(pb, 0, [.int .i64 x0, .int .i64 y0, .int .i64 c0, .bool s0, .slice An kn cn, .slice Ad km cm]), (b, (off + m * 6), [.int .i64 ((nd m)), .int .i64 ((kd m)), .int .i64 zm, .bool sm, .slice Anm knm cnm, .slice Adm kmm cmm])], [], [fun v x => RatR x w4.heap.size v (lv i), fun v x => RatR x w4.heap.size v (lv m)], [(0, .v (.slice (some ⟨b, off, none⟩) n c)), (9, .p 0 0), (11, .v (.int .i64 ((m : Int))))], [(1, .f 0), (4, .p 1 0), (6, .f 1), (7, .v (.int .i64 z))]⟩ : Sp) [78, 79, 80, 81, 82, 83, 84, 85, 12] w4 ((Below.refl _ _).drew) (by kernel_rfl) (by kernel_rfl) (by kernel_rfl) (sI (fun v x x' h hb => RatR.below h hb) (sI (fun v x x' h hb => RatR.below h hb) sN)) (by kernel_rfl)
            (fun x hx => (mI (bk_cells (HP4.out.below hx HP4.out.lt)) (mI (HM4.out.sure hx HM4l.out) mN))) (dI (duty_call [.v (.agg #[.int .i64 x0, .int .i64 y0, .int .i64 c0, .bool s0, .slice An kn cn, .slice Ad km cm])] rfl rfl (by kernel_rfl) (by kernel_rfl) fun x vs hx hC hv => by
              obtain ⟨v1, rfl, rfl⟩ := satL1 hv
              refine (level_any x lo K _ _ _ _ _ _ _ _ _ _ _ H1.out H2.out (HRi.out.below hx) (by omega)).mono ?_
              rintro en w2 ⟨v2, rfl, hr2, hb⟩
              refine ⟨_, rfl, ?_, hb⟩
              show RatR w2 w4.heap.size v2 (lv i)
              rw [hlvi.out]
              exact hr2.lower hx.size) (
            dI (duty_index rfl rfl b (off) n c .i64 m 6 1 (by kernel_rfl) (by kernel_rfl) (fun _ => by omega) rfl) (
            dI (duty_call [.v (.agg #[.int .i64 ((nd m)), .int .i64 ((kd m)), .int .i64 zm, .bool sm, .slice Anm knm cnm, .slice Adm kmm cmm])] rfl rfl (by kernel_rfl) (by kernel_rfl) fun x vs hx hC hv => by
              obtain ⟨v1, rfl, rfl⟩ := satL1 hv
              refine (level_any x lo K _ _ _ _ _ _ _ _ _ _ _ HMa.out HMb.out (HRm.out.below hx) (by omega)).mono ?_
              rintro en w2 ⟨v2, rfl, hr2, hb⟩
              refine ⟨_, rfl, ?_, hb⟩
              show RatR w2 w4.heap.size v2 (lv m)
              rw [hlvm.out]
              exact hr2.lower hx.size) (
            dI (duty_call [.f 0, .f 1] rfl rfl (by kernel_rfl) (by kernel_rfl) fun x vs hx hC hv => by
              obtain ⟨v1, v2, rfl, h1, h2⟩ := satL2 hv
              have h1 : RatV x w4.heap.size v1 (K + 5) (lv i) := RatR.toV (show RatR x w4.heap.size v1 (lv i) from h1) hszi.out
              have h2 : RatV x w4.heap.size v2 (K + 5) (lv m) := RatR.toV (show RatR x w4.heap.size v2 (lv m) from h2) hszm.out
              refine (rCmp_any x _ _ v1 v2 _ _ _ _ h1 h2 (by omega)).mono ?_
              rintro en w2 ⟨rfl, hb⟩
              rw [← hz.out]
              exact ⟨_, rfl, rfl, hb⟩) (dN))))) ?_
          intro S x1 hbx hS
          obtain ⟨g8, _⟩ : S 8 = .int .i64 z ∧ True := hS (l := [(8, .v (.int .i64 z))]) (by kernel_rfl)
          clear hS
          simp only [nv, Nat.reduceAdd, List.length_cons, List.length_nil, List.drop_succ_cons, List.drop_zero, g8]
          clear g8
          have HB5 := Lib.hid (HB4.out.trans (hbx.mono HB4.out.size))
          have HR5 := Lib.hid (HR4.out.of_block (hbx.block _ HR4.out.lt))
          obtain ⟨hp0, hpf, hpl⟩ := (HP4.out.below hbx HP4.out.lt).facts
          clear hbx
          by_cases hy2 : y0 = 2
          · subst hy2
            have hkd : Hid (kd i = 2) := hy0.out.symm
            cases hlo : lower with
            | true =>
              subst hlo
              by_cases hzp : z < 0
              · skip
                go_wp2
                go_ret
                exact ⟨by rw [run_bad hlt (badP_viol hkd.out hfnd.out (by rw [← hz.out]; simp [viol, hzp])) HRUN.out]; rfl, HB5.out⟩
              · have HBAD : Hid (badP true nd kd ct lv i (opn kd cl i) = false) := badP_leave hkd.out hov.out hfnd.out (by rw [← hz.out]; simp [viol, hzp])
                go_wp2
                go_roundw
                case rel =>
                  refine ⟨i + 1, fun x => if x = m then true else cl x, by omega, by simp, fun j hj => ?_, HR5.out, HB5.out, ref_close hlt hkd1.out hfnd.out HBAD.out HRUN.out⟩
                  show (if j = m then true else cl j) = false
                  rw [if_neg (by omega)]
                  exact HCL.out j (by omega)
                case measure => simp [intOf]; omega
            | false =>
              subst hlo
              by_cases hzp : 0 < z
              · skip
                go_wp2
                go_ret
                exact ⟨by rw [run_bad hlt (badP_viol hkd.out hfnd.out (by rw [← hz.out]; simp [viol, hzp])) HRUN.out]; rfl, HB5.out⟩
              · have HBAD : Hid (badP false nd kd ct lv i (opn kd cl i) = false) := badP_leave hkd.out hov.out hfnd.out (by rw [← hz.out]; simp [viol, hzp])
                go_wp2
                go_roundw
                case rel =>
                  refine ⟨i + 1, fun x => if x = m then true else cl x, by omega, by simp, fun j hj => ?_, HR5.out, HB5.out, ref_close hlt hkd1.out hfnd.out HBAD.out HRUN.out⟩
                  show (if j = m then true else cl j) = false
                  rw [if_neg (by omega)]
                  exact HCL.out j (by omega)
                case measure => simp [intOf]; omega
          · have hy2b : (y0 == 2) = false := by simp [hy2]
            have hkd : Hid (kd i = 3) := by
              show kd i = 3
              rw [← hy0.out]
              omega
            have HBAD : Hid (badP lower nd kd ct lv i (opn kd cl i) = false) := badP_cut hkd.out hov.out hfnd.out
            go_wp2
            go_roundw
            case rel =>
              refine ⟨i + 1, fun x => if x = m then true else cl x, by omega, by simp, fun j hj => ?_, HR5.out, HB5.out, ref_close hlt hkd1.out hfnd.out HBAD.out HRUN.out⟩
              show (if j = m then true else cl j) = false
              rw [if_neg (by omega)]
              exact HCL.out j (by omega)
            case measure => simp [intOf]; omega
    · have hni : n = i := by omega
      subst hni
      have HANS : Hid (ansP lower nd kd ct lv n peak = if lower = false ∧ 0 < n ∧ 0 < cmpQ (mkRat peak 1) (lv 0) then (n : Int) else -1) := ansP_end (by rw [HRUN.out, Nat.sub_self]; rfl)
      have HBW := Lib.hid hbw
      clear HRUN HROW HCL
      go_upto_region 22 with (fail)
      cases lower with
      | true =>
        refine wp_region_sym (⟨[], [], [], [(2, .v (.bool true))], []⟩ : Sp) [106, 107, 108, 109, 110, 111, 112, 113, 114, 115, 116, 117, 118, 119, 120, 121, 122] wr ((Below.refl _ _).drew) (by kernel_rfl) (by kernel_rfl) (by kernel_rfl) sN (by kernel_rfl)
          (fun x hx => mN) (dN) ?_
        intro S x1 hbx hS
        obtain ⟨g16, _⟩ : S 16 = .bool false ∧ True := hS (l := [(16, .v (.bool false))]) (by kernel_rfl)
        clear hS
        simp only [nv, Nat.reduceAdd, List.length_cons, List.length_nil, List.drop_succ_cons, List.drop_zero, g16]
        clear g16
        have HX := Lib.hid hbx
        clear hbx
        go_wp2
        go_ret
        exact ⟨by rw [HANS.out, if_neg (by simp)]; rfl, HBW.out.trans (HX.out.mono HBW.out.size)⟩
      | false =>
        rcases Nat.eq_zero_or_pos n with hn0 | hn0
        · subst hn0
          refine wp_region_sym (⟨[], [], [], [(0, .v (.slice A 0 c)), (2, .v (.bool false))], []⟩ : Sp) [106, 107, 108, 109, 110, 111, 112, 113, 114, 115, 116, 117, 118, 119, 120, 121, 122] wr ((Below.refl _ _).drew) (by kernel_rfl) (by kernel_rfl) (by kernel_rfl) sN (by kernel_rfl)
            (fun x hx => mN) (dN) ?_
          intro S x1 hbx hS
          obtain ⟨g16, _⟩ : S 16 = .bool false ∧ True := hS (l := [(16, .v (.bool false))]) (by kernel_rfl)
          clear hS
          simp only [nv, Nat.reduceAdd, List.length_cons, List.length_nil, List.drop_succ_cons, List.drop_zero, g16]
          clear g16
          have HX := Lib.hid hbx
          clear hbx
          go_wp2
          go_ret
          exact ⟨by rw [HANS.out, if_neg (by simp)]; rfl, HBW.out.trans (HX.out.mono HBW.out.size)⟩
        · obtain ⟨b, off, rfl, hbl, hat⟩ := HV.out.at hn0
          obtain ⟨d1, B1, l1, m1, B2, l2, m2, hc, ⟨h1, h2⟩, hr0⟩ := hat 0 hn0
          have HC0 : Hid (CellsA wr b (off + 0 * 6) [.int .i64 (nd 0), .int .i64 (kd 0), .int .i64 (ct 0), .bool d1, .slice B1 l1 m1, .slice B2 l2 m2]) := hc.sure hbw hbl
          have HC0l : Hid (b < wr.heap.size) := Nat.lt_of_lt_of_le hbl hbw.size
          have HR0 : Hid (RatV wr lo (.agg #[.bool d1, .slice B1 l1 m1, .slice B2 l2 m2]) K (r 0)) := hr0.below hbw
          have HC1 := Lib.hid h1
          have HC2 := Lib.hid h2
          have hlv0 : Hid (lv 0 = lvl (ct 0) (r 0)) := HL.out 0
          have hsz0 : Hid (sz (lv 0) ≤ K + 5) := by
            show sz (lv 0) ≤ K + 5
            rw [hlv0.out]
            exact sz_lvl HC1.out HC2.out HR0.out.size
          obtain ⟨z, hz⟩ : ∃ z : Int, Hid (z = cmpQ (mkRat peak 1) (lv 0)) := ⟨_, rfl⟩
          clear hc h1 h2 hr0 hat hbl
          by_cases hzp : 0 < z
          · skip
            refine wp_region_sym (⟨[(b, (off + 0 * 6), [.int .i64 ((nd 0)), .int .i64 ((kd 0)), .int .i64 ((ct 0)), .bool d1, .slice B1 l1 m1, .slice B2 l2 m2])], [], [fun v x => RatV x wr.heap.size v 3 (mkRat peak 1), fun v x => RatR x wr.heap.size v (lv 0)], [(0, .v (.slice (some ⟨b, off, none⟩) n c)), (1, .v (.int .i64 peak)), (2, .v (.bool false))], [(5, .b .t), (9, .f 0), (11, .p 0 0), (13, .f 1), (14, .v (.int .i64 z)), (15, .b .t)]⟩ : Sp) [106, 107, 108, 109, 110, 111, 112, 113, 114, 115, 116, 117, 118, 119, 120, 121, 122] wr ((Below.refl _ _).drew) (by kernel_rfl) (by kernel_rfl) (by kernel_rfl) (sI (fun v x x' h hb => RatV.below h hb) (sI (fun v x x' h hb => RatR.below h hb) sN)) (by kernel_rfl)
              (fun x hx => (mI (HC0.out.sure hx HC0l.out) mN)) (dI (duty_cmp (op := .gtr) rfl rfl .i64 n 0 .t (by kernel_rfl) (cmp_t (show (n : Int) > 0 by omega))) (
              dI (duty_call [.v (.int .i64 peak)] rfl rfl (by kernel_rfl) (by kernel_rfl) fun x vs hx hC hv => by
                obtain ⟨v1, rfl, rfl⟩ := satL1 hv
                refine (rFromInt_any x peak HP1.out HP2.out).mono ?_
                rintro en w2 ⟨v2, rfl, hr2, hb⟩
                exact ⟨_, rfl, (hr2.lower hx.size).toV (sz_i64 HP1.out HP2.out), hb⟩) (
              dI (duty_index rfl rfl b (off) n c .i64 0 6 0 (by kernel_rfl) (by kernel_rfl) (fun _ => by omega) rfl) (
              dI (duty_call [.v (.agg #[.int .i64 ((nd 0)), .int .i64 ((kd 0)), .int .i64 ((ct 0)), .bool d1, .slice B1 l1 m1, .slice B2 l2 m2])] rfl rfl (by kernel_rfl) (by kernel_rfl) fun x vs hx hC hv => by
                obtain ⟨v1, rfl, rfl⟩ := satL1 hv
                refine (level_any x lo K _ _ _ _ _ _ _ _ _ _ _ HC1.out HC2.out (HR0.out.below hx) (by omega)).mono ?_
                rintro en w2 ⟨v2, rfl, hr2, hb⟩
                refine ⟨_, rfl, ?_, hb⟩
                show RatR w2 wr.heap.size v2 (lv 0)
                rw [hlv0.out]
                exact hr2.lower hx.size) (
              dI (duty_call [.f 0, .f 1] rfl rfl (by kernel_rfl) (by kernel_rfl) fun x vs hx hC hv => by
                obtain ⟨v1, v2, rfl, h1, h2⟩ := satL2 hv
                have h1 : RatV x wr.heap.size v1 3 (mkRat peak 1) := h1
                have h2 : RatV x wr.heap.size v2 (K + 5) (lv 0) := RatR.toV (show RatR x wr.heap.size v2 (lv 0) from h2) hsz0.out
                refine (rCmp_any x _ _ v1 v2 _ _ _ _ h1 h2 (by omega)).mono ?_
                rintro en w2 ⟨rfl, hb⟩
                rw [← hz.out]
                exact ⟨_, rfl, rfl, hb⟩) (
              dI (duty_cmp (op := .gtr) rfl rfl .i64 z 0 .t (by kernel_rfl) (cmp_t (show (z : Int) > 0 by omega))) (dN))))))) ?_
            intro S x1 hbx hS
            obtain ⟨g16, _⟩ : S 16 = .bool true ∧ True := hS (l := [(16, .b .t)]) (by kernel_rfl)
            clear hS
            simp only [nv, Nat.reduceAdd, List.length_cons, List.length_nil, List.drop_succ_cons, List.drop_zero, g16]
            clear g16
            have HX := Lib.hid hbx
            clear hbx
            go_wp2
            go_ret
            exact ⟨by rw [HANS.out, if_pos (by refine ⟨by first | rfl | trivial, hn0, ?_⟩; rw [← hz.out]; exact hzp)]; rfl, HBW.out.trans (HX.out.mono HBW.out.size)⟩
          · skip
            refine wp_region_sym (⟨[(b, (off + 0 * 6), [.int .i64 ((nd 0)), .int .i64 ((kd 0)), .int .i64 ((ct 0)), .bool d1, .slice B1 l1 m1, .slice B2 l2 m2])], [], [fun v x => RatV x wr.heap.size v 3 (mkRat peak 1), fun v x => RatR x wr.heap.size v (lv 0)], [(0, .v (.slice (some ⟨b, off, none⟩) n c)), (1, .v (.int .i64 peak)), (2, .v (.bool false))], [(5, .b .t), (9, .f 0), (11, .p 0 0), (13, .f 1), (14, .v (.int .i64 z)), (15, .b .f)]⟩ : Sp) [106, 107, 108, 109, 110, 111, 112, 113, 114, 115, 116, 117, 118, 119, 120, 121, 122] wr ((Below.refl _ _).drew) (by kernel_rfl) (by kernel_rfl) (by kernel_rfl) (sI (fun v x x' h hb => RatV.below h hb) (sI (fun v x x' h hb => RatR.below h hb) sN)) (by kernel_rfl)
              (fun x hx => (mI (HC0.out.sure hx HC0l.out) mN)) (dI (duty_cmp (op := .gtr) rfl rfl .i64 n 0 .t (by kernel_rfl) (cmp_t (show (n : Int) > 0 by omega))) (
              dI (duty_call [.v (.int .i64 peak)] rfl rfl (by kernel_rfl) (by kernel_rfl) fun x vs hx hC hv => by
                obtain ⟨v1, rfl, rfl⟩ := satL1 hv
                refine (rFromInt_any x peak HP1.out HP2.out).mono ?_
                rintro en w2 ⟨v2, rfl, hr2, hb⟩
                exact ⟨_, rfl, (hr2.lower hx.size).toV (sz_i64 HP1.out HP2.out), hb⟩) (
              dI (duty_index rfl rfl b (off) n c .i64 0 6 0 (by kernel_rfl) (by kernel_rfl) (fun _ => by omega) rfl) (
              dI (duty_call [.v (.agg #[.int .i64 ((nd 0)), .int .i64 ((kd 0)), .int .i64 ((ct 0)), .bool d1, .slice B1 l1 m1, .slice B2 l2 m2])] rfl rfl (by kernel_rfl) (by kernel_rfl) fun x vs hx hC hv => by
                obtain ⟨v1, rfl, rfl⟩ := satL1 hv
                refine (level_any x lo K _ _ _ _ _ _ _ _ _ _ _ HC1.out HC2.out (HR0.out.below hx) (by omega)).mono ?_
                rintro en w2 ⟨v2, rfl, hr2, hb⟩
                refine ⟨_, rfl, ?_, hb⟩
                show RatR w2 wr.heap.size v2 (lv 0)
                rw [hlv0.out]
                exact hr2.lower hx.size) (
              dI (duty_call [.f 0, .f 1] rfl rfl (by kernel_rfl) (by kernel_rfl) fun x vs hx hC hv => by
                obtain ⟨v1, v2, rfl, h1, h2⟩ := satL2 hv
                have h1 : RatV x wr.heap.size v1 3 (mkRat peak 1) := h1
                have h2 : RatV x wr.heap.size v2 (K + 5) (lv 0) := RatR.toV (show RatR x wr.heap.size v2 (lv 0) from h2) hsz0.out
                refine (rCmp_any x _ _ v1 v2 _ _ _ _ h1 h2 (by omega)).mono ?_
                rintro en w2 ⟨rfl, hb⟩
                rw [← hz.out]
                exact ⟨_, rfl, rfl, hb⟩) (
              dI (duty_cmp (op := .gtr) rfl rfl .i64 z 0 .f (by kernel_rfl) (cmp_f (show ¬ (z : Int) > 0 by omega))) (dN))))))) ?_
            intro S x1 hbx hS
            obtain ⟨g16, _⟩ : S 16 = .bool false ∧ True := hS (l := [(16, .b .f)]) (by kernel_rfl)
            clear hS
            simp only [nv, Nat.reduceAdd, List.length_cons, List.length_nil, List.drop_succ_cons, List.drop_zero, g16]
            clear g16
            have HX := Lib.hid hbx
            clear hbx
            go_wp2
            go_ret
            exact ⟨by rw [HANS.out, if_neg (fun h => by have h3 := h.2.2; rw [← hz.out] at h3; omega)]; rfl, HBW.out.trans (HX.out.mono HBW.out.size)⟩
end Go.Proofs.YtgheaoaicbkaoaaGreatDoor

