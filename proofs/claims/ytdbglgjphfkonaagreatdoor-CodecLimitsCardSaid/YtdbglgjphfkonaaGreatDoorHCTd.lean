/-
  CodecLimits.
-/
import Derived.Test.YtdbglgjphfkonaaGreatDoorHCTc
import Derived.Deep.OwnRows
namespace Go.Proofs.YtdbglgjphfkonaaGreatDoor
open Go.RowKit AC
set_option linter.unusedVariables false
set_option linter.unusedSimpArgs false

theorem infoU8 : (Tryz.prog.info? 5).map (fun i => (i.zero, i.size, i.bytes)) = some (some (.int .u8 0), 1, 1) := by kernel_rfl
theorem infoClaim : (Tryz.prog.info? 76).map (fun i => (i.zero, i.size, i.bytes)) = some (some (.agg #[.int .i64 0, .int .i64 0]), 2, 16) := by kernel_rfl

/-- The first k bytes are 40. -/
def opens (k : Nat) : Nat → Value := fun i => if i < k then .int .u8 40 else .int .u8 0
theorem opens_at {k i : Nat} (h : i < k) : opens k i = .int .u8 40 := if_pos h

/-- 'make([]api.Claim, n)': a list of zero claims. -/
theorem rep_claims (w : World) (D : Nat → Prop) (n : Nat) (hn : n ≤ 1000000) (h0 : 0 < n) (hD : D w.heap.size) :
    Rep (w.alloc (.cells (madeCells #[.int .i64 0, .int .i64 0] (n * 2)) 76)) D (.list claimS) [.slice (some ⟨w.heap.size, 0, none⟩) n n] [par (fun _ => [40, 48, 32, 48, 41]) n] := by
  refine ⟨some ⟨w.heap.size, 0, none⟩, n, n, fun _ => [.int .i64 0, .int .i64 0], fun _ => [40, 48, 32, 48, 41], rfl, Nat.le_refl _, by unfold maxLen; omega, rfl, fun _ => ⟨w.heap.size, 0, rfl, hD, by simp, fun i hi j x hx => ?_⟩, fun i hi => ?_⟩
  · have hj : j < 2 := by have := (List.getElem?_eq_some_iff.1 hx).1; simpa using this
    have hx0 : x = .int .i64 0 := by
      rcases (by omega : j = 0 ∨ j = 1) with rfl | rfl <;> simp at hx <;> exact hx.symm
    subst hx0
    rw [World.cell?_alloc_at _ _ _ _ rfl]
    have hlt : 0 + i * Shape.sz claimS + j < n * 2 := by
      have : Shape.sz claimS = 2 := rfl
      rw [this]
      omega
    show (madeCells #[.int .i64 0, .int .i64 0] (n * 2))[0 + i * Shape.sz claimS + j]? = _
    unfold madeCells
    rw [Array.getElem?_map, Array.getElem?_range, if_pos hlt]
    simp only [Option.map_some]
    have h2 : (0 + i * Shape.sz claimS + j) % 2 = j := by
      have : Shape.sz claimS = 2 := rfl
      rw [this]
      omega
    show some ((#[Value.int .i64 0, Value.int .i64 0] : Array Value)[(0 + i * Shape.sz claimS + j) % 2]!) = _
    rw [h2]
    rcases (by omega : j = 0 ∨ j = 1) with rfl | rfl <;> rfl
  · refine ⟨[[48], [48]], rfl, [.int .i64 0], [.int .i64 0], _, _, rfl, rfl, ⟨0, rfl, by omega, by omega, ?_⟩, [.int .i64 0], [], _, _, rfl, rfl, ⟨0, rfl, by omega, by omega, ?_⟩, rfl, rfl⟩
    · rw [Lib.itoa]; simp [Lib.decDigits_one]
    · rw [Lib.itoa]; simp [Lib.decDigits_one]

theorem run_mkC (w : World) (z : Int) (n : Nat) (hz : z = (n : Int)) (hn : n ≤ 1000000) :
    (Instr.makeSlice 32 (.int .i64 z) (.int .i64 z)).run Tryz.prog w = .ok (.slice (some ⟨w.heap.size, 0, none⟩) n n) (w.alloc (.cells (madeCells #[.int .i64 0, .int .i64 0] (n * 2)) 76)) := by
  subst hz
  obtain ⟨i, hi, hz0, hs1, hb4⟩ := info_parts infoClaim
  have hrun := run_make (P := Tryz.prog) w 32 76 i _ Tryz.underlying32 hi hz0 .i64 .i64 n n (by omega) (by omega) (by rw [hb4]; omega) (by omega)
  simp only [Int.toNat_natCast] at hrun
  rw [hs1] at hrun
  exact hrun
theorem opens_start (w : World) (m : Nat) : (w.alloc (.cells (madeCells #[.int .u8 0] m) 5)).rowIs w.heap.size 5 m (opens 0) :=
  World.rowIs.congr (World.rowIs_made w (.int .u8 0) m 5) fun i _ => by simp [opens]
theorem opens_next {w : World} {b m k : Nat} (h : w.rowIs b 5 m (opens k)) : (w.setCell ⟨b, k, none⟩ (.int .u8 40)).rowIs b 5 m (opens (k + 1)) := by
  refine World.rowIs.congr (World.rowIs.set h k (.int .u8 40)) fun j _ => ?_
  unfold opens
  by_cases hj : j = k
  · subst hj; simp
  · by_cases hlt : j < k
    · simp [hj, hlt]; omega
    · simp [hj, hlt]; omega

set_option maxHeartbeats 8000000 in
set_option maxRecDepth 100000 in
theorem limits_any (w : World) (a b : Int) (ha0 : 0 ≤ a) (ha1 : a ≤ 255) (hb0 : 0 ≤ b) (hb1 : b ≤ 65535) (hg : Gl w) : Calls Tryz.prog 4 #[.int .u8 a, .int .u16 b] w (YesPost w) := by
  have HG := Lib.hid hg
  clear hg
  obtain ⟨i0, hi, hz0, hz1, hz2⟩ := info_parts infoU8
  obtain ⟨i1, hi', hz0', hz1', hz2'⟩ := info_parts infoClaim
  obtain ⟨m, hm⟩ : ∃ m : Nat, 262142 + a % 5 = (m : Int) := ⟨(262142 + a % 5).toNat, by omega⟩
  have hm1 : 262142 ≤ m := by omega
  have hm2 : m ≤ 262146 := by omega
  have HM := Lib.hid hm
  clear hm
  go_enter Tryz.func4, Tryz.ntmps4
  go_wp2_with fail
  refine (csane_any _ HG.out).mono ?_
  rintro e w1 ⟨rfl, hb1'⟩
  have HB1 := Lib.hid hb1'
  have HG1 := Lib.hid (HG.out.below hb1')
  clear hb1'
  go_wp2_with (refine wpList_make_row w1 rfl _ _ 42 rfl 5 i0 (.int .u8 0) Tryz.underlying42 hi hz0 hz1 rfl .i64 .i64 m ?h1 ?h2 (by rw [hz2]; omega) (by omega) ?_)
  case h1 => show Value.int .i64 (262142 + a % 5) = _; rw [HM.out]
  case h2 => show Value.int .i64 (262142 + a % 5) = _; rw [HM.out]
  go_loopw [21] (fun iv wr => ∃ k : Nat, k ≤ m ∧ iv = .int .i64 k ∧ Hid (wr.rowIs w1.heap.size 5 m (opens k)) ∧ Hid (Below w1.heap.size w1 wr)) (fun iv _ => m - (intOf iv).toNat)
  case atStart => exact ⟨0, by omega, rfl, opens_start w1 m, (Below.refl _ _).alloc (Nat.le_refl _) _⟩
  case round =>
    obtain ⟨k, hk, rfl, hrow, hbw⟩ := hrel
    by_cases hlt : k < m
    · have hc := hrow.out.cell hlt
      have hf := hrow.out.frozen k
      go_wp2
      go_roundw
      case rel => exact ⟨k + 1, by omega, by go_num, opens_next hrow.out, hbw.out.setCell (Nat.le_refl _) _⟩
      case measure => simp [intOf]; omega
    · obtain rfl : k = m := by omega
      have hcv := run_convert_bytes_back (P := Tryz.prog) wr 42 9 5 ⟨w1.heap.size, 0, none⟩ k (List.replicate k 40) Tryz.underlying42 Tryz.underlying5 Tryz.underlying9 (fun j hj => by
        rw [Addr.add_lit, Nat.zero_add]
        have hj' : j < k := by simpa using hj
        rw [hrow.out.cell hj', opens_at hj']
        simp)
      rw [List.length_replicate] at hcv
      have HGR := Lib.hid (HG1.out.below hbw.out)
      have HBR := Lib.hid (HB1.out.trans (hbw.out.mono HB1.out.size))
      go_wp2_with fail
      refine (parseC_any _ _ HGR.out).mono ?_
      intro e w3 hp
      have e3 : (⟨Array.replicate k 40⟩ : ByteArray).data.toList = List.replicate k 40 := by simp
      rw [e3] at hp
      clear e3 hcv
      have key : ∃ z : Int, e = .returned (.tuple #[.agg zcert.toArray, .int .i64 z]) ∧ Below wr.heap.size wr w3 ∧ z = (if 262144 < k then 9 else 2) := by
        rcases hp with ⟨h1, he, hb3⟩ | ⟨h1, _, he, hb3⟩ | ⟨_, h1, _⟩
        · rw [List.length_replicate] at h1
          exact ⟨9, he, hb3, by rw [if_pos h1]⟩
        · rw [List.length_replicate] at h1
          exact ⟨2, he, hb3, by rw [if_neg (by omega)]⟩
        · have h2 := rd_opens k
          exact absurd (h2.symm.trans h1) (by decide)
      obtain ⟨z, rfl, hb3, hz⟩ := key
      rw [zcert_eq]
      have HB3 := Lib.hid (HBR.out.trans (hb3.mono HBR.out.size))
      have HG3 := Lib.hid (HGR.out.below hb3)
      obtain ⟨n2, hn2⟩ : ∃ n2 : Nat, 43682 + b % 12 = (n2 : Int) := ⟨(43682 + b % 12).toNat, by omega⟩
      have hn21 : 43682 ≤ n2 := by omega
      have hn22 : n2 ≤ 43693 := by omega
      have HN2 := Lib.hid hn2
      have HZ := Lib.hid hz
      clear hb3 hp hz hn2
      by_cases hbig : 262144 < k
      · have hz9 : z = 9 := by rw [HZ.out, if_pos hbig]
        subst hz9
        have hd1 : decide ((262144 : Int) < (k : Int)) = true := by simp; omega
        have hd2 : decide ((k : Int) ≤ 262144) = false := by simp; omega
        go_wp2_with fail
        rw [run_mkC _ _ n2 HN2.out (by omega)]
        simp only [Result.andThen]
        rw [Oper.upon_value]
        go_wp2_with fail
        have hrc := rep_claims (w3.alloc (.cells #[.bool false, .slice none 0 0, .slice none 0 0, .slice none 0 0, .slice none 0 0, .slice none 0 0, .slice none 0 0, .slice none 0 0, .slice none 0 0] 34)) (fun _ => True) n2 (by omega) (by omega) trivial
        rw [show (w3.alloc (.cells #[.bool false, .slice none 0 0, .slice none 0 0, .slice none 0 0, .slice none 0 0, .slice none 0 0, .slice none 0 0, .slice none 0 0, .slice none 0 0] 34)).heap.size = w3.heap.size + 1 by simp] at hrc
        have hfc := formatC_any 0 _ (fun _ => True) _ _ (rep_cert _ _ 0 _ _ hrc) ((HG3.out.alloc (.cells #[.bool false, .slice none 0 0, .slice none 0 0, .slice none 0 0, .slice none 0 0, .slice none 0 0, .slice none 0 0, .slice none 0 0, .slice none 0 0] 34)).alloc (.cells (madeCells #[.int .i64 0, .int .i64 0] (n2 * 2)) 76))
        refine hfc.mono ?_
        rintro e w5 ⟨rfl, hb5⟩
        clear hfc hrc
        have HB5 := Lib.hid (((HB3.out.alloc HB3.out.size (.cells #[.bool false, .slice none 0 0, .slice none 0 0, .slice none 0 0, .slice none 0 0, .slice none 0 0, .slice none 0 0, .slice none 0 0, .slice none 0 0] 34)).alloc (by have := HB3.out.size; simp; omega) (.cells (madeCells #[.int .i64 0, .int .i64 0] (n2 * 2)) 76)).trans (hb5.mono (by have := HB3.out.size; simp; omega)))
        clear hb5
        have hlen : (certTxt (par (fun _ => [40, 48, 32, 48, 41]) n2)).length = 6 * n2 + 30 := by rw [certTxt_len, claims_len n2 (by omega)]
        rw [hlen]
        obtain ⟨S, hS⟩ : ∃ S : ByteArray, ⟨(if 6 * n2 + 30 ≤ 262144 then certTxt (par (fun _ => [40, 48, 32, 48, 41]) n2) else []).toArray⟩ = S := ⟨_, rfl⟩
        rw [hS]
        clear hS hlen
        by_cases hfit : 6 * n2 + 30 ≤ 262144
        · rw [if_pos hfit]
          have hdf : decide ((262144 : Int) < 29 + 6 * (43682 + b % 12) + 1) = false := by have := HN2.out; simp; omega
          go_wp2
          go_ret
          exact ⟨rfl, HB5.out⟩
        · rw [if_neg hfit]
          have hdf : decide ((262144 : Int) < 29 + 6 * (43682 + b % 12) + 1) = true := by have := HN2.out; simp; omega
          go_wp2
          go_ret
          exact ⟨rfl, HB5.out⟩
      · have hz2' : z = 2 := by rw [HZ.out, if_neg hbig]
        subst hz2'
        have hd1 : decide ((262144 : Int) < (k : Int)) = false := by simp; omega
        have hd2 : decide ((k : Int) ≤ 262144) = true := by simp; omega
        go_wp2_with fail
        rw [run_mkC _ _ n2 HN2.out (by omega)]
        simp only [Result.andThen]
        rw [Oper.upon_value]
        go_wp2_with fail
        have hrc := rep_claims (w3.alloc (.cells #[.bool false, .slice none 0 0, .slice none 0 0, .slice none 0 0, .slice none 0 0, .slice none 0 0, .slice none 0 0, .slice none 0 0, .slice none 0 0] 34)) (fun _ => True) n2 (by omega) (by omega) trivial
        rw [show (w3.alloc (.cells #[.bool false, .slice none 0 0, .slice none 0 0, .slice none 0 0, .slice none 0 0, .slice none 0 0, .slice none 0 0, .slice none 0 0, .slice none 0 0] 34)).heap.size = w3.heap.size + 1 by simp] at hrc
        have hfc := formatC_any 0 _ (fun _ => True) _ _ (rep_cert _ _ 0 _ _ hrc) ((HG3.out.alloc (.cells #[.bool false, .slice none 0 0, .slice none 0 0, .slice none 0 0, .slice none 0 0, .slice none 0 0, .slice none 0 0, .slice none 0 0, .slice none 0 0] 34)).alloc (.cells (madeCells #[.int .i64 0, .int .i64 0] (n2 * 2)) 76))
        refine hfc.mono ?_
        rintro e w5 ⟨rfl, hb5⟩
        clear hfc hrc
        have HB5 := Lib.hid (((HB3.out.alloc HB3.out.size (.cells #[.bool false, .slice none 0 0, .slice none 0 0, .slice none 0 0, .slice none 0 0, .slice none 0 0, .slice none 0 0, .slice none 0 0, .slice none 0 0] 34)).alloc (by have := HB3.out.size; simp; omega) (.cells (madeCells #[.int .i64 0, .int .i64 0] (n2 * 2)) 76)).trans (hb5.mono (by have := HB3.out.size; simp; omega)))
        clear hb5
        have hlen : (certTxt (par (fun _ => [40, 48, 32, 48, 41]) n2)).length = 6 * n2 + 30 := by rw [certTxt_len, claims_len n2 (by omega)]
        rw [hlen]
        obtain ⟨S, hS⟩ : ∃ S : ByteArray, ⟨(if 6 * n2 + 30 ≤ 262144 then certTxt (par (fun _ => [40, 48, 32, 48, 41]) n2) else []).toArray⟩ = S := ⟨_, rfl⟩
        rw [hS]
        clear hS hlen
        by_cases hfit : 6 * n2 + 30 ≤ 262144
        · rw [if_pos hfit]
          have hdf : decide ((262144 : Int) < 29 + 6 * (43682 + b % 12) + 1) = false := by have := HN2.out; simp; omega
          go_wp2
          go_ret
          exact ⟨rfl, HB5.out⟩
        · rw [if_neg hfit]
          have hdf : decide ((262144 : Int) < 29 + 6 * (43682 + b % 12) + 1) = true := by have := HN2.out; simp; omega
          go_wp2
          go_ret
          exact ⟨rfl, HB5.out⟩

end Go.Proofs.YtdbglgjphfkonaaGreatDoor

