/-
  strings.IndexAny at the signs that end a word, for any text.
-/
import Derived.Test.YtdbglgjphfkonaaGreatDoorHShelf
import Derived.Test.YtdbglgjphfkonaaGreatDoorHNum
import Derived.Test.YtdbglgjphfkonaaGreatDoorHMem
import Derived.WalkKit
import Derived.WalkSpells
import Derived.WalkLawsBesides
import Derived.RegionTactic
import Derived.Deep.QuietTactic
import Derived.BigQuiet
import Derived.Outline
import Derived.LoopTactic
import Derived.Laws.RangeAny
import Derived.Laws.Runes
import Derived.Lib.OthersKept
import Derived.Lib.IndexAny
import Derived.Lib.Hide
namespace Go.Proofs.YtdbglgjphfkonaaGreatDoor
open Go.RowKit AC
set_option linter.unusedVariables false
set_option linter.unusedSimpArgs false

theorem get_byte {s : ByteArray} {j : Nat} {b : UInt8} (h : s.data.toList[j]? = some b) : s.get! j = b := by
  obtain ⟨hj, rfl⟩ := List.getElem?_eq_some_iff.1 h
  have hj' : j < s.size := by simpa using hj
  simp [ByteArray.get!, hj']

/-- What a byte from 128 on begins. -/
theorem decode_more (s : ByteArray) (pos : Nat) (h : pos < s.size) (ha : 128 ≤ (s[pos]'h).toNat) :
    (Utf8.valid (Utf8.decode s pos).1 = true ∨ (Utf8.decode s pos).1 = 65533) ∧ pos + (Utf8.decode s pos).2 ≤ s.size ∧ ∀ j b, pos ≤ j → j < pos + (Utf8.decode s pos).2 → s.data.toList[j]? = some b → 128 ≤ b.toNat := by
  have hn : ¬ (s[pos]'h).toNat < 128 := by omega
  have h256 : (s[pos]'h).toNat < 256 := (s[pos]'h).toNat_lt
  have key : ∀ j b, s.data.toList[j]? = some b → (s.get! j).toNat = b.toNat := fun j b hb => by rw [get_byte hb]
  have k0 : ∀ b, s.data.toList[pos]? = some b → 128 ≤ b.toNat := fun b hb => by rw [← key pos b hb, show pos = pos + 0 by rfl, get_at s pos h]; exact ha
  have b1 : (s.get! (pos + 1)).toNat < 256 := (s.get! (pos + 1)).toNat_lt
  have b2 : (s.get! (pos + 2)).toNat < 256 := (s.get! (pos + 2)).toNat_lt
  have b3 : (s.get! (pos + 3)).toNat < 256 := (s.get! (pos + 3)).toNat_lt
  have one : ∀ j b, pos ≤ j → j < pos + 1 → s.data.toList[j]? = some b → 128 ≤ b.toNat := fun j b h1 h2 hb => by
    obtain rfl : j = pos := by omega
    exact k0 b hb
  simp only [Utf8.decode, get_at s pos h, hn, if_false]
  split
  · rename_i hc
    simp only [Bool.and_eq_true, beq_iff_eq, decide_eq_true_eq] at hc
    split
    · rename_i hc2
      refine ⟨.inl ?_, by omega, fun j b h1 h2 hb => ?_⟩
      · simp only [Utf8.valid, Bool.or_eq_true, Bool.and_eq_true, decide_eq_true_eq]
        left
        have h2 : ((s[pos]'h).toNat % 32 * 64 + (s.get! (pos + 1)).toNat % 64) < 2048 := by omega
        omega
      · rcases (by omega : j = pos ∨ j = pos + 1) with rfl | rfl
        · exact k0 b hb
        · have := key _ b hb; omega
    · exact ⟨.inr rfl, by show pos + 1 ≤ _; omega, one⟩
  · split
    · rename_i hc
      simp only [Bool.and_eq_true, beq_iff_eq, decide_eq_true_eq] at hc
      split
      · rename_i hc2
        simp only [Bool.and_eq_true, decide_eq_true_eq] at hc2
        refine ⟨.inl hc2.2, by omega, fun j b h1 h2 hb => ?_⟩
        rcases (by omega : j = pos ∨ j = pos + 1 ∨ j = pos + 2) with rfl | rfl | rfl
        · exact k0 b hb
        · have := key _ b hb; omega
        · have := key _ b hb; omega
      · exact ⟨.inr rfl, by show pos + 1 ≤ _; omega, one⟩
    · split
      · rename_i hc
        simp only [Bool.and_eq_true, beq_iff_eq, decide_eq_true_eq] at hc
        split
        · rename_i hc2
          simp only [Bool.and_eq_true, decide_eq_true_eq] at hc2
          refine ⟨.inl hc2.2, by omega, fun j b h1 h2 hb => ?_⟩
          rcases (by omega : j = pos ∨ j = pos + 1 ∨ j = pos + 2 ∨ j = pos + 3) with rfl | rfl | rfl | rfl
          · exact k0 b hb
          · have := key _ b hb; omega
          · have := key _ b hb; omega
          · have := key _ b hb; omega
        · exact ⟨.inr rfl, by show pos + 1 ≤ _; omega, one⟩
      · exact ⟨.inr rfl, by show pos + 1 ≤ _; omega, one⟩

/-- The text of a rune from 128 on: its last byte. -/
theorem encode_more (r : Int) (hv : Utf8.valid r = true) (h : 128 ≤ r) : (∃ a b : UInt8, Utf8.encode r = ⟨#[a, b]⟩ ∧ 128 ≤ b.toNat) ∨ (∃ a b c : UInt8, Utf8.encode r = ⟨#[a, b, c]⟩ ∧ 128 ≤ c.toNat) ∨ (∃ a b c d : UInt8, Utf8.encode r = ⟨#[a, b, c, d]⟩) := by
  unfold Utf8.encode
  simp only [hv, if_true]
  have key : ∀ n : Nat, 128 ≤ (UInt8.ofNat (0x80 + n % 64)).toNat := fun n => by
    rw [UInt8.toNat_ofNat']
    omega
  rw [if_neg (by omega)]
  split
  · exact .inl ⟨_, _, rfl, key _⟩
  · split
    · exact .inr (.inl ⟨_, _, _, rfl, key _⟩)
    · exact .inr (.inr ⟨_, _, _, _, rfl⟩)

theorem quiet_addS {P : Program} {f : FuncId} {args : Array Value} {w : World} {a n : Nat} {v : Value}
    (h : Calls P f args (w.drewN (a + n)) fun e w' => e = .returned v ∧ w' = w.drewN (a + n)) :
    Calls P f args (w.drewN (a + n)) fun e w'' => e = .returned v ∧ ∃ m, w'' = w.drewN (a + m) :=
  h.mono fun _ _ ⟨he, hm⟩ => ⟨he, n, hm⟩

def MinusPost (w : World) (e : Ending) (w' : World) : Prop := e = .returned (.int .i64 (-1)) ∧ Below w.heap.size w w'

theorem indexByte_no {l : List UInt8} {y : UInt8} (h : ∀ c ∈ l, c ≠ y) : Lib.indexByte l y = -1 := by
  induction l with
  | nil => rfl
  | cons a l ih =>
    unfold Lib.indexByte
    rw [if_neg (by simpa using h a List.mem_cons_self), ih fun c hc => h c (List.mem_cons_of_mem _ hc)]
    rfl

set_option maxHeartbeats 2000000 in
set_option maxRecDepth 100000 in
theorem indexRune_two (w : World) (r : Int) (x y : UInt8) (h1 : 128 ≤ r) (hv : Lib.validRune r = true) (hne : r ≠ 65533) (he : Utf8.encode r = ⟨#[x, y]⟩) (hy : 128 ≤ y.toNat) :
    Calls Tryz.prog 189 #[.string ⟨#[32, 40, 41]⟩, .int .i32 r] w (MinusPost w) := by
  have t1 : decide (r < 128) = false := by simp; omega
  have t2 : (r == 65533) = false := by simp; omega
  have t3 : ((40 : Int) != (y.toNat : Int)) = true := by simp; omega
  have t4 : Lib.indexByte [41] y = -1 := indexByte_no fun c hc e => by simp at hc; subst hc; subst e; simp at hy
  have g1 : (⟨#[32, 40, 41]⟩ : ByteArray)[1]'(by decide) = 40 := rfl
  have g2 : (⟨#[x, y]⟩ : ByteArray)[1]'(by decide : 1 < 2) = y := rfl
  have HV := Lib.hid hv
  clear hv
  go_enter Tryz.func189, Tryz.ntmps189
  go_wp2_with fail
  refine (Tryz.utf8_ValidRune _ _).mono ?_
  rintro e w' ⟨rfl, rfl⟩
  rw [HV.out]
  go_wp2_with fail
  go_step3
  go_wp2_with fail
  refine wp_loop_rounds 1 ?_
  rw [rounds_succ]
  go_wp2_with fail
  go_step3
  go_wp2_with fail
  go_quiet (fail)
  go_wp2_with fail
  go_quiet ((go_at_call 237; exact quiet_addS (Tryz.strings_IndexByte _ _ _)))
  go_wp2_with fail
  rw [Exit.noGoto_ret]
  go_wp2
  rw [Exit.noGoto_ret]
  go_ret
  exact ⟨rfl, (Qt.of _ _).below _⟩

set_option maxHeartbeats 2000000 in
set_option maxRecDepth 100000 in
theorem indexRune_three (w : World) (r : Int) (x z y : UInt8) (h1 : 128 ≤ r) (hv : Lib.validRune r = true) (hne : r ≠ 65533) (he : Utf8.encode r = ⟨#[x, z, y]⟩) (hy : 128 ≤ y.toNat) :
    Calls Tryz.prog 189 #[.string ⟨#[32, 40, 41]⟩, .int .i32 r] w (MinusPost w) := by
  have t1 : decide (r < 128) = false := by simp; omega
  have t2 : (r == 65533) = false := by simp; omega
  have t3 : ((41 : Int) != (y.toNat : Int)) = true := by simp; omega
  have t4 : Lib.indexByte [] y = -1 := rfl
  have g1 : (⟨#[32, 40, 41]⟩ : ByteArray)[2]'(by decide) = 41 := rfl
  have g2 : (⟨#[x, z, y]⟩ : ByteArray)[2]'(by decide : 2 < 3) = y := rfl
  have HV := Lib.hid hv
  clear hv
  go_enter Tryz.func189, Tryz.ntmps189
  go_wp2_with fail
  refine (Tryz.utf8_ValidRune _ _).mono ?_
  rintro e w' ⟨rfl, rfl⟩
  rw [HV.out]
  go_wp2_with fail
  go_step3
  go_wp2_with fail
  refine wp_loop_rounds 1 ?_
  rw [rounds_succ]
  go_wp2_with fail
  go_step3
  go_wp2_with fail
  go_quiet (fail)
  go_wp2_with fail
  go_quiet ((go_at_call 237; exact quiet_addS (Tryz.strings_IndexByte _ _ _)))
  go_wp2_with fail
  rw [Exit.noGoto_ret]
  go_wp2
  rw [Exit.noGoto_ret]
  go_ret
  exact ⟨rfl, (Qt.of _ _).below _⟩

set_option maxHeartbeats 2000000 in
set_option maxRecDepth 100000 in
theorem indexRune_four (w : World) (r : Int) (x y z u : UInt8) (h1 : 128 ≤ r) (hv : Lib.validRune r = true) (hne : r ≠ 65533) (he : Utf8.encode r = ⟨#[x, y, z, u]⟩) :
    Calls Tryz.prog 189 #[.string ⟨#[32, 40, 41]⟩, .int .i32 r] w (MinusPost w) := by
  have t1 : decide (r < 128) = false := by simp; omega
  have t2 : (r == 65533) = false := by simp; omega
  have HV := Lib.hid hv
  clear hv
  go_enter Tryz.func189, Tryz.ntmps189
  go_wp2_with fail
  refine (Tryz.utf8_ValidRune _ _).mono ?_
  rintro e w' ⟨rfl, rfl⟩
  rw [HV.out]
  go_wp2_with fail
  go_step3
  go_wp2_with fail
  refine wp_loop_rounds 1 ?_
  rw [rounds_succ]
  go_wp2_with fail
  rw [Exit.noGoto_ret]
  go_ret
  exact ⟨rfl, Below.refl _ _⟩

set_option maxHeartbeats 2000000 in
set_option maxRecDepth 100000 in
theorem indexRune_err (w : World) : Calls Tryz.prog 189 #[.string ⟨#[32, 40, 41]⟩, .int .i32 65533] w (MinusPost w) := by
  have n0 := fun ty => run_next_ascii (P := Tryz.prog) w ⟨#[32, 40, 41]⟩ 0 ty (by decide) (by decide)
  have n1 := fun ty => run_next_ascii (P := Tryz.prog) w ⟨#[32, 40, 41]⟩ 1 ty (by decide) (by decide)
  have n2 := fun ty => run_next_ascii (P := Tryz.prog) w ⟨#[32, 40, 41]⟩ 2 ty (by decide) (by decide)
  have n3 := fun ty => run_next_end (P := Tryz.prog) w ⟨#[32, 40, 41]⟩ 3 ty (by decide)
  have g0 : (⟨#[32, 40, 41]⟩ : ByteArray)[0]'(by decide) = 32 := rfl
  have g1 : (⟨#[32, 40, 41]⟩ : ByteArray)[1]'(by decide) = 40 := rfl
  have g2 : (⟨#[32, 40, 41]⟩ : ByteArray)[2]'(by decide) = 41 := rfl
  simp only [g0, g1, g2] at n0 n1 n2
  go_enter Tryz.func189, Tryz.ntmps189
  go_wp2_with fail
  refine wp_loop_rounds 4 ?_
  rw [rounds_succ]
  go_wp2
  rw [rounds_succ]
  go_wp2
  rw [rounds_succ]
  go_wp2
  rw [rounds_succ]
  go_wp2
  go_ret
  exact ⟨rfl, (Below.refl _ _).alloc (Nat.le_refl _) _⟩

theorem indexRune_high (w : World) (r : Nat) (h1 : 128 ≤ r) (hv : Utf8.valid r = true ∨ r = 65533) : Calls Tryz.prog 189 #[.string ⟨#[32, 40, 41]⟩, .int .i32 r] w (MinusPost w) := by
  by_cases he : r = 65533
  · subst he; exact indexRune_err w
  · have hv : Utf8.valid r = true := by rcases hv with h | h; exact h; exact absurd h he
    have hv' : Lib.validRune r = true := by unfold Utf8.valid at hv; simp at hv; simp [Lib.validRune]; omega
    rcases encode_more (r : Int) hv (by omega) with ⟨a, b, e1, e2⟩ | ⟨a, b, c, e1, e2⟩ | ⟨a, b, c, d, e1⟩
    · exact indexRune_two w r a b (by omega) hv' (by omega) e1 e2
    · exact indexRune_three w r a b c (by omega) hv' (by omega) e1 e2
    · exact indexRune_four w r a b c d (by omega) hv' (by omega) e1

/-- The first sign that ends a word. -/
def stops : List UInt8 := [32, 40, 41]
def AnyPost (l : List UInt8) (w : World) (e : Ending) (w' : World) : Prop := e = .returned (.int .i64 (Lib.indexAny l stops)) ∧ Below w.heap.size w w'
theorem stops_high {b : UInt8} (h : 128 ≤ b.toNat) : stops.contains b = false := by
  unfold stops
  simp
  refine ⟨?_, ?_, ?_⟩ <;> (rintro rfl; simp at h)
theorem NoAny.skip {l : List UInt8} {i n : Nat} (h : Lib.NoAny l stops i) (hb : ∀ j b, i ≤ j → j < i + n → l[j]? = some b → 128 ≤ b.toNat) : Lib.NoAny l stops (i + n) := by
  intro j b hj hb'
  rcases Nat.lt_or_ge j i with h1 | h1
  · exact h j b h1 hb'
  · exact stops_high (hb j b h1 hj hb')
/-- The iterator stands at i. -/
def IterAt (w : World) (s : ByteArray) (i : Nat) (wx : World) : Prop := wx.heap[w.heap.size]? = some (.stringIter s i) ∧ Below w.heap.size w wx
theorem IterAt.move {w wx : World} {s : ByteArray} {i : Nat} (h : IterAt w s i wx) (j : Nat) : IterAt w s j (wx.iterAt w.heap.size s j) :=
  ⟨Lib.iterAt_heap _ _ _ _ _ h.1, Lib.below_iterAt h.2 (Nat.le_refl _) _ _⟩
theorem IterAt.below {w wx w' : World} {s : ByteArray} {i : Nat} (h : IterAt w s i wx) (hb : Below wx.heap.size wx w') : IterAt w s i w' :=
  ⟨(hb.block _ (Array.getElem?_eq_some_iff.1 h.1).1).trans h.1, h.2.trans (hb.mono h.2.size)⟩

set_option maxHeartbeats 4000000 in
set_option maxRecDepth 100000 in
theorem indexAny_short (w : World) (s : ByteArray) (h8 : s.size ≤ 8) : Calls Tryz.prog 127 #[.string s, .string ⟨#[32, 40, 41]⟩] w (AnyPost s.data.toList w) := by
  have h8z : decide ((8 : Int) < (s.size : Int)) = false := decide_eq_false (by omega)
  have H8 := Lib.hid h8z
  clear h8z
  go_enter Tryz.func127, Tryz.ntmps127
  go_wp2_with (go_at_call 190; refine (Tryz.strings_shouldUseASCIISet _ _).mono ?_; rintro e w' ⟨rfl, hw⟩; rw [hw, H8.out]; clear hw)
  go_loopg [9, 10] s.size (fun g _ _ wx => ∃ i : Nat, i ≤ s.size ∧ i + g = s.size ∧ Hid (IterAt w s i wx) ∧ Hid (Lib.NoAny s.data.toList stops i))
  case atStart => exact ⟨0, by omega, by omega, ⟨by show (w.heap.push _)[_]? = _; simp, (Below.refl _ _).alloc (Nat.le_refl _) _⟩, Lib.NoAny.zero _ _⟩
  case round =>
    obtain ⟨i, hi, hig, hit, hno⟩ := hrel
    by_cases hlt : i < s.size
    · have hnx := fun ty => Lib.run_next_any_at (P := Tryz.prog) wr w.heap.size s i ty hit.out.1 hlt
      obtain ⟨x, hx⟩ : ∃ x : UInt8, s[i]'hlt = x := ⟨_, rfl⟩
      have hxl : s.data.toList[i]? = some x := by rw [← hx]; exact Lib.data_getElem? s i hlt
      by_cases h128 : x.toNat < 128
      · have hd : Utf8.decode s i = (x.toNat, 1) := by rw [decode_ascii s i hlt (by rw [hx]; exact h128), hx]
        rw [hd] at hnx
        have HX := Lib.hid hxl
        have HI := Lib.hid (hit.out.move (i + 1))
        have hcon := Lib.contains_iff_indexByte stops x
        have hback : ((x.toNat : Int)).toNat.toUInt8 = x := by simp
        have HB := Lib.hid hback
        clear hxl hx hd hback
        cases hin : stops.contains x
        · rw [hin] at hcon
          have hlt0 : ¬ ((0 : Int) ≤ Lib.indexByte [32, 40, 41] x) := of_decide_eq_false hcon.symm
          have HN := Lib.hid hin
          clear hcon hin
          go_wp2_with (go_at_call 189; refine (Tryz.strings_IndexRune_ascii _ _ _ (by omega) (by omega)).mono ?_; rintro e w' ⟨rfl, hw⟩; rw [hw, HB.out]; clear hw)
          go_roundg (s.size - (i + 1))
          case measure => omega
          case rel => exact ⟨i + 1, by omega, by omega, HI, hno.out.succ HX.out HN.out⟩
        · rw [hin] at hcon
          have hge : (0 : Int) ≤ Lib.indexByte [32, 40, 41] x := of_decide_eq_true hcon.symm
          have HN := Lib.hid hin
          clear hcon hin
          go_wp2_with (go_at_call 189; refine (Tryz.strings_IndexRune_ascii _ _ _ (by omega) (by omega)).mono ?_; rintro e w' ⟨rfl, hw⟩; rw [hw, HB.out]; clear hw)
          go_ret
          exact ⟨by rw [Lib.indexAny_hit hno.out HX.out HN.out]; rfl, HI.out.2⟩
      · obtain ⟨q1, q2, q3⟩ := decode_more s i hlt (by rw [hx]; omega)
        obtain ⟨q4, q5⟩ := decode_high s i hlt (by rw [hx]; omega)
        obtain ⟨r, n, hrn⟩ : ∃ r n, Utf8.decode s i = (r, n) := ⟨_, _, rfl⟩
        rw [hrn] at q1 q2 q3 q4 q5 hnx
        have q2 : i + n ≤ s.size := q2
        have q5 : 1 ≤ n := q5
        have HI := Lib.hid (hit.out.move (i + n))
        have HN := Lib.hid (NoAny.skip hno.out q3)
        have HV := Lib.hid q1
        clear hxl hx hrn q3 q1
        go_wp2_with fail
        refine (indexRune_high _ r q4 HV.out).mono ?_
        rintro e w2 ⟨rfl, hb⟩
        have HB := Lib.hid (HI.out.below hb)
        clear hb
        go_wp2
        go_roundg (s.size - (i + n))
        case measure => omega
        case rel => exact ⟨i + n, q2, by omega, HB, HN⟩
    · have hnx := fun ty => Lib.run_next_end_at (P := Tryz.prog) wr w.heap.size s i ty hit.out.1 hlt
      obtain rfl : i = s.size := by omega
      go_wp2
      go_ret
      exact ⟨by rw [Lib.indexAny_none (by rw [← Lib.size_eq]; exact hno.out)]; rfl, hit.out.2⟩

theorem indexAny_any (w : World) (s : ByteArray) (h : s.size ≤ 262144) : Calls Tryz.prog 127 #[.string s, .string ⟨#[32, 40, 41]⟩] w (AnyPost s.data.toList w) := by
  rcases Nat.lt_or_ge 8 s.size with h8 | h8
  · refine (Tryz.strings_IndexAny_long (fun _ => by kernel_rfl) s ⟨#[32, 40, 41]⟩ w (by decide) h8 (by omega) (by decide) ?_).mono ?_
    · intro j b hb
      match j, hb with
      | 0, hb => simp at hb; subst hb; decide
      | 1, hb => simp at hb; subst hb; decide
      | 2, hb => simp at hb; subst hb; decide
      | j + 3, hb => simp at hb
    · rintro e w' ⟨rfl, rfl⟩
      exact ⟨rfl, ((Below.refl _ _).alloc (Nat.le_refl _) _).alloc (by simp) _⟩
  · exact indexAny_short w s h8

/-- .. where the word at the head ends. -/
theorem indexAny_word : ∀ l : List UInt8, Lib.indexAny l stops = if (wordOf l).length = l.length then -1 else ((wordOf l).length : Int)
  | [] => rfl
  | b :: l => by
    have ih := indexAny_word l
    have hle : (wordOf l).length ≤ l.length := by have := restOf_len l; omega
    unfold Lib.indexAny
    by_cases hb : stops.contains b = true
    · have hs : stopB b = true := by unfold stops at hb; unfold stopB; simpa [Bool.or_assoc] using hb
      have hw : wordOf (b :: l) = [] := by unfold wordOf; rw [List.takeWhile_cons, hs]; rfl
      rw [if_pos hb, hw]
      rfl
    · have hs : stopB b = false := by unfold stops at hb; unfold stopB; simpa [Bool.or_assoc] using hb
      have hw : wordOf (b :: l) = b :: wordOf l := by unfold wordOf; rw [List.takeWhile_cons, hs]; rfl
      rw [if_neg hb, hw, ih]
      simp only [List.length_cons]
      by_cases he : (wordOf l).length = l.length
      · simp [he]
      · have h1 : (((wordOf l).length : Int) == -1) = false := by simp
        simp [he, h1]

end Go.Proofs.YtdbglgjphfkonaaGreatDoor

