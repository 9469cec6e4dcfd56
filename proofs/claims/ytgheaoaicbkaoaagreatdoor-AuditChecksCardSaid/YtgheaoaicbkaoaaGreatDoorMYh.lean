/-
  Closed calls by reflection: drawn regions, the theorem.
-/
import Derived.Test.YtgheaoaicbkaoaaGreatDoorMYg
namespace AC.Ev
open Go
set_option linter.unusedVariables false
set_option linter.unusedSimpArgs false
theorem OR_slot {φ : Phi} {tm : Tm} {a : Act} {x : Operand} (hg : GlobOk φ) (h : ∀ t, x = .tmp t → RV φ ((tm.t.get t).getD undef) (a.tmps.getD t undef)) : OR φ tm a.eval x := by
  intro v hv
  cases x with
  | tmp t =>
    rw [opdV] at hv
    injection hv with hv
    subst hv
    exact h t rfl
  | const u =>
    rw [opdV] at hv
    split at hv
    · rename_i hp
      injection hv with hv
      subst hv
      exact .plain hp
    · cases hv
  | func f =>
    rw [opdV] at hv
    injection hv with hv
    subst hv
    exact .func .nil .nil
  | global g =>
    rw [opdV] at hv
    split at hv
    · rename_i hl
      injection hv with hv
      subst hv
      exact hg.rv hl
    · cases hv
theorem put_getD {a : Act} {d : Option Nat} {v : Value} {t : Nat} (hd : ∀ i, d = some i → i < a.tmps.size) : (a.put d v).tmps.getD t undef = if d = some t then v else a.tmps.getD t undef := by
  cases d with
  | none => rw [if_neg (by simp)]; rfl
  | some d =>
    have hdl := hd d rfl
    simp only [Act.put, Array.getD_eq_getD_getElem?]
    by_cases hi : d = t
    · subst hi
      rw [if_pos rfl, Array.getElem?_setIfInBounds_self_of_lt hdl]
      rfl
    · rw [if_neg (by simpa using hi), Array.getElem?_setIfInBounds_ne (fun e => hi e)]
theorem put_size (a : Act) (d : Option Nat) (v : Value) : (a.put d v).tmps.size = a.tmps.size := by
  cases d with
  | none => rfl
  | some d => simp [Act.put]
theorem Ext.up {φ φ' : Phi} {L L' : Look} {n n1 n2 : Nat} {w w' : World} (h : Ext φ L n φ' L' n1 w w') (hn : n1 ≤ n2) : Ext φ L n φ' L' n2 w w' :=
  ⟨h.le, Nat.le_trans h.nx hn, fun g hg => ⟨(h.new g hg).1, Nat.lt_of_lt_of_le (h.new g hg).2 hn⟩, h.os, h.tape, h.output, h.size, h.fr, h.live, fun g o hg => (h.dom g o hg).imp id fun h => ⟨h.1, Nat.lt_of_lt_of_le h.2 hn⟩, fun k hk => (h.men k hk).imp id fun h => ⟨h.1, Nat.lt_of_lt_of_le h.2 hn⟩⟩
section
variable {G : Snap → Prop} {step : Snap → WL → Snap → Prop} {link : WL → WL → Prop}
theorem Fwd.good {s sF : Snap} {l : List WL} (h : Fwd G step link s l sF) : G s := by cases h <;> assumption
theorem Fwd.bits (hs : ∀ s x s', step s x s' → s'.I = Nat.lor s.I (2 ^ x.i)) {s sF : Snap} {l : List WL} (h : Fwd G step link s l sF) : ∀ j, tb sF.I j = true ↔ tb s.I j = true ∨ ∃ x ∈ l, x.i = j := by
  induction h with
  | nil => intro j; simp
  | cons h h1 h2 h3 ih =>
    intro j
    rw [ih j, hs _ _ _ h1, tb_lor, tb_pow]
    simp [or_assoc]
theorem Fwd.mem {s sF : Snap} {l : List WL} (h : Fwd G step link s l sF) : ∀ x ∈ l, ∃ s s', step s x s' := by
  induction h with
  | nil => intro x hx; cases hx
  | cons h h1 h2 h3 ih =>
    intro x hx
    rcases List.mem_cons.1 hx with e | hx
    · rw [e]; exact ⟨_, _, h1⟩
    · exact ih x hx
theorem Fwd.next (hs : ∀ s x s', step s x s' → s.m.next ≤ s'.m.next) {s sF : Snap} {l : List WL} (h : Fwd G step link s l sF) : s.m.next ≤ sF.m.next := by
  induction h with
  | nil => exact Nat.le_refl _
  | cons h h1 h2 h3 ih => exact Nat.le_trans (hs _ _ _ h1) ih
theorem Fwd.linked {s sF : Snap} {l : List WL} (h : Fwd G step link s l sF) : ∀ y l', l = y :: l' → ∀ x ∈ l', ∃ p ∈ l, link p x := by
  induction h with
  | nil => intro y l' e; cases e
  | @cons s s' sF y l h h1 h2 h3 ih =>
    intro y' l' e x hx
    injection e with e1 e2
    subst e2
    cases l with
    | nil => cases hx
    | cons z l2 =>
      rcases List.mem_cons.1 hx with e | hx
      · exact ⟨y, by simp, by rw [e]; exact h2 z l2 rfl⟩
      · obtain ⟨p, p1, p2⟩ := ih z l2 rfl x hx
        exact ⟨p, List.mem_cons_of_mem _ p1, p2⟩
end
/-- What is known of the region. -/
structure Ctx (P : Program) (L : List Oper) (ops : Array Oper) (B : List Nat) (tm : Tm) (al : List AB) (n0 : Nat) : Prop where
  st : Static L B
  sub : ∀ (i : Nat) (x : Oper), L[i]? = some x → ops[i]? = some x
  made : ∀ x ∈ al, MadeOk P L ops n0 tm x
  uq : Uniq al
  bits : ∀ (d : Nat → Bool), Closed ops.toList d → ∀ (k b : Nat), B[k]? = some b → ReadyAt ops.toList d k → ∀ j, tb b j = true → d j = true
def GoodS (P : Program) (L : List Oper) (ops : Array Oper) (B : List Nat) (tm : Tm) (al : List AB) (wm : Nat) (s : Snap) : Prop := Same P L ops B tm al wm s ∧ ∀ x ∈ al, (s.m.t.get x.g = none ↔ noneAhead x.i s.I 0 B = true)
/-- When the operations d are done. -/
structure InvP (P : Program) (L : List Oper) (ops : Array Oper) (B : List Nat) (tm : Tm) (al : List AB) (n0 : Nat) (sF : Snap) (M : Nat) (φ0 : Phi) (L0 : Look) (w0 : World) (df : List Deferred) (d : Nat → Bool) (a : Act) (w : World) (φ : Phi) (sq : Snap) (rest : List WL) : Prop where
  fw : Fwd (GoodS P L ops B tm al sF.I) (Step P L ops B tm al) (Link B) sq rest sF
  hrest : ∀ x ∈ rest, d x.i = false
  hI : ∀ j, tb sq.I j = true ↔ (tb sF.I j = true ∧ d j = true)
  hn : n0 + L.length ≤ sq.m.next
  sz : tm.n = a.tmps.size
  sl : ∀ t, (∀ (j : Nat) (o : Oper), L[j]? = some o → o.dst = some t → d j = true) → RV φ ((tm.t.get t).getD undef) (a.tmps.getD t undef)
  df : a.defers = df
  rp : Rep φ (mix sq.m.t.get d al) w
  ex : Ext φ0 L0 n0 φ (mix sq.m.t.get d al) sq.m.next w0 w
  fr : ∀ g, sq.m.next ≤ g → g < M → φ g = none
  fa : ∀ x ∈ al, d x.i = false → φ x.g = none
section
variable {P : Program} {L : List Oper} {ops : Array Oper} {B : List Nat} {tm : Tm} {al : List AB} {n0 : Nat} {sF : Snap} {M : Nat} {φ0 : Phi} {L0 : Look} {w0 : World} {df : List Deferred} {d : Nat → Bool} {a : Act} {w : World} {φ : Phi} {sq : Snap} {rest : List WL}
abbrev plus (d : Nat → Bool) (i : Nat) : Nat → Bool := fun j => d j || j == i
theorem plus_ne {d : Nat → Bool} {i j : Nat} (h : j ≠ i) : plus d i j = d j := by
  have : (j == i) = false := by rw [beq_eq_false_iff_ne]; exact h
  show (d j || j == i) = d j
  rw [this, Bool.or_false]
theorem plus_self (d : Nat → Bool) (i : Nat) : plus d i i = true := by simp [plus]
theorem plus_false {d : Nat → Bool} {i j : Nat} (h : plus d i j = false) : d j = false ∧ j ≠ i := by
  simp [plus] at h
  exact h
/-- The temporaries, one operation later. -/
theorem InvP.slots (I : InvP P L ops B tm al n0 sF M φ0 L0 w0 df d a w φ sq rest) {i : Nat} {o : Oper} (ho : L[i]? = some o) {φ' : Phi} (hle : φ.Le φ') {v v' : Value} (hv : RV φ' v v') (hd : dstIs tm o v = true) :
    tm.n = (a.put o.dst v').tmps.size ∧ ∀ t, (∀ (j : Nat) (o : Oper), L[j]? = some o → o.dst = some t → plus d i j = true) → RV φ' ((tm.t.get t).getD undef) ((a.put o.dst v').tmps.getD t undef) := by
  have hd := dstIs_ok hd
  refine ⟨by rw [put_size]; exact I.sz, fun t ht => ?_⟩
  rw [put_getD fun k hk => by rw [← I.sz]; exact (hd k hk).1]
  by_cases he : o.dst = some t
  · rw [if_pos he, (hd t he).2]
    exact hv
  · rw [if_neg he]
    refine (I.sl t fun j o' hj hdst => ?_).mono hle
    have := ht j o' hj hdst
    by_cases hji : j = i
    · subst hji
      rw [ho] at hj
      injection hj with hj
      subst hj
      exact absurd hdst he
    · rw [plus_ne hji] at this
      exact this
theorem mix_quiet {T : Look} {i : Nat} (h : ∀ x ∈ al, x.i ≠ i) : mix T (plus d i) al = mix T d al := by
  funext g
  unfold mix
  split
  · rfl
  · exact extra_congr fun x hx _ => plus_ne (h x hx)
/-- An operation that changes nothing. -/
theorem InvP.quiet (I : InvP P L ops B tm al n0 sF M φ0 L0 w0 df d a w φ sq rest) {i : Nat} {o : Oper} (ho : L[i]? = some o) (h1 : ∀ x ∈ al, x.i ≠ i) (h2 : tb sF.I i = false) {v v' : Value} (hv : RV φ v v') (hd : dstIs tm o v = true) :
    InvP P L ops B tm al n0 sF M φ0 L0 w0 df (plus d i) (a.put o.dst v') w φ sq rest := by
  obtain ⟨s1, s2⟩ := I.slots ho (.refl φ) hv hd
  have hb := I.fw.bits fun _ _ _ h => h.set
  have hni : ∀ x ∈ rest, x.i ≠ i := fun x hx e => by
    have := (hb i).2 (.inr ⟨x, hx, e⟩)
    rw [h2] at this
    cases this
  refine ⟨I.fw, fun x hx => by rw [plus_ne (hni x hx)]; exact I.hrest x hx, fun j => ?_, I.hn, s1, s2, by rw [put_defers]; exact I.df, by rw [mix_quiet h1]; exact I.rp, by rw [mix_quiet h1]; exact I.ex, I.fr, fun x hx hx2 => I.fa x hx (plus_false hx2).1⟩
  by_cases hj : j = i
  · subst hj
    rw [I.hI, h2]
    simp
  · rw [I.hI, plus_ne hj]
theorem mix_sub {T : Look} {p : Nat → Bool} {g : Nat} {o : Ob} (h : T g = some o) : mix T p al g = some o := by
  unfold mix
  rw [h]
theorem mix_cases {T : Look} {p : Nat → Bool} {g : Nat} {o : Ob} (h : mix T p al g = some o) : T g = some o ∨ (T g = none ∧ ∃ x ∈ al, p x.i = true ∧ x.g = g ∧ x.ob = o) := by
  unfold mix at h
  split at h
  · rename_i o' ho
    rw [ho]
    exact .inl h
  · rename_i hn
    exact .inr ⟨hn, extra_some h⟩
theorem mix_none {T : Look} {p : Nat → Bool} {g : Nat} (h : T g = none) : mix T p al g = extra p al g := by
  unfold mix
  rw [h]
theorem InvP.step (C : Ctx P L ops B tm al n0) (hM : sF.m.next ≤ M) (I : InvP P L ops B tm al n0 sF M φ0 L0 w0 df d a w φ sq rest) {i : Nat} {o : Oper} (ho : L[i]? = some o) (hdi : d i = false) (hcl : Closed ops.toList d) (hrd : ReadyAt ops.toList d i) (Q : Exit → Act → World → Prop) :
    wpOp P ops Q i (fun a' w' => ∃ φ sq rest, InvP P L ops B tm al n0 sF M φ0 L0 w0 df (plus d i) a' w' φ sq rest) a w := by
  obtain ⟨b, hb⟩ := C.st.bit i o ho
  have ahead : ∀ j, tb b j = true → d j = true := C.bits d hcl i b hb hrd
  have hgood := I.fw.good
  have fbits := I.fw.bits fun _ _ _ h => h.set
  obtain ⟨c, hw, hc0, hc1⟩ := hgood.1 i o b ho hb
  have hwant : ∀ {c : Bool}, Wants ops tm o c → Region.wanted o (yielded ops a.tmps) = c := fun {c} h => h φ a.tmps fun p oj dd hg hj hd => I.sl dd fun j o' hj' hd' => by
    obtain ⟨k1, oj', k2⟩ := C.st.guard i o b p ho hb hg
    have k3 := C.sub _ _ k2
    rw [hj] at k3
    injection k3 with k3
    subst k3
    have := C.st.one _ _ _ _ _ hj' k2 hd' hd
    subst this
    exact ahead _ k1
  have hor : ∀ x ∈ o.op.operands.toList, OR φ tm a.eval x := fun x hx => OR_slot I.rp.glob fun t ht => I.sl t fun j o' hj hd => ahead _ (C.st.sees i o b t ho hb (by rw [← ht]; exact hx) j o' hj hd)
  have notI : tb sq.I i = false := by
    cases h : tb sq.I i with
    | false => rfl
    | true =>
      have := ((I.hI i).1 h).2
      rw [hdi] at this
      cases this
  have none1 : noneAhead i sq.I 0 B = true := noneAhead_of fun j b' hj ht => by
    rw [Nat.zero_add] at ht
    have hdj := ((I.hI j).1 ht).2
    cases h : tb b' i with
    | false => rfl
    | true =>
      have := C.bits d hcl j b' hj (hcl j hdj) i h
      rw [hdi] at this
      cases this
  have notal : kind o.op ≠ .al → ∀ x ∈ al, x.i ≠ i := fun hk x hx e => by
    obtain ⟨_, o', h1, h2, _⟩ := C.made x hx
    rw [e, ho] at h1
    injection h1 with h1
    subst h1
    exact hk h2
  have notwr : (isWr o = true → Wants ops tm o true → False) → tb sF.I i = false := fun hk => by
    cases h : tb sF.I i with
    | false => rfl
    | true =>
      exfalso
      rcases (fbits i).1 h with h | ⟨x, hx, e⟩
      · rw [notI] at h; cases h
      · obtain ⟨s, s', hs⟩ := I.fw.mem x hx
        obtain ⟨o', b', t, h1, h2, _, h3, _⟩ := hs.out
        rw [e, ho] at h1
        injection h1 with h1
        subst h1
        exact hk h2 h3
  unfold wpOp
  rw [C.sub i o ho]
  simp only []
  cases c with
  | false =>
    rw [if_neg (by rw [hwant hw]; simp)]
    refine ⟨φ, sq, rest, I.quiet ho (fun x hx e => ?_) (notwr fun _ h => ?_) .undef (hc0 rfl)⟩
    · obtain ⟨_, o', h1, _, h2, _⟩ := C.made x hx
      rw [e, ho] at h1
      injection h1 with h1
      subst h1
      have := (hwant hw).symm.trans (hwant h2)
      cases this
    · have := (hwant hw).symm.trans (hwant h)
      cases this
  | true =>
    rw [if_pos (hwant hw)]
    refine .inl ?_
    obtain ⟨cw, ca, cr⟩ := hc1 rfl
    cases hk : kind o.op with
    | rd =>
      have hsub : subM (Nat.land b sF.I) sq.I = true := subM_of fun j hj => by
        rw [tb_land, Bool.and_eq_true] at hj
        exact (I.hI j).2 ⟨hj.2, ahead j hj.1⟩
      obtain ⟨v, hd, hrun⟩ := cr hk hsub none1
      have hrep : Rep φ sq.m.t.get w := I.rp.sub (fun g o h => mix_sub h) fun g q h => by
        rcases mix_cases h with h | ⟨_, x, hx, _, _, rfl⟩
        · exact .inl h
        · obtain ⟨_, _, _, _, _, h2, _⟩ := C.made x hx
          exact .inr h2
      obtain ⟨v', k1, k2⟩ := hrun φ w a.eval hor hrep
      unfold Oper.wp
      rw [k1]
      exact ⟨φ, sq, rest, I.quiet ho (notal (by rw [hk]; simp)) (notwr fun h _ => by unfold isWr at h; rw [hk] at h; cases h) k2 hd⟩
    | al =>
      obtain ⟨x, hx, hxi⟩ := ca hk
      obtain ⟨hxg, o', h1, _, _, hfr, sh, hm, hd⟩ := C.made x hx
      rw [hxi, ho] at h1
      injection h1 with h1
      subst h1
      have hφ := I.fa x hx (by rw [hxi]; exact hdi)
      obtain ⟨obj, im, v', k1, k2, k3, k4, k5⟩ := hm φ w a.eval x.g hor hφ
      have hil : i < L.length := (List.getElem?_eq_some_iff.1 ho).1
      have hgn : x.g < sq.m.next := by have := I.hn; omega
      have hget : sq.m.t.get x.g = none := (hgood.2 x hx).2 (by rw [hxi]; exact none1)
      have hne : ∀ k, k ≠ x.g → mix sq.m.t.get (plus d i) al k = mix sq.m.t.get d al k := fun k hkg => by
        unfold mix
        split
        · rfl
        · refine extra_congr fun y hy hyk => plus_ne fun e => hkg ?_
          rw [← hyk, (C.made y hy).1, hxg, hxi, e]
      obtain ⟨r1, r2⟩ := rep_new (n := n0) (L' := mix sq.m.t.get (plus d i) al) I.rp hφ (by rw [mix_none hget]; exact extra_eq C.uq (fun y hy => (C.made y hy).1) hx (by rw [hxi]; exact plus_self d i)) hne k2 (by omega) k3 (fun c e x u S e1 k hk => by rw [k5 c e x u S e1] at hk; cases hk)
      obtain ⟨s1, s2⟩ := I.slots ho (Phi.le_set hφ) k4 hd
      have hnw : tb sF.I i = false := notwr fun h _ => by unfold isWr at h; rw [hk] at h; cases h
      have hni : ∀ x ∈ rest, x.i ≠ i := fun x hx e => by
        have := (fbits i).2 (.inr ⟨x, hx, e⟩)
        rw [hnw] at this
        cases this
      unfold Oper.wp
      rw [k1]
      refine ⟨_, sq, rest, I.fw, fun y hy => by rw [plus_ne (hni y hy)]; exact I.hrest y hy, fun j => ?_, I.hn, s1, s2, by rw [put_defers]; exact I.df, r1, I.ex.onto (r2 _ hgn) (Nat.le_refl _), fun g hg1 hg2 => ?_, fun y hy hyd => ?_⟩
      · by_cases hj : j = i
        · subst hj
          rw [I.hI, hnw]
          simp
        · rw [I.hI, plus_ne hj]
      · rw [Phi.set_ne (by omega)]
        exact I.fr g hg1 hg2
      · obtain ⟨q1, q2⟩ := plus_false hyd
        rw [Phi.set_ne (by have := (C.made y hy).1; omega)]
        exact I.fa y hy q1
    | wr =>
      have hwi := cw hk
      have blocked : ∀ x ∈ rest, x.i = i → ∀ p ∈ rest, Link B p x → False := by
        rintro x hx e p hp ⟨b', hb', ht⟩
        rw [e, hb] at hb'
        injection hb' with hb'
        subst hb'
        have := ahead _ ht
        rw [I.hrest p hp] at this
        cases this
      obtain ⟨x, hx, hxi⟩ : ∃ x ∈ rest, x.i = i := by
        rcases (fbits i).1 hwi with h | h
        · rw [notI] at h; cases h
        · exact h
      cases hfw : rest with
      | nil => rw [hfw] at hx; cases hx
      | cons y l =>
        have hyi : y.i = i := by
          rw [hfw] at hx
          rcases List.mem_cons.1 hx with e | hx
          · rw [← e]; exact hxi
          · obtain ⟨p, p1, p2⟩ := I.fw.linked y l hfw x hx
            exact (blocked x (by rw [hfw]; exact List.mem_cons_of_mem _ hx) hxi p p1 p2).elim
        have hlne : ∀ z ∈ l, z.i ≠ i := fun z hz e => by
          obtain ⟨p, p1, p2⟩ := I.fw.linked y l hfw z hz
          exact blocked z (by rw [hfw]; exact List.mem_cons_of_mem _ hz) e p p1 p2
        have fw := I.fw
        have hrest := I.hrest
        rw [hfw] at fw hrest
        cases fw with
        | @cons _ s' _ _ _ g1 st g2 fw' =>
          obtain ⟨o', b', t, h1, h2, h3, h4, hop, ht, hd⟩ := st.out
          rw [hyi, ho] at h1
          injection h1 with h1
          subst h1
          rw [hyi, hb] at h3
          injection h3 with h3
          subst h3
          have hsn := fw'.next fun _ _ _ h => h.next
          have hset := st.set
          rw [hyi] at hset
          have hsub : ∀ g q, t.get g = some q → mix sq.m.t.get d al g = some q := fun g q h => by
            rw [ht] at h
            rcases mix_cases h with h | ⟨hn, z, hz, z1, rfl, rfl⟩
            · exact mix_sub h
            · rw [mix_none hn]
              exact extra_eq C.uq (fun y hy => (C.made y hy).1) hz (ahead _ z1)
          have hrep : Rep φ t.get w := I.rp.sub hsub fun g q h => by
            rcases mix_cases h with h | ⟨_, x, hx, _, _, rfl⟩
            · exact .inl (by rw [ht]; exact mix_sub h)
            · obtain ⟨_, _, _, _, _, h2, _⟩ := C.made x hx
              exact .inr h2
          refine hop φ w a hor hrep (fun g hg1 hg2 => I.fr g hg1 (by omega)) _ Q fun v' w' φ' hv hr' hx' => ?_
          have hg' := fw'.good
          have hlow : ∀ z ∈ al, z.g < sq.m.next := fun z hz => by
            obtain ⟨e1, o', e2, _⟩ := C.made z hz
            have := (List.getElem?_eq_some_iff.1 e2).1
            have := I.hn
            omega
          have hnal := notal (by rw [hk]; simp)
          obtain ⟨r1, r2⟩ := rep_frame (L' := mix s'.m.t.get (plus d i) al) I.rp hsub hr' hx' (fun g q h => by
            rcases mix_cases h with h | ⟨hn, z, hz, z1, rfl, rfl⟩
            · exact .inl h
            · refine .inr ?_
              have hzd : d z.i = true := by rw [plus_ne (hnal z hz)] at z1; exact z1
              have hna := noneAhead_ok ((hg'.2 z hz).1 hn)
              have hbz : tb b z.i = false := hna i b hb (by rw [hset, Nat.zero_add, tb_lor, tb_pow, decide_eq_true rfl, Bool.or_true])
              have hsn2 : sq.m.t.get z.g = none := (hgood.2 z hz).2 (noneAhead_of fun j c hj htj => hna j c hj (by rw [hset, tb_lor, htj]; rfl))
              refine ⟨?_, ?_, ?_, hlow z hz⟩
              · rw [ht, mix_none hsn2]
                refine extra_none fun y hy hyb hyg => ?_
                have := (C.made y hy).1
                have := (C.made z hz).1
                have e1 : y.i = z.i := by omega
                rw [e1, hbz] at hyb
                cases hyb
              · rw [mix_none hsn2]
                exact extra_eq C.uq (fun y hy => (C.made y hy).1) hz hzd
              · obtain ⟨_, _, _, _, _, h2, _⟩ := C.made z hz
                exact h2) fun g q h => mix_sub h
          obtain ⟨s1, s2⟩ := I.slots ho hx'.le hv hd
          have hnn : n0 ≤ sq.m.next := by have := I.hn; omega
          have keepφ : ∀ g, (g < sq.m.next ∨ s'.m.next ≤ g) → φ' g = φ g := fun g hg => by
            by_cases he : φ' g = φ g
            · exact he
            · have := hx'.new g he
              simp only [] at this
              omega
          refine ⟨φ', s', l, fw', fun z hz => ?_, fun j => ?_, Nat.le_trans I.hn st.next, s1, s2, by rw [put_defers]; exact I.df, r1, I.ex.onto (r2.weak hnn) st.next, fun g hg1 hg2 => ?_, fun z hz hzd => ?_⟩
          · rw [plus_ne (hlne z hz)]
            exact hrest z (List.mem_cons_of_mem _ hz)
          · rw [hset, tb_lor, tb_pow]
            by_cases hj : j = i
            · subst hj
              rw [hwi, plus_self]
              simp
            · rw [plus_ne hj, decide_eq_false (fun e => hj e.symm), Bool.or_false]
              exact I.hI j
          · rw [keepφ g (.inr hg1)]
            exact I.fr g (Nat.le_trans st.next hg1) hg2
          · rw [keepφ z.g (.inl (hlow z hz))]
            exact I.fa z hz (plus_false hzd).1
end
/-! ### The operations in any order -/
theorem least_false (d : Nat → Bool) (n : Nat) (h : ¬ ∀ i, i < n → d i = true) : ∃ i, i < n ∧ d i = false ∧ ∀ j, j < i → d j = true := by
  induction n with
  | zero => exact absurd (fun i hi => absurd hi (by omega)) h
  | succ n ih =>
    by_cases h1 : ∀ i, i < n → d i = true
    · refine ⟨n, by omega, ?_, h1⟩
      cases hd : d n with
      | false => rfl
      | true =>
        refine absurd (fun i hi => ?_) h
        rcases Nat.lt_or_ge i n with h2 | h2
        · exact h1 i h2
        · obtain rfl : i = n := by omega
          exact hd
    · obtain ⟨i, hi, h2, h3⟩ := ih h1
      exact ⟨i, by omega, h2, h3⟩

section
variable {P : Program} {ops : Array Oper} {Q : Exit → Act → World → Prop}

theorem ready_leastB {listed : Array Bool} {d : Nat → Bool} (hsz : listed.size = ops.size) (hd : ∀ i, i < ops.size → listed[i]? = some (d i))
    (hlow : ∀ (i : Nat) (o : Oper), ops[i]? = some o → ∀ e ∈ o.after, Region.binds .any e = true → e.on < i) {i : Nat} (hi : i < ops.size) (h1 : d i = false) (h2 : ∀ j, j < i → d j = true) : i ∈ Region.ready .any ops listed := by
  unfold Region.ready
  rw [List.mem_filter]
  refine ⟨List.mem_range.2 hi, ?_⟩
  have e1 : listed.getD i true = false := by rw [Array.getD_eq_getD_getElem?, hd i hi, h1]; rfl
  obtain ⟨o, ho⟩ : ∃ o, ops[i]? = some o := ⟨ops[i], Array.getElem?_eq_getElem hi⟩
  rw [e1, ho]
  simp only [Bool.not_false, Bool.true_and, Option.map_some, Option.getD_some]
  rw [Array.all_eq_true_iff_forall_mem]
  intro e he
  cases hb : Region.binds .any e with
  | false => simp
  | true =>
    have hlt := hlow i o ho e he hb
    have e2 : listed.getD e.on false = true := by rw [Array.getD_eq_getD_getElem?, hd e.on (by omega), h2 e.on hlt]; rfl
    rw [e2]
    simp

theorem ready_specB {listed : Array Bool} {d : Nat → Bool} (hd : ∀ i, i < ops.size → listed[i]? = some (d i)) {i : Nat} (h : i ∈ Region.ready .any ops listed) (hall : ∀ (i : Nat) (o : Oper), ops[i]? = some o → ∀ e ∈ o.after, Region.binds .any e = true → e.on < i) :
    ∃ o, ops[i]? = some o ∧ d i = false ∧ ∀ e ∈ o.after, Region.binds .any e = true → d e.on = true := by
  unfold Region.ready at h
  rw [List.mem_filter] at h
  obtain ⟨h1, h2⟩ := h
  have hi : i < ops.size := List.mem_range.1 h1
  obtain ⟨o, ho⟩ : ∃ o, ops[i]? = some o := ⟨ops[i], Array.getElem?_eq_getElem hi⟩
  rw [ho, Array.getD_eq_getD_getElem?, hd i hi] at h2
  simp only [Option.getD_some, Option.map_some, Bool.and_eq_true, Bool.not_eq_true'] at h2
  refine ⟨o, ho, h2.1, fun e he hb => ?_⟩
  have h3 := (Array.all_eq_true_iff_forall_mem.1 h2.2) e he
  have hlt := hall i o ho e he hb
  rw [Array.getD_eq_getD_getElem?, hd e.on (by omega)] at h3
  simpa [hb] using h3

/-- The operations in any order: I says what holds when the operations d are done. -/
theorem wp_region_invB {id : Nat} {a : Act} {w : World} (hm : P.follows .mixedOrders = true)
    (hlow : ∀ (i : Nat) (o : Oper), ops[i]? = some o → ∀ e ∈ o.after, Region.binds .any e = true → e.on < i) (I : (Nat → Bool) → Act → World → Prop) (h0 : I (fun _ => false) a w.drew)
    (hstep : ∀ (d : Nat → Bool) (i : Nat) (o : Oper) (a : Act) (w : World), ops[i]? = some o → d i = false → (∀ e ∈ o.after, Region.binds .any e = true → d e.on = true) → I d a w → wpOp P ops Q i (I (fun j => d j || j == i)) a w)
    (hfin : ∀ (d : Nat → Bool) (a : Act) (w : World), (∀ i, i < ops.size → d i = true) → I d a w → Q .normal a w) : (Code.region id ops true).wp P Q a w := by
  have key : ∀ (fuel : Nat) (listed : Array Bool) (d : Nat → Bool) (a : Act) (w : World), listed.size = ops.size → (∀ i, i < ops.size → listed[i]? = some (d i)) → I d a w →
      (∃ n, n + fuel = ops.size ∧ ∃ l : List Nat, l.length = n ∧ l.Nodup ∧ ∀ i ∈ l, i < ops.size ∧ d i = true) → wpAny P .any ops Q fuel listed a w := by
    intro fuel
    induction fuel with
    | zero =>
      intro listed d a w hsz hd hI hn
      obtain ⟨n, hn, l, hl, hnd, hin⟩ := hn
      have hall : ∀ i, i < ops.size → d i = true := by
        intro i hi
        cases hdi : d i with
        | true => rfl
        | false =>
          exfalso
          have hni : i ∉ l := fun h => by have := (hin i h).2; rw [hdi] at this; cases this
          have hnd2 : (i :: l).Nodup := List.nodup_cons.2 ⟨hni, hnd⟩
          have hsub : (i :: l) ⊆ List.range ops.size := by
            intro j hj
            rcases List.mem_cons.1 hj with rfl | hj
            · exact List.mem_range.2 hi
            · exact List.mem_range.2 (hin j hj).1
          have := List.Nodup.length_le_of_subset hnd2 hsub
          simp at this
          omega
      refine ⟨?_, hfin d a w hall hI⟩
      rcases hr : Region.ready .any ops listed with _ | ⟨i, rs⟩
      · rfl
      · exfalso
        obtain ⟨o, ho, hdi, _⟩ := ready_specB hd (i := i) (by rw [hr]; exact List.mem_cons_self) hlow
        have hi : i < ops.size := (Array.getElem?_eq_some_iff.1 ho).1
        rw [hall i hi] at hdi
        cases hdi
    | succ fuel ih =>
      intro listed d a w hsz hd hI hn
      refine ⟨fun hr => ?_, fun i hi => ?_⟩
      · by_cases hall : ∀ i, i < ops.size → d i = true
        · exact hfin d a w hall hI
        · exfalso
          obtain ⟨i, hi, h1, h2⟩ := least_false d ops.size hall
          have := ready_leastB hsz hd hlow hi h1 h2
          rw [hr] at this
          cases this
      · obtain ⟨o, ho, hdi, hed⟩ := ready_specB hd hi hlow
        have hilt : i < ops.size := (Array.getElem?_eq_some_iff.1 ho).1
        refine wpOp_mono (fun a' w' hI' => ih (listed.setIfInBounds i true) (fun j => d j || j == i) a' w' (by simpa using hsz) ?_ hI' ?_) (hstep d i o a w ho hdi hed hI)
        · intro j hj
          by_cases hij : j = i
          · subst hij
            rw [Array.getElem?_setIfInBounds_self_of_lt (by omega)]
            simp
          · rw [Array.getElem?_setIfInBounds_ne (fun e => hij e.symm), hd j hj]
            simp [hij]
        · obtain ⟨n, hn, l, hl, hnd, hin⟩ := hn
          refine ⟨n + 1, by omega, i :: l, by simp [hl], List.nodup_cons.2 ⟨fun h => ?_, hnd⟩, fun j hj => ?_⟩
          · have := (hin i h).2; rw [hdi] at this; cases this
          · rcases List.mem_cons.1 hj with rfl | hj
            · exact ⟨hilt, by simp⟩
            · exact ⟨(hin j hj).1, by simp [(hin j hj).2]⟩
  refine wp_region_any hm (key ops.size (Array.replicate ops.size false) (fun _ => false) a _ (by simp) (fun i hi => by simp [hi]) h0 ⟨0, by omega, [], rfl, List.nodup_nil, fun i hi => by cases hi⟩)
theorem wpOp_of_wpList {i : Nat} {o : Oper} {rest : List Oper} {a : Act} {w : World} (ho : ops[i]? = some o) (h : wpList P ops Q (o :: rest) a w) : wpOp P ops Q i (wpList P ops Q rest) a w := by
  unfold wpOp
  rw [ho]
  exact h

theorem drop_at {ops : Array Oper} {i : Nat} {o : Oper} (ho : ops[i]? = some o) : ops.toList.drop i = o :: ops.toList.drop (i + 1) := by
  obtain ⟨hi, e⟩ := Array.getElem?_eq_some_iff.1 ho
  rw [List.drop_eq_getElem_cons (by simpa using hi)]
  congr 1
end
theorem doneM_bit : ∀ (L : List Oper) (k j : Nat), tb (doneM k L) j = true ↔ k ≤ j ∧ j < k + L.length
  | [], k, j => by
    rw [doneM, tb_zero]
    simp
  | o :: L, k, j => by
    rw [doneM, tb_lor, tb_pow, Bool.or_eq_true, doneM_bit L (k + 1) j, List.length_cons, decide_eq_true_eq]
    omega
section
variable {P : Program} {L : List Oper} {ops : Array Oper} {B : List Nat} {tm : Tm} {al : List AB} {n0 : Nat} {sF : Snap} {M : Nat} {φ0 : Phi} {L0 : Look} {w0 : World} {df : List Deferred} {d : Nat → Bool} {a : Act} {w : World} {φ : Phi} {sq : Snap} {rest : List WL}
theorem InvP.fin (C : Ctx P L ops B tm al n0) (I : InvP P L ops B tm al n0 sF M φ0 L0 w0 df d a w φ sq rest) (hd : ∀ i, i < L.length → d i = true) (t : Tr) (ht : ∀ g, t.get g = mix sF.m.t.get (tb (doneM 0 L)) al g) :
    RT φ tm a.tmps ∧ Rep φ t.get w ∧ Ext φ0 L0 n0 φ t.get sF.m.next w0 w ∧ ∀ g, sF.m.next ≤ g → g < M → φ g = none := by
  have hlt : ∀ {i : Nat} {o : Oper}, L[i]? = some o → i < L.length := fun h => (List.getElem?_eq_some_iff.1 h).1
  have hr : rest = [] := by
    cases hrs : rest with
    | nil => rfl
    | cons x l =>
      exfalso
      obtain ⟨s, s', hs⟩ := I.fw.mem x (by rw [hrs]; simp)
      obtain ⟨o, _, _, h1, _⟩ := hs.out
      have := I.hrest x (by rw [hrs]; simp)
      rw [hd _ (hlt h1)] at this
      cases this
  have hs : sq = sF := by
    have := I.fw
    rw [hr] at this
    cases this
    rfl
  have hmix : mix sq.m.t.get d al = t.get := by
    funext g
    rw [ht, hs]
    unfold mix
    split
    · rfl
    · refine extra_congr fun x hx _ => ?_
      obtain ⟨_, o, h1, _⟩ := C.made x hx
      rw [hd _ (hlt h1), (doneM_bit L 0 x.i).2 ⟨Nat.zero_le _, by rw [Nat.zero_add]; exact hlt h1⟩]
  refine ⟨⟨I.sz, fun i => I.sl i fun j o hj _ => hd _ (hlt hj)⟩, by rw [← hmix]; exact I.rp, ?_, by rw [← hs]; exact I.fr⟩
  have := I.ex
  rw [hmix, hs] at this
  exact this
theorem lowO_ok {o : Oper} {i : Nat} (h : lowO i o = true) : ∀ e ∈ o.after, Region.binds .any e = true → e.on < i := by
  intro e he hb
  have := allL_ok _ h e (Array.mem_toList_iff.2 he)
  rw [bindE_eq, hb, cond_true] at this
  have := ble_t.1 this
  omega
theorem drawK_ok {X : ExtT} {rec : CodeT} (hng : NoNG P X) (hm : P.follows .mixedOrders = true) (hrec : RecOk P rec) : DrawOk P (drawK P X rec) := by
  intro id ops tm m K h
  unfold drawK statR at h
  rw [bif_t, bif_t] at h
  obtain ⟨⟨hlow, hst⟩, h⟩ := h
  have hst := stat_ok hst
  obtain ⟨tmF, alF, sF, S, W, t, hK, gr, ch, suf, hnx, uq, hc, hv, hsame, hal, hdom, ht⟩ := openK_ok hng hrec h
  obtain ⟨tm', m', hK, hn', hcode⟩ := listK_ok hng hrec hK
  have hfst : preR ops.toList = ops.toList.take (cutR ops.toList) := firstL_eq _ _
  have hrst : restR ops.toList = ops.toList.drop (cutR ops.toList) := lastL_eq _ _
  have hbst : preB ops.toList = (bitsR ops.toList).take (cutR ops.toList) := firstL_eq _ _
  have hbl : (bitsR ops.toList).length = ops.size := by
    unfold bitsR
    rw [bitsL_len]
    simp
  obtain ⟨_, hcut, hfull⟩ := cutN_ok (bitsR ops.toList) 0 0 (Nat.le_refl _)
  have hcut : cutR ops.toList ≤ ops.size := by rw [← hbl]; unfold cutR; omega
  obtain ⟨N, hN⟩ : ∃ N, N = cutR ops.toList := ⟨_, rfl⟩
  rw [← hN] at hfst hrst hbst hcut
  have hLN : (preR ops.toList).length = N := by rw [hfst, List.length_take]; simp; omega
  generalize preR ops.toList = L at *
  generalize preB ops.toList = B at *
  have hsub : ∀ (i : Nat) (x : Oper), L[i]? = some x → ops[i]? = some x := fun i x hx => by
    rw [hfst, List.getElem?_take] at hx
    split at hx
    · rw [← Array.getElem?_toList]; exact hx
    · cases hx
  have hbits : ∀ (d : Nat → Bool), Closed ops.toList d → ∀ (k b : Nat), (bitsR ops.toList)[k]? = some b → ReadyAt ops.toList d k → ∀ j, tb b j = true → d j = true := fun d hd k b hb hr j hj =>
    bits_ok hd (l := ops.toList) (pre := []) (acc := []) rfl rfl (fun k b h => by simp at h) k b hb hr j hj
  have C : Ctx P L ops B tmF alF m.next := ⟨hst, hsub, fun x hx => allocJ_ok hsub (hal x hx), uq, fun d hd k b hb => hbits d hd k b (by
    rw [hbst, List.getElem?_take] at hb
    split at hb
    · exact hb
    · cases hb)⟩
  have hfwd : Fwd (GoodS P L ops B tmF alF sF.I) (Step P L ops B tmF alF) (Link B) ⟨0, ⟨m.next + L.length, m.t⟩⟩ W.reverse sF := by
    have := ch_fwd (good := GoodS P L ops B tmF alF sF.I) uq ch (fun r hr => ⟨sameAt_ok hsub (hsame r hr), domAt_ok (hdom r hr)⟩) hc (valsOk_ok hsub hv) suf [] sF (.nil ⟨sameAt_ok hsub (hsame sF (by simp)), domAt_ok (hdom sF (by simp))⟩) (fun v W' z l' _ e => by cases e)
    simpa using this
  refine ⟨tm', m', hK, by simp only [] at hn'; omega, fun φ w a hrt hr hf Q hQ => ?_⟩
  have hlowO : ∀ (i : Nat) (o : Oper), ops[i]? = some o → ∀ e ∈ o.after, Region.binds .any e = true → e.on < i := fun i o ho => by
    have := allI_ok hlow i o (by rw [Array.getElem?_toList]; exact ho)
    rw [Nat.zero_add] at this
    exact lowO_ok this
  have hready : ∀ {d : Nat → Bool} {i : Nat} {o : Oper}, ops[i]? = some o → (∀ e ∈ o.after, Region.binds .any e = true → d e.on = true) → ReadyAt ops.toList d i := fun {d i o} ho hed o' ho' e he hb => by
    rw [Array.getElem?_toList, ho] at ho'
    injection ho' with ho'
    subst ho'
    exact hed e (Array.mem_toList_iff.1 he) (by rw [← bindE_eq]; exact hb)
  have hclose : ∀ {d : Nat → Bool} {i : Nat}, Closed ops.toList d → ReadyAt ops.toList d i → Closed ops.toList (plus d i) := fun {d i} hd hr k hk o' ho' e he hb => by
    show (d e.on || e.on == i) = true
    have hk : (d k || k == i) = true := hk
    rw [Bool.or_eq_true] at hk ⊢
    rcases hk with hk | hk
    · exact .inl (hd k hk o' ho' e he hb)
    · have : k = i := by simpa using hk
      subst this
      exact .inl (hr o' ho' e he hb)
  have hfin : ∀ (d : Nat → Bool) (b : Act) (x : World) (φ' : Phi) (sq : Snap) (rest : List WL), (∀ i, i < L.length → d i = true) → InvP P L ops B tmF alF m.next sF m'.next φ m.t.get w a.defers d b x φ' sq rest → wpList P ops Q (ops.toList.drop N) b x := by
    intro d b x φ' sq rest hd I
    obtain ⟨f1, f2, f3, f4⟩ := I.fin C hd t ht
    rw [← hrst]
    refine hcode φ' x b f1 f2 (fun g h1 h2 => f4 g h1 h2) Q fun a2 w2 φ2 k1 k2 k3 k4 => ?_
    exact hQ a2 w2 φ2 k1 (k2.trans I.df) k3 (f3.trans k4)
  have hahead : ∀ {d : Nat → Bool} {i : Nat} {o : Oper}, Closed ops.toList d → ReadyAt ops.toList d i → ops[i]? = some o → N ≤ i → ∀ j, j < i → d j = true := fun {d i o} hd hr ho hi j hj => by
    have hil := (Array.getElem?_eq_some_iff.1 ho).1
    obtain ⟨b, hb⟩ : ∃ b, (bitsR ops.toList)[i]? = some b := ⟨_, List.getElem?_eq_getElem (by rw [hbl]; exact hil)⟩
    refine hbits d hd i b hb hr j (hfull i b hb ?_ j (by omega))
    rw [Nat.zero_add]
    rw [hN] at hi
    exact hi
  refine wp_region_invB hm hlowO (fun d b x => Closed ops.toList d ∧ (((∀ j, N ≤ j → d j = false) ∧ ∃ φ' sq rest, InvP P L ops B tmF alF m.next sF m'.next φ m.t.get w a.defers d b x φ' sq rest) ∨ (∃ k, N < k ∧ (∀ j, d j = decide (j < k)) ∧ wpList P ops Q (ops.toList.drop k) b x))) ?_ ?_ ?_
  · refine ⟨(fun i h => by cases h), .inl ⟨fun _ _ => rfl, φ, ⟨0, ⟨m.next + L.length, m.t⟩⟩, W.reverse, ?_⟩⟩
    have hmix : mix m.t.get (fun _ => false) alF = m.t.get := by
      funext g
      unfold mix
      split
      · rename_i o ho; exact ho.symm
      · rename_i hn
        rw [hn]
        exact extra_none fun x _ h => by cases h
    refine ⟨hfwd, fun _ _ => rfl, fun j => ?_, Nat.le_refl _, gr.n.trans hrt.1, fun s hs => ?_, rfl, ?_, ?_, fun g h1 h2 => hf g ?_ h2, fun x hx _ => ?_⟩
    · simp only [tb_zero]
      simp
    · rw [gr.keep s fun o ho hd => ?_]
      · exact hrt.2 s
      · obtain ⟨j, hj⟩ := List.getElem?_of_mem ho
        have := hs j o hj hd
        cases this
    · rw [hmix]; exact hr.drew
    · rw [hmix]; exact (Ext.drew φ m.t.get m.next w).up (by simp)
    · simp only [] at h1
      omega
    · obtain ⟨e1, o, e2, _⟩ := C.made x hx
      have := (List.getElem?_eq_some_iff.1 e2).1
      simp only [] at hn'
      exact hf _ (by omega) (by omega)
  · rintro d i o b x ho hdi hed ⟨hcl, hI⟩
    have hi : i < ops.size := (Array.getElem?_eq_some_iff.1 ho).1
    have hrd := hready ho hed
    have hcl' := hclose hcl hrd
    rcases Nat.lt_or_ge i N with hin | hin
    · rcases hI with ⟨hnone, φ', sq, rest, I⟩ | ⟨k, hk, hdk, hw⟩
      · have hLo : L[i]? = some o := by rw [hfst, List.getElem?_take, if_pos hin, Array.getElem?_toList]; exact ho
        refine wpOp_mono ?_ (I.step C hn' hLo hdi hcl hrd Q)
        rintro b' x' ⟨φ2, sq2, rest2, I2⟩
        refine ⟨hcl', .inl ⟨fun j hj => ?_, φ2, sq2, rest2, I2⟩⟩
        show plus d i j = false
        rw [plus_ne (by omega)]
        exact hnone j hj
      · rw [hdk i] at hdi
        simp at hdi
        omega
    · have hall : ∀ j, j < i → d j = true := hahead hcl hrd ho hin
      have key : ∃ w', w' = wpList P ops Q (ops.toList.drop i) b x ∧ w' := by
        refine ⟨_, rfl, ?_⟩
        rcases hI with ⟨hnone, φ', sq, rest, I⟩ | ⟨k, hk, hdk, hw⟩
        · have hin' : i = N := by
            rcases Nat.lt_or_ge N i with h | h
            · have := hall N h; rw [hnone _ (Nat.le_refl _)] at this; cases this
            · omega
          rw [hin']
          exact hfin d b x φ' sq rest (fun j hj => hall j (by omega)) I
        · have : i = k := by
            rcases Nat.lt_trichotomy i k with h | h | h
            · rw [hdk i] at hdi; simp at hdi; omega
            · exact h
            · have := hall k h; rw [hdk k] at this; simp at this
          rw [this]; exact hw
      obtain ⟨_, rfl, key⟩ := key
      rw [drop_at ho] at key
      refine wpOp_mono ?_ (wpOp_of_wpList ho key)
      intro a' x' hw
      refine ⟨hcl', .inr ⟨i + 1, by omega, fun j => ?_, hw⟩⟩
      show (d j || j == i) = _
      rcases Nat.lt_trichotomy j i with h | h | h
      · rw [hall j h]; simp; omega
      · subst h; simp
      · have hdj : d j = false := by
          rcases hI with ⟨hnone, _⟩ | ⟨k, hk, hdk, hw⟩
          · exact hnone j (by omega)
          · rw [hdk i] at hdi; rw [hdk j]; simp at hdi ⊢; omega
        rw [hdj]
        have : (j == i) = false := by rw [beq_eq_false_iff_ne]; omega
        rw [this]; simp; omega
  · rintro d b x hall ⟨hcl, hI⟩
    rcases hI with ⟨hnone, φ', sq, rest, I⟩ | ⟨k, hk, hdk, hw⟩
    · have hn : N = ops.size := by
        rcases Nat.lt_or_ge N ops.size with h | h
        · have := hall _ h; rw [hnone _ (Nat.le_refl _)] at this; cases this
        · omega
      have := hfin d b x φ' sq rest (fun j hj => hall j (by omega)) I
      rw [hn, List.drop_of_length_le (by simp)] at this
      exact this
    · have hks : ops.size ≤ k := by
        rcases Nat.lt_or_ge k ops.size with h | h
        · have := hall k h; rw [hdk k] at this; simp at this
        · exact h
      rw [List.drop_of_length_le (by simpa using hks)] at hw
      exact hw
/-- The evaluator is right. -/
theorem codeK_ok {X : ExtT} (hng : NoNG P X) (hm : P.follows .mixedOrders = true) : ∀ n, RecOk P (codeK P X n)
  | 0 => fun c tm m K h => by cases h
  | n + 1 => by
    have ih := codeK_ok hng hm n
    exact stepK_ok hng ih (drawK_ok hng hm ih)
/-- What a package-level variable holds, ahead of all. -/
def GlobIs (w : World) (g : Nat) (o : Ob) : Prop := g < 1000 ∧ ∃ C e fr, o = .row C.toList e true 0 false [] ∧ w.heap[g]? = some (.cells C e fr) ∧ frOk fr C.size ∧ ∀ v ∈ C.toList, plainV v = true
/-- A closed call: what it returns, and old memory stays. -/
theorem closed_call {X : ExtT} (hng : NoNG P X) (hm : P.follows .mixedOrders = true) {n n0 f : Nat} {t0 : Tr} {K : Value → Mem → Bool} (h : callK P X (codeK P X n) ⟨n0, t0⟩ f [] K = true) (hn0 : 1000 ≤ n0) (w : World) (hg : ∀ g o, t0.get g = some o → GlobIs w g o) : Calls P f #[] w fun e w' => ∃ v v' m' φ', K v m' = true ∧ e = .returned v' ∧ RV φ' v v' ∧ w'.os = w.os ∧ w'.tape = w.tape ∧ w'.output = w.output ∧ w.heap.size ≤ w'.heap.size ∧ ∀ b, b < w.heap.size → w'.heap[b]? = w.heap[b]? := by
  obtain ⟨v, m', fn, hK, hn, hf, hb, hc⟩ := callK_ok hng (codeK_ok hng hm n) h
  obtain ⟨φ, hφ⟩ : ∃ φ : Phi, φ = fun g => if g < 1000 then some ⟨g, 0, (match w.heap[g]? with | some (.cells C _ _) => C.size | _ => 0), 0, true⟩ else none := ⟨_, rfl⟩
  have hlt : ∀ g, g < 1000 → φ g = some ⟨g, 0, (match w.heap[g]? with | some (.cells C _ _) => C.size | _ => 0), 0, true⟩ := fun g hg => by rw [hφ]; exact if_pos hg
  have hge : ∀ g, 1000 ≤ g → φ g = none := fun g hg => by rw [hφ]; exact if_neg (by omega)
  have hrow : ∀ {t c e x u S}, t0.get t = some (.row c e x u true S) → False := fun h => by
    obtain ⟨_, C, e, fr, h1, _⟩ := hg _ _ h
    injection h1 with _ _ _ _ h1 _
    cases h1
  refine (hc φ w #[] .nil ⟨fun g o h => ?_, fun g1 g2 o1 o2 i1 i2 h1 h2 h3 h4 h5 => ?_, fun t c e x u S g o i1 i2 h => (hrow h).elim, fun t c e x u S h => (hrow h).elim, fun g hg => ⟨_, hlt g hg, rfl, rfl⟩⟩ (fun g hg _ => hge g (Nat.le_trans hn0 hg))).mono ?_
  · obtain ⟨h1, C, e, fr, rfl, h2, h3, h4⟩ := hg g o h
    refine ⟨_, hlt g h1, rfl, (fun h => by cases h), fun _ => ⟨rfl, ?_⟩, C, fr, h2, h3, ?_, ?_, fun j u hu => ⟨u, ?_, .plain (h4 u (List.mem_of_getElem? hu))⟩⟩
    · simp only [h2]
      exact Array.length_toList
    · simp only [h2]
    · simp
    · rw [Nat.zero_add, ← Array.getElem?_toList]
      exact hu
  · rw [hlt g1 (hg _ _ h1).1] at h3
    rw [hlt g2 (hg _ _ h2).1] at h4
    injection h3 with h3
    injection h4 with h4
    subst h3
    subst h4
    exact .inl h5
  · rintro e w' ⟨v', φ', rfl, hv, hr, hx⟩
    refine ⟨v, v', m', φ', hK, rfl, hv, hx.os, hx.tape, hx.output, hx.size, fun b hb => hx.fr b hb fun g o im h hw => ?_⟩
    obtain ⟨_, C, e, fr, rfl, _⟩ := hg g o h
    cases hw
end
end AC.Ev

