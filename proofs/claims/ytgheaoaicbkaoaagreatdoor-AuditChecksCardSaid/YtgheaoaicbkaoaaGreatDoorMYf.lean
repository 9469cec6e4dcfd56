/-
  Closed calls by reflection: code.
-/
import Derived.Test.YtgheaoaicbkaoaaGreatDoorMYe
namespace AC.Ev
open Go
set_option linter.unusedVariables false
set_option linter.unusedSimpArgs false
def toExit : Ex → Exit
  | .normal => .normal
  | .exit id => .exit id
  | .ret => .ret
/-- What code does: W is its law. -/
def CodeG (W : (Exit → Act → World → Prop) → Act → World → Prop) (tm : Tm) (m : Mem) (e : Ex) (tm' : Tm) (m' : Mem) : Prop :=
  ∀ (φ : Phi) (w : World) (a : Act), RT φ tm a.tmps → Rep φ m.t.get w → Free φ m.next m'.next → ∀ (Q : Exit → Act → World → Prop),
    (∀ a' w' φ', RT φ' tm' a'.tmps → a'.defers = a.defers → Rep φ' m'.t.get w' → Ext φ m.t.get m.next φ' m'.t.get m'.next w w' → Q (toExit e) a' w') → W Q a w
def CodeOk (P : Program) (c : Code) (tm : Tm) (m : Mem) (e : Ex) (tm' : Tm) (m' : Mem) : Prop := CodeG (fun Q a w => c.wp P Q a w) tm m e tm' m'
def LoopOk (P : Program) (c : Code) (tm : Tm) (m : Mem) (e : Ex) (tm' : Tm) (m' : Mem) : Prop := ∀ b, c = .loop b → ∃ n, CodeG (fun Q a w => Code.rounds P b Q n a w) tm m e tm' m'
def RecOk (P : Program) (rec : CodeT) : Prop := ∀ (c : Code) (tm : Tm) (m : Mem) (K : Ex → Tm → Mem → Bool), rec c tm m K = true → ∃ e tm' m', K e tm' m' = true ∧ m.next ≤ m'.next ∧ CodeOk P c tm m e tm' m' ∧ LoopOk P c tm m e tm' m'
section
variable {P : Program}
theorem argT_ok : ∀ {l : List Value} {i : Nat} {t : Trie Value} {K : Trie Value → Bool}, argT l i t K = true → ∃ t', K t' = true ∧ ∀ j, t'.get j = if i ≤ j ∧ j < i + l.length then l[j - i]? else t.get j
  | [], i, t, K, h => ⟨t, h, fun j => by rw [if_neg (by rintro ⟨h1, h2⟩; simp at h2; omega)]⟩
  | v :: l, i, t, K, h => by
    rw [argT] at h
    obtain ⟨t1, h, g1, g2⟩ := putT_ok h
    obtain ⟨t2, h, g3⟩ := argT_ok h
    refine ⟨t2, h, fun j => ?_⟩
    rw [g3 j]
    rcases Nat.lt_trichotomy j i with h1 | h1 | h1
    · rw [if_neg (by omega), if_neg (by omega), g2 j (by omega)]
    · subst h1
      rw [if_neg (by omega), if_pos (by simp), g1]
      simp
    · by_cases h2 : j < i + 1 + l.length
      · rw [if_pos ⟨by omega, h2⟩, if_pos ⟨by omega, by rw [List.length_cons]; omega⟩, show j - i = (j - (i + 1)) + 1 by omega]
        simp
      · rw [if_neg (by omega), if_neg (by rw [List.length_cons]; omega), g2 j (by omega)]
theorem RVs.get' {φ : Phi} : ∀ {l l' : List Value}, RVs φ l l' → ∀ (i : Nat), RV φ ((l[i]?).getD undef) ((l'[i]?).getD undef)
  | _, _, .nil, i => by simpa using RV.undef
  | _, _, .cons h1 h2, 0 => by simpa using h1
  | _, _, .cons h1 h2, i + 1 => by simpa using RVs.get' h2 i
theorem enter_rt {φ : Phi} {args : List Value} {args' : Array Value} {n : Nat} {t : Trie Value} (h : RVs φ args args'.toList) (hl : args.length ≤ n) (ht : ∀ j, t.get j = if 0 ≤ j ∧ j < 0 + args.length then args[j - 0]? else (Trie.nil : Trie Value).get j) : RT φ ⟨n, t⟩ (args' ++ Array.replicate (n - args'.size) undef) := by
  have hsz : args'.size = args.length := by rw [← Array.length_toList]; exact h.len.symm
  refine ⟨by simp; omega, fun i => ?_⟩
  rw [ht i, get_nil]
  by_cases hi : i < args.length
  · rw [if_pos ⟨Nat.zero_le _, by omega⟩, Nat.sub_zero]
    have := h.get' i
    rw [Array.getD_eq_getD_getElem?, Array.getElem?_append_left (by omega), ← Array.getElem?_toList]
    exact this
  · rw [if_neg (by omega)]
    rw [Array.getD_eq_getD_getElem?, Array.getElem?_append_right (by omega)]
    have : ((Array.replicate (n - args'.size) undef)[i - args'.size]?).getD undef = undef := by
      rw [Array.getElem?_replicate]
      split <;> rfl
    rw [this]
    exact .undef
def resF (tmps : Array Value) : ResultVar → Sem Value
  | .tmp t => pure (tmps.getD t undef)
  | .cell a t => do loadVar t (← asAddr (tmps.getD a undef))
/-- The results of a call. -/
theorem resK_ok {t : Tr} {tm : Tm} : ∀ {l : List ResultVar} {K : List Value → Bool}, resK P t tm l K = true → ∃ vs, K vs = true ∧
    ∀ (φ : Phi) (w : World) (tmps : Array Value), RT φ tm tmps → Rep φ t.get w → ∃ vs' : List Value, (l.mapM (resF tmps)).run P w = .ok vs' w ∧ RVs φ vs vs'
  | [], K, h => ⟨[], h, fun φ w tmps ht hr => ⟨[], by simp, .nil⟩⟩
  | r :: l, K, h => by
    unfold resK at h
    cases r with
    | tmp i =>
      simp only [] at h
      obtain ⟨v, hv, h⟩ := opd_ok h
      obtain ⟨vs, h, hk⟩ := resK_ok h
      refine ⟨v :: vs, h, fun φ w tmps ht hr => ?_⟩
      obtain ⟨vs', k1, k2⟩ := hk φ w tmps ht hr
      have hvv := (RT.or (a := ⟨tmps, []⟩) ht hr.glob (.tmp i)) v hv
      refine ⟨tmps.getD i undef :: vs', ?_, .cons hvv k2⟩
      rw [List.mapM_cons, Sem.run_bind]
      simp only [resF, Sem.run_pure, Result.andThen_ok]
      rw [Sem.run_bind, k1]
      simp
    | cell i ty =>
      simp only [] at h
      unfold loadE at h
      obtain ⟨p, hp, h⟩ := opd_ok h
      obtain ⟨g, off, e0, h⟩ := asPtr_ok h
      rw [e0] at hp
      obtain ⟨v, h, hl⟩ := loadVar_ok (P := P) (φ := fun _ => none) (w := default) h
      obtain ⟨vs, h, hk⟩ := resK_ok h
      refine ⟨v :: vs, h, fun φ w tmps ht hr => ?_⟩
      obtain ⟨vs', k1, k2⟩ := hk φ w tmps ht hr
      obtain ⟨im, hi, ea⟩ := ((RT.or (a := ⟨tmps, []⟩) ht hr.glob (.tmp i)) _ hp).ptr_inv
      have ea : tmps.getD i undef = .pointer (some ⟨im.b, im.d + off, none⟩) := ea
      obtain ⟨v', l1, l2⟩ := hl φ w im hi hr
      refine ⟨v' :: vs', ?_, .cons l2 k2⟩
      have e1 : (do loadVar ty (← asAddr (tmps.getD i undef)) : Sem Value).run P w = .ok v' w := by
        rw [ea]
        simp only [asAddr, Sem.run_bind, Sem.run_pure, Result.andThen_ok]
        exact l1
      rw [List.mapM_cons, Sem.run_bind]
      rw [show (resF tmps (.cell i ty)).run P w = .ok v' w from e1]
      simp only [Result.andThen_ok]
      rw [Sem.run_bind, k1]
      simp
theorem outK_ok {vs : List Value} {K : Value → Bool} (h : outK vs K = true) : ∃ v, K v = true ∧ ∀ (φ : Phi) (vs' : Array Value), RVs φ vs vs'.toList → RV φ v (if h : vs'.size = 1 then vs'[0] else .tuple vs') := by
  cases vs with
  | nil =>
    refine ⟨_, h, fun φ vs' hr => ?_⟩
    have hl : vs'.size = 0 := by rw [← Array.length_toList]; exact hr.len.symm
    rw [dif_neg (by omega)]
    exact .tuple hr
  | cons v l =>
    cases l with
    | nil =>
      refine ⟨v, h, fun φ vs' hr => ?_⟩
      have hl : vs'.size = 1 := by rw [← Array.length_toList]; exact hr.len.symm
      rw [dif_pos hl]
      obtain ⟨v', k1, k2⟩ := hr.get (i := 0) (v := v) (by simp)
      have : vs'[0] = v' := by
        rw [Array.getElem?_toList, Array.getElem?_eq_getElem (by omega)] at k1
        injection k1
      rw [this]
      exact k2
    | cons u l =>
      refine ⟨_, h, fun φ vs' hr => ?_⟩
      have hl : vs'.size = l.length + 2 := by rw [← Array.length_toList, ← hr.len]; rfl
      rw [dif_neg (by omega)]
      exact .tuple hr
/-- What a call does. -/
def CallG (P : Program) (m : Mem) (f : Nat) (args : List Value) (v : Value) (m' : Mem) : Prop := ∀ (φ : Phi) (w : World) (args' : Array Value), RVs φ args args'.toList → Rep φ m.t.get w → Free φ m.next m'.next → Calls P f args' w fun e w' => ∃ v' φ', e = .returned v' ∧ RV φ' v v' ∧ Rep φ' m'.t.get w' ∧ Ext φ m.t.get m.next φ' m'.t.get m'.next w w'
/-- What is known of functions otherwise is true. -/
def ExtOk (P : Program) (X : ExtT) : Prop := ∀ f E, X f = some E → (∃ fn, P.funcs[f]? = some fn ∧ fn.body.isNone = false) ∧ ∀ m args K, E m args K = true → ∃ v m', K v m' = true ∧ m.next ≤ m'.next ∧ CallG P m f args v m'
/-- No function is the one that the model treats apart. -/
def NoNG (P : Program) (X : ExtT) : Prop := (∀ (f : Nat) (fn : Func), P.funcs[f]? = some fn → (fn.name == "runtime.NumGoroutine") = false) ∧ ExtOk P X
theorem callK_ok {X : ExtT} {rec : CodeT} (hng : NoNG P X) (hrec : RecOk P rec) {m : Mem} {f : Nat} {args : List Value} {K : Value → Mem → Bool} (h : callK P X rec m f args K = true) : ∃ v m' fn, K v m' = true ∧ m.next ≤ m'.next ∧ P.funcs[f]? = some fn ∧ fn.body.isNone = false ∧
    ∀ (φ : Phi) (w : World) (args' : Array Value), RVs φ args args'.toList → Rep φ m.t.get w → Free φ m.next m'.next → Calls P f args' w fun e w' => ∃ v' φ', e = .returned v' ∧ RV φ' v v' ∧ Rep φ' m'.t.get w' ∧ Ext φ m.t.get m.next φ' m'.t.get m'.next w w' := by
  unfold callK at h
  split at h
  · rename_i E hE
    obtain ⟨⟨fn, hf, hb⟩, hk⟩ := hng.2 f E hE
    obtain ⟨v, m', h, hn, hc⟩ := hk _ _ _ h
    exact ⟨v, m', fn, h, hn, hf, hb, hc⟩
  split at h
  · cases h
  · rename_i fn hf
    split at h
    · cases h
    · rename_i c hb
      rw [bif_t, lenL_eq] at h
      obtain ⟨hl, h⟩ := h
      have hl := ble_t.1 hl
      obtain ⟨t, h, ht⟩ := argT_ok h
      obtain ⟨e, tm', m', h, hn, hc, _⟩ := hrec _ _ _ _ h
      have h2 : (e = .normal ∨ e = .ret) ∧ (resK P m'.t tm' fn.results.toList fun vs => outK vs fun v => K v m') = true := by
        cases e with
        | normal => exact ⟨.inl rfl, h⟩
        | exit _ => cases h
        | ret => exact ⟨.inr rfl, h⟩
      obtain ⟨he, h⟩ := h2
      obtain ⟨vs, h, hres⟩ := resK_ok h
      obtain ⟨v, h, hout⟩ := outK_ok h
      refine ⟨v, m', fn, h, hn, hf, by rw [hb]; rfl, fun φ w args' ha hr hfr => calls_of_wp hf hb ?_⟩
      refine hc φ w _ (enter_rt ha hl ht) hr hfr _ fun a' w' φ' ht' hd hr' hx => ?_
      obtain ⟨vs', k1, k2⟩ := hres φ' w' a'.tmps ht' hr'
      have hrun : (results fn a'.tmps).run P w' = .ok (if h : vs'.toArray.size = 1 then vs'.toArray[0] else .tuple vs'.toArray) w' := by
        unfold results
        rw [Sem.run_bind, Array.mapM_eq_mapM_toList, Sem.run_map]
        change ((Sem.run P (fn.results.toList.mapM (resF a'.tmps)) w').andThen _).andThen _ = _
        rw [k1]
        rfl
      have hfin : bodyPost P fn (fun e w' => ∃ v' φ', e = .returned v' ∧ RV φ' v v' ∧ Rep φ' m'.t.get w' ∧ Ext φ m.t.get m.next φ' m'.t.get m'.next w w') .ret a' w' := by
        exact bodyPost_ret hrun hd ⟨_, φ', rfl, hout φ' vs'.toArray (by simpa using k2), hr', hx⟩
      rcases he with rfl | rfl
      · exact hfin
      · exact hfin
end
section
variable {P : Program}
theorem two_ok {args : List Value} {K : Value → Value → Bool} (h : two args K = true) : ∃ x y, args = [x, y] ∧ K x y = true := by
  unfold two at h
  split at h
  · cases h
  · split at h
    · cases h
    · split at h
      · exact ⟨_, _, rfl, h⟩
      · cases h
theorem RVs.two {φ : Phi} {x y : Value} {l' : List Value} (h : RVs φ [x, y] l') : ∃ x' y', l' = [x', y'] ∧ RV φ x x' ∧ RV φ y y' := by
  cases h with
  | cons h1 h2 => cases h2 with
    | cons h2 h3 => cases h3; exact ⟨_, _, rfl, h1, h2⟩
theorem one_ok {args : List Value} {K : Value → Bool} (h : one args K = true) : ∃ x, args = [x] ∧ K x = true := by
  unfold one at h
  split at h
  · cases h
  · split at h
    · exact ⟨_, rfl, h⟩
    · cases h
theorem RVs.one {φ : Phi} {x : Value} {l' : List Value} (h : RVs φ [x] l') : ∃ x', l' = [x'] ∧ RV φ x x' := by
  cases h with
  | cons h1 h2 => cases h2; exact ⟨_, rfl, h1⟩
theorem clearE_ok {m : Mem} {T : Array TypeId} {rt : TypeId} {x : Value} {K : Value → Mem → Bool} (h : clearE P m T.toList x K = true) : ∃ v m', K v m' = true ∧ m.next ≤ m'.next ∧
    ∀ (φ : Phi) (w : World) (x' : Value), RV φ x x' → Rep φ m.t.get w → Free φ m.next m'.next → ∃ v' w' φ', (Builtin.clear_ T rt #[x']).run P w = .ok v' w' ∧ RV φ' v v' ∧ Rep φ' m'.t.get w' ∧ Ext φ m.t.get m.next φ' m'.t.get m'.next w w' := by
  unfold clearE at h
  cases hT : T.toList with
  | nil => rw [hT] at h; cases h
  | cons ty T1 =>
    rw [hT] at h
    have hT0 : T[0]? = some ty := by rw [← Array.getElem?_toList, hT]; rfl
    simp only [] at h
    split at h
    · cases h
    · rename_i d hd
      split at h
      · rename_i e
        cases x with
        | slice a n c =>
          simp only [] at h
          cases a with
          | none =>
            refine ⟨_, m, h, Nat.le_refl _, fun φ w x' hx hr hf => ⟨undef, w, φ, ?_, .undef, hr, .refl _ _ _ _⟩⟩
            rw [hx.nils_inv]
            simp [Builtin.clear_, hT0, run_und hd, undef]
          | some a =>
            simp only [] at h
            cases n with
            | zero =>
              refine ⟨_, m, h, Nat.le_refl _, fun φ w x' hx hr hf => ⟨undef, w, φ, ?_, .undef, hr, .refl _ _ _ _⟩⟩
              obtain ⟨a', c', ea, _⟩ := hx.slice_inv
              rw [ea]
              cases a' <;> simp [Builtin.clear_, hT0, run_und hd, undef]
            | succ n =>
              obtain ⟨z, h, hz, hzr⟩ := zeroK_ok h
              rw [bif_t, lenL_eq] at h
              obtain ⟨h1, h⟩ := h
              have h1 := ble_t.1 h1
              have h := repL_ok _ _ _ h
              obtain ⟨e1, h⟩ := addrK_ok h
              obtain ⟨m', h, hn, hk⟩ := writeK_ok (P := P) h
              refine ⟨_, m', h, by omega, fun φ w x' hx hr hf => ?_⟩
              rw [e1] at hx
              obtain ⟨im, o', c', hi', ea, a1, a2, a3, a4⟩ := hx.sli_inv
              have ho' : o' = im.d + a.off := by
                rcases a4 with ⟨a4, _⟩ | a4
                · exact a4
                · omega
              have hzs : 0 < z.cells.size := by rw [← Array.length_toList, cells_eq]; omega
              obtain ⟨w', k1, k2, k3⟩ := hk φ w im (Builtin.zeroCells z.cells (n + 1)).toList hi' (by
                unfold Builtin.zeroCells
                rw [range_rep hzs, cells_eq]
                exact (hz φ).rep _) hr
              refine ⟨undef, w', φ, ?_, .undef, k2, k3⟩
              rw [ea, ho']
              simp [Builtin.clear_, hT0, run_und hd, hzr, k1, undef]
        | _ => cases h
      · cases h
theorem callE_ok {X : ExtT} {rec : CodeT} (hng : NoNG P X) (hrec : RecOk P rec) {tm : Tm} {m : Mem} {o : Oper} {c : Call} {K : Value → Mem → Bool} (ho : o.op = .call c) (h : callE P X rec tm m c K = true) : ∃ v m', K v m' = true ∧ m.next ≤ m'.next ∧ OpOk P o tm m v m' := by
  obtain ⟨callee, args, argTypes⟩ := c
  unfold callE at h
  simp only [] at h
  cases callee with
  | invoke r n => cases h
  | value f =>
    simp only [] at h
    obtain ⟨fv, hfv, h⟩ := opd_ok h
    obtain ⟨vs, hvs, h⟩ := opds_ok h
    unfold callV at h
    cases fv with
    | func fn a cp =>
      cases fn with
      | func fid =>
        simp only [] at h
        have h := catL_ok _ _ _ h
        have h := catL_ok _ _ _ h
        obtain ⟨v, m', fn, h, hn, hf, hbody, hcall⟩ := callK_ok hng hrec h
        refine ⟨v, m', h, hn, fun φ w act hop hr hfr KK Q hK => ?_⟩
        obtain ⟨a', cp', ef, ra, rc⟩ := (hop _ (by rw [ho]; simp [Op.operands, Call.operands]) _ hfv).func_inv
        have rargs := opds_rv (φ := φ) (ρ := act.eval) hvs fun y hy => hop y (by rw [ho]; simp [Op.operands, Call.operands]; exact .inr (Array.mem_toList_iff.1 hy))
        unfold Oper.wp
        have hexec : (execOp act.eval o).run P w = .ok (.enter fid (a' ++ args.map act.eval ++ cp')) w := by
          simp only [execOp, ho, resolve, ef, Deferred.ofValue, Sem.run_bind, Sem.run_pure, Result.andThen_ok, Go.invoke, callFunc, program, Sem.run, hf]
          rw [if_neg (by rw [hng.1 _ _ hf]; simp), if_neg (by rw [hbody]; simp)]
          rfl
        rw [hexec]
        refine (hcall φ w (a' ++ args.map act.eval ++ cp') ?_ hr hfr).mono ?_
        · rw [Array.toList_append, Array.toList_append]
          have e1 : (args.map act.eval).toList = args.toList.map act.eval := by simp
          rw [e1, List.append_assoc]
          exact ra.app (rargs.app rc)
        · rintro e w' ⟨v', φ', rfl, h1, h2, h3⟩
          exact hK v' w' φ' h1 h2 h3
      | _ => cases h
    | _ => cases h
  | builtin b =>
    have rd : (bltE P tm m.t b argTypes.toList args.toList fun v => K v m) = true → ∃ v m', K v m' = true ∧ m.next ≤ m'.next ∧ OpOk P o tm m v m' := by
      intro h
      have h2 : rdE P tm m.t o.op (fun v => K v m) = true := by rw [ho]; exact h
      obtain ⟨v, hv, hk⟩ := rdE_ok h2
      exact ⟨v, m, hv, Nat.le_refl _, .rd hk⟩
    have blt : ∀ (s : Value → Value → Sem Value), (∀ cs x y, builtin b argTypes o.type cs #[x, y] = do pure (.value (← s x y))) → (∃ vs, opdsV tm args.toList = some vs ∧ ∃ x y v m', vs = [x, y] ∧ K v m' = true ∧ m.next ≤ m'.next ∧ BltOk P m m' v x y s) → ∃ v m', K v m' = true ∧ m.next ≤ m'.next ∧ OpOk P o tm m v m' := by
      rintro s hs ⟨vs, hvs, x, y, v, m', rfl, hv, hn, hb⟩
      refine ⟨v, m', hv, hn, fun φ w act hop hr hfr KK Q hK => ?_⟩
      have rargs := opds_rv (φ := φ) (ρ := act.eval) hvs fun z hz => hop z (by rw [ho]; simp [Op.operands, Call.operands]; exact Array.mem_toList_iff.1 hz)
      obtain ⟨x', y', e1, rx, ry⟩ := rargs.two
      have e2 : args.map act.eval = #[x', y'] := by
        apply Array.ext'
        simpa using e1
      obtain ⟨v', w', φ', k1, k2, k3, k4⟩ := hb φ w x' y' rx ry hr hfr
      unfold Oper.wp
      have hexec : (execOp act.eval o).run P w = .ok (.value v') w' := by
        simp only [execOp, ho, resolve, Sem.run_bind, Sem.run_pure, Result.andThen_ok, Go.invoke, e2]
        rw [hs, Sem.run_bind, k1]
        rfl
      rw [hexec]
      exact hK v' w' φ' k2 k3 k4
    simp only [] at h
    cases b with
    | append =>
      obtain ⟨vs, hvs, h⟩ := opds_ok h
      obtain ⟨x, y, rfl, h⟩ := two_ok h
      obtain ⟨v, m', hv, hn, hb⟩ := appendK_ok (rt := o.type) h
      exact blt _ (fun cs x y => by simp [builtin]) ⟨_, hvs, x, y, v, m', rfl, hv, hn, hb⟩
    | unsafeString =>
      obtain ⟨vs, hvs, h⟩ := opds_ok h
      obtain ⟨x, y, rfl, h⟩ := two_ok h
      cases hT : argTypes.toList with
      | nil => rw [hT] at h; cases h
      | cons ty l =>
        rw [hT] at h
        obtain ⟨v, m', hv, hn, hb⟩ := ustrE_ok (T := argTypes) (rt := o.type) (by rw [← Array.getElem?_toList, hT]; rfl) h
        exact blt _ (fun cs x y => by simp [builtin]) ⟨_, hvs, x, y, v, m', rfl, hv, hn, hb⟩
    | clear =>
      obtain ⟨vs, hvs, h⟩ := opds_ok h
      obtain ⟨x, rfl, h⟩ := one_ok h
      obtain ⟨v, m', hv, hn, hb⟩ := clearE_ok (rt := o.type) h
      have hs : ∀ cs x, builtin .clear argTypes o.type cs #[x] = (do pure (.value (← Builtin.clear_ argTypes o.type #[x]))) := fun cs x => by simp [builtin]
      refine ⟨v, m', hv, hn, fun φ w act hop hr hfr KK Q hK => ?_⟩
      have rargs := opds_rv (φ := φ) (ρ := act.eval) hvs fun z hz => hop z (by rw [ho]; simp [Op.operands, Call.operands]; exact Array.mem_toList_iff.1 hz)
      obtain ⟨x', e1, rx⟩ := rargs.one
      have e2 : args.map act.eval = #[x'] := by
        apply Array.ext'
        simpa using e1
      obtain ⟨v', w', φ', k1, k2, k3, k4⟩ := hb φ w x' rx hr hfr
      unfold Oper.wp
      have hexec : (execOp act.eval o).run P w = .ok (.value v') w' := by
        simp only [execOp, ho, resolve, Sem.run_bind, Sem.run_pure, Result.andThen_ok, Go.invoke, e2]
        rw [hs, Sem.run_bind, k1]
        rfl
      rw [hexec]
      exact hK v' w' φ' k2 k3 k4
    | _ => exact rd h
theorem opE_ok {X : ExtT} {rec : CodeT} (hng : NoNG P X) (hrec : RecOk P rec) {tm : Tm} {m : Mem} {o : Oper} {K : Value → Mem → Bool} (h : opE P X rec tm m o.op K = true) : ∃ v m', K v m' = true ∧ m.next ≤ m'.next ∧ OpOk P o tm m v m' := by
  have rd : rdE P tm m.t o.op (fun v => K v m) = true → ∃ v m', K v m' = true ∧ m.next ≤ m'.next ∧ OpOk P o tm m v m' := by
    intro h
    obtain ⟨v, hv, hk⟩ := rdE_ok h
    exact ⟨v, m, hv, Nat.le_refl _, .rd hk⟩
  have al : alE P tm o.op (fun ob sh => newK m ob sh K) = true → ∃ v m', K v m' = true ∧ m.next ≤ m'.next ∧ OpOk P o tm m v m' := by
    intro h
    obtain ⟨ob, sh, h, hm⟩ := alE_ok h
    obtain ⟨m', h, g1, g2, g3⟩ := newK_ok h
    exact ⟨_, m', h, by omega, .al hm g1 g2 g3⟩
  have nx : ∀ {v : Value} {m' : Mem}, K v m' = true → OpOk P o tm m v m' → m'.next = m.next → ∃ v m', K v m' = true ∧ m.next ≤ m'.next ∧ OpOk P o tm m v m' := fun a b c => ⟨_, _, a, by omega, b⟩
  cases hop : o.op with
  | move x => rw [hop] at h; exact rd (by rw [hop]; exact h)
  | assign x => rw [hop] at h; exact rd (by rw [hop]; exact h)
  | pick c a b => rw [hop] at h; exact rd (by rw [hop]; exact h)
  | build ty ps => rw [hop] at h; exact rd (by rw [hop]; exact h)
  | load ty a => rw [hop] at h; exact rd (by rw [hop]; exact h)
  | nilCheck x => rw [hop] at h; exact rd (by rw [hop]; exact h)
  | binOp op ty x y t => rw [hop] at h; exact rd (by rw [hop]; exact h)
  | unOp op ty x => rw [hop] at h; exact rd (by rw [hop]; exact h)
  | convert s d x => rw [hop] at h; exact rd (by rw [hop]; exact h)
  | makeFunc fn a c => rw [hop] at h; exact rd (by rw [hop]; exact h)
  | slice ty x lo hi mx => rw [hop] at h; exact rd (by rw [hop]; exact h)
  | fieldAddr s x f => rw [hop] at h; exact rd (by rw [hop]; exact h)
  | field s x f => rw [hop] at h; exact rd (by rw [hop]; exact h)
  | indexAddr ty x i => rw [hop] at h; exact rd (by rw [hop]; exact h)
  | index ty x i => rw [hop] at h; exact rd (by rw [hop]; exact h)
  | lookup ty x i c => rw [hop] at h; exact rd (by rw [hop]; exact h)
  | extract x i => rw [hop] at h; exact rd (by rw [hop]; exact h)
  | alloc e => rw [hop] at h; exact al (by rw [hop]; exact h)
  | box e x => rw [hop] at h; exact al (by rw [hop]; exact h)
  | buildSlice ty l ps => rw [hop] at h; exact al (by rw [hop]; exact h)
  | makeSlice ty l c => rw [hop] at h; exact al (by rw [hop]; exact h)
  | makeMap ty r => rw [hop] at h; exact al (by rw [hop]; exact h)
  | store ty a x =>
    rw [hop] at h
    obtain ⟨v, m', h1, h2, h3⟩ := storeE_ok hop h
    exact ⟨v, m', h1, h2, h3⟩
  | insert ty mp k x =>
    rw [hop] at h
    obtain ⟨v, m', h1, h2, h3⟩ := updE_ok (.inr hop) h
    exact ⟨v, m', h1, h2, h3⟩
  | mapUpdate ty mp k x =>
    rw [hop] at h
    obtain ⟨v, m', h1, h2, h3⟩ := updE_ok (.inl hop) h
    exact ⟨v, m', h1, h2, h3⟩
  | call c => rw [hop] at h; exact callE_ok hng hrec hop h
  | _ => rw [hop] at h; cases h
end
section
variable {P : Program}
theorem RV.nobool {φ : Phi} {v v' : Value} (h : RV φ v v') (hb : ∀ b, v ≠ .bool b) : ∀ b, v' ≠ .bool b := by
  cases h <;> first | exact absurd rfl (hb _) | (intro b e; cases e)
def Wants (ops : Array Oper) (tm : Tm) (o : Oper) (b : Bool) : Prop := ∀ (φ : Phi) (tmps : Array Value), (∀ p oj d, o.guard = some p → ops[p.1]? = some oj → oj.dst = some d → RV φ ((tm.t.get d).getD undef) (tmps.getD d undef)) → Region.wanted o (yielded ops tmps) = b
theorem wantK_at {L : List Oper} {ops : Array Oper} (hL : ∀ (i : Nat) (x : Oper), L[i]? = some x → ops[i]? = some x) {tm : Tm} {o : Oper} {K : Bool → Bool} (h : wantK L tm o K = true) : ∃ b, K b = true ∧ Wants ops tm o b := by
  unfold wantK at h
  split at h
  · rename_i hg
    exact ⟨true, h, fun φ tmps _ => by simp [Region.wanted, hg]⟩
  · rename_i p hg
    rw [nth_eq] at h
    split at h
    · rename_i oj hj
      have hj' : ops[p.1]? = some oj := hL _ _ hj
      split at h
      · rename_i d hd
        obtain ⟨v, hv, h⟩ := opd_ok h
        have hv : v = (tm.t.get d).getD undef := by
          unfold opdV at hv
          injection hv with hv
          exact hv.symm
        have hy : ∀ tmps : Array Value, yielded ops tmps p.1 = match tmps[d]? with | some (.bool b) => some b | _ => none := by
          intro tmps
          unfold yielded
          rw [hj']
          simp only [Option.bind_some, hd]
          rfl
        have hw : ∀ tmps : Array Value, Region.wanted o (yielded ops tmps) = (yielded ops tmps p.1 == some p.2) := by
          intro tmps
          unfold Region.wanted
          rw [hg]
        have hu : ∀ tmps : Array Value, tmps[d]? = none → tmps.getD d undef = undef := fun tmps h => by rw [Array.getD_eq_getD_getElem?, h]; rfl
        have hs : ∀ (tmps : Array Value) (x : Value), tmps[d]? = some x → tmps.getD d undef = x := fun tmps x h => by rw [Array.getD_eq_getD_getElem?, h]; rfl
        by_cases hb : ∃ b, v = .bool b
        · obtain ⟨b, rfl⟩ := hb
          have hK : K (b == p.2) = true := by
            unfold yesB at h
            cases b with
            | true => cases hp : p.2 <;> (rw [hp] at h; exact h)
            | false => cases hp : p.2 <;> (rw [hp] at h; exact h)
          refine ⟨_, hK, fun φ tmps ht => ?_⟩
          have := ht p oj d hg hj' hd
          rw [← hv] at this
          have e1 := this.bool_inv
          rw [hw, hy]
          cases hx : tmps[d]? with
          | none => rw [hu tmps hx] at e1; cases e1
          | some x =>
            rw [hs tmps x hx] at e1
            subst e1
            cases b <;> cases p.2 <;> rfl
        · have hK : K false = true := by
            unfold yesB at h
            split at h
            · exact absurd ⟨_, rfl⟩ hb
            · exact h
          refine ⟨_, hK, fun φ tmps ht => ?_⟩
          have := ht p oj d hg hj' hd
          rw [← hv] at this
          have e1 := this.nobool fun b e => hb ⟨b, e⟩
          rw [hw, hy]
          cases hx : tmps[d]? with
          | none => rfl
          | some x =>
            rw [hs tmps x hx] at e1
            cases x <;> first | rfl | exact absurd rfl (e1 _)
      · cases h
    · cases h
theorem wantK_ok {ops : Array Oper} {tm : Tm} {o : Oper} {K : Bool → Bool} (h : wantK ops.toList tm o K = true) : ∃ b, K b = true ∧ Wants ops tm o b := wantK_at (fun i x hx => by rw [← Array.getElem?_toList]; exact hx) h
theorem put_defers (a : Act) (d : Option Nat) (v : Value) : (a.put d v).defers = a.defers := by cases d <;> rfl
theorem listK_ok {X : ExtT} {rec : CodeT} (hng : NoNG P X) (hrec : RecOk P rec) {ops : Array Oper} : ∀ {l : List Oper} {tm : Tm} {m : Mem} {K : Tm → Mem → Bool}, listK P X rec ops.toList l tm m K = true → ∃ tm' m', K tm' m' = true ∧ m.next ≤ m'.next ∧ CodeG (fun Q a w => wpList P ops Q l a w) tm m .normal tm' m'
  | [], tm, m, K, h => ⟨tm, m, h, Nat.le_refl _, fun φ w a ht hr hf Q hQ => hQ a w φ ht rfl hr (.refl _ _ _ _)⟩
  | o :: l, tm, m, K, h => by
    rw [listK] at h
    obtain ⟨b, h, hwant⟩ := wantK_ok h
    cases b with
    | true =>
      simp only [] at h
      obtain ⟨v, m1, h, hn1, hop⟩ := opE_ok hng hrec h
      obtain ⟨tm1, h, p1, p2, p3⟩ := putD_ok h
      obtain ⟨tm2, m2, h, hn2, hl⟩ := listK_ok hng hrec h
      refine ⟨tm2, m2, h, Nat.le_trans hn1 hn2, fun φ w a ht hr hf Q hQ => ?_⟩
      show wpList P ops Q (o :: l) a w
      unfold wpList
      rw [if_pos (hwant φ a.tmps fun p oj d _ _ _ => ht.2 d)]
      refine .inl (hop φ w a (fun x _ => ht.or hr.glob x) hr (hf.left hn2) _ _ fun v' w' φ' hv hr' hx => ?_)
      refine hl φ' w' (a.put o.dst v') ((ht.mono hx.le).put p1 p2 p3 hv) hr' (hf.right hx) Q fun a' w2 φ2 ht2 hd2 hr2 hx2 => ?_
      exact hQ a' w2 φ2 ht2 (by rw [hd2, put_defers]) hr2 (hx.trans hx2)
    | false =>
      simp only [] at h
      obtain ⟨tm1, h, p1, p2, p3⟩ := putD_ok h
      obtain ⟨tm2, m2, h, hn2, hl⟩ := listK_ok hng hrec h
      refine ⟨tm2, m2, h, hn2, fun φ w a ht hr hf Q hQ => ?_⟩
      show wpList P ops Q (o :: l) a w
      unfold wpList
      rw [if_neg (by rw [hwant φ a.tmps fun p oj d _ _ _ => ht.2 d]; simp)]
      refine hl φ w (a.put o.dst undef) (ht.put p1 p2 p3 .undef) hr hf Q fun a' w2 φ2 ht2 hd2 hr2 hx2 => ?_
      exact hQ a' w2 φ2 ht2 (by rw [hd2, put_defers]) hr2 hx2
/-- The law of regions that draw. -/
def DrawOk (P : Program) (drawn : List Oper → Tm → Mem → (Tm → Mem → Bool) → Bool) : Prop := ∀ (id : Nat) (ops : Array Oper) (tm : Tm) (m : Mem) (K : Tm → Mem → Bool), drawn ops.toList tm m K = true → ∃ tm' m', K tm' m' = true ∧ m.next ≤ m'.next ∧ CodeG (fun Q a w => (Code.region id ops true).wp P Q a w) tm m .normal tm' m'
theorem seqK_ok {rec : CodeT} (hrec : RecOk P rec) {b : Code} {e : Ex} {tm : Tm} {m : Mem} {K : Ex → Tm → Mem → Bool} (h : seqK rec b e tm m K = true) : (e = .normal ∧ rec b tm m K = true) ∨ (e ≠ .normal ∧ K e tm m = true) := by
  unfold seqK at h
  cases e with
  | normal => exact .inl ⟨rfl, h⟩
  | exit i => exact .inr ⟨by simp, h⟩
  | ret => exact .inr ⟨by simp, h⟩
/-- One behind the other. -/
theorem CodeG.then {W1 W2 W : (Exit → Act → World → Prop) → Act → World → Prop} {tm tm1 tm2 : Tm} {m m1 m2 : Mem} {e : Ex} (h1 : CodeG W1 tm m .normal tm1 m1) (h2 : CodeG W2 tm1 m1 e tm2 m2) (hn1 : m.next ≤ m1.next) (hn2 : m1.next ≤ m2.next) (hW : ∀ Q a w, W1 (Exit.then (W2 Q) Q) a w → W Q a w) : CodeG W tm m e tm2 m2 := by
  intro φ w a ht hr hf Q hQ
  refine hW Q a w (h1 φ w a ht hr (hf.left hn2) _ fun a1 w1 φ1 ht1 hd1 hr1 hx1 => ?_)
  exact h2 φ1 w1 a1 ht1 hr1 (hf.right hx1) Q fun a2 w2 φ2 ht2 hd2 hr2 hx2 => hQ a2 w2 φ2 ht2 (hd2.trans hd1) hr2 (hx1.trans hx2)
theorem then_other {e : Ex} (he : e ≠ .normal) (N : Act → World → Prop) (Q : Exit → Act → World → Prop) (a : Act) (w : World) : Exit.then N Q (toExit e) a w = Q (toExit e) a w := by
  cases e with
  | normal => exact absurd rfl he
  | exit i => rfl
  | ret => rfl
theorem stepK_ok {X : ExtT} {rec : CodeT} {drawn : List Oper → Tm → Mem → (Tm → Mem → Bool) → Bool} (hng : NoNG P X) (hrec : RecOk P rec) (hdraw : DrawOk P drawn) : RecOk P (stepK P X rec drawn) := by
  intro c tm m K h
  have nl : ∀ {c : Code} {tm m e tm' m'}, (∀ b, c ≠ .loop b) → LoopOk P c tm m e tm' m' := fun hc b hb => absurd hb (hc b)
  cases c with
  | skip => exact ⟨_, tm, m, h, Nat.le_refl _, fun φ w a ht hr hf Q hQ => wp_skip (hQ a w φ ht rfl hr (.refl _ _ _ _)), nl (by simp)⟩
  | label l => exact ⟨_, tm, m, h, Nat.le_refl _, fun φ w a ht hr hf Q hQ => wp_label (hQ a w φ ht rfl hr (.refl _ _ _ _)), nl (by simp)⟩
  | exit id => exact ⟨_, tm, m, h, Nat.le_refl _, fun φ w a ht hr hf Q hQ => wp_exit (hQ a w φ ht rfl hr (.refl _ _ _ _)), nl (by simp)⟩
  | ret => exact ⟨_, tm, m, h, Nat.le_refl _, fun φ w a ht hr hf Q hQ => wp_ret (hQ a w φ ht rfl hr (.refl _ _ _ _)), nl (by simp)⟩
  | region id ops d =>
    cases d with
    | true =>
      obtain ⟨tm', m', h, hn, hc⟩ := hdraw id ops tm m _ h
      exact ⟨_, tm', m', h, hn, hc, nl (by simp)⟩
    | false =>
      obtain ⟨tm', m', h, hn, hc⟩ := listK_ok hng hrec h
      exact ⟨_, tm', m', h, hn, fun φ w a ht hr hf Q hQ => wp_region_list (hc φ w a ht hr hf Q hQ), nl (by simp)⟩
  | seq x y =>
    obtain ⟨e, tm1, m1, h, hn1, hx, _⟩ := hrec _ _ _ _ h
    rcases seqK_ok hrec h with ⟨rfl, h⟩ | ⟨he, h⟩
    · obtain ⟨e2, tm2, m2, h, hn2, hy, _⟩ := hrec _ _ _ _ h
      exact ⟨e2, tm2, m2, h, Nat.le_trans hn1 hn2, hx.then hy hn1 hn2 fun Q a w h => wp_seq h, nl (by simp)⟩
    · refine ⟨e, tm1, m1, h, hn1, fun φ w a ht hr hf Q hQ => wp_seq (hx φ w a ht hr hf _ fun a' w' φ' h1 h2 h3 h4 => ?_), nl (by simp)⟩
      rw [then_other he]
      exact hQ a' w' φ' h1 h2 h3 h4
  | cond c x y =>
    obtain ⟨v, hv, h⟩ := opd_ok h
    unfold condK at h
    cases v with
    | bool b =>
      cases b with
      | true =>
        obtain ⟨e, tm1, m1, h, hn1, hx, _⟩ := hrec _ _ _ _ h
        exact ⟨e, tm1, m1, h, hn1, fun φ w a ht hr hf Q hQ => wp_cond_true ((ht.or hr.glob c) _ hv).bool_inv (hx φ w a ht hr hf Q hQ), nl (by simp)⟩
      | false =>
        obtain ⟨e, tm1, m1, h, hn1, hx, _⟩ := hrec _ _ _ _ h
        exact ⟨e, tm1, m1, h, hn1, fun φ w a ht hr hf Q hQ => wp_cond_false ((ht.or hr.glob c) _ hv).bool_inv (hx φ w a ht hr hf Q hQ), nl (by simp)⟩
    | _ => cases h
  | block id b =>
    obtain ⟨e, tm1, m1, h, hn1, hx, _⟩ := hrec _ _ _ _ h
    unfold blockK at h
    cases e with
    | normal => exact ⟨_, tm1, m1, h, hn1, fun φ w a ht hr hf Q hQ => wp_block (hx φ w a ht hr hf _ fun a' w' φ' h1 h2 h3 h4 => hQ a' w' φ' h1 h2 h3 h4), nl (by simp)⟩
    | ret => exact ⟨_, tm1, m1, h, hn1, fun φ w a ht hr hf Q hQ => wp_block (hx φ w a ht hr hf _ fun a' w' φ' h1 h2 h3 h4 => hQ a' w' φ' h1 h2 h3 h4), nl (by simp)⟩
    | exit i =>
      simp only [] at h
      rcases bif_cases h with ⟨he, h⟩ | ⟨he, h⟩
      · have he := beq_t.1 he
        refine ⟨_, tm1, m1, h, hn1, fun φ w a ht hr hf Q hQ => wp_block (hx φ w a ht hr hf _ fun a' w' φ' h1 h2 h3 h4 => ?_), nl (by simp)⟩
        show (if i = id then _ else _)
        rw [if_pos he]
        exact hQ a' w' φ' h1 h2 h3 h4
      · have he : ¬ i = id := fun e => by rw [beq_t.2 e] at he; cases he
        refine ⟨_, tm1, m1, h, hn1, fun φ w a ht hr hf Q hQ => wp_block (hx φ w a ht hr hf _ fun a' w' φ' h1 h2 h3 h4 => ?_), nl (by simp)⟩
        show (if i = id then _ else _)
        rw [if_neg he]
        exact hQ a' w' φ' h1 h2 h3 h4
  | loop b =>
    obtain ⟨e, tm1, m1, h, hn1, hx, _⟩ := hrec _ _ _ _ h
    have fin : ∀ {e : Ex} {tm' : Tm} {m' : Mem}, K e tm' m' = true → m.next ≤ m'.next → (∃ n, CodeG (fun Q a w => Code.rounds P b Q n a w) tm m e tm' m') → ∃ e tm' m', K e tm' m' = true ∧ m.next ≤ m'.next ∧ CodeOk P (.loop b) tm m e tm' m' ∧ LoopOk P (.loop b) tm m e tm' m' := by
      rintro e tm' m' h hn ⟨n, hr⟩
      exact ⟨e, tm', m', h, hn, fun φ w a h1 h2 h3 Q h4 => wp_loop_rounds n (hr φ w a h1 h2 h3 Q h4), fun b' hb' => by injection hb' with hb'; subst hb'; exact ⟨n, hr⟩⟩
    rcases seqK_ok hrec h with ⟨rfl, h⟩ | ⟨he, h⟩
    · obtain ⟨e2, tm2, m2, h, hn2, _, hy⟩ := hrec _ _ _ _ h
      obtain ⟨n, hy⟩ := hy b rfl
      exact fin h (Nat.le_trans hn1 hn2) ⟨n + 1, hx.then hy hn1 hn2 fun Q a w h => h⟩
    · refine fin h hn1 ⟨1, fun φ w a ht hr hf Q hQ => hx φ w a ht hr hf _ fun a' w' φ' h1 h2 h3 h4 => ?_⟩
      rw [then_other he]
      exact hQ a' w' φ' h1 h2 h3 h4
  | scope b =>
    obtain ⟨e, tm1, m1, h, hn1, hx, _⟩ := hrec _ _ _ _ h
    refine ⟨e, tm1, m1, h, hn1, fun φ w a ht hr hf Q hQ => wp_scope_straight (hx φ w a ht hr hf _ fun a' w' φ' h1 h2 h3 h4 => ?_), nl (by simp)⟩
    have := hQ a' w' φ' h1 h2 h3 h4
    cases e <;> exact this
  | _ => cases h
end
end AC.Ev

