/-
  Closed calls by reflection: operations.
-/
import Derived.Test.YtgheaoaicbkaoaaGreatDoorMYb
namespace AC.Ev
open Go
set_option linter.unusedVariables false
set_option linter.unusedSimpArgs false
section
variable {P : Program}
theorem run_mapL {α β : Type} (f : α → Sem β) (g : α → β) (w : World) : ∀ (l : List α), (∀ x ∈ l, (f x).run P w = .ok (g x) w) → (l.mapM f).run P w = .ok (l.map g) w
  | [], _ => by simp
  | x :: l, h => by
    rw [List.mapM_cons, Sem.run_bind, h x (by simp)]
    simp only [Result.andThen_ok]
    rw [Sem.run_bind, run_mapL f g w l fun y hy => h y (List.mem_cons_of_mem _ hy)]
    simp
theorem run_mapA {α β : Type} (f : α → Sem β) (g : α → β) (w : World) (l : Array α) (h : ∀ x ∈ l.toList, (f x).run P w = .ok (g x) w) : (l.mapM f).run P w = .ok (l.map g) w := by
  rw [Array.mapM_eq_mapM_toList, Sem.run_map, run_mapL f g w l.toList h]
  simp [← Array.toList_map]
theorem buildE_ok {tm : Tm} {L : Look} {ty : TypeId} {ps : Array (Nat × Operand)} {K : Value → Bool} (h : buildE P tm ty ps K = true) : ∃ v, K v = true ∧ Reads P tm L (ps.toList.map (·.2)) (fun ρ => Instr.build ty (ps.map fun (i, x) => (i, ρ x))) v := by
  unfold buildE at h
  obtain ⟨z, h, hz, hzr⟩ := zeroK_ok h
  obtain ⟨vs, h, hi, hv⟩ := partsK_ok h
  split at h
  · rename_i d hd
    split at h
    · rename_i fs
      rw [bif_t] at h
      obtain ⟨hall, h⟩ := h
      have hall := allL_ok _ hall
      obtain ⟨l, h, hl, hf⟩ := fillS_ok (P := P) (fs := fs.toList) (G := fs.map fun f => (f.offset, ((P.info? f.type).map (·.size)).getD 0)) (by
        intro i f n hif ⟨ti, e1, e2⟩
        rw [Array.getElem?_toList] at hif
        simp [Array.getElem?_map, hif, e1, e2]) h
      refine ⟨_, h, fun φ w ρ ho hr => ?_⟩
      obtain ⟨l', k1, k2⟩ := hf φ (ps.toList.map fun p => (p.1, ρ p.2)) z.cells (by rw [cells_eq]; exact hz φ) (by rw [hi]; simp) (by
        have := hv φ ρ fun p hp => ho p.2 (List.mem_map_of_mem hp)
        simpa [Function.comp_def] using this)
      refine ⟨.agg l', ?_, .agg k2⟩
      have hm : (fs.mapM fun f => do pure (f.offset, ← Go.sizeOf f.type) : Sem (Array (Nat × Nat))).run P w = .ok (fs.map fun f => (f.offset, ((P.info? f.type).map (·.size)).getD 0)) w := by
        refine run_mapA _ (fun f => (f.offset, ((P.info? f.type).map (·.size)).getD 0)) w fs fun f hf => ?_
        have := hall f hf
        cases hi : P.info? f.type with
        | none => rw [hi] at this; cases this
        | some ti => simp [Go.sizeOf, typeInfo, program, Sem.run, hi]
      have hps : (ps.map fun (i, x) => (i, ρ x)).toList = ps.toList.map fun p => (p.1, ρ p.2) := by simp
      simp only [Instr.build, Sem.run_bind, hzr, Result.andThen_ok, run_und hd, hm, hps, k1]
      rfl
    · rename_i len e
      obtain ⟨n, h, _, hn⟩ := sizeK_ok h
      obtain ⟨l, h, hl, hf⟩ := fillA_ok h
      refine ⟨_, h, fun φ w ρ ho hr => ?_⟩
      obtain ⟨l', k1, k2⟩ := hf φ (ps.toList.map fun p => (p.1, ρ p.2)) z.cells (by rw [cells_eq]; exact hz φ) (by rw [hi]; simp) (by
        have := hv φ ρ fun p hp => ho p.2 (List.mem_map_of_mem hp)
        simpa [Function.comp_def] using this)
      refine ⟨.agg l', ?_, .agg k2⟩
      have hps : (ps.map fun (i, x) => (i, ρ x)).toList = ps.toList.map fun p => (p.1, ρ p.2) := by simp
      simp only [Instr.build, Sem.run_bind, hzr, Result.andThen_ok, run_und hd, hn, hps, k1]
      rfl
    · cases h
  · cases h
/-- Neither the nil of an interface nor a struct. -/
def gq : Value → Bool
  | .nilIface => false
  | .agg _ => false
  | _ => true
theorem run_guard {op : BinOp} {t : TypeId} {X Y : Operand} {a b : Value} (h : gq a = true) (w : World) : (eqGuard op t X Y a b).run P w = .ok () w := by
  unfold eqGuard
  cases a <;> first | (cases h; done) | (cases op <;> rfl)
theorem tagB_ok {t : TypeId} {n : Nat} (h : tagB P t n = true) : ∃ d, P.underlying t = some d ∧ tagN d = n := by
  unfold tagB at h
  split at h
  · rename_i d hd
    exact ⟨d, hd, beq_t.1 h⟩
  · cases h
theorem nilEq_ok {α : Type} {a b : Option α} {K : Bool → Bool} (h : nilEq a b K = true) : (a = none ∧ K b.isNone = true) ∨ (∃ x, a = some x ∧ b = none ∧ K false = true) := by
  unfold nilEq at h
  split at h
  · have := forceB_ok h
    refine .inl ⟨rfl, ?_⟩
    cases b <;> exact this
  · split at h
    · exact .inr ⟨_, rfl, rfl, h⟩
    · cases h
def isEq : BinOp → Prop
  | .eql => True
  | .neq => True
  | _ => False
theorem RV.pointer_inv {φ : Phi} {a : Option Addr} {v' : Value} (h : RV φ (.pointer a) v') : ∃ a', v' = .pointer a' ∧ a'.isNone = a.isNone := by
  cases h with
  | nilp => exact ⟨_, rfl, rfl⟩
  | ptr h => exact ⟨_, rfl, rfl⟩
theorem RV.slice_inv {φ : Phi} {a : Option Addr} {l c : Nat} {v' : Value} (h : RV φ (.slice a l c) v') : ∃ a' c', v' = .slice a' l c' ∧ a'.isNone = a.isNone := by
  cases h with
  | nils => exact ⟨_, _, rfl, rfl⟩
  | sli h => exact ⟨_, _, rfl, rfl⟩
theorem RV.mapv_inv {φ : Phi} {a : Option Nat} {v' : Value} (h : RV φ (.map a) v') : ∃ a', v' = .map a' ∧ a'.isNone = a.isNone := by
  cases h with
  | nilm => exact ⟨_, rfl, rfl⟩
  | map h => exact ⟨_, rfl, rfl⟩
theorem RV.funcv_inv {φ : Phi} {f : Fn} {a c : Array Value} {v' : Value} (h : RV φ (.func f a c) v') : ∃ f' a' c', v' = .func f' a' c' := by
  cases h with
  | func h => exact ⟨_, _, _, rfl⟩
theorem RV.nilf_inv {φ : Phi} {v' : Value} (h : RV φ .nilFunc v') : v' = .nilFunc := by cases h; rfl
theorem desc2 {d : TypeDesc} (h : tagN d = 2) : ∃ e, d = .pointer e := by cases d <;> first | exact ⟨_, rfl⟩ | simp [tagN] at h
theorem desc3 {d : TypeDesc} (h : tagN d = 3) : ∃ e, d = .slice e := by cases d <;> first | exact ⟨_, rfl⟩ | simp [tagN] at h
theorem desc4 {d : TypeDesc} (h : tagN d = 4) : ∃ k e, d = .map k e := by cases d <;> first | exact ⟨_, _, rfl⟩ | simp [tagN] at h
theorem desc5 {d : TypeDesc} (h : tagN d = 5) : ∃ a b c, d = .func a b c := by cases d <;> first | exact ⟨_, _, _, rfl⟩ | simp [tagN] at h
theorem desc1 {d : TypeDesc} (h : tagN d = 1) : d = .bool := by cases d <;> first | rfl | simp [tagN] at h
theorem nilEq_key {α : Type} {a b : Option α} {K : Bool → Bool} (h : nilEq a b K = true) : ∃ r, K r = true ∧ (a.isNone = true ∧ r = b.isNone ∨ a.isNone = false ∧ b.isNone = true ∧ r = false) := by
  rcases nilEq_ok h with ⟨rfl, h1⟩ | ⟨x, rfl, rfl, h1⟩
  · exact ⟨_, h1, .inl ⟨rfl, rfl⟩⟩
  · exact ⟨_, h1, .inr ⟨rfl, rfl, rfl⟩⟩
theorem toList_data (s : ByteArray) : s.toList = bytesOf s := ByteArray.toList_eq s
/-- '==' of related values. -/
theorem eqlK_ok {t : TypeId} {x y : Value} {K : Bool → Bool} (h : eqlK P t x y K = true) : ∃ b, K b = true ∧ ∀ (φ : Phi) (x' y' : Value) (w : World), RV φ x x' → RV φ y y' → gq x' = true ∧
    (binOp .eql t x' y').run P w = .ok (.bool b) w ∧ (binOp .neq t x' y').run P w = .ok (.bool !b) w := by
  cases x with
  | int j a =>
    cases y with
    | int k b =>
      rw [eqlK, bif_t] at h
      obtain ⟨h1, h⟩ := h
      obtain rfl := kindEq_ok h1
      refine ⟨_, forceB_ok h, fun φ x' y' w hx hy => ?_⟩
      rw [hx.int_inv, hy.int_inv, eqI_ok]
      refine ⟨rfl, ?_, ?_⟩
      · simp [binOp, Op.intCmp]; rfl
      · simp [binOp, Op.intCmp]; rfl
    | _ => cases h
  | string a =>
    cases y with
    | string b =>
      rw [eqlK] at h
      refine ⟨_, forceB_ok h, fun φ x' y' w hx hy => ?_⟩
      have hd : (a.toList == b.toList) = decide (bytesOf a = bytesOf b) := by
        rw [toList_data, toList_data]
        by_cases he : bytesOf a = bytesOf b
        · simp [he]
        · rw [decide_eq_false he]
          exact beq_eq_false_iff_ne.2 he
      rw [hx.string_inv, hy.string_inv, eqU_ok, ← hd]
      exact ⟨rfl, rfl, rfl⟩
    | _ => cases h
  | bool a =>
    cases y with
    | bool b =>
      unfold eqlK at h
      simp only [] at h
      rw [bif_t] at h
      obtain ⟨ht, h⟩ := h
      obtain ⟨d, hd, hn⟩ := tagB_ok ht
      obtain rfl := desc1 hn
      have key : K (a == b) = true := by
        cases a with
        | true => have := forceB_ok h; simpa using this
        | false => have := forceB_ok h; simpa using this
      refine ⟨_, key, fun φ x' y' w hx hy => ?_⟩
      rw [hx.bool_inv, hy.bool_inv]
      have he : (Op.equal t (.bool a) (.bool b)).run P w = .ok (a == b) w := by
        unfold Op.equal Op.maxDepth
        rw [Op.equalIn, Sem.run_bind, run_und hd]
        rfl
      exact ⟨rfl, by simp [binOp, he], by simp [binOp, he]⟩
    | _ => cases h
  | pointer a =>
    cases y with
    | pointer b =>
      rw [eqlK, bif_t] at h
      obtain ⟨ht, h⟩ := h
      obtain ⟨d, hd, hn⟩ := tagB_ok ht
      obtain ⟨e, rfl⟩ := desc2 hn
      obtain ⟨r, hr, hk⟩ := nilEq_key h
      refine ⟨r, hr, fun φ x' y' w hx hy => ?_⟩
      obtain ⟨a', rfl, ea⟩ := hx.pointer_inv
      obtain ⟨b', rfl, eb⟩ := hy.pointer_inv
      have he : (Op.equal t (.pointer a') (.pointer b')).run P w = .ok r w := by
        unfold Op.equal Op.maxDepth
        rw [Op.equalIn, Sem.run_bind, run_und hd]
        simp only [Result.andThen_ok]
        rcases hk with ⟨k1, rfl⟩ | ⟨k1, k2, rfl⟩
        · rw [k1] at ea
          rw [← eb]
          cases a' with
          | none => rfl
          | some _ => cases ea
        · rw [k1] at ea
          rw [k2] at eb
          cases a' with
          | none => cases ea
          | some _ => cases b' with
            | none => rfl
            | some _ => cases eb
      exact ⟨rfl, by simp [binOp, he], by simp [binOp, he]⟩
    | _ => cases h
  | slice a l c =>
    cases y with
    | slice b l2 c2 =>
      rw [eqlK, bif_t] at h
      obtain ⟨ht, h⟩ := h
      obtain ⟨d, hd, hn⟩ := tagB_ok ht
      obtain ⟨e, rfl⟩ := desc3 hn
      obtain ⟨r, hr, hk⟩ := nilEq_key h
      refine ⟨r, hr, fun φ x' y' w hx hy => ?_⟩
      obtain ⟨a', c', rfl, ea⟩ := hx.slice_inv
      obtain ⟨b', d', rfl, eb⟩ := hy.slice_inv
      have he : (Op.equal t (.slice a' l c') (.slice b' l2 d')).run P w = .ok r w := by
        unfold Op.equal Op.maxDepth
        rw [Op.equalIn, Sem.run_bind, run_und hd]
        simp only [Result.andThen_ok]
        rcases hk with ⟨k1, rfl⟩ | ⟨k1, k2, rfl⟩
        · rw [k1] at ea
          rw [← eb]
          cases a' with
          | none => rfl
          | some _ => cases ea
        · rw [k1] at ea
          rw [k2] at eb
          cases a' with
          | none => cases ea
          | some _ => cases b' with
            | none => rfl
            | some _ => cases eb
      exact ⟨rfl, by simp [binOp, he], by simp [binOp, he]⟩
    | _ => cases h
  | map a =>
    cases y with
    | map b =>
      rw [eqlK, bif_t] at h
      obtain ⟨ht, h⟩ := h
      obtain ⟨d, hd, hn⟩ := tagB_ok ht
      obtain ⟨kk, e, rfl⟩ := desc4 hn
      obtain ⟨r, hr, hk⟩ := nilEq_key h
      refine ⟨r, hr, fun φ x' y' w hx hy => ?_⟩
      obtain ⟨a', rfl, ea⟩ := hx.mapv_inv
      obtain ⟨b', rfl, eb⟩ := hy.mapv_inv
      have he : (Op.equal t (.map a') (.map b')).run P w = .ok r w := by
        unfold Op.equal Op.maxDepth
        rw [Op.equalIn, Sem.run_bind, run_und hd]
        simp only [Result.andThen_ok]
        rcases hk with ⟨k1, rfl⟩ | ⟨k1, k2, rfl⟩
        · rw [k1] at ea
          rw [← eb]
          cases a' with
          | none => rfl
          | some _ => cases ea
        · rw [k1] at ea
          rw [k2] at eb
          cases a' with
          | none => cases ea
          | some _ => cases b' with
            | none => rfl
            | some _ => cases eb
      exact ⟨rfl, by simp [binOp, he], by simp [binOp, he]⟩
    | _ => cases h
  | nilFunc =>
    cases y with
    | nilFunc =>
      rw [eqlK, bif_t] at h
      obtain ⟨ht, h⟩ := h
      obtain ⟨d, hd, hn⟩ := tagB_ok ht
      obtain ⟨_, _, _, rfl⟩ := desc5 hn
      refine ⟨_, h, fun φ x' y' w hx hy => ?_⟩
      rw [hx.nilf_inv, hy.nilf_inv]
      have he : (Op.equal t .nilFunc .nilFunc).run P w = .ok true w := by
        unfold Op.equal Op.maxDepth
        rw [Op.equalIn, Sem.run_bind, run_und hd]
        rfl
      exact ⟨rfl, by simp [binOp, he], by simp [binOp, he]⟩
    | func f a c =>
      rw [eqlK, bif_t] at h
      obtain ⟨ht, h⟩ := h
      obtain ⟨d, hd, hn⟩ := tagB_ok ht
      obtain ⟨_, _, _, rfl⟩ := desc5 hn
      refine ⟨_, h, fun φ x' y' w hx hy => ?_⟩
      obtain ⟨f', a', c', rfl⟩ := hy.funcv_inv
      rw [hx.nilf_inv]
      have he : (Op.equal t .nilFunc (.func f' a' c')).run P w = .ok false w := by
        unfold Op.equal Op.maxDepth
        rw [Op.equalIn, Sem.run_bind, run_und hd]
        rfl
      exact ⟨rfl, by simp [binOp, he], by simp [binOp, he]⟩
    | _ => cases h
  | func f a c =>
    cases y with
    | nilFunc =>
      rw [eqlK, bif_t] at h
      obtain ⟨ht, h⟩ := h
      obtain ⟨d, hd, hn⟩ := tagB_ok ht
      obtain ⟨_, _, _, rfl⟩ := desc5 hn
      refine ⟨_, h, fun φ x' y' w hx hy => ?_⟩
      obtain ⟨f', a', c', rfl⟩ := hx.funcv_inv
      rw [hy.nilf_inv]
      have he : (Op.equal t (.func f' a' c') .nilFunc).run P w = .ok false w := by
        unfold Op.equal Op.maxDepth
        rw [Op.equalIn, Sem.run_bind, run_und hd]
        rfl
      exact ⟨rfl, by simp [binOp, he], by simp [binOp, he]⟩
    | _ => cases h
  | _ => cases h
theorem arithK_ok {op : BinOp} {k : IntKind} {a b : Int} {K : Value → Bool} (h : arithK op k a b K = true) : ∃ v, K v = true ∧ ∀ (φ : Phi) (t : TypeId) (w : World), RV φ v v ∧ (binOp op t (.int k a) (.int k b)).run P w = .ok v w := by
  cases op with
  | add => refine ⟨_, intV_ok h, fun φ t w => ⟨.int _ _, ?_⟩⟩; rw [addI_ok]; simp [binOp, Op.intArith]
  | sub => refine ⟨_, intV_ok h, fun φ t w => ⟨.int _ _, ?_⟩⟩; rw [addI_ok, negI_ok]; simp [binOp, Op.intArith, Int.sub_eq_add_neg]
  | mul =>
    unfold arithK at h
    cases a with
    | ofNat m =>
      cases b with
      | ofNat n => refine ⟨_, intV_ok h, fun φ t w => ⟨.int _ _, ?_⟩⟩; simp [binOp, Op.intArith]
      | negSucc n => cases h
    | negSucc m => cases h
  | quo =>
    unfold arithK at h
    cases a with
    | ofNat m =>
      cases b with
      | ofNat n =>
        cases n with
        | zero => cases h
        | succ n => 
          refine ⟨_, intV_ok h, fun φ t w => ⟨.int _ _, ?_⟩⟩
          simp [binOp, Op.intDiv]
          intro h0
          omega
      | negSucc n => cases h
    | negSucc m => cases h
  | rem =>
    unfold arithK at h
    cases a with
    | ofNat m =>
      cases b with
      | ofNat n =>
        cases n with
        | zero => cases h
        | succ n => 
          refine ⟨_, forceN_ok (K := fun r => K (.int k (.ofNat r))) h, fun φ t w => ⟨.int _ _, ?_⟩⟩
          simp [binOp, Op.intDiv]
          rw [if_neg (by omega)]
          rfl
      | negSucc n => cases h
    | negSucc m => cases h
  | lss => refine ⟨_, boolV_ok h, fun φ t w => ⟨.bool _, ?_⟩⟩; rw [ltI_ok]; simp [binOp, Op.intCmp]; try omega
  | leq => refine ⟨_, boolV_ok h, fun φ t w => ⟨.bool _, ?_⟩⟩; rw [ltI_ok]; simp [binOp, Op.intCmp]; rw [← decide_not]; exact decide_eq_decide.2 (by omega)
  | gtr => refine ⟨_, boolV_ok h, fun φ t w => ⟨.bool _, ?_⟩⟩; rw [ltI_ok]; simp [binOp, Op.intCmp]; try omega
  | geq => refine ⟨_, boolV_ok h, fun φ t w => ⟨.bool _, ?_⟩⟩; rw [ltI_ok]; simp [binOp, Op.intCmp]; rw [← decide_not]; exact decide_eq_decide.2 (by omega)
  | _ => cases h
end
section
variable {P : Program}
theorem run_guard0 {op : BinOp} {t : TypeId} {X Y : Operand} {a b : Value} (h1 : op ≠ .eql) (h2 : op ≠ .neq) (w : World) : (eqGuard op t X Y a b).run P w = .ok () w := by
  unfold eqGuard
  cases op <;> first | rfl | exact absurd rfl h1 | exact absurd rfl h2
theorem bytes_eq {s : ByteArray} {l : List UInt8} (h : bytesOf s = l) : s = ⟨⟨l⟩⟩ := by
  obtain ⟨⟨d⟩⟩ := s
  subst h
  rfl
theorem binK_ok {op : BinOp} {x y : Value} {K : Value → Bool} (h : binK op x y K = true) : ∃ v, K v = true ∧ ∀ (φ : Phi) (x' y' : Value) (t : TypeId) (w : World), RV φ x x' → RV φ y y' → RV φ v v ∧ (binOp op t x' y').run P w = .ok v w := by
  cases x with
  | int j a =>
    cases y with
    | int k b =>
      rw [binK, bif_t] at h
      obtain ⟨h1, h⟩ := h
      obtain rfl := kindEq_ok h1
      obtain ⟨v, hv, hr⟩ := arithK_ok (P := P) h
      refine ⟨v, hv, fun φ x' y' t w hx hy => ?_⟩
      rw [hx.int_inv, hy.int_inv]
      exact hr φ t w
    | _ => cases h
  | string a =>
    cases y with
    | string b =>
      unfold binK at h
      simp only [] at h
      cases op with
      | add =>
        have h := catL_ok _ _ _ h
        rw [bif_t, lenL_eq] at h
        obtain ⟨h1, h⟩ := h
        have h1 := ble_t.1 h1
        refine ⟨_, h, fun φ x' y' t w hx hy => ⟨.string _, ?_⟩⟩
        rw [hx.string_inv, hy.string_inv, binOp_string_add]
        have e : a ++ b = ⟨⟨bytesOf a ++ bytesOf b⟩⟩ := bytes_eq (by simp [bytesOf])
        have ha : ∀ s : ByteArray, s.size = (bytesOf s).length := fun s => by obtain ⟨⟨d⟩⟩ := s; rfl
        rw [run_string_add_sum w a b (by rw [ha, ha]; rw [List.length_append] at h1; omega), e]
      | lss =>
        refine ⟨_, boolV_ok h, fun φ x' y' t w hx hy => ⟨.bool _, ?_⟩⟩
        rw [hx.string_inv, hy.string_inv, binOp_string_lss, ltU_ok, toList_data, toList_data]
        rfl
      | _ => cases h
    | _ => cases h
  | _ => cases h
theorem binE_ok {tm : Tm} {L : Look} {op : BinOp} {t : TypeId} {x y : Operand} {K : Value → Bool} (h : binE P tm op t x y K = true) : ∃ v, K v = true ∧ Reads P tm L [x, y] (fun ρ => do eqGuard op t x y (ρ x) (ρ y); binOp op t (ρ x) (ρ y)) v := by
  unfold binE at h
  obtain ⟨a, ha, h⟩ := opd_ok h
  obtain ⟨b, hb, h⟩ := opd_ok h
  have other : ∀ op : BinOp, op ≠ .eql → op ≠ .neq → binK op a b K = true → ∃ v, K v = true ∧ Reads P tm L [x, y] (fun ρ => do eqGuard op t x y (ρ x) (ρ y); binOp op t (ρ x) (ρ y)) v := by
    intro op h1 h2 h
    obtain ⟨v, hv, hr⟩ := binK_ok (P := P) h
    refine ⟨v, hv, fun φ w ρ ho hrep => ?_⟩
    obtain ⟨k1, k2⟩ := hr φ (ρ x) (ρ y) t w (ho x (by simp) _ ha) (ho y (by simp) _ hb)
    refine ⟨v, ?_, k1⟩
    simp only [Sem.run_bind, run_guard0 h1 h2, Result.andThen_ok]
    exact k2
  cases op with
  | eql =>
    obtain ⟨r, hr, hk⟩ := eqlK_ok (P := P) h
    refine ⟨_, hr, fun φ w ρ ho hrep => ?_⟩
    obtain ⟨k1, k2, k3⟩ := hk φ (ρ x) (ρ y) w (ho x (by simp) _ ha) (ho y (by simp) _ hb)
    refine ⟨_, ?_, .bool _⟩
    simp only [Sem.run_bind, run_guard k1, Result.andThen_ok]
    exact k2
  | neq =>
    obtain ⟨r, hr, hk⟩ := eqlK_ok (P := P) h
    have hr := boolV_ok hr
    refine ⟨_, hr, fun φ w ρ ho hrep => ?_⟩
    obtain ⟨k1, k2, k3⟩ := hk φ (ρ x) (ρ y) w (ho x (by simp) _ ha) (ho y (by simp) _ hb)
    refine ⟨_, ?_, .bool _⟩
    simp only [Sem.run_bind, run_guard k1, Result.andThen_ok]
    exact k3
  | _ => exact other _ (by simp) (by simp) h
theorem unE_ok {tm : Tm} {L : Look} {op : UnOp} {x : Operand} {K : Value → Bool} (h : unE tm op x K = true) : ∃ v, K v = true ∧ Reads P tm L [x] (fun ρ => Op.unary op (ρ x)) v := by
  unfold unE at h
  obtain ⟨a, ha, h⟩ := opd_ok h
  cases op with
  | not =>
    cases a with
    | bool b =>
      refine ⟨_, boolV_ok h, fun φ w ρ ho hr => ⟨_, ?_, .bool _⟩⟩
      simp only [(ho x (by simp) _ ha).bool_inv]
      rfl
    | _ => cases h
  | neg =>
    cases a with
    | int k n =>
      refine ⟨_, intV_ok h, fun φ w ρ ho hr => ⟨_, ?_, .int _ _⟩⟩
      simp only [(ho x (by simp) _ ha).int_inv]
      rw [negI_ok]
      simp [Op.unary, Op.intArith]
    | _ => cases h
  | _ => cases h
theorem convE_ok {tm : Tm} {L : Look} {src dst : TypeId} {x : Operand} {K : Value → Bool} (h : convE P tm src dst x K = true) : ∃ v, K v = true ∧ Reads P tm L [x] (fun ρ => convert src dst (ρ x)) v := by
  unfold convE at h
  obtain ⟨a, ha, h⟩ := opd_ok h
  split at h
  · rename_i s hs
    split at h
    · rename_i d hd
      split at h
      · rename_i k
        cases a with
        | int j n =>
          refine ⟨_, intV_ok h, fun φ w ρ ho hr => ⟨_, ?_, .int _ _⟩⟩
          simp only [(ho x (by simp) _ ha).int_inv]
          simp only [convert, Sem.run_bind, run_und hs, run_und hd, Result.andThen_ok]
          rfl
        | _ => cases h
      · cases a with
        | string b =>
          refine ⟨_, h, fun φ w ρ ho hr => ⟨_, ?_, .string _⟩⟩
          simp only [(ho x (by simp) _ ha).string_inv]
          simp only [convert, Sem.run_bind, run_und hs, run_und hd, Result.andThen_ok]
          cases s <;> rfl
        | _ => cases h
      · cases h
    · cases h
  · cases h
theorem funE_ok {tm : Tm} {L : Look} {fn : Fn} {a c : Array Operand} {K : Value → Bool} (h : funE tm fn a c K = true) : ∃ v, K v = true ∧ Reads P tm L (a.toList ++ c.toList) (fun ρ => Instr.makeFunc fn (a.map ρ) (c.map ρ)) v := by
  unfold funE at h
  split at h
  · obtain ⟨va, ha, h⟩ := opds_ok h
    obtain ⟨vc, hc, h⟩ := opds_ok h
    refine ⟨_, h, fun φ w ρ ho hr => ⟨_, rfl, .func ?_ ?_⟩⟩
    · have := opds_rv (ρ := ρ) (φ := φ) ha fun y hy => ho y (by simp [hy])
      simpa using this
    · have := opds_rv (ρ := ρ) (φ := φ) hc fun y hy => ho y (by simp [hy])
      simpa using this
  · cases h
theorem asNat_ok {v : Value} {K : Nat → Bool} (h : asNat v K = true) : ∃ k n, v = .int k (.ofNat n) ∧ K n = true := by
  unfold asNat at h
  split at h
  · split at h
    · exact ⟨_, _, rfl, h⟩
    · cases h
  · cases h
theorem asAgg_ok {v : Value} {K : List Value → Bool} (h : asAgg v K = true) : ∃ cs, v = .agg cs ∧ K cs.toList = true := by
  unfold asAgg at h
  split at h
  · exact ⟨_, rfl, h⟩
  · cases h
theorem asStr_ok {v : Value} {K : List UInt8 → Bool} (h : asStr v K = true) : ∃ s, v = .string s ∧ K (bytesOf s) = true := by
  unfold asStr at h
  split at h
  · exact ⟨_, rfl, h⟩
  · cases h
theorem asSli_ok {v : Value} {Kn : Nat → Nat → Bool} {K : Nat → Nat → Nat → Nat → Bool} (h : asSli v Kn K = true) : (∃ l c, v = .slice none l c ∧ Kn l c = true) ∨ ∃ g off l c, v = .slice (some ⟨g, off, none⟩) l c ∧ K g off l c = true := by
  unfold asSli at h
  split at h
  · split at h
    · exact .inl ⟨_, _, rfl, h⟩
    · obtain ⟨h1, h2⟩ := addrK_ok h
      exact .inr ⟨_, _, _, _, by rw [h1], h2⟩
  · cases h
theorem fieldAE_ok {tm : Tm} {L : Look} {s : TypeId} {x : Operand} {f : Nat} {K : Value → Bool} (h : fieldAE P tm s x f K = true) : ∃ v, K v = true ∧ Reads P tm L [x] (fun ρ => Instr.fieldAt s (ρ x) f) v := by
  unfold fieldAE at h
  obtain ⟨a, ha, h⟩ := opd_ok h
  obtain ⟨g, off, e0, h⟩ := asPtr_ok h
  rw [e0] at ha
  obtain ⟨fs, hfs, h⟩ := structK_ok h
  rw [nth_eq] at h
  split at h
  · rename_i fd hf
    obtain ⟨n, h, _, hn⟩ := sizeK_ok h
    cases n with
    | zero => cases h
    | succ n =>
      refine ⟨_, forceN_ok (K := fun o => K (ptr g o)) h, fun φ w ρ ho hr => ?_⟩
      obtain ⟨im, hi, he⟩ := (ho x (by simp) _ ha).ptr_inv
      have hf' : fs[f]? = some fd := by rw [← Array.getElem?_toList]; exact hf
      refine ⟨.pointer (some ⟨im.b, im.d + (off + fd.offset), none⟩), ?_, .ptr hi⟩
      simp only [he, Instr.fieldAt, Sem.run_bind, run_und hfs, Result.andThen_ok, hf', Instr.sureAddr, fieldPlace, Sem.run_pure, hn]
      rw [if_neg (by simp)]
      simp only [Sem.run_pure, Result.andThen_ok]
      congr 3
      unfold Addr.add
      split
      · rename_i h0; rw [h0]; simp
      · simp [Nat.add_assoc]
  · cases h
theorem fieldE_ok {tm : Tm} {L : Look} {s : TypeId} {x : Operand} {f : Nat} {K : Value → Bool} (h : fieldE P tm s x f K = true) : ∃ v, K v = true ∧ Reads P tm L [x] (fun ρ => Instr.field s (ρ x) f) v := by
  unfold fieldE at h
  obtain ⟨a, ha, h⟩ := opd_ok h
  obtain ⟨cs, e0, h⟩ := asAgg_ok h
  rw [e0] at ha
  obtain ⟨fs, hfs, h⟩ := structK_ok h
  rw [nth_eq] at h
  split at h
  · rename_i fd hf
    obtain ⟨v, hv, hp⟩ := partK_ok h
    refine ⟨v, hv, fun φ w ρ ho hr => ?_⟩
    obtain ⟨a', e, hr'⟩ := (ho x (by simp) _ ha).agg_inv
    obtain ⟨v', k1, k2⟩ := hp φ a' w hr'
    have hf' : fs[f]? = some fd := by rw [← Array.getElem?_toList]; exact hf
    exact ⟨v', by simp [Instr.field, run_und hfs, hf', e, Go.asAgg, k1], k2⟩
  · cases h
end
section
variable {P : Program}
theorem indexAE_ok {tm : Tm} {L : Look} {ty : TypeId} {x i : Operand} {K : Value → Bool} (h : indexAE P tm ty x i K = true) : ∃ v, K v = true ∧ Reads P tm L [x, i] (fun ρ => Instr.indexAt ty (ρ x) (ρ i)) v := by
  unfold indexAE at h
  obtain ⟨a, ha, h⟩ := opd_ok h
  obtain ⟨b, hb, h⟩ := opd_ok h
  obtain ⟨k, n, e0, h⟩ := asNat_ok h
  rw [e0] at hb
  split at h
  · rename_i d hd
    split at h
    · rename_i e
      rcases asSli_ok h with ⟨l, c, _, h0⟩ | ⟨g, off, l, c, e0, h0⟩
      · cases h0
      have h := h0
      rw [e0] at ha
      rw [bif_t] at h
      obtain ⟨h1, h⟩ := h
      have h1 := ble_t.1 h1
      obtain ⟨z, h, _, hz⟩ := sizeK_ok h
      refine ⟨_, forceN_ok (K := fun o => K (ptr g o)) h, fun φ w ρ ho hr => ?_⟩
      obtain ⟨im, o', c', hi, he, a1, a2, a3, a4⟩ := (ho x (by simp) _ ha).sli_inv
      have ei := (ho i (by simp) _ hb).int_inv
      have ho' : o' = im.d + off := by
        rcases a4 with a4 | a4
        · exact a4.1
        · omega
      refine ⟨.pointer (some ⟨im.b, im.d + (off + n * z), none⟩), ?_, .ptr hi⟩
      simp only [he, ei, Instr.indexAt, Sem.run_bind, Sem.run_pure, asIntOf, run_und hd, Result.andThen_ok, hz, Int.ofNat_eq_natCast, Int.toNat_natCast]
      rw [if_pos (by omega)]
      simp only [Sem.run_bind, hz, Result.andThen_ok, Sem.run_pure]
      congr 3
      unfold Addr.add
      split
      · rename_i h0; rw [h0, ho']; simp
      · rw [ho']; simp [Nat.add_assoc]
    · rename_i len e
      obtain ⟨g, off, e0, h⟩ := asPtr_ok h
      rw [e0] at ha
      rw [bif_t] at h
      obtain ⟨h1, h⟩ := h
      have h1 := ble_t.1 h1
      obtain ⟨z, h, _, hz⟩ := sizeK_ok h
      refine ⟨_, forceN_ok (K := fun o => K (ptr g o)) h, fun φ w ρ ho hr => ?_⟩
      obtain ⟨im, hi, he⟩ := (ho x (by simp) _ ha).ptr_inv
      have ei := (ho i (by simp) _ hb).int_inv
      refine ⟨.pointer (some ⟨im.b, im.d + (off + n * z), none⟩), ?_, .ptr hi⟩
      simp only [he, ei, Instr.indexAt, Instr.sureAddr, Sem.run_bind, Sem.run_pure, asIntOf, run_und hd, Result.andThen_ok, hz, Int.ofNat_eq_natCast, Int.toNat_natCast]
      rw [if_pos (by omega)]
      simp only [Sem.run_bind, hz, Result.andThen_ok, Sem.run_pure]
      congr 3
      unfold Addr.add
      split
      · rename_i h0; rw [h0]; simp
      · simp [Nat.add_assoc]
    · cases h
  · cases h
theorem indexE_ok {tm : Tm} {L : Look} {ty : TypeId} {x i : Operand} {K : Value → Bool} (h : indexE P tm ty x i K = true) : ∃ v, K v = true ∧ Reads P tm L [x, i] (fun ρ => Instr.index ty (ρ x) (ρ i)) v := by
  unfold indexE at h
  obtain ⟨a, ha, h⟩ := opd_ok h
  obtain ⟨b, hb, h⟩ := opd_ok h
  obtain ⟨k, n, e0, h⟩ := asNat_ok h
  rw [e0] at hb
  split at h
  · rename_i d hd
    split at h
    · rename_i len e
      obtain ⟨cs, e0, h⟩ := asAgg_ok h
      rw [e0] at ha
      rw [bif_t] at h
      obtain ⟨h1, h⟩ := h
      have h1 := ble_t.1 h1
      obtain ⟨z, h, _, hz⟩ := sizeK_ok h
      obtain ⟨v, hv, hp⟩ := partK_ok h
      refine ⟨v, hv, fun φ w ρ ho hr => ?_⟩
      obtain ⟨a', ea, hr'⟩ := (ho x (by simp) _ ha).agg_inv
      have ei := (ho i (by simp) _ hb).int_inv
      obtain ⟨v', k1, k2⟩ := hp φ a' w hr'
      refine ⟨v', ?_, k2⟩
      simp only [ea, ei, Instr.index, Sem.run_bind, Sem.run_pure, asIntOf, run_und hd, Result.andThen_ok, Int.ofNat_eq_natCast, Int.toNat_natCast]
      rw [if_pos (by omega)]
      simp only [Sem.run_bind, hz, Result.andThen_ok, k1]
    · obtain ⟨s, e0, h⟩ := asStr_ok h
      rw [e0] at ha
      rw [nth_eq] at h
      split at h
      · rename_i u hu
        refine ⟨_, forceN_ok (K := fun n => K (.int .u8 (.ofNat n))) h, fun φ w ρ ho hr => ?_⟩
        have ea := (ho x (by simp) _ ha).string_inv
        have ei := (ho i (by simp) _ hb).int_inv
        refine ⟨_, ?_, .int _ _⟩
        have hs : s[n]? = some u := by
          obtain ⟨⟨l⟩⟩ := s
          have hn : n < l.length := (List.getElem?_eq_some_iff.1 hu).1
          have hv := (List.getElem?_eq_some_iff.1 hu).2
          rw [getElem?_pos (⟨⟨l⟩⟩ : ByteArray) n hn]
          congr 1
        simp only [ea, ei, Instr.index, Sem.run_bind, Sem.run_pure, asIntOf, run_und hd, Result.andThen_ok, Int.ofNat_eq_natCast, Int.toNat_natCast]
        rw [if_pos (by omega), hs]
        rfl
      · cases h
    · cases h
  · cases h
theorem optN_ok {tm : Tm} {x : Option Operand} {d : Nat} {K : Nat → Bool} (h : optN tm x d K = true) : ∃ n, K n = true ∧ ((x = none ∧ n = d) ∨ ∃ y, x = some y ∧ ∀ (φ : Phi) (ρ : Operand → Value), OR φ tm ρ y → ∃ k, ρ y = .int k (.ofNat n)) := by
  unfold optN at h
  split at h
  · exact ⟨d, h, .inl ⟨rfl, rfl⟩⟩
  · rename_i y
    obtain ⟨v, hv, h⟩ := opd_ok h
    obtain ⟨k, n, e0, h0⟩ := asNat_ok h
    refine ⟨n, h0, .inr ⟨y, rfl, fun φ ρ ho => ?_⟩⟩
    rw [e0] at hv
    exact ⟨k, (ho _ hv).int_inv⟩
theorem run_bound {k : IntKind} {n y : Nat} (h : n ≤ y) (c : BoundsCode) (w : World) : (Instr.sliceBound (.int k (.ofNat n)) y c).run P w = .ok n w := by
  simp only [Instr.sliceBound, asIntOf, Sem.run_bind, Sem.run_pure, Result.andThen_ok, Int.ofNat_eq_natCast]
  rw [if_pos (by omega)]
  simp
theorem map_some {α β : Type} {x : Option α} {f : α → β} {y : α} (h : x = some y) : x.map f = some (f y) := by rw [h]; rfl
theorem run_bounds {b : Bool} {len cap l h : Nat} {lo hi : Option Value} (hh : (hi = none ∧ h = len) ∨ ∃ k, hi = some (.int k (.ofNat h)) ∧ h ≤ cap) (hl : (lo = none ∧ l = 0) ∨ ∃ k, lo = some (.int k (.ofNat l)) ∧ l ≤ h) (w : World) : (Instr.sliceBounds b len cap lo hi none).run P w = .ok (l, h, cap) w := by
  unfold Instr.sliceBounds
  rcases hh with ⟨rfl, rfl⟩ | ⟨k, rfl, h1⟩
  · rcases hl with ⟨rfl, rfl⟩ | ⟨k2, rfl, h2⟩
    · rfl
    · simp only [Sem.run_bind, Sem.run_pure, Result.andThen_ok, run_bound h2]
  · rcases hl with ⟨rfl, rfl⟩ | ⟨k2, rfl, h2⟩
    · simp only [Sem.run_bind, Sem.run_pure, Result.andThen_ok, run_bound h1]
    · simp only [Sem.run_bind, Sem.run_pure, Result.andThen_ok, run_bound h1, run_bound h2]
theorem extract_eq (s : ByteArray) (l h : Nat) : s.extract l h = ⟨⟨((bytesOf s).drop l).take (h - l)⟩⟩ := by
  refine bytes_eq ?_
  unfold bytesOf
  rw [ByteArray.data_extract, Array.toList_extract]
theorem subE_ok {tm : Tm} {t : Tr} {ty : TypeId} {x : Operand} {lo hi : Option Operand} {K : Value → Bool} (h : subE P tm t ty x lo hi K = true) : ∃ v, K v = true ∧ Reads P tm t.get (x :: (lo.toList ++ hi.toList)) (fun ρ => Instr.sliceAt ty (ρ x) (lo.map ρ) (hi.map ρ) none) v := by
  unfold subE at h
  obtain ⟨a, ha, h⟩ := opd_ok h
  have hob : ∀ {φ : Phi} {ρ : Operand → Value}, (∀ y ∈ x :: (lo.toList ++ hi.toList), OR φ tm ρ y) → ∀ {n d : Nat}, ((hi = none ∧ n = d) ∨ ∃ y, hi = some y ∧ ∀ (φ : Phi) (ρ : Operand → Value), OR φ tm ρ y → ∃ k, ρ y = .int k (.ofNat n)) → (hi.map ρ = none ∧ n = d) ∨ ∃ k, hi.map ρ = some (.int k (.ofNat n)) := by
    intro φ ρ ho n d hn
    rcases hn with ⟨rfl, e⟩ | ⟨y, rfl, hy⟩
    · exact .inl ⟨rfl, e⟩
    · obtain ⟨k, hk⟩ := hy φ ρ (ho y (by simp))
      exact .inr ⟨k, by rw [Option.map_some, hk]⟩
  have hlb : ∀ {φ : Phi} {ρ : Operand → Value}, (∀ y ∈ x :: (lo.toList ++ hi.toList), OR φ tm ρ y) → ∀ {n d : Nat}, ((lo = none ∧ n = d) ∨ ∃ y, lo = some y ∧ ∀ (φ : Phi) (ρ : Operand → Value), OR φ tm ρ y → ∃ k, ρ y = .int k (.ofNat n)) → (lo.map ρ = none ∧ n = d) ∨ ∃ k, lo.map ρ = some (.int k (.ofNat n)) := by
    intro φ ρ ho n d hn
    rcases hn with ⟨rfl, e⟩ | ⟨y, rfl, hy⟩
    · exact .inl ⟨rfl, e⟩
    · obtain ⟨k, hk⟩ := hy φ ρ (ho y (by simp))
      exact .inr ⟨k, by rw [Option.map_some, hk]⟩
  cases a with
  | string s =>
    simp only [] at h
    split at h
    · rename_i d hd
      split at h
      · obtain ⟨hh, h, h1⟩ := optN_ok h
        obtain ⟨l, h, h2⟩ := optN_ok h
        rw [bif_t, bif_t, lenL_eq] at h
        obtain ⟨h3, h4, h⟩ := h
        have h3 := ble_t.1 h3
        have h4 := ble_t.1 h4
        obtain ⟨h, _⟩ := takeL_ok _ _ _ _ h
        refine ⟨_, h, fun φ w ρ ho hr => ⟨_, ?_, .string _⟩⟩
        have ea := (ho x (by simp) _ ha).string_inv
        have b1 := hob ho h1
        have b2 := hlb ho h2
        have hsz : s.size = (bytesOf s).length := by obtain ⟨⟨d⟩⟩ := s; rfl
        rw [lenL_eq, ← hsz] at b1
        simp only [ea, Instr.sliceAt, Instr.slice, Sem.run_bind, run_und hd, Result.andThen_ok, Option.isSome_none, Bool.false_eq_true, if_false]
        rw [run_bounds (l := l) (h := hh) (b1.imp id fun ⟨k, e⟩ => ⟨k, e, by omega⟩) (b2.imp id fun ⟨k, e⟩ => ⟨k, e, h3⟩)]
        simp only [Result.andThen_ok, Sem.run_pure]
        rw [extract_eq]
      · cases h
    · cases h
  | slice a len cap =>
    simp only [] at h
    obtain ⟨e, he, h⟩ := sliceK_ok h
    obtain ⟨hh, h, h1⟩ := optN_ok h
    obtain ⟨l, h, h2⟩ := optN_ok h
    rw [bif_t, bif_t] at h
    obtain ⟨h3, h4, h⟩ := h
    have h3 := ble_t.1 h3
    have h4 := ble_t.1 h4
    obtain ⟨n, h, _, hn⟩ := sizeK_ok h
    have h := forceN_ok h
    have h := forceN_ok h
    cases a with
    | none =>
      refine ⟨_, h, fun φ w ρ ho hr => ⟨_, ?_, .nils _ _⟩⟩
      have ea := (ho x (by simp) _ ha).nils_inv
      have b1 := hob ho h1
      have b2 := hlb ho h2
      simp only [ea, Instr.sliceAt, Instr.slice, Sem.run_bind, run_und he, Result.andThen_ok]
      rw [run_bounds (l := l) (h := hh) (b1.imp id fun ⟨k, e⟩ => ⟨k, e, h4⟩) (b2.imp id fun ⟨k, e⟩ => ⟨k, e, h3⟩)]
      simp only [Result.andThen_ok, Sem.run_bind, hn, Sem.run_pure, Option.map_none, ite_self]
    | some a =>
      obtain ⟨e1, h⟩ := addrK_ok h
      obtain ⟨c, el, ex, un, top, st, hg, h⟩ := rowOf_ok h
      rw [bif_t] at h
      obtain ⟨hx, h⟩ := h
      rw [e1] at ha
      generalize a.block = g at *
      generalize a.off = off at *
      refine ⟨_, forceN_ok (K := fun o => K (sli g o (hh - l) (cap - l))) h, fun φ w ρ ho hr => ?_⟩
      obtain ⟨im, o', c', hi', ea, a1, a2, a3, a4⟩ := (ho x (by simp) _ ha).sli_inv
      obtain ⟨im', k1, k2, k3, k4, k5⟩ := hr.ob _ _ hg
      rw [hi'] at k1
      injection k1 with k1
      subst k1
      have b1 := hob ho h1
      have b2 := hlb ho h2
      refine ⟨.slice (some ⟨im.b, if c' = l then o' else o' + l * n, none⟩) (hh - l) (c' - l), ?_, .sli hi' (by omega) (by omega) (fun h => by rw [a3 h]) ?_⟩
      · simp only [ea, Instr.sliceAt, Instr.slice, Sem.run_bind, run_und he, Result.andThen_ok]
        rw [run_bounds (l := l) (h := hh) (b1.imp id fun ⟨k, e⟩ => ⟨k, e, by omega⟩) (b2.imp id fun ⟨k, e⟩ => ⟨k, e, h3⟩)]
        simp only [Result.andThen_ok, Sem.run_bind, hn, Sem.run_pure, Option.map_some]
        congr 2
        split
        · rfl
        · unfold Addr.add
          split
          · rename_i h0; rw [h0]; simp
          · rfl
      · by_cases hc : c' = l
        · exact .inr (by omega)
        · rw [if_neg hc]
          rcases a4 with ⟨a4, a5⟩ | a4
          · refine .inl ⟨by rw [a4]; omega, fun hx2 => ?_⟩
            rw [k2] at hx2
            have hun : un = n := by
              rw [hx2] at hx
              exact beq_t.1 hx
            have := a5 (by rw [k2, hx2])
            rw [k3 hx2, hun] at this ⊢
            have hm : (c' - l) * n + l * n = c' * n := by rw [← Nat.add_mul]; congr 1; omega
            omega
          · omega
  | _ => cases h
theorem run_bounds3 {len cap l h m : Nat} {lo : Option Value} {k1 k2 : IntKind} (hm : m ≤ cap) (hh : h ≤ m) (hl : (lo = none ∧ l = 0) ∨ ∃ k, lo = some (.int k (.ofNat l)) ∧ l ≤ h) (w : World) : (Instr.sliceBounds true len cap lo (some (.int k1 (.ofNat h))) (some (.int k2 (.ofNat m)))).run P w = .ok (l, h, m) w := by
  unfold Instr.sliceBounds
  rcases hl with ⟨rfl, rfl⟩ | ⟨k2, rfl, h2⟩
  · simp only [Sem.run_bind, Sem.run_pure, Result.andThen_ok, run_bound hm, run_bound hh]
  · simp only [Sem.run_bind, Sem.run_pure, Result.andThen_ok, run_bound hm, run_bound hh, run_bound h2]
theorem sub3E_ok {tm : Tm} {t : Tr} {ty : TypeId} {x mx : Operand} {lo hi : Option Operand} {K : Value → Bool} (h : sub3E P tm t ty x lo hi mx K = true) : ∃ v, K v = true ∧ Reads P tm t.get (x :: (lo.toList ++ hi.toList ++ [mx])) (fun ρ => Instr.sliceAt ty (ρ x) (lo.map ρ) (hi.map ρ) (some (ρ mx))) v := by
  unfold sub3E at h
  obtain ⟨a, ha, h⟩ := opd_ok h
  cases a with
  | slice a len cap =>
    simp only [] at h
    cases a with
    | none => cases h
    | some a =>
      simp only [] at h
      obtain ⟨e, he, h⟩ := sliceK_ok h
      obtain ⟨mv, hmv, h⟩ := opd_ok h
      obtain ⟨k2, m, em0, h⟩ := asNat_ok h
      rw [em0] at hmv
      cases hi with
      | none => cases h
      | some hi =>
        simp only [] at h
        obtain ⟨hv, hhv, h⟩ := opd_ok h
        obtain ⟨k1, hh, eh0, h⟩ := asNat_ok h
        rw [eh0] at hhv
        obtain ⟨l, h, h2⟩ := optN_ok h
        rw [bif_t, bif_t, bif_t] at h
        obtain ⟨h3, h4, h5, h⟩ := h
        have h3 := ble_t.1 h3
        have h4 := ble_t.1 h4
        have h5 := ble_t.1 h5
        obtain ⟨n, h, _, hn⟩ := sizeK_ok h
        have h := forceN_ok h
        have h := forceN_ok h
        obtain ⟨e1, h⟩ := addrK_ok h
        obtain ⟨c, el, ex, un, top, st, hg, h⟩ := rowOf_ok h
        rw [bif_t] at h
        obtain ⟨hx, h⟩ := h
        rw [e1] at ha
        generalize a.block = g at *
        generalize a.off = off at *
        refine ⟨_, forceN_ok (K := fun o => K (sli g o (hh - l) (m - l))) h, fun φ w ρ ho hr => ?_⟩
        obtain ⟨im, o', c', hi', ea, a1, a2, a3, a4⟩ := (ho x (by simp) _ ha).sli_inv
        obtain ⟨im', i1, i2, i3, i4, i5⟩ := hr.ob _ _ hg
        rw [hi'] at i1
        injection i1 with i1
        subst i1
        have em := (ho mx (by simp) _ hmv).int_inv
        have eh := (ho hi (by simp) _ hhv).int_inv
        have b2 : (lo.map ρ = none ∧ l = 0) ∨ ∃ k, lo.map ρ = some (.int k (.ofNat l)) := by
          rcases h2 with ⟨rfl, e⟩ | ⟨y, rfl, hy⟩
          · exact .inl ⟨rfl, e⟩
          · obtain ⟨k, hk⟩ := hy φ ρ (ho y (by simp))
            exact .inr ⟨k, by rw [Option.map_some, hk]⟩
        refine ⟨.slice (some ⟨im.b, if m = l then o' else o' + l * n, none⟩) (hh - l) (m - l), ?_, .sli hi' (by omega) (Nat.le_refl _) (fun _ => rfl) ?_⟩
        · simp only [ea, em, eh, Option.map_some, Instr.sliceAt, Instr.slice, Sem.run_bind, run_und he, Result.andThen_ok]
          rw [run_bounds3 (l := l) (h := hh) (m := m) (by omega) h4 (b2.imp id fun ⟨k, e⟩ => ⟨k, e, h3⟩)]
          simp only [Result.andThen_ok, Sem.run_bind, hn, Sem.run_pure, Option.map_some]
          congr 2
          split
          · rfl
          · unfold Addr.add
            split
            · rename_i h0; rw [h0]; simp
            · rfl
        · by_cases hc : m = l
          · exact .inr (by omega)
          · rw [if_neg hc]
            rcases a4 with ⟨a4, a5⟩ | a4
            · refine .inl ⟨by rw [a4]; omega, fun hx2 => ?_⟩
              rw [i2] at hx2
              have hun : un = n := by
                rw [hx2] at hx
                exact beq_t.1 hx
              have := a5 (by rw [i2, hx2])
              rw [i3 hx2, hun] at this ⊢
              have hm : (m - l) * n + l * n = m * n := by rw [← Nat.add_mul]; congr 1; omega
              have hmc : m * n ≤ c' * n := Nat.mul_le_mul_right _ (by omega)
              omega
            · omega
  | _ => cases h
end
section
variable {P : Program}
/-! ### Maps -/
theorem keyOk_ok {t : TypeId} {k : Value} (h : keyOk P t k = true) : (∃ j n, (∃ kk, P.underlying t = some (.int kk)) ∧ k = .int j n) ∨ ∃ s, P.underlying t = some .string ∧ k = .string s := by
  unfold keyOk at h
  split at h
  · rename_i d hd
    split at h
    · split at h
      · exact .inl ⟨_, _, ⟨_, hd⟩, rfl⟩
      · cases h
    · split at h
      · exact .inr ⟨_, hd, rfl⟩
      · cases h
    · cases h
  · cases h
theorem run_checkKey {t : TypeId} {k : Value} (h : keyOk P t k = true) (e : Bool) (w : World) : (Instr.checkKey e 10000 t k).run P w = .ok () w := by
  rcases keyOk_ok h with ⟨j, n, ⟨kk, hd⟩, rfl⟩ | ⟨s, hd, rfl⟩
  · rw [Instr.checkKey, Sem.run_bind, run_und hd]; rfl
  · rw [Instr.checkKey, Sem.run_bind, run_und hd]; rfl
/-- The search in a map. -/
theorem findE_ok {t : TypeId} {k : Value} (hk : keyOk P t k = true) : ∀ {es : List MapEntry} {i : Nat} {K : Option (Nat × Value) → Bool}, findE k es i K = true → ∃ r, K r = true ∧
    ∀ (φ : Phi) (es' : List MapEntry), RMs φ es es' → ∃ r', Instr.findNow ((P.underlying t).getD .invalid) k es' i = some r' ∧ ((r = none ∧ r' = none) ∨ ∃ j v v', r = some (j, v) ∧ r' = some (j, v') ∧ RV φ v v' ∧ i ≤ j ∧ ∃ e e', es[j - i]? = some e ∧ es'[j - i]? = some e' ∧ e.val = v ∧ e'.val = v' ∧ RV φ e.key e'.key ∧ e'.key = k)
  | [], i, K, h => ⟨none, h, fun φ es' hr => by cases hr; exact ⟨none, rfl, .inl ⟨rfl, rfl⟩⟩⟩
  | e :: es, i, K, h => by
    have step : ∀ (b : Bool) , (∀ (φ : Phi) (e' : MapEntry), RV φ e.key e'.key → Instr.sameNow ((P.underlying t).getD .invalid) k e'.key = some b ∧ (b = true → e'.key = k)) → (if b = true then K (some (i, e.val)) = true else findE k es (i + 1) K = true) → ∃ r, K r = true ∧
        ∀ (φ : Phi) (es' : List MapEntry), RMs φ (e :: es) es' → ∃ r', Instr.findNow ((P.underlying t).getD .invalid) k es' i = some r' ∧ ((r = none ∧ r' = none) ∨ ∃ j v v', r = some (j, v) ∧ r' = some (j, v') ∧ RV φ v v' ∧ i ≤ j ∧ ∃ e2 e', (e :: es)[j - i]? = some e2 ∧ es'[j - i]? = some e' ∧ e2.val = v ∧ e'.val = v' ∧ RV φ e2.key e'.key ∧ e'.key = k) := by
      intro b hb h
      cases b with
      | true =>
        rw [if_pos rfl] at h
        refine ⟨_, h, fun φ es' hr => ?_⟩
        cases hr with
        | @cons _ x' _ l' h0 h1 h2 h3 =>
          obtain ⟨g1, g2⟩ := hb φ x' h0
          refine ⟨some (i, x'.val), by rw [Instr.findNow, g1], .inr ⟨i, e.val, x'.val, rfl, rfl, h1, Nat.le_refl _, e, x', by simp, by simp, rfl, rfl, h0, g2 rfl⟩⟩
      | false =>
        rw [if_neg (by simp)] at h
        obtain ⟨r, hr, hh⟩ := findE_ok hk h
        refine ⟨r, hr, fun φ es' hr => ?_⟩
        cases hr with
        | @cons _ x' _ l' h0 h1 h2 h3 =>
          obtain ⟨g1, g2⟩ := hb φ x' h0
          obtain ⟨r', k1, k2⟩ := hh φ l' h3
          refine ⟨r', by rw [Instr.findNow, g1]; exact k1, ?_⟩
          rcases k2 with k2 | ⟨j, v, v', a1, a2, a3, a4, e2, e3, a5, a6, a7⟩
          · exact .inl k2
          · refine .inr ⟨j, v, v', a1, a2, a3, by omega, e2, e3, ?_, ?_, a7⟩
            · rw [show j - i = (j - (i + 1)) + 1 by omega]; simpa using a5
            · rw [show j - i = (j - (i + 1)) + 1 by omega]; simpa using a6
    rcases keyOk_ok hk with ⟨j, n, ⟨kk, hd⟩, rfl⟩ | ⟨s, hd, rfl⟩
    · unfold findE at h
      simp only [] at h
      split at h
      · rename_i l b hkey
        rw [bif_t] at h
        obtain ⟨h1, h⟩ := h
        obtain rfl := kindEq_ok h1
        refine step (decide (n = b)) (fun φ e' hr => ?_) ?_
        · rw [hkey] at hr
          rw [hr.int_inv, hd]
          refine ⟨by simp [Instr.sameNow]; rfl, fun hb => by simpa using (of_decide_eq_true hb).symm⟩
        · rcases bif_cases h with ⟨h2, h⟩ | ⟨h2, h⟩
          · rw [eqI_ok] at h2
            rw [h2, if_pos rfl]; exact h
          · rw [eqI_ok] at h2
            rw [h2, if_neg (by simp)]; exact h
      · cases h
    · unfold findE at h
      simp only [] at h
      split at h
      · rename_i b hkey
        refine step (decide (bytesOf s = bytesOf b)) (fun φ e' hr => ?_) ?_
        · rw [hkey] at hr
          rw [hr.string_inv, hd]
          have hbe : ∀ x y : ByteArray, bytesOf x = bytesOf y ↔ x = y := fun x y => ⟨fun e => (bytes_eq e).trans (bytes_eq (s := y) rfl).symm, fun e => by rw [e]⟩
          refine ⟨?_, fun hb => by rw [(hbe _ _).1 (of_decide_eq_true hb)]⟩
          simp only [Option.getD_some, Instr.sameNow]
          congr 1
          rw [beq_toListBytes, toList_data, toList_data]
          by_cases he : bytesOf s = bytesOf b
          · simp [he]
          · rw [decide_eq_false he]
            exact beq_eq_false_iff_ne.2 he
        · rcases bif_cases h with ⟨h2, h⟩ | ⟨h2, h⟩
          · rw [eqU_ok] at h2
            rw [h2, if_pos rfl]; exact h
          · rw [eqU_ok] at h2
            rw [h2, if_neg (by simp)]; exact h
      · cases h
theorem run_getObj {w : World} {b : Nat} {es : Array MapEntry} {c : Nat} (h : w.heap[b]? = some (.map es c)) : (getObj b).run P w = .ok (.map es c) w := by simp [getObj, Sem.run, h]
theorem run_findKey {t : TypeId} {d : TypeDesc} (hd : P.underlying t = some d) {k : Value} {es : List MapEntry} {r : Option (Nat × Value)} (h : Instr.findNow d k es 0 = some r) (w : World) : (Instr.findKey t k es).run P w = .ok r w := by
  unfold Instr.findKey
  rw [Sem.run_bind, run_und hd]
  simp only [Result.andThen_ok, h]
  rfl
theorem RV.key {φ : Phi} {t : TypeId} {k v' : Value} (hk : keyOk P t k = true) (h : RV φ k v') : v' = k := by
  rcases keyOk_ok hk with ⟨j, n, _, rfl⟩ | ⟨s, _, rfl⟩
  · exact h.int_inv
  · exact h.string_inv
theorem okV_ok {v : Value} {ok c : Bool} {K : Value → Bool} (h : okV v ok c K = true) : ∃ r, K r = true ∧ ∀ (φ : Phi) (v' : Value), RV φ v v' → RV φ r (if c = true then .tuple #[v', .bool ok] else v') := by
  unfold okV at h
  cases c with
  | true => exact ⟨_, h, fun φ v' hv => .tuple (.cons hv (.cons (.bool _) .nil))⟩
  | false => exact ⟨_, h, fun φ v' hv => hv⟩
theorem lookupE_ok {tm : Tm} {t : Tr} {ty : TypeId} {x i : Operand} {c : Bool} {K : Value → Bool} (h : lookupE P tm t ty x i c K = true) : ∃ v, K v = true ∧ Reads P tm t.get [x, i] (fun ρ => Instr.lookup ty (ρ x) (ρ i) c) v := by
  unfold lookupE at h
  obtain ⟨a, ha, h⟩ := opd_ok h
  obtain ⟨k, hk, h⟩ := opd_ok h
  obtain ⟨kt, e, hm, h⟩ := mapK_ok h
  rw [bif_t] at h
  obtain ⟨hok, h⟩ := h
  obtain ⟨d, hd⟩ : ∃ d, P.underlying kt = some d := by
    rcases keyOk_ok hok with ⟨_, _, ⟨_, h⟩, _⟩ | ⟨_, h, _⟩ <;> exact ⟨_, h⟩
  have zero : ∀ (K : Value → Bool), zeroV P e (fun z => okV z false c K) = true → ∃ v, K v = true ∧ ∀ (φ : Phi) (w : World), ∃ z v', (zeroValue e).run P w = .ok z w ∧ v' = (if c = true then Value.tuple #[z, .bool false] else z) ∧ RV φ v v' := by
    intro K h
    obtain ⟨z, h, hz, hzr⟩ := zeroV_ok h
    obtain ⟨r, hr, hrr⟩ := okV_ok h
    exact ⟨r, hr, fun φ w => ⟨z, _, hzr w, rfl, hrr φ z (hz φ)⟩⟩
  cases a with
  | map g =>
    simp only [] at h
    cases g with
    | none =>
      obtain ⟨v, hv, hz⟩ := zero K h
      refine ⟨v, hv, fun φ w ρ ho hr => ?_⟩
      obtain ⟨z, v', z1, z2, z3⟩ := hz φ w
      refine ⟨v', ?_, z3⟩
      have ea := (ho x (by simp) _ ha).nilm_inv
      have ek := RV.key hok (ho i (by simp) _ hk)
      simp only [ea, ek, Instr.lookup, Sem.run_bind, run_und hm, Result.andThen_ok, Sem.run_pure, run_checkKey hok]
      rw [run_findKey hd (r := none) rfl]
      simp only [Result.andThen_ok, Sem.run_bind, z1, Sem.run_pure, z2]
    | some g =>
      obtain ⟨es, cl, hg, h⟩ := mapOf_ok h
      obtain ⟨r, h, hf⟩ := findE_ok hok h
      rw [hd] at hf
      have real : ∀ (φ : Phi) (w : World), Rep φ t.get w → ∀ im, φ g = some im → ∃ es', w.heap[im.b]? = some (.map es' cl) ∧ RMs φ es es'.toList := by
        intro φ w hr im hi
        obtain ⟨im', es', k1, k2, k3⟩ := hr.ob _ _ hg
        rw [hi] at k1
        injection k1 with k1
        subst k1
        exact ⟨es', k2, k3⟩
      cases r with
      | none =>
        obtain ⟨v, hv, hz⟩ := zero K h
        refine ⟨v, hv, fun φ w ρ ho hr => ?_⟩
        obtain ⟨z, v', z1, z2, z3⟩ := hz φ w
        refine ⟨v', ?_, z3⟩
        obtain ⟨im, hi, ea⟩ := (ho x (by simp) _ ha).map_inv
        have ek := RV.key hok (ho i (by simp) _ hk)
        obtain ⟨es', m1, m2⟩ := real φ w hr im hi
        obtain ⟨r', f1, f2⟩ := hf φ es'.toList m2
        have : r' = none := by
          rcases f2 with ⟨_, f2⟩ | ⟨j, v, v', f2, _⟩
          · exact f2
          · cases f2
        subst this
        simp only [ea, ek, Instr.lookup, Sem.run_bind, run_und hm, Result.andThen_ok, Sem.run_pure, run_getObj m1, run_checkKey hok]
        rw [run_findKey hd (r := none) f1]
        simp only [Result.andThen_ok, Sem.run_bind, z1, Sem.run_pure, z2]
      | some p =>
        obtain ⟨r, hr0, hrr⟩ := okV_ok h
        refine ⟨r, hr0, fun φ w ρ ho hr => ?_⟩
        obtain ⟨im, hi, ea⟩ := (ho x (by simp) _ ha).map_inv
        have ek := RV.key hok (ho i (by simp) _ hk)
        obtain ⟨es', m1, m2⟩ := real φ w hr im hi
        obtain ⟨r', f1, f2⟩ := hf φ es'.toList m2
        rcases f2 with ⟨f2, _⟩ | ⟨j, v, v', f2, f3, f4, _⟩
        · cases f2
        · injection f2 with f2
          subst f2
          subst f3
          refine ⟨_, ?_, hrr φ v' f4⟩
          simp only [ea, ek, Instr.lookup, Sem.run_bind, run_und hm, Result.andThen_ok, Sem.run_pure, run_getObj m1, run_checkKey hok]
          rw [run_findKey hd f1]
          simp only [Result.andThen_ok, Sem.run_bind, Sem.run_pure]
  | _ => cases h
end
section
variable {P : Program}
theorem lenE_ok {tm : Tm} {t : Tr} {ty : TypeId} {x : Operand} {K : Value → Bool} {T : Array TypeId} {rt : TypeId} (hT : T[0]? = some ty) (h : lenE P tm t ty x K = true) : ∃ v, K v = true ∧ Reads P tm t.get [x] (fun ρ => Builtin.len_ T rt #[ρ x]) v := by
  unfold lenE at h
  obtain ⟨a, ha, h⟩ := opd_ok h
  split at h
  · rename_i d hd
    split at h
    · obtain ⟨s, e0, h⟩ := asStr_ok h
      rw [e0] at ha
      have h := forceN_ok (K := fun n => K (.int .i64 (.ofNat n))) h
      refine ⟨_, h, fun φ w ρ ho hr => ⟨_, ?_, .int _ _⟩⟩
      have ea := (ho x (by simp) _ ha).string_inv
      have hsz : s.size = (bytesOf s).length := by obtain ⟨⟨d⟩⟩ := s; rfl
      simp [Builtin.len_, hT, ea, run_und hd, goInt, hsz, lenL_eq]
    · split at h
      · refine ⟨_, h, fun φ w ρ ho hr => ⟨_, ?_, .int _ _⟩⟩
        obtain ⟨a', c', ea, _⟩ := (ho x (by simp) _ ha).slice_inv
        simp [Builtin.len_, hT, ea, run_und hd, goInt]
      · cases h
    · split at h
      · split at h
        · refine ⟨_, h, fun φ w ρ ho hr => ⟨_, ?_, .int _ _⟩⟩
          have ea := (ho x (by simp) _ ha).nilm_inv
          simp [Builtin.len_, hT, ea, run_und hd, goInt]
        · rename_i g
          obtain ⟨es, cl, hg, h⟩ := mapOf_ok h
          have h := forceN_ok (K := fun n => K (.int .i64 (.ofNat n))) h
          refine ⟨_, h, fun φ w ρ ho hr => ⟨_, ?_, .int _ _⟩⟩
          obtain ⟨im, hi, ea⟩ := (ho x (by simp) _ ha).map_inv
          obtain ⟨im', es', k1, k2, k3⟩ := hr.ob _ _ hg
          rw [hi] at k1
          injection k1 with k1
          subst k1
          have hl : es'.size = es.length := by
            have : ∀ {a b : List MapEntry}, RMs φ a b → a.length = b.length := by
              intro a b hab
              induction hab with
              | nil => rfl
              | cons _ _ _ _ ih => simp [ih]
            rw [← Array.length_toList, this k3]
          simp [Builtin.len_, hT, ea, run_und hd, goInt, run_getObj k2, hl, lenL_eq]
      · cases h
    · cases h
  · cases h
theorem capE_ok {tm : Tm} {t : Tr} {ty : TypeId} {x : Operand} {K : Value → Bool} {T : Array TypeId} {rt : TypeId} (hT : T[0]? = some ty) (h : capE P tm t ty x K = true) : ∃ v, K v = true ∧ Reads P tm t.get [x] (fun ρ => Builtin.cap_ T rt #[ρ x]) v := by
  unfold capE at h
  obtain ⟨a, ha, h⟩ := opd_ok h
  obtain ⟨e, hd, h⟩ := sliceK_ok h
  split at h
  · split at h
    · refine ⟨_, h, fun φ w ρ ho hr => ⟨_, ?_, .int _ _⟩⟩
      have ea := (ho x (by simp) _ ha).nils_inv
      simp [Builtin.cap_, hT, ea, run_und hd, goInt]
    · rename_i n c a
      obtain ⟨e1, h⟩ := addrK_ok h
      obtain ⟨cs, el, ex, un, top, st, hg, h⟩ := rowOf_ok h
      cases ex with
      | true =>
        refine ⟨_, h, fun φ w ρ ho hr => ⟨_, ?_, .int _ _⟩⟩
        rw [e1] at ha
        obtain ⟨im, o', c', hi', ea, a1, a2, a3, a4⟩ := (ho x (by simp) _ ha).sli_inv
        obtain ⟨im', k1, k2, _⟩ := hr.ob _ _ hg
        rw [hi'] at k1
        injection k1 with k1
        subst k1
        have := a3 k2
        subst this
        simp [Builtin.cap_, hT, ea, run_und hd, goInt]
      | false => cases h
  · cases h
theorem maxE_ok {tm : Tm} {L : Look} {b : Bool} {x y : Operand} {K : Value → Bool} {T : Array TypeId} {rt : TypeId} (h : maxE tm b x y K = true) : ∃ v, K v = true ∧ Reads P tm L [x, y] (fun ρ => if b = true then Builtin.max_ T rt #[ρ x, ρ y] else Builtin.min_ T rt #[ρ x, ρ y]) v := by
  unfold maxE at h
  obtain ⟨u, hu, h⟩ := opd_ok h
  obtain ⟨v, hv, h⟩ := opd_ok h
  split at h
  · rename_i k a
    split at h
    · rename_i k2 c
      rw [ltI_ok, ltI_ok] at h
      cases b with
      | true =>
        simp only [cond_true] at h
        rcases bif_cases h with ⟨h1, h⟩ | ⟨h1, h⟩
        · refine ⟨_, h, fun φ w ρ ho hr => ⟨_, ?_, .int _ _⟩⟩
          have e1 := (ho x (by simp) _ hu).int_inv
          have e2 := (ho y (by simp) _ hv).int_inv
          have h1 := of_decide_eq_true h1
          simp [Builtin.max_, Builtin.max2, e1, e2, h1]
        · refine ⟨_, h, fun φ w ρ ho hr => ⟨_, ?_, .int _ _⟩⟩
          have e1 := (ho x (by simp) _ hu).int_inv
          have e2 := (ho y (by simp) _ hv).int_inv
          have h1 := of_decide_eq_false h1
          simp [Builtin.max_, Builtin.max2, e1, e2, h1]
      | false =>
        simp only [cond_false] at h
        rcases bif_cases h with ⟨h1, h⟩ | ⟨h1, h⟩
        · refine ⟨_, h, fun φ w ρ ho hr => ⟨_, ?_, .int _ _⟩⟩
          have e1 := (ho x (by simp) _ hu).int_inv
          have e2 := (ho y (by simp) _ hv).int_inv
          have h1 := of_decide_eq_true h1
          simp [Builtin.min_, Builtin.min2, e1, e2, h1]
        · refine ⟨_, h, fun φ w ρ ho hr => ⟨_, ?_, .int _ _⟩⟩
          have e1 := (ho x (by simp) _ hu).int_inv
          have e2 := (ho y (by simp) _ hv).int_inv
          have h1 := of_decide_eq_false h1
          simp [Builtin.min_, Builtin.min2, e1, e2, h1]
    · cases h
  · cases h
theorem data_none (T : Array TypeId) (rt : TypeId) (l c : Nat) : Builtin.unsafeSliceData_ T rt #[.slice none l c] = pure (.pointer none) := rfl
theorem data_some (T : Array TypeId) (rt : TypeId) (a : Addr) (l c : Nat) : Builtin.unsafeSliceData_ T rt #[.slice (some a) l c] = (if c ≠ 0 then pure (.pointer (some a)) else do if (← viewAt a.block).isSome then pure (.pointer (some a)) else pure (.pointer (some ⟨← newObj (.view a (← elemOf rt)), 0, none⟩))) := rfl
theorem dataE_ok {tm : Tm} {L : Look} {x : Operand} {K : Value → Bool} {T : Array TypeId} {rt : TypeId} (h : dataE tm x K = true) : ∃ v, K v = true ∧ Reads P tm L [x] (fun ρ => Builtin.unsafeSliceData_ T rt #[ρ x]) v := by
  unfold dataE at h
  obtain ⟨u, hu, h⟩ := opd_ok h
  split at h
  · rename_i a l c
    cases a with
    | none =>
      refine ⟨_, h, fun φ w ρ ho hr => ⟨_, ?_, .nilp⟩⟩
      simp only [(ho x (by simp) _ hu).nils_inv]
      rw [data_none]
      rfl
    | some a =>
      cases c with
      | zero => cases h
      | succ c =>
        refine ⟨_, h, fun φ w ρ ho hr => ?_⟩
        have hx := ho x (by simp) _ hu
        generalize hρ : ρ x = r at hx
        cases hx with
        | @sli g off _ _ c' o' im h0 h1 h2 h3 h4 =>
          have ho' : o' = im.d + off := by rcases h4 with h4 | h4; exact h4.1; omega
          subst ho'
          refine ⟨_, ?_, .ptr h0⟩
          simp only [hρ]
          rw [data_some, if_pos (by omega)]
          rfl
  · cases h
/-- The kind of a builtin's step. -/
theorem bltE_ok {tm : Tm} {t : Tr} {b : Builtin} {T : Array TypeId} {rt : TypeId} {args : Array Operand} {cs : Array Bool} {K : Value → Bool} (h : bltE P tm t b T.toList args.toList K = true) : ∃ v, K v = true ∧
    ∀ (φ : Phi) (w : World) (ρ : Operand → Value), (∀ x ∈ args.toList, OR φ tm ρ x) → Rep φ t.get w → ∃ v', (builtin b T rt cs (args.map ρ)).run P w = .ok (.value v') w ∧ RV φ v v' := by
  unfold bltE at h
  obtain ⟨args⟩ := args
  have fin : ∀ {xs : List Operand} {v : Value} {s : (Operand → Value) → Sem Value}, K v = true → Reads P tm t.get xs s v → xs = args → (∀ ρ, builtin b T rt cs ((⟨args⟩ : Array Operand).map ρ) = do pure (.value (← s ρ))) → ∃ v, K v = true ∧
      ∀ (φ : Phi) (w : World) (ρ : Operand → Value), (∀ x ∈ args, OR φ tm ρ x) → Rep φ t.get w → ∃ v', (builtin b T rt cs ((⟨args⟩ : Array Operand).map ρ)).run P w = .ok (.value v') w ∧ RV φ v v' := by
    intro xs v s hv hr hx hs
    refine ⟨v, hv, fun φ w ρ ho hrep => ?_⟩
    subst hx
    obtain ⟨v', k1, k2⟩ := hr φ w ρ ho hrep
    exact ⟨v', by rw [hs, Sem.run_bind, k1]; rfl, k2⟩
  match args, h with
  | [], h => cases h
  | [x], h =>
    simp only [] at h
    cases b with
    | len =>
      simp only [] at h
      split at h
      · cases h
      · rename_i ty Ts hTs
        obtain ⟨v, hv, hr⟩ := lenE_ok (rt := rt) (T := T) (by rw [← Array.getElem?_toList, hTs]; rfl) h
        exact fin hv hr rfl fun ρ => by simp [builtin]
    | cap =>
      simp only [] at h
      split at h
      · cases h
      · rename_i ty Ts hTs
        obtain ⟨v, hv, hr⟩ := capE_ok (rt := rt) (T := T) (by rw [← Array.getElem?_toList, hTs]; rfl) h
        exact fin hv hr rfl fun ρ => by simp [builtin]
    | unsafeSliceData =>
      obtain ⟨v, hv, hr⟩ := dataE_ok (P := P) (L := t.get) (T := T) (rt := rt) h
      exact fin hv hr rfl fun ρ => by simp [builtin]
    | _ => cases h
  | [x, y], h =>
    simp only [] at h
    cases b with
    | max =>
      obtain ⟨v, hv, hr⟩ := maxE_ok (P := P) (L := t.get) (T := T) (rt := rt) h
      exact fin hv hr rfl fun ρ => by simp [builtin]
    | min =>
      obtain ⟨v, hv, hr⟩ := maxE_ok (P := P) (L := t.get) (T := T) (rt := rt) h
      exact fin hv hr rfl fun ρ => by simp [builtin]
    | _ => cases h
  | x :: y :: z :: l, h => cases h
theorem rdE_ok {tm : Tm} {t : Tr} {o : Oper} {K : Value → Bool} (h : rdE P tm t o.op K = true) : ∃ v, K v = true ∧
    ∀ (φ : Phi) (w : World) (ρ : Operand → Value), (∀ x ∈ o.op.operands.toList, OR φ tm ρ x) → Rep φ t.get w → ∃ v', (execOp ρ o).run P w = .ok (.value v') w ∧ RV φ v v' := by
  obtain ⟨dst, op, ty, pos, after, guard⟩ := o
  simp only [] at h
  have fin : ∀ {xs : List Operand} {v : Value} {s : (Operand → Value) → Sem Value}, K v = true → Reads P tm t.get xs s v → (∀ x ∈ xs, x ∈ op.operands.toList) → (∀ ρ, execOp ρ ⟨dst, op, ty, pos, after, guard⟩ = do pure (.value (← s ρ))) → ∃ v, K v = true ∧
      ∀ (φ : Phi) (w : World) (ρ : Operand → Value), (∀ x ∈ op.operands.toList, OR φ tm ρ x) → Rep φ t.get w → ∃ v', (execOp ρ ⟨dst, op, ty, pos, after, guard⟩).run P w = .ok (.value v') w ∧ RV φ v v' := by
    intro xs v s hv hr hx hs
    refine ⟨v, hv, fun φ w ρ ho hrep => ?_⟩
    obtain ⟨v', k1, k2⟩ := hr φ w ρ (fun x hxx => ho x (hx x hxx)) hrep
    exact ⟨v', by rw [hs, Sem.run_bind, k1]; rfl, k2⟩
  cases op with
  | move x =>
    obtain ⟨v, hv, h⟩ := opd_ok h
    exact ⟨v, h, fun φ w ρ ho hr => ⟨ρ x, rfl, ho x (by simp [Op.operands]) _ hv⟩⟩
  | assign x =>
    obtain ⟨v, hv, h⟩ := opd_ok h
    exact ⟨v, h, fun φ w ρ ho hr => ⟨ρ x, rfl, ho x (by simp [Op.operands]) _ hv⟩⟩
  | pick c a b =>
    obtain ⟨v, hv, hr⟩ := pickE_ok (P := P) (L := t.get) h
    refine fin hv hr (by simp [Op.operands]) fun ρ => ?_
    simp [execOp]
  | build ty ps =>
    obtain ⟨v, hv, hr⟩ := buildE_ok (L := t.get) h
    exact fin hv hr (by simp [Op.operands]) fun ρ => rfl
  | load ty a =>
    obtain ⟨v, hv, hr⟩ := loadE_ok h
    exact fin hv hr (by simp [Op.operands]) fun ρ => rfl
  | nilCheck x =>
    obtain ⟨v, hv, hr⟩ := nilE_ok (L := t.get) h
    refine ⟨v, hv, fun φ w ρ ho hrep => ?_⟩
    obtain ⟨k1, k2⟩ := hr φ ρ (ho x (by simp [Op.operands]))
    refine ⟨ρ x, ?_, k1⟩
    rcases k2 with ⟨a, e⟩ | ⟨f, a, c, e⟩
    · simp [execOp, e]
    · simp [execOp, e]
  | binOp op ty x y yt =>
    obtain ⟨v, hv, hr⟩ := binE_ok (L := t.get) h
    exact fin hv hr (by simp [Op.operands]) fun ρ => rfl
  | unOp op ty x =>
    obtain ⟨v, hv, hr⟩ := unE_ok (P := P) (L := t.get) h
    exact fin hv hr (by simp [Op.operands]) fun ρ => rfl
  | convert src dst x =>
    obtain ⟨v, hv, hr⟩ := convE_ok (L := t.get) h
    exact fin hv hr (by simp [Op.operands]) fun ρ => rfl
  | makeFunc fn a c =>
    obtain ⟨v, hv, hr⟩ := funE_ok (P := P) (L := t.get) h
    exact fin hv hr (by simp [Op.operands]) fun ρ => rfl
  | slice ty x lo hi mx =>
    cases mx with
    | none =>
      obtain ⟨v, hv, hr⟩ := subE_ok h
      refine fin hv hr (fun y hy => ?_) fun ρ => rfl
      cases lo <;> cases hi <;> simpa [Op.operands] using hy
    | some m =>
      obtain ⟨v, hv, hr⟩ := sub3E_ok h
      refine fin hv hr (fun y hy => ?_) fun ρ => rfl
      cases lo <;> cases hi <;> simpa [Op.operands] using hy
  | fieldAddr s x f =>
    obtain ⟨v, hv, hr⟩ := fieldAE_ok (L := t.get) h
    exact fin hv hr (by simp [Op.operands]) fun ρ => rfl
  | field s x f =>
    obtain ⟨v, hv, hr⟩ := fieldE_ok (L := t.get) h
    exact fin hv hr (by simp [Op.operands]) fun ρ => rfl
  | indexAddr ty x i =>
    obtain ⟨v, hv, hr⟩ := indexAE_ok (L := t.get) h
    exact fin hv hr (by simp [Op.operands]) fun ρ => rfl
  | index ty x i =>
    obtain ⟨v, hv, hr⟩ := indexE_ok (L := t.get) h
    exact fin hv hr (by simp [Op.operands]) fun ρ => rfl
  | lookup ty x i c =>
    obtain ⟨v, hv, hr⟩ := lookupE_ok h
    exact fin hv hr (by simp [Op.operands]) fun ρ => rfl
  | extract x i =>
    obtain ⟨v, hv, hr⟩ := extractE_ok (P := P) (L := t.get) h
    exact fin hv hr (by simp [Op.operands]) fun ρ => rfl
  | call c =>
    unfold rdE callR at h
    simp only [] at h
    split at h
    · rename_i b hb
      obtain ⟨v, hv, hr⟩ := bltE_ok (rt := ty) (cs := c.args.map fun | .const _ => true | _ => false) h
      refine ⟨v, hv, fun φ w ρ ho hrep => ?_⟩
      obtain ⟨v', k1, k2⟩ := hr φ w ρ (fun x hx => ho x (by simp [Op.operands, Call.operands, hb]; exact Array.mem_toList_iff.1 hx)) hrep
      refine ⟨v', ?_, k2⟩
      simp only [execOp, resolve, hb, Sem.run_bind, Sem.run_pure, Result.andThen_ok, Go.invoke]
      exact k1
    · cases h
  | _ => cases h
end
end AC.Ev

