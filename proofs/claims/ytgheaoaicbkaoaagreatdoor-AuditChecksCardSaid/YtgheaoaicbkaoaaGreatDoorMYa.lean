/-
  Closed calls by reflection: the evaluator.
-/
import GoSem.Step
namespace AC.Ev
open Go
set_option linter.unusedVariables false
set_option linter.unusedSimpArgs false
/-! ### Tries -/
inductive Trie (α : Type) where
  | nil
  | node (v : Option α) (l r : Trie α)
section
variable {α : Type}
def Trie.get : Trie α → Nat → Option α
  | .nil, _ => none
  | .node v l r, n => bif Nat.beq n 0 then v else bif Nat.beq (n % 2) 1 then l.get (n / 2) else r.get (n / 2 - 1)
def Trie.setK : Nat → Trie α → Nat → Option α → (Trie α → Bool) → Bool
  | 0, _, _, _, _ => false
  | f + 1, t, n, o, K => match t with
    | .nil => bif Nat.beq n 0 then K (.node o .nil .nil) else bif Nat.beq (n % 2) 1 then Trie.setK f .nil (n / 2) o (fun l => K (.node none l .nil)) else Trie.setK f .nil (n / 2 - 1) o (fun r => K (.node none .nil r))
    | .node v l r => bif Nat.beq n 0 then K (.node o l r) else bif Nat.beq (n % 2) 1 then Trie.setK f l (n / 2) o (fun l => K (.node v l r)) else Trie.setK f r (n / 2 - 1) o (fun r => K (.node v l r))
def putT (t : Trie α) (n : Nat) (o : Option α) (K : Trie α → Bool) : Bool := Trie.setK 40 t n o K
def nth : List α → Nat → Option α
  | [], _ => none
  | x :: l, n => match n with
    | 0 => some x
    | n + 1 => nth l n
def lenL : List α → Nat
  | [] => 0
  | _ :: l => lenL l + 1
def takeL : List α → Nat → Nat → (List α → Bool) → Bool
  | l, i, 0, K => K []
  | [], _, _ + 1, _ => false
  | x :: l, i, n + 1, K => match i with
    | 0 => takeL l 0 n fun l' => K (x :: l')
    | i + 1 => takeL l i (n + 1) K
def catL : List α → List α → (List α → Bool) → Bool
  | [], m, K => K m
  | x :: l, m, K => catL l m fun l' => K (x :: l')
def repL : Nat → List α → (List α → Bool) → Bool
  | 0, _, K => K []
  | n + 1, z, K => repL n z fun l => catL z l K
def setL : List α → Nat → α → (List α → Bool) → Bool
  | [], _, _, _ => false
  | x :: l, n, v, K => match n with
    | 0 => K (v :: l)
    | n + 1 => setL l n v fun l' => K (x :: l')
def putL : List α → Nat → List α → (List α → Bool) → Bool
  | l, _, [], K => K l
  | l, i, v :: vs, K => setL l i v fun l' => putL l' (i + 1) vs K
def allL (f : α → Bool) : List α → Bool
  | [] => true
  | x :: l => bif f x then allL f l else false
def anyL (f : α → Bool) : List α → Bool
  | [] => false
  | x :: l => bif f x then true else anyL f l
end
/-- What a block holds: a row of cells (ex: its capacity is known; un: how many cells an element has; top: it may be written; stale: elder rows that may share its memory), or a map. -/
inductive Ob where
  | row (cells : List Value) (elem : TypeId) (ex : Bool) (un : Nat) (top : Bool) (stale : List Nat)
  | map (es : List MapEntry) (clock : Nat)
abbrev Tr := Trie Ob
/-- The temporaries of a call: how many there are, what they hold (nothing: undefined). -/
structure Tm where
  n : Nat
  t : Trie Value
structure Mem where
  next : Nat
  t : Tr
/-! ### Numbers, strictly -/
def eqU : List UInt8 → List UInt8 → Bool
  | [], [] => true
  | [], _ :: _ => false
  | _ :: _, [] => false
  | x :: l, y :: m => bif Nat.beq x.toNat y.toNat then eqU l m else false
def ltU : List UInt8 → List UInt8 → Bool
  | _, [] => false
  | [], _ :: _ => true
  | x :: l, y :: m => bif Nat.ble (x.toNat + 1) y.toNat then true else bif Nat.beq x.toNat y.toNat then ltU l m else false
def forceN (n : Nat) (K : Nat → Bool) : Bool := match n with
  | 0 => K 0
  | k + 1 => K (Nat.succ k)
def forceI (n : Int) (K : Int → Bool) : Bool := match n with
  | .ofNat k => forceN k fun k => K (.ofNat k)
  | .negSucc k => forceN k fun k => K (.negSucc k)
def forceB (b : Bool) (K : Bool → Bool) : Bool := match b with
  | true => K true
  | false => K false
def ltI (a b : Int) : Bool := match a with
  | .ofNat a => match b with
    | .ofNat b => Nat.ble (a + 1) b
    | .negSucc _ => false
  | .negSucc a => match b with
    | .ofNat _ => true
    | .negSucc b => Nat.ble (b + 1) a
def eqI (a b : Int) : Bool := match a with
  | .ofNat a => match b with
    | .ofNat b => Nat.beq a b
    | .negSucc _ => false
  | .negSucc a => match b with
    | .ofNat _ => false
    | .negSucc b => Nat.beq a b
def addI (a b : Int) : Int := match a with
  | .ofNat a => match b with
    | .ofNat b => .ofNat (a + b)
    | .negSucc b => bif Nat.ble (b + 1) a then .ofNat (a - (b + 1)) else .negSucc (b - a)
  | .negSucc a => match b with
    | .ofNat b => bif Nat.ble (a + 1) b then .ofNat (b - (a + 1)) else .negSucc (a - b)
    | .negSucc b => .negSucc (a + b + 1)
def negI : Int → Int
  | .ofNat a => match a with
    | 0 => .ofNat 0
    | k + 1 => .negSucc k
  | .negSucc a => .ofNat (a + 1)
def kindN : IntKind → Nat
  | .i8 => 0 | .i16 => 1 | .i32 => 2 | .i64 => 3 | .u8 => 4 | .u16 => 5 | .u32 => 6 | .u64 => 7
def kindEq (j k : IntKind) : Bool := Nat.beq (kindN j) (kindN k)
def bitsN : IntKind → Nat
  | .i8 => 8 | .u8 => 8 | .i16 => 16 | .u16 => 16 | .i32 => 32 | .u32 => 32 | .i64 => 64 | .u64 => 64
def sgn : IntKind → Bool
  | .i8 => true | .i16 => true | .i32 => true | .i64 => true | .u8 => false | .u16 => false | .u32 => false | .u64 => false
/-- A number of its kind, as it is or cut. -/
def wrapK (k : IntKind) (n : Int) (K : Int → Bool) : Bool := match sgn k with
  | true => match n with
    | .ofNat a => bif Nat.ble (a + 1) (2 ^ (bitsN k - 1)) then forceN a fun a => K (.ofNat a) else false
    | .negSucc a => bif Nat.ble (a + 1) (2 ^ (bitsN k - 1)) then forceN a fun a => K (.negSucc a) else false
  | false => match n with
    | .ofNat a => forceN (a % 2 ^ bitsN k) fun a => K (.ofNat a)
    | .negSucc a => forceN (2 ^ bitsN k - 1 - a % 2 ^ bitsN k) fun a => K (.ofNat a)
def intV (k : IntKind) (n : Int) (K : Value → Bool) : Bool := wrapK k n fun n => K (.int k n)
def boolV (b : Bool) (K : Value → Bool) : Bool := match b with
  | true => K (.bool true)
  | false => K (.bool false)
def bytesOf (s : ByteArray) : List UInt8 := s.data.toList
def ptr (g off : Nat) : Value := .pointer (some ⟨g, off, none⟩)
def sli (g off len cap : Nat) : Value := .slice (some ⟨g, off, none⟩) len cap
/-- A place. -/
def addrK (a : Addr) (K : Nat → Nat → Bool) : Bool := match a.spot with
  | none => K a.block a.off
  | some _ => false
/-! ### Equal values -/
mutual
def eqV : Nat → Value → Value → Bool
  | 0, _, _ => false
  | f + 1, x, y => match x, y with
    | .bool true, .bool true => true
    | .bool false, .bool false => true
    | .int j a, .int k b => bif kindEq j k then eqI a b else false
    | .string s, .string t => eqU (bytesOf s) (bytesOf t)
    | .pointer none, .pointer none => true
    | .pointer (some ⟨b, o, none⟩), .pointer (some ⟨c, p, none⟩) => bif Nat.beq b c then Nat.beq o p else false
    | .slice none l c, .slice none m d => bif Nat.beq l m then Nat.beq c d else false
    | .slice (some ⟨b, o, none⟩) l c, .slice (some ⟨b', o', none⟩) m d => bif Nat.beq b b' then bif Nat.beq o o' then bif Nat.beq l m then Nat.beq c d else false else false else false
    | .map none, .map none => true
    | .map (some a), .map (some b) => Nat.beq a b
    | .nilFunc, .nilFunc => true
    | .nilIface, .nilIface => true
    | .func (.func g) a c, .func (.func h) b d => bif Nat.beq g h then bif eqVs f a.toList b.toList then eqVs f c.toList d.toList else false else false
    | .agg a, .agg b => eqVs f a.toList b.toList
    | .tuple a, .tuple b => eqVs f a.toList b.toList
    | _, _ => false
def eqVs : Nat → List Value → List Value → Bool
  | 0, _, _ => false
  | _ + 1, [], [] => true
  | f + 1, x :: l, y :: m => bif eqV f x y then eqVs f l m else false
  | _ + 1, _, _ => false
end
/-! ### Operands -/
def plainV : Value → Bool
  | .bool _ => true
  | .int _ _ => true
  | .string _ => true
  | .pointer a => match a with
    | none => true
    | some _ => false
  | .slice a _ _ => match a with
    | none => true
    | some _ => false
  | .map a => match a with
    | none => true
    | some _ => false
  | .nilFunc => true
  | .nilIface => true
  | _ => false
def opd (tm : Tm) (x : Operand) (K : Value → Bool) : Bool := match x with
  | .tmp t => match tm.t.get t with
    | some v => K v
    | none => K undef
  | .const v => bif plainV v then K v else false
  | .func f => K (.func (.func f) #[] #[])
  | .global g => bif Nat.ble (g + 1) 1000 then K (ptr g 0) else false
def opds (tm : Tm) : List Operand → (List Value → Bool) → Bool
  | [], K => K []
  | x :: l, K => opd tm x fun v => opds tm l fun vs => K (v :: vs)
def partsK (tm : Tm) : List (Nat × Operand) → (List (Nat × Value) → Bool) → Bool
  | [], K => K []
  | p :: l, K => opd tm p.2 fun v => partsK tm l fun vs => K ((p.1, v) :: vs)
def asNat (v : Value) (K : Nat → Bool) : Bool := match v with
  | .int _ n => match n with
    | .ofNat n => K n
    | .negSucc _ => false
  | _ => false
def asPtr (v : Value) (K : Nat → Nat → Bool) : Bool := match v with
  | .pointer a => match a with
    | some a => addrK a K
    | none => false
  | _ => false
def asAgg (v : Value) (K : List Value → Bool) : Bool := match v with
  | .agg cs => K cs.toList
  | _ => false
def asStr (v : Value) (K : List UInt8 → Bool) : Bool := match v with
  | .string s => K (bytesOf s)
  | _ => false
/-- A slice: nothing, or a place; length and capacity. -/
def asSli (v : Value) (Kn : Nat → Nat → Bool) (K : Nat → Nat → Nat → Nat → Bool) : Bool := match v with
  | .slice a l c => match a with
    | none => Kn l c
    | some a => addrK a fun g off => K g off l c
  | _ => false
def cellsOf (v : Value) : List Value := match v with
  | .agg cs => cs.toList
  | v => [v]
section
variable (P : Program)
/-! ### Types -/
def isSome {α : Type} : Option α → Bool
  | none => false
  | some _ => true
def sizeK (t : TypeId) (K : Nat → Bool) : Bool := match P.info? t with
  | some i => K i.size
  | none => false
def aggB : TypeDesc → Bool
  | .struct _ => true
  | .array _ _ => true
  | _ => false
def isAgg (t : TypeId) (K : Bool → Bool) : Bool := match P.underlying t with
  | some d => forceB (aggB d) K
  | none => false
def plainZ : Value → Bool
  | .agg cs => allL plainV cs.toList
  | v => plainV v
def zeroV (t : TypeId) (K : Value → Bool) : Bool := match P.info? t with
  | some i => match i.zero with
    | some z => bif plainZ z then K z else false
    | none => false
  | none => false
def zeroK (t : TypeId) (K : List Value → Bool) : Bool := zeroV P t fun z => K (cellsOf z)
def structK (t : TypeId) (K : List Field → Bool) : Bool := match P.underlying t with
  | some d => match d with
    | .struct fs => K fs.toList
    | _ => false
  | none => false
def sliceK (t : TypeId) (K : TypeId → Bool) : Bool := match P.underlying t with
  | some d => match d with
    | .slice e => K e
    | _ => false
  | none => false
def mapK (t : TypeId) (K : TypeId → TypeId → Bool) : Bool := match P.underlying t with
  | some d => match d with
    | .map k e => K k e
    | _ => false
  | none => false
/-- The cells of a part. -/
def partK (t : TypeId) (cs : List Value) (off : Nat) (K : Value → Bool) : Bool :=
  isAgg P t fun b => match b with
    | true => sizeK P t fun n => takeL cs off n fun l => K (.agg ⟨l⟩)
    | false => match nth cs off with
      | some v => K v
      | none => false
/-! ### Operations that read at most -/
def rowOf (t : Tr) (g : Nat) (K : List Value → TypeId → Bool → Nat → Bool → List Nat → Bool) : Bool := match t.get g with
  | some o => match o with
    | .row c e x u p s => K c e x u p s
    | .map _ _ => false
  | none => false
def mapOf (t : Tr) (g : Nat) (K : List MapEntry → Nat → Bool) : Bool := match t.get g with
  | some o => match o with
    | .row _ _ _ _ _ _ => false
    | .map es c => K es c
  | none => false
def loadE (tm : Tm) (t : Tr) (ty : TypeId) (a : Operand) (K : Value → Bool) : Bool := opd tm a fun v => asPtr v fun g off => rowOf t g fun c _ _ _ _ _ => partK P ty c off K
def pickE (tm : Tm) (c a b : Operand) (K : Value → Bool) : Bool := opd tm c fun v => match v with
  | .bool b' => match b' with
    | true => opd tm a K
    | false => opd tm b K
  | _ => false
def fillS (fs : List Field) : List (Nat × Value) → List Value → (List Value → Bool) → Bool
  | [], z, K => K z
  | p :: ps, z, K => match nth fs p.1 with
    | some f => sizeK P f.type fun n => bif Nat.ble 1 n then bif Nat.beq (lenL (cellsOf p.2)) n then putL z f.offset (cellsOf p.2) fun z => fillS fs ps z K else false else false
    | none => false
def fillA (n : Nat) : List (Nat × Value) → List Value → (List Value → Bool) → Bool
  | [], z, K => K z
  | p :: ps, z, K => bif Nat.ble 1 n then bif Nat.beq (lenL (cellsOf p.2)) n then putL z (p.1 * n) (cellsOf p.2) fun z => fillA n ps z K else false else false
def buildE (tm : Tm) (ty : TypeId) (ps : Array (Nat × Operand)) (K : Value → Bool) : Bool := zeroK P ty fun z => partsK tm ps.toList fun ps => match P.underlying ty with
  | some d => match d with
    | .struct fs => bif allL (fun f : Field => isSome (P.info? f.type)) fs.toList then fillS P fs.toList ps z fun l => K (.agg ⟨l⟩) else false
    | .array _ e => sizeK P e fun n => fillA n ps z fun l => K (.agg ⟨l⟩)
    | _ => false
  | none => false
def nilE (tm : Tm) (x : Operand) (K : Value → Bool) : Bool := opd tm x fun v => match v with
  | .pointer a => match a with
    | some a => K (.pointer (some a))
    | none => false
  | .func fn a b => match fn with
    | .func f => K (.func (.func f) a b)
    | _ => false
  | _ => false
def tagN : TypeDesc → Nat
  | .bool => 1
  | .pointer _ => 2
  | .slice _ => 3
  | .map _ _ => 4
  | .func _ _ _ => 5
  | _ => 0
def tagB (t : TypeId) (n : Nat) : Bool := match P.underlying t with
  | some d => Nat.beq (tagN d) n
  | none => false
def nilEq {α : Type} (a b : Option α) (K : Bool → Bool) : Bool := match a with
  | none => forceB (!isSome b) K
  | some _ => match b with
    | none => K false
    | some _ => false
/-- Are two values equal? -/
def eqlK (t : TypeId) (x y : Value) (K : Bool → Bool) : Bool := match x with
  | .int j a => match y with
    | .int k b => bif kindEq j k then forceB (eqI a b) K else false
    | _ => false
  | .string a => match y with
    | .string b => forceB (eqU (bytesOf a) (bytesOf b)) K
    | _ => false
  | .bool a => match y with
    | .bool b => bif tagB P t 1 then (match a with
      | true => forceB b K
      | false => forceB (!b) K) else false
    | _ => false
  | .pointer a => match y with
    | .pointer b => bif tagB P t 2 then nilEq a b K else false
    | _ => false
  | .slice a _ _ => match y with
    | .slice b _ _ => bif tagB P t 3 then nilEq a b K else false
    | _ => false
  | .map a => match y with
    | .map b => bif tagB P t 4 then nilEq a b K else false
    | _ => false
  | .nilFunc => match y with
    | .nilFunc => bif tagB P t 5 then K true else false
    | .func _ _ _ => bif tagB P t 5 then K false else false
    | _ => false
  | .func _ _ _ => match y with
    | .nilFunc => bif tagB P t 5 then K false else false
    | _ => false
  | _ => false
def arithK (op : BinOp) (k : IntKind) (a b : Int) (K : Value → Bool) : Bool := match op with
  | .add => intV k (addI a b) K
  | .sub => intV k (addI a (negI b)) K
  | .mul => match a with
    | .ofNat m => match b with
      | .ofNat n => intV k (.ofNat (m * n)) K
      | .negSucc _ => false
    | .negSucc _ => false
  | .quo => match a with
    | .ofNat m => match b with
      | .ofNat n => match n with
        | 0 => false
        | n + 1 => intV k (.ofNat (m / (n + 1))) K
      | .negSucc _ => false
    | .negSucc _ => false
  | .rem => match a with
    | .ofNat m => match b with
      | .ofNat n => match n with
        | 0 => false
        | n + 1 => forceN (m % (n + 1)) fun r => K (.int k (.ofNat r))
      | .negSucc _ => false
    | .negSucc _ => false
  | .lss => boolV (ltI a b) K
  | .leq => boolV (!ltI b a) K
  | .gtr => boolV (ltI b a) K
  | .geq => boolV (!ltI a b) K
  | _ => false
def binK (op : BinOp) (x y : Value) (K : Value → Bool) : Bool := match x with
  | .int j a => match y with
    | .int k b => bif kindEq j k then arithK op j a b K else false
    | _ => false
  | .string a => match y with
    | .string b => match op with
      | .add => catL (bytesOf a) (bytesOf b) fun l => bif Nat.ble (lenL l) 1000000 then K (.string ⟨⟨l⟩⟩) else false
      | .lss => boolV (ltU (bytesOf a) (bytesOf b)) K
      | _ => false
    | _ => false
  | _ => false
def binE (tm : Tm) (op : BinOp) (t : TypeId) (x y : Operand) (K : Value → Bool) : Bool := opd tm x fun v => opd tm y fun w => match op with
  | .eql => eqlK P t v w fun b => K (.bool b)
  | .neq => eqlK P t v w fun b => boolV (!b) K
  | op => binK op v w K
def unE (tm : Tm) (op : UnOp) (x : Operand) (K : Value → Bool) : Bool := opd tm x fun v => match op with
  | .not => match v with
    | .bool b => boolV (!b) K
    | _ => false
  | .neg => match v with
    | .int k n => intV k (negI n) K
    | _ => false
  | _ => false
def convE (tm : Tm) (src dst : TypeId) (x : Operand) (K : Value → Bool) : Bool := opd tm x fun v => match P.underlying src with
  | some _ => match P.underlying dst with
    | some d => match d with
      | .int k => match v with
        | .int _ n => intV k n K
        | _ => false
      | .string => match v with
        | .string s => K (.string s)
        | _ => false
      | _ => false
    | none => false
  | none => false
def funE (tm : Tm) (fn : Fn) (a c : Array Operand) (K : Value → Bool) : Bool := match fn with
  | .func f => opds tm a.toList fun a => opds tm c.toList fun c => K (.func (.func f) ⟨a⟩ ⟨c⟩)
  | _ => false
def optN (tm : Tm) (x : Option Operand) (d : Nat) (K : Nat → Bool) : Bool := match x with
  | none => K d
  | some x => opd tm x fun v => asNat v K
def subE (tm : Tm) (t : Tr) (ty : TypeId) (x : Operand) (lo hi : Option Operand) (K : Value → Bool) : Bool := opd tm x fun v => match v with
  | .string s => match P.underlying ty with
    | some d => match d with
      | .string => optN tm hi (lenL (bytesOf s)) fun h => optN tm lo 0 fun l => bif Nat.ble l h then bif Nat.ble h (lenL (bytesOf s)) then takeL (bytesOf s) l (h - l) fun r => K (.string ⟨⟨r⟩⟩) else false else false
      | _ => false
    | none => false
  | .slice a len cap => sliceK P ty fun e => optN tm hi len fun h => optN tm lo 0 fun l => bif Nat.ble l h then bif Nat.ble h cap then sizeK P e fun n => forceN (h - l) fun len => forceN (cap - l) fun cap => match a with
      | none => K (.slice none len cap)
      | some a => addrK a fun g off => rowOf t g fun _ _ ex un _ _ => bif (bif ex then true else Nat.beq un n) then forceN (off + l * n) fun o => K (sli g o len cap) else false
    else false else false
  | _ => false
def sub3E (tm : Tm) (t : Tr) (ty : TypeId) (x : Operand) (lo hi : Option Operand) (mx : Operand) (K : Value → Bool) : Bool := opd tm x fun v => match v with
  | .slice a len cap => match a with
    | none => false
    | some a => sliceK P ty fun e => opd tm mx fun mv => asNat mv fun m => match hi with
      | none => false
      | some hi => opd tm hi fun hv => asNat hv fun h => optN tm lo 0 fun l => bif Nat.ble l h then bif Nat.ble h m then bif Nat.ble m cap then sizeK P e fun n => forceN (h - l) fun len => forceN (m - l) fun cap =>
        addrK a fun g off => rowOf t g fun _ _ ex un _ _ => bif (bif ex then true else Nat.beq un n) then forceN (off + l * n) fun o => K (sli g o len cap) else false
      else false else false else false
  | _ => false
def fieldAE (tm : Tm) (s : TypeId) (x : Operand) (f : Nat) (K : Value → Bool) : Bool := opd tm x fun v => asPtr v fun g off => structK P s fun fs => match nth fs f with
  | some f => sizeK P f.type fun n => match n with
    | 0 => false
    | _ + 1 => forceN (off + f.offset) fun o => K (ptr g o)
  | none => false
def fieldE (tm : Tm) (s : TypeId) (x : Operand) (f : Nat) (K : Value → Bool) : Bool := opd tm x fun v => asAgg v fun cs => structK P s fun fs => match nth fs f with
  | some f => partK P f.type cs f.offset K
  | none => false
def indexAE (tm : Tm) (ty : TypeId) (x i : Operand) (K : Value → Bool) : Bool := opd tm x fun v => opd tm i fun i => asNat i fun i => match P.underlying ty with
  | some d => match d with
    | .slice e => asSli v (fun _ _ => false) fun g off len _ => bif Nat.ble (i + 1) len then sizeK P e fun n => forceN (off + i * n) fun o => K (ptr g o) else false
    | .array len e => asPtr v fun g off => bif Nat.ble (i + 1) len then sizeK P e fun n => forceN (off + i * n) fun o => K (ptr g o) else false
    | _ => false
  | none => false
def indexE (tm : Tm) (ty : TypeId) (x i : Operand) (K : Value → Bool) : Bool := opd tm x fun v => opd tm i fun i => asNat i fun i => match P.underlying ty with
  | some d => match d with
    | .array len e => asAgg v fun cs => bif Nat.ble (i + 1) len then sizeK P e fun n => partK P e cs (i * n) K else false
    | .string => asStr v fun s => match nth s i with
      | some b => forceN b.toNat fun n => K (.int .u8 (.ofNat n))
      | none => false
    | _ => false
  | none => false
def extractE (tm : Tm) (x : Operand) (i : Nat) (K : Value → Bool) : Bool := opd tm x fun v => match v with
  | .tuple vs => match nth vs.toList i with
    | some v => K v
    | none => false
  | _ => false
/-! ### Maps -/
def findE (k : Value) : List MapEntry → Nat → (Option (Nat × Value) → Bool) → Bool
  | [], _, K => K none
  | e :: es, i, K => match k with
    | .int j a => match e.key with
      | .int l b => bif kindEq j l then bif eqI a b then K (some (i, e.val)) else findE k es (i + 1) K else false
      | _ => false
    | .string a => match e.key with
      | .string b => bif eqU (bytesOf a) (bytesOf b) then K (some (i, e.val)) else findE k es (i + 1) K
      | _ => false
    | _ => false
def keyOk (t : TypeId) (k : Value) : Bool := match P.underlying t with
  | some d => match d with
    | .int _ => match k with
      | .int _ _ => true
      | _ => false
    | .string => match k with
      | .string _ => true
      | _ => false
    | _ => false
  | none => false
def okV (v : Value) (ok : Bool) (c : Bool) (K : Value → Bool) : Bool := match c with
  | true => K (.tuple #[v, .bool ok])
  | false => K v
def lookupE (tm : Tm) (t : Tr) (ty : TypeId) (x i : Operand) (c : Bool) (K : Value → Bool) : Bool := opd tm x fun v => opd tm i fun k => mapK P ty fun kt e => bif keyOk P kt k then match v with
  | .map g => match g with
    | some g => mapOf t g fun es _ => findE k es 0 fun r => match r with
      | some p => okV p.2 true c K
      | none => zeroV P e fun z => okV z false c K
    | none => zeroV P e fun z => okV z false c K
  | _ => false else false
/-! ### Builtins that read -/
def lenE (tm : Tm) (t : Tr) (ty : TypeId) (x : Operand) (K : Value → Bool) : Bool := opd tm x fun v => match P.underlying ty with
  | some d => match d with
    | .string => asStr v fun s => forceN (lenL s) fun n => K (.int .i64 (.ofNat n))
    | .slice _ => match v with
      | .slice _ n _ => K (.int .i64 (.ofNat n))
      | _ => false
    | .map _ _ => match v with
      | .map g => match g with
        | none => K (.int .i64 (.ofNat 0))
        | some g => mapOf t g fun es _ => forceN (lenL es) fun n => K (.int .i64 (.ofNat n))
      | _ => false
    | _ => false
  | none => false
def capE (tm : Tm) (t : Tr) (ty : TypeId) (x : Operand) (K : Value → Bool) : Bool := opd tm x fun v => sliceK P ty fun _ => match v with
  | .slice a n c => match a with
    | none => K (.int .i64 (.ofNat c))
    | some a => addrK a fun g _ => rowOf t g fun _ _ ex _ _ _ => match ex with
      | true => K (.int .i64 (.ofNat c))
      | false => false
  | _ => false
def maxE (tm : Tm) (b : Bool) (x y : Operand) (K : Value → Bool) : Bool := opd tm x fun x => opd tm y fun y => match x with
  | .int k a => match y with
    | .int _ c => bif (bif b then ltI a c else ltI c a) then K (.int k c) else K (.int k a)
    | _ => false
  | _ => false
def dataE (tm : Tm) (x : Operand) (K : Value → Bool) : Bool := opd tm x fun v => match v with
  | .slice a _ c => match a with
    | none => K (.pointer none)
    | some a => match c with
      | 0 => false
      | _ + 1 => K (.pointer (some a))
  | _ => false
def bltE (tm : Tm) (t : Tr) (b : Builtin) (T : List TypeId) (args : List Operand) (K : Value → Bool) : Bool := match args with
  | [] => false
  | x :: args => match args with
    | [] => match b with
      | .len => match T with
        | [] => false
        | ty :: _ => lenE P tm t ty x K
      | .cap => match T with
        | [] => false
        | ty :: _ => capE P tm t ty x K
      | .unsafeSliceData => dataE tm x K
      | _ => false
    | y :: args => match args with
      | [] => match b with
        | .max => maxE tm true x y K
        | .min => maxE tm false x y K
        | _ => false
      | _ :: _ => false
def callR (tm : Tm) (t : Tr) (c : Call) (K : Value → Bool) : Bool := match c.callee with
  | .builtin b => bltE P tm t b c.argTypes.toList c.args.toList K
  | _ => false
def rdE (tm : Tm) (t : Tr) (o : Op) (K : Value → Bool) : Bool := match o with
  | .move x => opd tm x K
  | .assign x => opd tm x K
  | .pick c a b => pickE tm c a b K
  | .build ty ps => buildE P tm ty ps K
  | .load ty a => loadE P tm t ty a K
  | .nilCheck x => nilE tm x K
  | .binOp op ty x y _ => binE P tm op ty x y K
  | .unOp op _ x => unE tm op x K
  | .convert src dst x => convE P tm src dst x K
  | .makeFunc fn a c => funE tm fn a c K
  | .slice ty x lo hi mx => match mx with
    | some mx => sub3E P tm t ty x lo hi mx K
    | none => subE P tm t ty x lo hi K
  | .fieldAddr s x f => fieldAE P tm s x f K
  | .field s x f => fieldE P tm s x f K
  | .indexAddr ty x i => indexAE P tm ty x i K
  | .index ty x i => indexE P tm ty x i K
  | .lookup ty x i c => lookupE P tm t ty x i c K
  | .extract x i => extractE tm x i K
  | .call c => callR P tm t c K
  | _ => false
/-! ### Operations that make a block, out of their operands alone -/
inductive Sh where
  | ptr | sl (len cap : Nat) | mp
def Sh.val (g : Nat) : Sh → Value
  | .ptr => Ev.ptr g 0
  | .sl n c => sli g 0 n c
  | .mp => .map (some g)
def newR (c : List Value) (e : TypeId) : Ob := .row c e true 0 true []
def boxE (tm : Tm) (e : TypeId) (x : Operand) (K : Ob → Sh → Bool) : Bool := opd tm x fun v => K (newR (cellsOf v) e) .ptr
def bsliceE (tm : Tm) (ty : TypeId) (len : Nat) (ps : Array (Nat × Operand)) (K : Ob → Sh → Bool) : Bool := sliceK P ty fun e => sizeK P e fun n => zeroK P e fun z => bif Nat.beq (lenL z) n then bif Nat.ble (len * n) 16777216 then
  repL len z fun z => partsK tm ps.toList fun ps => fillA n ps z fun l => K (newR l e) (.sl len len) else false else false
def msliceE (tm : Tm) (ty : TypeId) (l c : Operand) (K : Ob → Sh → Bool) : Bool := sliceK P ty fun e => opd tm l fun l => opd tm c fun c => asNat l fun l => asNat c fun c => match P.info? e with
  | some i => zeroK P e fun z => bif Nat.beq (lenL z) i.size then bif Nat.ble l c then bif Nat.ble c 1000000 then bif Nat.ble i.bytes 1000000 then repL c z fun z => K (newR z e) (.sl l c) else false else false else false else false
  | none => false
def alE (tm : Tm) (o : Op) (K : Ob → Sh → Bool) : Bool := match o with
  | .alloc e => zeroK P e fun z => K (newR z e) .ptr
  | .box e x => boxE tm e x K
  | .buildSlice ty len ps => bsliceE P tm ty len ps K
  | .makeSlice ty l c => msliceE P tm ty l c K
  | .makeMap _ r => match r with
    | none => K (.map [] 0) .mp
    | some _ => false
  | _ => false
end
inductive Ex where
  | normal | exit (id : Nat) | ret
def killK : List Nat → Tr → (Tr → Bool) → Bool
  | [], t, K => K t
  | g :: l, t, K => putT t g none fun t => killK l t K
section
variable (P : Program)
def cellB : Value → Bool
  | .agg _ => false
  | .tuple _ => false
  | _ => true
/-- Cells of a row are written. -/
def writeK (m : Mem) (g off : Nat) (vs : List Value) (K : Mem → Bool) : Bool := rowOf m.t g fun c e x u top s => match top with
  | true => bif allL cellB vs then putL c off vs fun c => killK s m.t fun t => putT t g (some (.row c e x u true [])) fun t => K ⟨m.next, t⟩ else false
  | false => false
def newK (m : Mem) (ob : Ob) (sh : Sh) (K : Value → Mem → Bool) : Bool := forceN m.next fun g => putT m.t g (some ob) fun t => K (sh.val g) ⟨g + 1, t⟩
def storeE (tm : Tm) (m : Mem) (ty : TypeId) (a x : Operand) (K : Value → Mem → Bool) : Bool := opd tm a fun a => opd tm x fun x => asPtr a fun g off => sizeK P ty fun n =>
  bif Nat.beq (lenL (cellsOf x)) n then writeK m g off (cellsOf x) fun m => K undef m else false
def catE : List MapEntry → MapEntry → (List MapEntry → Bool) → Bool
  | [], e, K => K [e]
  | x :: l, e, K => catE l e fun l => K (x :: l)
def modE : List MapEntry → Nat → Value → Value → (List MapEntry → Bool) → Bool
  | [], _, _, _, _ => false
  | e :: l, i, k, x, K => match i with
    | 0 => K (⟨k, x, e.born⟩ :: l)
    | i + 1 => modE l i k x fun l => K (e :: l)
def updE (tm : Tm) (m : Mem) (ty : TypeId) (mp k x : Operand) (K : Value → Mem → Bool) : Bool := opd tm mp fun mp => opd tm k fun k => opd tm x fun x => mapK P ty fun kt _ => bif keyOk P kt k then match mp with
  | .map g => match g with
    | some g => mapOf m.t g fun es clock => findE k es 0 fun r => match r with
      | none => catE es ⟨k, x, clock⟩ fun es => putT m.t g (some (.map es (clock + 1))) fun t => K undef ⟨m.next, t⟩
      | some p => modE es p.1 k x fun es => putT m.t g (some (.map es clock)) fun t => K undef ⟨m.next, t⟩
    | none => false
  | _ => false else false
/-! ### Append -/
/-- The cells that are appended, and how many elements they are. -/
def srcK (t : Tr) (xT e : TypeId) (size : Nat) (x : Value) (K : Nat → List Value → Bool) : Bool := match P.underlying xT with
  | some d => match d with
    | .int _ => match x with
      | .int k n => match k with
        | .i64 => match n with
          | .ofNat n => bif Nat.ble n 1000000 then zeroK P e fun z => bif Nat.beq (lenL z) size then repL n z fun l => K n l else false else false
          | .negSucc _ => false
        | _ => false
      | _ => false
    | .slice _ => asSli x (fun n _ => match n with | 0 => K 0 [] | _ + 1 => false) fun g off n _ => rowOf t g fun c _ _ _ _ _ => takeL c off (n * size) fun l => K n l
    | .string => asStr x fun s => K (lenL s) (s.map fun b => .int .u8 b.toNat)
    | _ => false
  | none => false
def forkK (m : Mem) (e : TypeId) (size g off sl need : Nat) (new : List Value) (K : Value → Mem → Bool) : Bool := rowOf m.t g fun c el ex un top st => takeL c off (sl * size) fun old => catL old new fun cells => match ex with
  | true => newK m (.row cells e false size true []) (.sl need need) K
  | false => match top with
    | false => false
    | true => bif Nat.beq el e then bif Nat.beq un size then takeL c 0 (off + sl * size) fun pre =>
        killK st m.t fun t => putT t g (some (.row pre el false un false [])) fun t => newK ⟨m.next, t⟩ (.row cells e false un true [g]) (.sl need need) K else false else false
def appendK (m : Mem) (T : List TypeId) (s x : Value) (K : Value → Mem → Bool) : Bool := match T with
  | [] => false
  | sT :: T => match T with
    | [] => false
    | xT :: _ => sliceK P sT fun e => match P.info? e with
      | none => false
      | some ei => bif Nat.ble ei.bytes 1000000 then bif Nat.ble 1 ei.bytes then zeroK P e fun z => bif Nat.beq (lenL z) ei.size then srcK P m.t xT e ei.size x fun n new => bif Nat.beq (lenL new) (n * ei.size) then bif allL cellB new then match n with
        | 0 => asSli s (fun l c => bif Nat.ble l c then K (.slice none l c) m else false) fun g off l c => K (sli g off l c) m
        | _ + 1 => asSli s
          (fun l c => bif Nat.beq l 0 then bif Nat.beq c 0 then bif Nat.ble n 1000000 then newK m (.row new e false ei.size true []) (.sl n n) K else false else false else false)
          (fun g off sl sc => forceN (sl + n) fun need => bif Nat.ble need 1000000 then bif Nat.ble need sc
            then writeK m g (off + sl * ei.size) new fun m => K (sli g off need sc) m
            else forkK m e ei.size g off sl need new K else false) else false else false else false else false else false
/-! ### Strings out of bytes -/
def byteL : List Value → (List UInt8 → Bool) → Bool
  | [], K => K []
  | v :: l, K => match v with
    | .int k n => match k with
      | .u8 => match n with
        | .ofNat n => bif Nat.ble (n + 1) 256 then byteL l fun r => K (UInt8.ofNat n :: r) else false
        | .negSucc _ => false
      | _ => false
    | _ => false
def ustrE (m : Mem) (ty : TypeId) (p n : Value) (K : Value → Mem → Bool) : Bool := asNat n fun n => match p with
  | .pointer a => match n with
    | 0 => K (.string ⟨⟨[]⟩⟩) m
    | _ + 1 => bif Nat.ble n 1000000 then match a with
      | none => false
      | some a => addrK a fun g off => match P.underlying ty with
        | some d => match d with
          | .pointer e => match P.underlying e with
            | some d => match d with
              | .int _ => sizeK P e fun z => bif Nat.beq z 1 then rowOf m.t g fun c el ex un top st => match top with
                | true => bif Nat.beq el e then takeL c off n fun cs => byteL cs fun l => killK (g :: st) m.t fun t => K (.string ⟨⟨l⟩⟩) ⟨m.next, t⟩ else false
                | false => false else false
              | _ => false
            | none => false
          | _ => false
        | none => false else false
  | _ => false
/-- Cells become zero. -/
def clearE (m : Mem) (T : List TypeId) (x : Value) (K : Value → Mem → Bool) : Bool := match T with
  | [] => false
  | ty :: _ => match P.underlying ty with
    | none => false
    | some d => match d with
      | .slice e => match x with
        | .slice a n _ => match a with
          | none => K undef m
          | some a => match n with
            | 0 => K undef m
            | _ + 1 => zeroK P e fun z => bif Nat.ble 1 (lenL z) then repL n z fun vs => addrK a fun g off => writeK m g off vs fun m => K undef m else false
        | _ => false
      | _ => false
def one (args : List Value) (K : Value → Bool) : Bool := match args with
  | [] => false
  | x :: l => match l with
    | [] => K x
    | _ :: _ => false
/-! ### Calls -/
abbrev CodeT := Code → Tm → Mem → (Ex → Tm → Mem → Bool) → Bool
/-- Functions that are known otherwise. -/
abbrev ExtT := Nat → Option (Mem → List Value → (Value → Mem → Bool) → Bool)
variable (X : ExtT) (rec : CodeT)
def resK (t : Tr) (tm : Tm) : List ResultVar → (List Value → Bool) → Bool
  | [], K => K []
  | r :: l, K => match r with
    | .tmp i => opd tm (.tmp i) fun v => resK t tm l fun vs => K (v :: vs)
    | .cell i ty => loadE P tm t ty (.tmp i) fun v => resK t tm l fun vs => K (v :: vs)
def argT : List Value → Nat → Trie Value → (Trie Value → Bool) → Bool
  | [], _, t, K => K t
  | v :: l, i, t, K => putT t i (some v) fun t => argT l (i + 1) t K
def outK (vs : List Value) (K : Value → Bool) : Bool := match vs with
  | [] => K (.tuple #[])
  | v :: l => match l with
    | [] => K v
    | _ :: _ => K (.tuple ⟨vs⟩)
def endK (e : Ex) (K : Bool) : Bool := match e with
  | .exit _ => false
  | .normal => K
  | .ret => K
def callK (m : Mem) (f : Nat) (args : List Value) (K : Value → Mem → Bool) : Bool := match X f with
  | some E => E m args K
  | none => match P.funcs[f]? with
  | none => false
  | some fn => match fn.body with
    | none => false
    | some c => bif Nat.ble (lenL args) fn.ntmps then argT args 0 .nil fun t => rec c ⟨fn.ntmps, t⟩ m fun e tm m => endK e (resK P m.t tm fn.results.toList fun vs => outK vs fun v => K v m) else false
def callV (m : Mem) (f : Value) (args : List Value) (K : Value → Mem → Bool) : Bool := match f with
  | .func fn a cp => match fn with
    | .func f => catL args cp.toList fun args => catL a.toList args fun args => callK P X rec m f args K
    | _ => false
  | _ => false
def two (args : List Value) (K : Value → Value → Bool) : Bool := match args with
  | [] => false
  | x :: l => match l with
    | [] => false
    | y :: l => match l with
      | [] => K x y
      | _ :: _ => false
def callE (tm : Tm) (m : Mem) (c : Call) (K : Value → Mem → Bool) : Bool := match c.callee with
  | .value f => opd tm f fun f => opds tm c.args.toList fun args => callV P X rec m f args K
  | .builtin b => match b with
    | .append => opds tm c.args.toList fun args => two args fun s x => appendK P m c.argTypes.toList s x K
    | .unsafeString => opds tm c.args.toList fun args => two args fun p n => match c.argTypes.toList with
      | [] => false
      | ty :: _ => ustrE P m ty p n K
    | .clear => opds tm c.args.toList fun args => one args fun x => clearE P m c.argTypes.toList x K
    | b => bltE P tm m.t b c.argTypes.toList c.args.toList fun v => K v m
  | _ => false
/-- Operations that write, calls. -/
def wrE (tm : Tm) (m : Mem) (o : Op) (K : Value → Mem → Bool) : Bool := match o with
  | .store ty a x => storeE P tm m ty a x K
  | .insert ty mp k x => updE P tm m ty mp k x K
  | .mapUpdate ty mp k x => updE P tm m ty mp k x K
  | .call c => callE P X rec tm m c K
  | _ => false
def opE (tm : Tm) (m : Mem) (o : Op) (K : Value → Mem → Bool) : Bool := match o with
  | .move x => opd tm x fun v => K v m
  | .assign x => opd tm x fun v => K v m
  | .pick c a b => pickE tm c a b fun v => K v m
  | .build ty ps => buildE P tm ty ps fun v => K v m
  | .load ty a => loadE P tm m.t ty a fun v => K v m
  | .nilCheck x => nilE tm x fun v => K v m
  | .binOp op ty x y _ => binE P tm op ty x y fun v => K v m
  | .unOp op _ x => unE tm op x fun v => K v m
  | .convert src dst x => convE P tm src dst x fun v => K v m
  | .makeFunc fn a c => funE tm fn a c fun v => K v m
  | .slice ty x lo hi mx => match mx with
    | some mx => sub3E P tm m.t ty x lo hi mx fun v => K v m
    | none => subE P tm m.t ty x lo hi fun v => K v m
  | .fieldAddr s x f => fieldAE P tm s x f fun v => K v m
  | .field s x f => fieldE P tm s x f fun v => K v m
  | .indexAddr ty x i => indexAE P tm ty x i fun v => K v m
  | .index ty x i => indexE P tm ty x i fun v => K v m
  | .lookup ty x i c => lookupE P tm m.t ty x i c fun v => K v m
  | .extract x i => extractE tm x i fun v => K v m
  | .alloc e => zeroK P e fun z => newK m (newR z e) .ptr K
  | .box e x => boxE tm e x fun ob sh => newK m ob sh K
  | .buildSlice ty len ps => bsliceE P tm ty len ps fun ob sh => newK m ob sh K
  | .makeSlice ty l c => msliceE P tm ty l c fun ob sh => newK m ob sh K
  | .makeMap _ r => match r with
    | none => newK m (.map [] 0) .mp K
    | some _ => false
  | .store ty a x => storeE P tm m ty a x K
  | .insert ty mp k x => updE P tm m ty mp k x K
  | .mapUpdate ty mp k x => updE P tm m ty mp k x K
  | .call c => callE P X rec tm m c K
  | _ => false
/-- Is an operation to be done? -/
def yesB (v : Value) (want : Bool) (K : Bool → Bool) : Bool := match v with
  | .bool b => match b with
    | true => K want
    | false => K (!want)
  | _ => K false
def wantK (ops : List Oper) (tm : Tm) (o : Oper) (K : Bool → Bool) : Bool := match o.guard with
  | none => K true
  | some p => match nth ops p.1 with
    | some oj => match oj.dst with
      | some d => opd tm (.tmp d) fun v => yesB v p.2 K
      | none => false
    | none => false
def putD (tm : Tm) (d : Option Nat) (v : Value) (K : Tm → Bool) : Bool := match d with
  | none => K tm
  | some i => bif Nat.ble (i + 1) tm.n then putT tm.t i (some v) fun t => K ⟨tm.n, t⟩ else false
def listK (ops : List Oper) : List Oper → Tm → Mem → (Tm → Mem → Bool) → Bool
  | [], tm, m, K => K tm m
  | o :: l, tm, m, K => wantK ops tm o fun b => match b with
    | true => opE P X rec tm m o.op fun v m => putD tm o.dst v fun tm => listK ops l tm m K
    | false => putD tm o.dst undef fun tm => listK ops l tm m K
variable (drawn : List Oper → Tm → Mem → (Tm → Mem → Bool) → Bool)
def seqK (b : Code) (e : Ex) (tm : Tm) (m : Mem) (K : Ex → Tm → Mem → Bool) : Bool := match e with
  | .normal => rec b tm m K
  | .exit i => K (.exit i) tm m
  | .ret => K .ret tm m
def blockK (id : Nat) (e : Ex) (tm : Tm) (m : Mem) (K : Ex → Tm → Mem → Bool) : Bool := match e with
  | .normal => K .normal tm m
  | .exit i => bif Nat.beq i id then K .normal tm m else K (.exit i) tm m
  | .ret => K .ret tm m
def condK (v : Value) (a b : Code) (tm : Tm) (m : Mem) (K : Ex → Tm → Mem → Bool) : Bool := match v with
  | .bool c => match c with
    | true => rec a tm m K
    | false => rec b tm m K
  | _ => false
def stepK (c : Code) (tm : Tm) (m : Mem) (K : Ex → Tm → Mem → Bool) : Bool := match c with
  | .skip => K .normal tm m
  | .label _ => K .normal tm m
  | .region _ ops d => match d with
    | true => drawn ops.toList tm m fun tm m => K .normal tm m
    | false => listK P X rec ops.toList ops.toList tm m fun tm m => K .normal tm m
  | .seq a b => rec a tm m fun e tm m => seqK rec b e tm m K
  | .cond c a b => opd tm c fun v => condK rec v a b tm m K
  | .block id b => rec b tm m fun e tm m => blockK id e tm m K
  | .loop b => rec b tm m fun e tm m => seqK rec (.loop b) e tm m K
  | .scope b => rec b tm m K
  | .exit id => K (.exit id) tm m
  | .ret => K .ret tm m
  | _ => false
end
/-! ### Regions that draw their order -/
def tb (m n : Nat) : Bool := Nat.beq ((m / 2 ^ n) % 2) 1
def subM (a b : Nat) : Bool := Nat.beq (Nat.land a b) a
def bindE (e : Edge) : Bool := match e.ground with
  | .textOnly _ => false
  | .gcOnly _ => false
  | _ => true
def maskE (acc : List Nat) : List Edge → Nat → Nat
  | [], s => s
  | e :: l, s => maskE acc l (bif bindE e then Nat.lor (Nat.lor s (2 ^ e.on)) (match nth acc e.on with | some b => b | none => 0) else s)
def snoc (l : List Nat) (x : Nat) : List Nat := match l with
  | [] => [x]
  | y :: l => y :: snoc l x
/-- What stands ahead of each operation. -/
def bitsL : List Oper → List Nat → List Nat
  | [], acc => acc
  | o :: l, acc => bitsL l (snoc acc (maskE acc o.after.toList 0))
def allI {α : Type} (f : Nat → α → Bool) : Nat → List α → Bool
  | _, [] => true
  | i, o :: l => bif f i o then allI f (i + 1) l else false
def isDst (t : Nat) (o : Oper) : Bool := match o.dst with
  | some d => Nat.beq d t
  | none => false
/-- A temporary that an operation names is nobody's or that of one ahead of it. -/
def seesOk (ops : List Oper) (b : Nat) (x : Operand) : Bool := match x with
  | .tmp t => allI (fun i o => bif isDst t o then tb b i else true) 0 ops
  | _ => true
def oneDst (ops : List Oper) (j : Nat) (o : Oper) : Bool := match o.dst with
  | some d => allI (fun i o => bif isDst d o then Nat.beq i j else true) 0 ops
  | none => true
/-- A condition stands on an operation ahead. -/
def guardOk (ops : List Oper) (b : Nat) (o : Oper) : Bool := match o.guard with
  | none => true
  | some p => bif tb b p.1 then match nth ops p.1 with
    | some oj => match oj.dst with
      | some _ => true
      | none => false
    | none => false else false
def statJ (ops : List Oper) (j : Nat) (o : Oper) (b : Nat) : Bool := bif oneDst ops j o then bif guardOk ops b o then allL (seesOk ops b) o.op.operands.toList else false else false
def stat (ops : List Oper) (B : List Nat) : Bool := allI (fun j o => match nth B j with
  | some b => statJ ops j o b
  | none => false) 0 ops
def lowO (i : Nat) (o : Oper) : Bool := allL (fun e : Edge => bif bindE e then Nat.ble (e.on + 1) i else true) o.after.toList
/-- From here on each operation stands behind all others. -/
def cutN : List Nat → Nat → Nat → Nat
  | [], _, n => n
  | b :: B, i, n => bif Nat.beq (Nat.land b (2 ^ i - 1)) (2 ^ i - 1) then cutN B (i + 1) n else cutN B (i + 1) (i + 1)
def firstL {α : Type} : Nat → List α → List α
  | 0, _ => []
  | n + 1, l => match l with
    | [] => []
    | x :: l => x :: firstL n l
def lastL {α : Type} : Nat → List α → List α
  | 0, l => l
  | n + 1, l => match l with
    | [] => []
    | _ :: l => lastL n l
inductive Ki where
  | rd | al | wr
def kindB : Builtin → Ki
  | .append => .wr
  | .unsafeString => .wr
  | .clear => .wr
  | _ => .rd
def kindC : Callee → Ki
  | .builtin b => kindB b
  | _ => .wr
def kind : Op → Ki
  | .alloc _ => .al
  | .box _ _ => .al
  | .buildSlice _ _ _ => .al
  | .makeSlice _ _ _ => .al
  | .makeMap _ _ => .al
  | .store _ _ _ => .wr
  | .insert _ _ _ _ => .wr
  | .mapUpdate _ _ _ _ => .wr
  | .call c => kindC c.callee
  | _ => .rd
/-- A block that is to be made: its operation, its number, what it holds. -/
structure AB where
  i : Nat
  g : Nat
  ob : Ob
/-- The blocks of the operations in a set are put into memory. -/
def addA (b : Nat) : List AB → Tr → (Tr → Bool) → Bool
  | [], t, K => K t
  | x :: l, t, K => bif tb b x.i then match t.get x.g with
      | some _ => addA b l t K
      | none => putT t x.g (some x.ob) fun t => addA b l t K
    else addA b l t K
/-- The memory when the writing operations of a set are done. -/
structure Snap where
  I : Nat
  m : Mem
/-- A writing operation that was done: behind which set, with which operands. -/
structure WL where
  i : Nat
  vals : List Value
  v : Value
  al : List AB
section
variable (P : Program) (X : ExtT) (rec : CodeT) (ops : List Oper) (B : List Nat) (n0 : Nat)
def quiet1 (t : Tr) (o : Oper) (i : Nat) (tm : Tm) (al : List AB) (K : Tm → List AB → Bool) : Bool := wantK ops tm o fun b => match b with
  | false => putD tm o.dst undef fun tm => K tm al
  | true => match kind o.op with
    | .wr => false
    | .al => alE P tm o.op fun ob sh => forceN (n0 + i) fun g => putD tm o.dst (sh.val g) fun tm => K tm (⟨i, g, ob⟩ :: al)
    | .rd => rdE P tm t o.op fun v => putD tm o.dst v fun tm => K tm al
def isWr (o : Oper) : Bool := match kind o.op with
  | .wr => true
  | _ => false
/-- Operations of a set that do not write and are not done, one behind the other. -/
def quietK (sel : Nat) (t : Tr) : List Oper → Nat → Nat → Tm → List AB → (Nat → Tm → List AB → Bool) → Bool
  | [], _, D, tm, al, K => K D tm al
  | o :: l, i, D, tm, al, K => bif (bif tb sel i then bif tb D i then true else isWr o else true) then quietK sel t l (i + 1) D tm al K else
    forceN (Nat.lor D (2 ^ i)) fun D => quiet1 P ops n0 t o i tm al fun tm al => quietK sel t l (i + 1) D tm al K
/-- The operations that write, in the order of the text; ahead of each those that it needs. -/
def runK : List Oper → Nat → Nat → Tm → List AB → Snap → List Snap → List WL → (Nat → Tm → List AB → Snap → List Snap → List WL → Bool) → Bool
  | [], _, D, tm, al, s, S, W, K => K D tm al s S W
  | o :: l, i, D, tm, al, s, S, W, K => match isWr o with
    | false => runK l (i + 1) D tm al s S W K
    | true => match nth B i with
      | none => false
      | some b => quietK P ops n0 b s.m.t ops 0 D tm al fun D tm al => forceN (Nat.lor D (2 ^ i)) fun D => wantK ops tm o fun c => match c with
        | false => putD tm o.dst undef fun tm => runK l (i + 1) D tm al s S W K
        | true => opds tm o.op.operands.toList fun vals => addA b al s.m.t fun t => wrE P X rec tm ⟨s.m.next, t⟩ o.op fun v m => putD tm o.dst v fun tm =>
          forceN (Nat.lor s.I (2 ^ i)) fun I => runK l (i + 1) D tm al ⟨I, m⟩ (s :: S) (⟨i, vals, v, al⟩ :: W) K
/-- Each operation that wrote stands behind the one before. -/
def chainOk : List WL → Bool
  | [] => true
  | w :: W => match W with
    | [] => true
    | v :: _ => match nth B w.i with
      | some b => bif tb b v.i then chainOk W else false
      | none => false
def dstIs (tm : Tm) (o : Oper) (v : Value) : Bool := match o.dst with
  | none => true
  | some d => bif Nat.ble (d + 1) tm.n then opd tm (.tmp d) fun u => eqV 1000 v u else false
/-- The blocks ahead of it were there. -/
def alCov (b : Nat) (wal : List AB) (x : AB) : Bool := bif tb b x.i then anyL (fun y : AB => Nat.beq y.i x.i) wal else true
def valsOk (tm : Tm) (al : List AB) : List WL → Bool
  | [] => true
  | w :: W => match nth ops w.i with
    | some o => wantK ops tm o fun c => match c with
      | false => false
      | true => opds tm o.op.operands.toList fun vs => bif eqVs 1000 vs w.vals then bif dstIs tm o w.v then (match nth B w.i with
        | some b => bif allL (alCov b w.al) al then valsOk tm al W else false
        | none => false) else false else false
    | none => false
/-- A row that nobody else has part in, or a map. -/
def freshB (o : Ob) : Bool := match o with
  | .row _ _ _ _ top st => bif top then (match st with
    | [] => true
    | _ :: _ => false) else false
  | .map _ _ => true
def uniqA : List AB → Bool
  | [] => true
  | x :: l => bif allL (fun y : AB => !Nat.beq y.i x.i) l then uniqA l else false
/-- None of the set's operations stands behind. -/
def noneAhead (i : Nat) (I : Nat) : Nat → List Nat → Bool
  | _, [] => true
  | j, b :: l => bif (bif tb I j then tb b i else false) then false else noneAhead i I (j + 1) l
/-- An operation reads the same if it is done at this point. -/
def sameJ (tm : Tm) (al : List AB) (wm : Nat) (s : Snap) (i : Nat) (o : Oper) (b : Nat) : Bool := wantK ops tm o fun c => match c with
  | false => dstIs tm o undef
  | true => match kind o.op with
    | .wr => tb wm i
    | .al => anyL (fun x : AB => Nat.beq x.i i) al
    | .rd => bif (bif subM (Nat.land b wm) s.I then noneAhead i s.I 0 B else false) then rdE P tm s.m.t o.op fun v => dstIs tm o v else true
def sameAt (tm : Tm) (al : List AB) (wm : Nat) (s : Snap) : Bool := allI (fun i o => match nth B i with
  | none => false
  | some b => sameJ P ops B tm al wm s i o b) 0 ops
def eqNs : List Nat → List Nat → Bool
  | [], [] => true
  | [], _ :: _ => false
  | _ :: _, [] => false
  | x :: l, y :: m => bif Nat.beq x y then eqNs l m else false
def eqB (a b : Bool) : Bool := match a with
  | true => b
  | false => !b
/-- A new row or map. -/
def eqOb (a b : Ob) : Bool := match a with
  | .row c e x u t s => match b with
    | .row c' e' x' u' t' s' => bif eqVs 100000 c c' then bif Nat.beq e e' then bif eqB x x' then bif Nat.beq u u' then bif eqB t t' then eqNs s s' else false else false else false else false else false
    | .map _ _ => false
  | .map es k => match b with
    | .row _ _ _ _ _ _ => false
    | .map es' k' => match es with
      | [] => match es' with
        | [] => Nat.beq k k'
        | _ :: _ => false
      | _ :: _ => false
/-- The blocks that are made, once more. -/
def allocJ (tm : Tm) (x : AB) : Bool := bif Nat.beq x.g (n0 + x.i) then (match nth ops x.i with
  | none => false
  | some o => wantK ops tm o fun c => match c with
    | false => false
    | true => bif freshB x.ob then alE P tm o.op fun ob sh => bif eqOb ob x.ob then dstIs tm o (sh.val x.g) else false else false) else false
/-- Which of them are in memory. -/
def domJ (s : Snap) (x : AB) : Bool := match s.m.t.get x.g with
  | none => noneAhead x.i s.I 0 B
  | some _ => !noneAhead x.i s.I 0 B
def domAt (al : List AB) (s : Snap) : Bool := allL (domJ B s) al
def doneM : Nat → List Oper → Nat
  | _, [] => 0
  | i, _ :: l => Nat.lor (2 ^ i) (doneM (i + 1) l)
/-- The operations that are done in any order. -/
def openK (tm : Tm) (m : Mem) (K : Tm → Mem → Bool) : Bool :=
  forceN (m.next + lenL ops) fun nx => runK P X rec ops B m.next ops 0 0 tm [] ⟨0, ⟨nx, m.t⟩⟩ [] [] fun D tm al s S W =>
    quietK P ops m.next (doneM 0 ops) s.m.t ops 0 D tm al fun D tm al =>
      bif uniqA al then bif chainOk B W then bif valsOk ops B tm al W then bif allL (sameAt P ops B tm al s.I) (s :: S) then bif allL (allocJ P ops m.next tm) al then bif allL (domAt B al) (s :: S) then
        addA (doneM 0 ops) al s.m.t fun t => K tm ⟨s.m.next, t⟩ else false else false else false else false else false else false
end
def bitsR (ops : List Oper) : List Nat := bitsL ops []
def cutR (ops : List Oper) : Nat := cutN (bitsR ops) 0 0
def preR (ops : List Oper) : List Oper := firstL (cutR ops) ops
def restR (ops : List Oper) : List Oper := lastL (cutR ops) ops
def preB (ops : List Oper) : List Nat := firstL (cutR ops) (bitsR ops)
def statR (ops : List Oper) : Bool := bif allI lowO 0 ops then stat (preR ops) (preB ops) else false
def drawK (P : Program) (X : ExtT) (rec : CodeT) (ops : List Oper) (tm : Tm) (m : Mem) (K : Tm → Mem → Bool) : Bool :=
  bif statR ops then openK P X rec (preR ops) (preB ops) tm m fun tm m => listK P X rec ops (restR ops) tm m K else false
def codeK (P : Program) (X : ExtT) : Nat → CodeT
  | 0 => fun _ _ _ _ => false
  | n + 1 => stepK P X (codeK P X n) (drawK P X (codeK P X n))
end AC.Ev

