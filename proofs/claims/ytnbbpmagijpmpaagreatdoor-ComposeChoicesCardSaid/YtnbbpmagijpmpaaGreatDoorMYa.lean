/-
  Closed calls by reflection: the evaluator.
-/
import GoSem.Step
import Derived.Test.YtnbbpmagijpmpaaGreatDoorMBase
set_option linter.unusedVariables false
set_option linter.unusedSimpArgs false
namespace AC.Ev
open Go
inductive Trie (α:Type) where
 | nil
 | node (v:Option α) (l r:Trie α)
section
variable {α:Type}
def Trie.get:Trie α->Nat->Option α
 | .nil,_=>none
 | .node v l r,n=>bif Nat.beq n 0 then v else bif Nat.beq (n%2) 1 then l.get (n/2)else r.get (n/2-1)
def Trie.vCt:Nat->Trie α->Nat->Option α->(Trie α->Bool)->Bool
 | 0,_,_,_,_=>false
 | f+1,t,n,o,K=>match t with
  | .nil=>bif Nat.beq n 0 then K (.node o .nil .nil)else bif Nat.beq (n%2) 1 then Trie.vCt f .nil (n/2) o (fun l=>K (.node none l .nil))else Trie.vCt f .nil (n/2-1) o (fun r=>K (.node none .nil r))
  | .node v l r=>bif Nat.beq n 0 then K (.node o l r)else bif Nat.beq (n%2) 1 then Trie.vCt f l (n/2) o (fun l=>K (.node v l r))else Trie.vCt f r (n/2-1) o (fun r=>K (.node v l r))
def uyv(t:Trie α)(n:Nat)(o:Option α)(K:Trie α->Bool):Bool:=Trie.vCt 40 t n o K
def nth:List α->Nat->Option α
 | [],_=>none
 | x::l,n=>match n with
  | 0=>some x
  | n+1=>nth l n
def uki:List α->Nat
 | []=>0
 | _::l=>uki l+1
def ugp:List α->Nat->Nat->(List α->Bool)->Bool
 | l,i,0,K=>K []
 | [],_,_+1,_=>false
 | x::l,i,n+1,K=>match i with
  | 0=>ugp l 0 n fun l'=>K (x::l')
  | i+1=>ugp l i (n+1) K
def uD4:List α->List α->(List α->Bool)->Bool
 | [],m,K=>K m
 | x::l,m,K=>uD4 l m fun l'=>K (x::l')
def uD5:Nat->List α->(List α->Bool)->Bool
 | 0,_,K=>K []
 | n+1,z,K=>uD5 n z fun l=>uD4 z l K
def uGk:List α->Nat->α->(List α->Bool)->Bool
 | [],_,_,_=>false
 | x::l,n,v,K=>match n with
  | 0=>K (v::l)
  | n+1=>uGk l n v fun l'=>K (x::l')
def uD6:List α->Nat->List α->(List α->Bool)->Bool
 | l,_,[],K=>K l
 | l,i,v::vs,K=>uGk l i v fun l'=>uD6 l' (i+1) vs K
def umm(f:α->Bool):List α->Bool
 | []=>true
 | x::l=>bif f x then umm f l else false
def uGl(f:α->Bool):List α->Bool
 | []=>false
 | x::l=>bif f x then true else uGl f l
end
inductive Ob where
 | row (cells:List Value) (elem:TypeId) (ex:Bool) (un:Nat) (top:Bool) (stale:List Nat)
 | map (es:List MapEntry) (clock:Nat)
abbrev Tr:=Trie Ob
structure Tm where
 n:Nat
 t:Trie Value
structure Mem where
 next:Nat
 t:Tr
def eqU:List UInt8->List UInt8->Bool
 | [],[]=>true
 | [],_::_=>false
 | _::_,[]=>false
 | x::l,y::m=>bif Nat.beq x.toNat y.toNat then eqU l m else false
def ltU:List UInt8->List UInt8->Bool
 | _,[]=>false
 | [],_::_=>true
 | x::l,y::m=>bif Nat.ble (x.toNat+1) y.toNat then true else bif Nat.beq x.toNat y.toNat then ltU l m else false
def uaa(n:Nat)(K:Nat->Bool):Bool:=match n with
 | 0=>K 0
 | k+1=>K (Nat.succ k)
def uJj(n:Int)(K:Int->Bool):Bool:=match n with
 | .ofNat k=>uaa k fun k=>K (.ofNat k)
 | .negSucc k=>uaa k fun k=>K (.negSucc k)
def uiv(b:Bool)(K:Bool->Bool):Bool:=match b with
 | true=>K true
 | false=>K false
def ltI(a b:Int):Bool:=match a with
 | .ofNat a=>match b with
  | .ofNat b=>Nat.ble (a+1) b
  | .negSucc _=>false
 | .negSucc a=>match b with
  | .ofNat _=>true
  | .negSucc b=>Nat.ble (b+1) a
def eqI(a b:Int):Bool:=match a with
 | .ofNat a=>match b with
  | .ofNat b=>Nat.beq a b
  | .negSucc _=>false
 | .negSucc a=>match b with
  | .ofNat _=>false
  | .negSucc b=>Nat.beq a b
def uFu(a b:Int):Int:=match a with
 | .ofNat a=>match b with
  | .ofNat b=> .ofNat (a+b)
  | .negSucc b=>bif Nat.ble (b+1) a then .ofNat (a-(b+1))else .negSucc (b-a)
 | .negSucc a=>match b with
  | .ofNat b=>bif Nat.ble (a+1) b then .ofNat (b-(a+1))else .negSucc (a-b)
  | .negSucc b=> .negSucc (a+b+1)
def uHr:Int->Int
 | .ofNat a=>match a with
  | 0=> .ofNat 0
  | k+1=> .negSucc k
 | .negSucc a=> .ofNat (a+1)
def uGm:IntKind->Nat
 | .i8=>0 | .i16=>1 | .i32=>2 | .i64=>3 | .u8=>4 | .u16=>5 | .u32=>6 | .u64=>7
def unp(j k:IntKind):Bool:=Nat.beq (uGm j) (uGm k)
def utx:IntKind->Nat
 | .i8=>8 | .u8=>8 | .i16=>16 | .u16=>16 | .i32=>32 | .u32=>32 | .i64=>64 | .u64=>64
def sgn:IntKind->Bool
 | .i8=>true | .i16=>true | .i32=>true | .i64=>true | .u8=>false | .u16=>false | .u32=>false | .u64=>false
def uD7(k:IntKind)(n:Int)(K:Int->Bool):Bool:=match sgn k with
 | true=>match n with
  | .ofNat a=>bif Nat.ble (a+1) (2^(utx k-1))then uaa a fun a=>K (.ofNat a)else false
  | .negSucc a=>bif Nat.ble (a+1) (2^(utx k-1))then uaa a fun a=>K (.negSucc a)else false
 | false=>match n with
  | .ofNat a=>uaa (a%2^utx k) fun a=>K (.ofNat a)
  | .negSucc a=>uaa (2^utx k-1-a%2^utx k) fun a=>K (.ofNat a)
def uD8(k:IntKind)(n:Int)(K:Value->Bool):Bool:=uD7 k n fun n=>K (.int k n)
def unq(b:Bool)(K:Value->Bool):Bool:=match b with
 | true=>K (.bool true)
 | false=>K (.bool false)
def bytesOf(s:ByteArray):List UInt8:=s.data.toList
def ptr(g off:Nat):Value:= .pointer (some ⟨g,off,none⟩)
def sli(g off len cap:Nat):Value:= .slice (some ⟨g,off,none⟩) len cap
def uls(a:Addr)(K:Nat->Nat->Bool):Bool:=match a.spot with
 | none=>K a.block a.off
 | some _=>false
mutual
def eqV:Nat->Value->Value->Bool
 | 0,_,_=>false
 | f+1,x,y=>match x,y with
  | .bool true,.bool true=>true
  | .bool false,.bool false=>true
  | .int j a,.int k b=>bif unp j k then eqI a b else false
  | .string s,.string t=>eqU (bytesOf s) (bytesOf t)
  | .pointer none,.pointer none=>true
  | .pointer (some ⟨b,o,none⟩),.pointer (some ⟨c,p,none⟩)=>bif Nat.beq b c then Nat.beq o p else false
  | .slice none l c,.slice none m d=>bif Nat.beq l m then Nat.beq c d else false
  | .slice (some ⟨b,o,none⟩) l c,.slice (some ⟨b',o',none⟩) m d=>bif Nat.beq b b' then bif Nat.beq o o' then bif Nat.beq l m then Nat.beq c d else false else false else false
  | .map none,.map none=>true
  | .map (some a),.map (some b)=>Nat.beq a b
  | .nilFunc,.nilFunc=>true
  | .nilIface,.nilIface=>true
  | .func (.func g) a c,.func (.func h) b d=>bif Nat.beq g h then bif vCr f a.toList b.toList then vCr f c.toList d.toList else false else false
  | .agg a,.agg b=>vCr f a.toList b.toList
  | .tuple a,.tuple b=>vCr f a.toList b.toList
  | _,_=>false
def vCr:Nat->List Value->List Value->Bool
 | 0,_,_=>false
 | _+1,[],[]=>true
 | f+1,x::l,y::m=>bif eqV f x y then vCr f l m else false
 | _+1,_,_=>false
end
def uiw:Value->Bool
 | .bool _=>true
 | .int _ _=>true
 | .string _=>true
 | .pointer a=>match a with
  | none=>true
  | some _=>false
 | .slice a _ _=>match a with
  | none=>true
  | some _=>false
 | .map a=>match a with
  | none=>true
  | some _=>false
 | .nilFunc=>true
 | .nilIface=>true
 | _=>false
def opd(tm:Tm)(x:Operand)(K:Value->Bool):Bool:=match x with
 | .tmp t=>match tm.t.get t with
  | some v=>K v
  | none=>K undef
 | .const v=>bif uiw v then K v else false
 | .func f=>K (.func (.func f) #[] #[])
 | .global g=>bif Nat.ble (g+1) 1000 then K (ptr g 0)else false
def uyw(tm:Tm):List Operand->(List Value->Bool)->Bool
 | [],K=>K []
 | x::l,K=>opd tm x fun v=>uyw tm l fun vs=>K (v::vs)
def unr(tm:Tm):List (Nat×Operand)->(List (Nat×Value)->Bool)->Bool
 | [],K=>K []
 | p::l,K=>opd tm p.2 fun v=>unr tm l fun vs=>K ((p.1,v)::vs)
def ujp(v:Value)(K:Nat->Bool):Bool:=match v with
 | .int _ n=>match n with
  | .ofNat n=>K n
  | .negSucc _=>false
 | _=>false
def uty(v:Value)(K:Nat->Nat->Bool):Bool:=match v with
 | .pointer a=>match a with
  | some a=>uls a K
  | none=>false
 | _=>false
def asAgg(v:Value)(K:List Value->Bool):Bool:=match v with
 | .agg cs=>K cs.toList
 | _=>false
def uwb(v:Value)(K:List UInt8->Bool):Bool:=match v with
 | .string s=>K (bytesOf s)
 | _=>false
def utz(v:Value)(Kn:Nat->Nat->Bool)(K:Nat->Nat->Nat->Nat->Bool):Bool:=match v with
 | .slice a l c=>match a with
  | none=>Kn l c
  | some a=>uls a fun g off=>K g off l c
 | _=>false
def cellsOf(v:Value):List Value:=match v with
 | .agg cs=>cs.toList
 | v=>[v]
section
variable (P:Program)
def isSome{α:Type}:Option α->Bool
 | none=>false
 | some _=>true
def ufx(t:TypeId)(K:Nat->Bool):Bool:=match P.info? t with
 | some i=>K i.size
 | none=>false
def uJk:TypeDesc->Bool
 | .struct _=>true
 | .array _ _=>true
 | _=>false
def isAgg(t:TypeId)(K:Bool->Bool):Bool:=match P.underlying t with
 | some d=>uiv (uJk d) K
 | none=>false
def uGn:Value->Bool
 | .agg cs=>umm uiw cs.toList
 | v=>uiw v
def zeroV(t:TypeId)(K:Value->Bool):Bool:=match P.info? t with
 | some i=>match i.zero with
  | some z=>bif uGn z then K z else false
  | none=>false
 | none=>false
def ult(t:TypeId)(K:List Value->Bool):Bool:=zeroV P t fun z=>K (cellsOf z)
def ulu(t:TypeId)(K:List Field->Bool):Bool:=match P.underlying t with
 | some d=>match d with
  | .struct fs=>K fs.toList
  | _=>false
 | none=>false
def uha(t:TypeId)(K:TypeId->Bool):Bool:=match P.underlying t with
 | some d=>match d with
  | .slice e=>K e
  | _=>false
 | none=>false
def uHs(t:TypeId)(K:TypeId->TypeId->Bool):Bool:=match P.underlying t with
 | some d=>match d with
  | .map k e=>K k e
  | _=>false
 | none=>false
def up0(t:TypeId)(cs:List Value)(off:Nat)(K:Value->Bool):Bool:=
 isAgg P t fun b=>match b with
  | true=>ufx P t fun n=>ugp cs off n fun l=>K (.agg ⟨l⟩)
  | false=>match nth cs off with
   | some v=>K v
   | none=>false
def rowOf(t:Tr)(g:Nat)(K:List Value->TypeId->Bool->Nat->Bool->List Nat->Bool):Bool:=match t.get g with
 | some o=>match o with
  | .row c e x u p s=>K c e x u p s
  | .map _ _=>false
 | none=>false
def mapOf(t:Tr)(g:Nat)(K:List MapEntry->Nat->Bool):Bool:=match t.get g with
 | some o=>match o with
  | .row _ _ _ _ _ _=>false
  | .map es c=>K es c
 | none=>false
def ut1(tm:Tm)(t:Tr)(ty:TypeId)(a:Operand)(K:Value->Bool):Bool:=opd tm a fun v=>uty v fun g off=>rowOf t g fun c _ _ _ _ _=>up0 P ty c off K
def uAd(tm:Tm)(c a b:Operand)(K:Value->Bool):Bool:=opd tm c fun v=>match v with
 | .bool b'=>match b' with
  | true=>opd tm a K
  | false=>opd tm b K
 | _=>false
def uAe(fs:List Field):List (Nat×Value)->List Value->(List Value->Bool)->Bool
 | [],z,K=>K z
 | p::ps,z,K=>match nth fs p.1 with
  | some f=>ufx P f.type fun n=>bif Nat.ble 1 n then bif Nat.beq (uki (cellsOf p.2)) n then uD6 z f.offset (cellsOf p.2) fun z=>uAe fs ps z K else false else false
  | none=>false
def uwe(n:Nat):List (Nat×Value)->List Value->(List Value->Bool)->Bool
 | [],z,K=>K z
 | p::ps,z,K=>bif Nat.ble 1 n then bif Nat.beq (uki (cellsOf p.2)) n then uD6 z (p.1*n) (cellsOf p.2) fun z=>uwe n ps z K else false else false
def urm(tm:Tm)(ty:TypeId)(ps:Array (Nat×Operand))(K:Value->Bool):Bool:=ult P ty fun z=>unr tm ps.toList fun ps=>match P.underlying ty with
 | some d=>match d with
  | .struct fs=>bif umm (fun f:Field=>isSome (P.info? f.type)) fs.toList then uAe P fs.toList ps z fun l=>K (.agg ⟨l⟩)else false
  | .array _ e=>ufx P e fun n=>uwe n ps z fun l=>K (.agg ⟨l⟩)
  | _=>false
 | none=>false
def uHt(tm:Tm)(x:Operand)(K:Value->Bool):Bool:=opd tm x fun v=>match v with
 | .pointer a=>match a with
  | some a=>K (.pointer (some a))
  | none=>false
 | .func fn a b=>match fn with
  | .func f=>K (.func (.func f) a b)
  | _=>false
 | _=>false
def uur:TypeDesc->Nat
 | .bool=>1
 | .pointer _=>2
 | .slice _=>3
 | .map _ _=>4
 | .func _ _ _=>5
 | _=>0
def uAf(t:TypeId)(n:Nat):Bool:=match P.underlying t with
 | some d=>Nat.beq (uur d) n
 | none=>false
def ut2{α:Type}(a b:Option α)(K:Bool->Bool):Bool:=match a with
 | none=>uiv (!isSome b) K
 | some _=>match b with
  | none=>K false
  | some _=>false
def uus(t:TypeId)(x y:Value)(K:Bool->Bool):Bool:=match x with
 | .int j a=>match y with
  | .int k b=>bif unp j k then uiv (eqI a b) K else false
  | _=>false
 | .string a=>match y with
  | .string b=>uiv (eqU (bytesOf a) (bytesOf b)) K
  | _=>false
 | .bool a=>match y with
  | .bool b=>bif uAf P t 1 then(match a with
   | true=>uiv b K
   | false=>uiv (!b) K)else false
  | _=>false
 | .pointer a=>match y with
  | .pointer b=>bif uAf P t 2 then ut2 a b K else false
  | _=>false
 | .slice a _ _=>match y with
  | .slice b _ _=>bif uAf P t 3 then ut2 a b K else false
  | _=>false
 | .map a=>match y with
  | .map b=>bif uAf P t 4 then ut2 a b K else false
  | _=>false
 | .nilFunc=>match y with
  | .nilFunc=>bif uAf P t 5 then K true else false
  | .func _ _ _=>bif uAf P t 5 then K false else false
  | _=>false
 | .func _ _ _=>match y with
  | .nilFunc=>bif uAf P t 5 then K false else false
  | _=>false
 | _=>false
def uns(op:BinOp)(k:IntKind)(a b:Int)(K:Value->Bool):Bool:=match op with
 | .add=>uD8 k (uFu a b) K
 | .sub=>uD8 k (uFu a (uHr b)) K
 | .mul=>match a with
  | .ofNat m=>match b with
   | .ofNat n=>uD8 k (.ofNat (m*n)) K
   | .negSucc _=>false
  | .negSucc _=>false
 | .quo=>match a with
  | .ofNat m=>match b with
   | .ofNat n=>match n with
    | 0=>false
    | n+1=>uD8 k (.ofNat (m/(n+1))) K
   | .negSucc _=>false
  | .negSucc _=>false
 | .rem=>match a with
  | .ofNat m=>match b with
   | .ofNat n=>match n with
    | 0=>false
    | n+1=>uaa (m%(n+1)) fun r=>K (.int k (.ofNat r))
   | .negSucc _=>false
  | .negSucc _=>false
 | .lss=>unq (ltI a b) K
 | .leq=>unq (!ltI b a) K
 | .gtr=>unq (ltI b a) K
 | .geq=>unq (!ltI a b) K
 | _=>false
def uGo(op:BinOp)(x y:Value)(K:Value->Bool):Bool:=match x with
 | .int j a=>match y with
  | .int k b=>bif unp j k then uns op j a b K else false
  | _=>false
 | .string a=>match y with
  | .string b=>match op with
   | .add=>uD4 (bytesOf a) (bytesOf b) fun l=>bif Nat.ble (uki l) 1000000 then K (.string ⟨⟨l⟩⟩)else false
   | .lss=>unq (ltU (bytesOf a) (bytesOf b)) K
   | _=>false
  | _=>false
 | _=>false
def uHu(tm:Tm)(op:BinOp)(t:TypeId)(x y:Operand)(K:Value->Bool):Bool:=opd tm x fun v=>opd tm y fun w=>match op with
 | .eql=>uus P t v w fun b=>K (.bool b)
 | .neq=>uus P t v w fun b=>unq (!b) K
 | op=>uGo op v w K
def unE(tm:Tm)(op:UnOp)(x:Operand)(K:Value->Bool):Bool:=opd tm x fun v=>match op with
 | .not=>match v with
  | .bool b=>unq (!b) K
  | _=>false
 | .neg=>match v with
  | .int k n=>uD8 k (uHr n) K
  | _=>false
 | _=>false
def uAg(tm:Tm)(src dst:TypeId)(x:Operand)(K:Value->Bool):Bool:=opd tm x fun v=>match P.underlying src with
 | some _=>match P.underlying dst with
  | some d=>match d with
   | .int k=>match v with
    | .int _ n=>uD8 k n K
    | _=>false
   | .string=>match v with
    | .string s=>K (.string s)
    | _=>false
   | _=>false
  | none=>false
 | none=>false
def uHv(tm:Tm)(fn:Fn)(a c:Array Operand)(K:Value->Bool):Bool:=match fn with
 | .func f=>uyw tm a.toList fun a=>uyw tm c.toList fun c=>K (.func (.func f) ⟨a⟩ ⟨c⟩)
 | _=>false
def uD9(tm:Tm)(x:Option Operand)(d:Nat)(K:Nat->Bool):Bool:=match x with
 | none=>K d
 | some x=>opd tm x fun v=>ujp v K
def uHw(tm:Tm)(t:Tr)(ty:TypeId)(x:Operand)(lo hi:Option Operand)(K:Value->Bool):Bool:=opd tm x fun v=>match v with
 | .string s=>match P.underlying ty with
  | some d=>match d with
   | .string=>uD9 tm hi (uki (bytesOf s)) fun h=>uD9 tm lo 0 fun l=>bif Nat.ble l h then bif Nat.ble h (uki (bytesOf s))then ugp (bytesOf s) l (h-l) fun r=>K (.string ⟨⟨r⟩⟩)else false else false
   | _=>false
  | none=>false
 | .slice a len cap=>uha P ty fun e=>uD9 tm hi len fun h=>uD9 tm lo 0 fun l=>bif Nat.ble l h then bif Nat.ble h cap then ufx P e fun n=>uaa (h-l) fun len=>uaa (cap-l) fun cap=>match a with
  | none=>K (.slice none len cap)
  | some a=>uls a fun g off=>rowOf t g fun _ _ ex un _ _=>bif (bif ex then true else Nat.beq un n)then uaa (off+l*n) fun o=>K (sli g o len cap)else false
  else false else false
 | _=>false
def uAh(tm:Tm)(t:Tr)(ty:TypeId)(x:Operand)(lo hi:Option Operand)(mx:Operand)(K:Value->Bool):Bool:=opd tm x fun v=>match v with
 | .slice a len cap=>match a with
  | none=>false
  | some a=>uha P ty fun e=>opd tm mx fun mv=>ujp mv fun m=>match hi with
   | none=>false
   | some hi=>opd tm hi fun hv=>ujp hv fun h=>uD9 tm lo 0 fun l=>bif Nat.ble l h then bif Nat.ble h m then bif Nat.ble m cap then ufx P e fun n=>uaa (h-l) fun len=>uaa (m-l) fun cap=>
    uls a fun g off=>rowOf t g fun _ _ ex un _ _=>bif (bif ex then true else Nat.beq un n)then uaa (off+l*n) fun o=>K (sli g o len cap)else false
   else false else false else false
 | _=>false
def ulv(tm:Tm)(s:TypeId)(x:Operand)(f:Nat)(K:Value->Bool):Bool:=opd tm x fun v=>uty v fun g off=>ulu P s fun fs=>match nth fs f with
 | some f=>ufx P f.type fun n=>match n with
  | 0=>false
  | _+1=>uaa (off+f.offset) fun o=>K (ptr g o)
 | none=>false
def urn(tm:Tm)(s:TypeId)(x:Operand)(f:Nat)(K:Value->Bool):Bool:=opd tm x fun v=>asAgg v fun cs=>ulu P s fun fs=>match nth fs f with
 | some f=>up0 P f.type cs f.offset K
 | none=>false
def ulw(tm:Tm)(ty:TypeId)(x i:Operand)(K:Value->Bool):Bool:=opd tm x fun v=>opd tm i fun i=>ujp i fun i=>match P.underlying ty with
 | some d=>match d with
  | .slice e=>utz v (fun _ _=>false) fun g off len _=>bif Nat.ble (i+1) len then ufx P e fun n=>uaa (off+i*n) fun o=>K (ptr g o)else false
  | .array len e=>uty v fun g off=>bif Nat.ble (i+1) len then ufx P e fun n=>uaa (off+i*n) fun o=>K (ptr g o)else false
  | _=>false
 | none=>false
def uro(tm:Tm)(ty:TypeId)(x i:Operand)(K:Value->Bool):Bool:=opd tm x fun v=>opd tm i fun i=>ujp i fun i=>match P.underlying ty with
 | some d=>match d with
  | .array len e=>asAgg v fun cs=>bif Nat.ble (i+1) len then ufx P e fun n=>up0 P e cs (i*n) K else false
  | .string=>uwb v fun s=>match nth s i with
   | some b=>uaa b.toNat fun n=>K (.int .u8 (.ofNat n))
   | none=>false
  | _=>false
 | none=>false
def uhx(tm:Tm)(x:Operand)(i:Nat)(K:Value->Bool):Bool:=opd tm x fun v=>match v with
 | .tuple vs=>match nth vs.toList i with
  | some v=>K v
  | none=>false
 | _=>false
def unt(k:Value):List MapEntry->Nat->(Option (Nat×Value)->Bool)->Bool
 | [],_,K=>K none
 | e::es,i,K=>match k with
  | .int j a=>match e.key with
   | .int l b=>bif unp j l then bif eqI a b then K (some (i,e.val))else unt k es (i+1) K else false
   | _=>false
  | .string a=>match e.key with
   | .string b=>bif eqU (bytesOf a) (bytesOf b)then K (some (i,e.val))else unt k es (i+1) K
   | _=>false
  | _=>false
def vA4(t:TypeId)(k:Value):Bool:=match P.underlying t with
 | some d=>match d with
  | .int _=>match k with
   | .int _ _=>true
   | _=>false
  | .string=>match k with
   | .string _=>true
   | _=>false
  | _=>false
 | none=>false
def okV(v:Value)(ok:Bool)(c:Bool)(K:Value->Bool):Bool:=match c with
 | true=>K (.tuple #[v,.bool ok])
 | false=>K v
def ulx(tm:Tm)(t:Tr)(ty:TypeId)(x i:Operand)(c:Bool)(K:Value->Bool):Bool:=opd tm x fun v=>opd tm i fun k=>uHs P ty fun kt e=>bif vA4 P kt k then match v with
 | .map g=>match g with
  | some g=>mapOf t g fun es _=>unt k es 0 fun r=>match r with
   | some p=>okV p.2 true c K
   | none=>zeroV P e fun z=>okV z false c K
  | none=>zeroV P e fun z=>okV z false c K
 | _=>false else false
def uIu(tm:Tm)(t:Tr)(ty:TypeId)(x:Operand)(K:Value->Bool):Bool:=opd tm x fun v=>match P.underlying ty with
 | some d=>match d with
  | .string=>uwb v fun s=>uaa (uki s) fun n=>K (.int .i64 (.ofNat n))
  | .slice _=>match v with
   | .slice _ n _=>K (.int .i64 (.ofNat n))
   | _=>false
  | .map _ _=>match v with
   | .map g=>match g with
    | none=>K (.int .i64 (.ofNat 0))
    | some g=>mapOf t g fun es _=>uaa (uki es) fun n=>K (.int .i64 (.ofNat n))
   | _=>false
  | _=>false
 | none=>false
def uIv(tm:Tm)(t:Tr)(ty:TypeId)(x:Operand)(K:Value->Bool):Bool:=opd tm x fun v=>uha P ty fun _=>match v with
 | .slice a n c=>match a with
  | none=>K (.int .i64 (.ofNat c))
  | some a=>uls a fun g _=>rowOf t g fun _ _ ex _ _ _=>match ex with
   | true=>K (.int .i64 (.ofNat c))
   | false=>false
 | _=>false
def uHx(tm:Tm)(b:Bool)(x y:Operand)(K:Value->Bool):Bool:=opd tm x fun x=>opd tm y fun y=>match x with
 | .int k a=>match y with
  | .int _ c=>bif (bif b then ltI a c else ltI c a)then K (.int k c)else K (.int k a)
  | _=>false
 | _=>false
def uEa(tm:Tm)(x:Operand)(K:Value->Bool):Bool:=opd tm x fun v=>match v with
 | .slice a _ c=>match a with
  | none=>K (.pointer none)
  | some a=>match c with
   | 0=>false
   | _+1=>K (.pointer (some a))
 | _=>false
def uGp(tm:Tm)(t:Tr)(b:Builtin)(T:List TypeId)(args:List Operand)(K:Value->Bool):Bool:=match args with
 | []=>false
 | x::args=>match args with
  | []=>match b with
   | .len=>match T with
    | []=>false
    | ty::_=>uIu P tm t ty x K
   | .cap=>match T with
    | []=>false
    | ty::_=>uIv P tm t ty x K
   | .unsafeSliceData=>uEa tm x K
   | _=>false
  | y::args=>match args with
   | []=>match b with
    | .max=>uHx tm true x y K
    | .min=>uHx tm false x y K
    | _=>false
   | _::_=>false
def uGq(tm:Tm)(t:Tr)(c:Call)(K:Value->Bool):Bool:=match c.callee with
 | .builtin b=>uGp P tm t b c.argTypes.toList c.args.toList K
 | _=>false
def rdE(tm:Tm)(t:Tr)(o:Op)(K:Value->Bool):Bool:=match o with
 | .move x=>opd tm x K
 | .assign x=>opd tm x K
 | .pick c a b=>uAd tm c a b K
 | .build ty ps=>urm P tm ty ps K
 | .load ty a=>ut1 P tm t ty a K
 | .nilCheck x=>uHt tm x K
 | .binOp op ty x y _=>uHu P tm op ty x y K
 | .unOp op _ x=>unE tm op x K
 | .convert src dst x=>uAg P tm src dst x K
 | .makeFunc fn a c=>uHv tm fn a c K
 | .slice ty x lo hi mx=>match mx with
  | some mx=>uAh P tm t ty x lo hi mx K
  | none=>uHw P tm t ty x lo hi K
 | .fieldAddr s x f=>ulv P tm s x f K
 | .field s x f=>urn P tm s x f K
 | .indexAddr ty x i=>ulw P tm ty x i K
 | .index ty x i=>uro P tm ty x i K
 | .lookup ty x i c=>ulx P tm t ty x i c K
 | .extract x i=>uhx tm x i K
 | .call c=>uGq P tm t c K
 | _=>false
inductive Sh where
 | ptr|sl (len cap:Nat)|mp
def Sh.val(g:Nat):Sh->Value
 | .ptr=>Ev.ptr g 0
 | .sl n c=>sli g 0 n c
 | .mp=> .map (some g)
def uFv(c:List Value)(e:TypeId):Ob:= .row c e true 0 true []
def uIw(tm:Tm)(e:TypeId)(x:Operand)(K:Ob->Sh->Bool):Bool:=opd tm x fun v=>K (uFv (cellsOf v) e) .ptr
def up1(tm:Tm)(ty:TypeId)(len:Nat)(ps:Array (Nat×Operand))(K:Ob->Sh->Bool):Bool:=uha P ty fun e=>ufx P e fun n=>ult P e fun z=>bif Nat.beq (uki z) n then bif Nat.ble (len*n) 16777216 then
 uD5 len z fun z=>unr tm ps.toList fun ps=>uwe n ps z fun l=>K (uFv l e) (.sl len len)else false else false
def up2(tm:Tm)(ty:TypeId)(l c:Operand)(K:Ob->Sh->Bool):Bool:=uha P ty fun e=>opd tm l fun l=>opd tm c fun c=>ujp l fun l=>ujp c fun c=>match P.info? e with
 | some i=>ult P e fun z=>bif Nat.beq (uki z) i.size then bif Nat.ble l c then bif Nat.ble c 1000000 then bif Nat.ble i.bytes 1000000 then uD5 c z fun z=>K (uFv z e) (.sl l c)else false else false else false else false
 | none=>false
def alE(tm:Tm)(o:Op)(K:Ob->Sh->Bool):Bool:=match o with
 | .alloc e=>ult P e fun z=>K (uFv z e) .ptr
 | .box e x=>uIw tm e x K
 | .buildSlice ty len ps=>up1 P tm ty len ps K
 | .makeSlice ty l c=>up2 P tm ty l c K
 | .makeMap _ r=>match r with
  | none=>K (.map [] 0) .mp
  | some _=>false
 | _=>false
end
inductive Ex where
 | normal|exit (id:Nat)|ret
def ut3:List Nat->Tr->(Tr->Bool)->Bool
 | [],t,K=>K t
 | g::l,t,K=>uyv t g none fun t=>ut3 l t K
section
variable (P:Program)
def vBa:Value->Bool
 | .agg _=>false
 | .tuple _=>false
 | _=>true
def unu(m:Mem)(g off:Nat)(vs:List Value)(K:Mem->Bool):Bool:=rowOf m.t g fun c e x u top s=>match top with
 | true=>bif umm vBa vs then uD6 c off vs fun c=>ut3 s m.t fun t=>uyv t g (some (.row c e x u true [])) fun t=>K ⟨m.next,t⟩else false
 | false=>false
def uwf(m:Mem)(ob:Ob)(sh:Sh)(K:Value->Mem->Bool):Bool:=uaa m.next fun g=>uyv m.t g (some ob) fun t=>K (sh.val g) ⟨g+1,t⟩
def urp(tm:Tm)(m:Mem)(ty:TypeId)(a x:Operand)(K:Value->Mem->Bool):Bool:=opd tm a fun a=>opd tm x fun x=>uty a fun g off=>ufx P ty fun n=>
 bif Nat.beq (uki (cellsOf x)) n then unu m g off (cellsOf x) fun m=>K undef m else false
def uIx:List MapEntry->MapEntry->(List MapEntry->Bool)->Bool
 | [],e,K=>K [e]
 | x::l,e,K=>uIx l e fun l=>K (x::l)
def uGr:List MapEntry->Nat->Value->Value->(List MapEntry->Bool)->Bool
 | [],_,_,_,_=>false
 | e::l,i,k,x,K=>match i with
  | 0=>K (⟨k,x,e.born⟩::l)
  | i+1=>uGr l i k x fun l=>K (e::l)
def uFw(tm:Tm)(m:Mem)(ty:TypeId)(mp k x:Operand)(K:Value->Mem->Bool):Bool:=opd tm mp fun mp=>opd tm k fun k=>opd tm x fun x=>uHs P ty fun kt _=>bif vA4 P kt k then match mp with
 | .map g=>match g with
  | some g=>mapOf m.t g fun es clock=>unt k es 0 fun r=>match r with
   | none=>uIx es ⟨k,x,clock⟩ fun es=>uyv m.t g (some (.map es (clock+1))) fun t=>K undef ⟨m.next,t⟩
   | some p=>uGr es p.1 k x fun es=>uyv m.t g (some (.map es clock)) fun t=>K undef ⟨m.next,t⟩
  | none=>false
 | _=>false else false
def uIy(t:Tr)(xT e:TypeId)(size:Nat)(x:Value)(K:Nat->List Value->Bool):Bool:=match P.underlying xT with
 | some d=>match d with
  | .int _=>match x with
   | .int k n=>match k with
    | .i64=>match n with
     | .ofNat n=>bif Nat.ble n 1000000 then ult P e fun z=>bif Nat.beq (uki z) size then uD5 n z fun l=>K n l else false else false
     | .negSucc _=>false
    | _=>false
   | _=>false
  | .slice _=>utz x (fun n _=>match n with|0=>K 0 []|_+1=>false) fun g off n _=>rowOf t g fun c _ _ _ _ _=>ugp c off (n*size) fun l=>K n l
  | .string=>uwb x fun s=>K (uki s) (s.map fun b=> .int .u8 b.toNat)
  | _=>false
 | none=>false
def uEb(m:Mem)(e:TypeId)(size g off sl need:Nat)(new:List Value)(K:Value->Mem->Bool):Bool:=rowOf m.t g fun c el ex un top st=>ugp c off (sl*size) fun old=>uD4 old new fun cells=>match ex with
 | true=>uwf m (.row cells e false size true []) (.sl need need) K
 | false=>match top with
  | false=>false
  | true=>bif Nat.beq el e then bif Nat.beq un size then ugp c 0 (off+sl*size) fun pre=>
   ut3 st m.t fun t=>uyv t g (some (.row pre el false un false [])) fun t=>uwf ⟨m.next,t⟩ (.row cells e false un true [g]) (.sl need need) K else false else false
def up3 (m : Mem) (T : List TypeId) (s x : Value) (K : Value -> Mem -> Bool) : Bool := match T with
  | [] => false
  | sT :: T => match T with
    | [] => false
    | xT :: _ => uha P sT fun e => match P.info? e with
      | none => false
      | some ei => bif Nat.ble ei.bytes 1000000 then bif Nat.ble 1 ei.bytes then ult P e fun z => bif Nat.beq (uki z) ei.size then uIy P m.t xT e ei.size x fun n new => bif Nat.beq (uki new) (n * ei.size) then bif umm vBa new then match n with
        | 0 => utz s (fun l c => bif Nat.ble l c then K (.slice none l c) m else false) fun g off l c => K (sli g off l c) m
        | _ + 1 => utz s
          (fun l c => bif Nat.beq l 0 then bif Nat.beq c 0 then bif Nat.ble n 1000000 then uwf m (.row new e false ei.size true []) (.sl n n) K else false else false else false)
          (fun g off sl sc => uaa (sl + n) fun need => bif Nat.ble need 1000000 then bif Nat.ble need sc
            then unu m g (off + sl * ei.size) new fun m => K (sli g off need sc) m
            else uEb m e ei.size g off sl need new K else false) else false else false else false else false else false
def uAi:List Value->(List UInt8->Bool)->Bool
 | [],K=>K []
 | v::l,K=>match v with
  | .int k n=>match k with
   | .u8=>match n with
    | .ofNat n=>bif Nat.ble (n+1) 256 then uAi l fun r=>K (UInt8.ofNat n::r)else false
    | .negSucc _=>false
   | _=>false
  | _=>false
def uEc (m : Mem) (ty : TypeId) (p n : Value) (K : Value -> Mem -> Bool) : Bool := ujp n fun n => match p with
  | .pointer a => match n with
    | 0 => K (.string ⟨⟨[]⟩⟩) m
    | _ + 1 => bif Nat.ble n 1000000 then match a with
      | none => false
      | some a => uls a fun g off => match P.underlying ty with
        | some d => match d with
          | .pointer e => match P.underlying e with
            | some d => match d with
              | .int _ => ufx P e fun z => bif Nat.beq z 1 then rowOf m.t g fun c el ex un top st => match top with
                | true => bif Nat.beq el e then ugp c off n fun cs => uAi cs fun l => ut3 (g :: st) m.t fun t => K (.string ⟨⟨l⟩⟩) ⟨m.next, t⟩ else false
                | false => false else false
              | _ => false
            | none => false
          | _ => false
        | none => false else false
  | _ => false
def uwg (m : Mem) (T : List TypeId) (x : Value) (K : Value -> Mem -> Bool) : Bool := match T with
  | [] => false
  | ty :: _ => match P.underlying ty with
    | none => false
    | some d => match d with
      | .slice e => match x with
        | .slice a n _ => match a with
          | none => K undef m
          | some a => match n with
            | 0 => K undef m
            | _ + 1 => ult P e fun z => bif Nat.ble 1 (uki z) then uD5 n z fun vs => uls a fun g off => unu m g off vs fun m => K undef m else false
        | _ => false
      | _ => false
def one(args:List Value)(K:Value->Bool):Bool:=match args with
 | []=>false
 | x::l=>match l with
  | []=>K x
  | _::_=>false
abbrev ue9:=Code->Tm->Mem->(Ex->Tm->Mem->Bool)->Bool
abbrev unv:=Nat->Option (Mem->List Value->(Value->Mem->Bool)->Bool)
variable (X:unv) (rec:ue9)
def uFx(t:Tr)(tm:Tm):List ResultVar->(List Value->Bool)->Bool
 | [],K=>K []
 | r::l,K=>match r with
  | .tmp i=>opd tm (.tmp i) fun v=>uFx t tm l fun vs=>K (v::vs)
  | .cell i ty=>ut1 P tm t ty (.tmp i) fun v=>uFx t tm l fun vs=>K (v::vs)
def uHy:List Value->Nat->Trie Value->(Trie Value->Bool)->Bool
 | [],_,t,K=>K t
 | v::l,i,t,K=>uyv t i (some v) fun t=>uHy l (i+1) t K
def uIz(vs:List Value)(K:Value->Bool):Bool:=match vs with
 | []=>K (.tuple #[])
 | v::l=>match l with
  | []=>K v
  | _::_=>K (.tuple ⟨vs⟩)
def uJ5(e:Ex)(K:Bool):Bool:=match e with
 | .exit _=>false
 | .normal=>K
 | .ret=>K
def uAj(m:Mem)(f:Nat)(args:List Value)(K:Value->Mem->Bool):Bool:=match X f with
 | some E=>E m args K
 | none=>match P.funcs[f]? with
 | none=>false
 | some fn=>match fn.body with
  | none=>false
  | some c=>bif Nat.ble (uki args) fn.ntmps then uHy args 0 .nil fun t=>rec c ⟨fn.ntmps,t⟩ m fun e tm m=>uJ5 e (uFx P m.t tm fn.results.toList fun vs=>uIz vs fun v=>K v m)else false
def uGs(m:Mem)(f:Value)(args:List Value)(K:Value->Mem->Bool):Bool:=match f with
 | .func fn a cp=>match fn with
  | .func f=>uD4 args cp.toList fun args=>uD4 a.toList args fun args=>uAj P X rec m f args K
  | _=>false
 | _=>false
def two(args:List Value)(K:Value->Value->Bool):Bool:=match args with
 | []=>false
 | x::l=>match l with
  | []=>false
  | y::l=>match l with
   | []=>K x y
   | _::_=>false
def uAk(tm:Tm)(m:Mem)(c:Call)(K:Value->Mem->Bool):Bool:=match c.callee with
 | .value f=>opd tm f fun f=>uyw tm c.args.toList fun args=>uGs P X rec m f args K
 | .builtin b=>match b with
  | .append=>uyw tm c.args.toList fun args=>two args fun s x=>up3 P m c.argTypes.toList s x K
  | .unsafeString=>uyw tm c.args.toList fun args=>two args fun p n=>match c.argTypes.toList with
   | []=>false
   | ty::_=>uEc P m ty p n K
  | .clear=>uyw tm c.args.toList fun args=>one args fun x=>uwg P m c.argTypes.toList x K
  | b=>uGp P tm m.t b c.argTypes.toList c.args.toList fun v=>K v m
 | _=>false
def wrE(tm:Tm)(m:Mem)(o:Op)(K:Value->Mem->Bool):Bool:=match o with
 | .store ty a x=>urp P tm m ty a x K
 | .insert ty mp k x=>uFw P tm m ty mp k x K
 | .mapUpdate ty mp k x=>uFw P tm m ty mp k x K
 | .call c=>uAk P X rec tm m c K
 | _=>false
def opE(tm:Tm)(m:Mem)(o:Op)(K:Value->Mem->Bool):Bool:=match o with
 | .move x=>opd tm x fun v=>K v m
 | .assign x=>opd tm x fun v=>K v m
 | .pick c a b=>uAd tm c a b fun v=>K v m
 | .build ty ps=>urm P tm ty ps fun v=>K v m
 | .load ty a=>ut1 P tm m.t ty a fun v=>K v m
 | .nilCheck x=>uHt tm x fun v=>K v m
 | .binOp op ty x y _=>uHu P tm op ty x y fun v=>K v m
 | .unOp op _ x=>unE tm op x fun v=>K v m
 | .convert src dst x=>uAg P tm src dst x fun v=>K v m
 | .makeFunc fn a c=>uHv tm fn a c fun v=>K v m
 | .slice ty x lo hi mx=>match mx with
  | some mx=>uAh P tm m.t ty x lo hi mx fun v=>K v m
  | none=>uHw P tm m.t ty x lo hi fun v=>K v m
 | .fieldAddr s x f=>ulv P tm s x f fun v=>K v m
 | .field s x f=>urn P tm s x f fun v=>K v m
 | .indexAddr ty x i=>ulw P tm ty x i fun v=>K v m
 | .index ty x i=>uro P tm ty x i fun v=>K v m
 | .lookup ty x i c=>ulx P tm m.t ty x i c fun v=>K v m
 | .extract x i=>uhx tm x i fun v=>K v m
 | .alloc e=>ult P e fun z=>uwf m (uFv z e) .ptr K
 | .box e x=>uIw tm e x fun ob sh=>uwf m ob sh K
 | .buildSlice ty len ps=>up1 P tm ty len ps fun ob sh=>uwf m ob sh K
 | .makeSlice ty l c=>up2 P tm ty l c fun ob sh=>uwf m ob sh K
 | .makeMap _ r=>match r with
  | none=>uwf m (.map [] 0) .mp K
  | some _=>false
 | .store ty a x=>urp P tm m ty a x K
 | .insert ty mp k x=>uFw P tm m ty mp k x K
 | .mapUpdate ty mp k x=>uFw P tm m ty mp k x K
 | .call c=>uAk P X rec tm m c K
 | _=>false
def uI0(v:Value)(want:Bool)(K:Bool->Bool):Bool:=match v with
 | .bool b=>match b with
  | true=>K want
  | false=>K (!want)
 | _=>K false
def ujq(ops:List Oper)(tm:Tm)(o:Oper)(K:Bool->Bool):Bool:=match o.guard with
 | none=>K true
 | some p=>match nth ops p.1 with
  | some oj=>match oj.dst with
   | some d=>opd tm (.tmp d) fun v=>uI0 v p.2 K
   | none=>false
  | none=>false
def uAl(tm:Tm)(d:Option Nat)(v:Value)(K:Tm->Bool):Bool:=match d with
 | none=>K tm
 | some i=>bif Nat.ble (i+1) tm.n then uyv tm.t i (some v) fun t=>K ⟨tm.n,t⟩else false
def ut4(ops:List Oper):List Oper->Tm->Mem->(Tm->Mem->Bool)->Bool
 | [],tm,m,K=>K tm m
 | o::l,tm,m,K=>ujq ops tm o fun b=>match b with
  | true=>opE P X rec tm m o.op fun v m=>uAl tm o.dst v fun tm=>ut4 ops l tm m K
  | false=>uAl tm o.dst undef fun tm=>ut4 ops l tm m K
variable (drawn:List Oper->Tm->Mem->(Tm->Mem->Bool)->Bool)
def uHz(b:Code)(e:Ex)(tm:Tm)(m:Mem)(K:Ex->Tm->Mem->Bool):Bool:=match e with
 | .normal=>rec b tm m K
 | .exit i=>K (.exit i) tm m
 | .ret=>K .ret tm m
def uCs(id:Nat)(e:Ex)(tm:Tm)(m:Mem)(K:Ex->Tm->Mem->Bool):Bool:=match e with
 | .normal=>K .normal tm m
 | .exit i=>bif Nat.beq i id then K .normal tm m else K (.exit i) tm m
 | .ret=>K .ret tm m
def uGt(v:Value)(a b:Code)(tm:Tm)(m:Mem)(K:Ex->Tm->Mem->Bool):Bool:=match v with
 | .bool c=>match c with
  | true=>rec a tm m K
  | false=>rec b tm m K
 | _=>false
def uGu(c:Code)(tm:Tm)(m:Mem)(K:Ex->Tm->Mem->Bool):Bool:=match c with
 | .skip=>K .normal tm m
 | .label _=>K .normal tm m
 | .region _ ops d=>match d with
  | true=>drawn ops.toList tm m fun tm m=>K .normal tm m
  | false=>ut4 P X rec ops.toList ops.toList tm m fun tm m=>K .normal tm m
 | .seq a b=>rec a tm m fun e tm m=>uHz rec b e tm m K
 | .cond c a b=>opd tm c fun v=>uGt rec v a b tm m K
 | .block id b=>rec b tm m fun e tm m=>uCs id e tm m K
 | .loop b=>rec b tm m fun e tm m=>uHz rec (.loop b) e tm m K
 | .scope b=>rec b tm m K
 | .exit id=>K (.exit id) tm m
 | .ret=>K .ret tm m
 | _=>false
end
def tb(m n:Nat):Bool:=Nat.beq ((m/2^n)%2) 1
def uGv(a b:Nat):Bool:=Nat.beq (Nat.land a b) a
def up4(e:Edge):Bool:=match e.ground with
 | .textOnly _=>false
 | .gcOnly _=>false
 | _=>true
def uAm(acc:List Nat):List Edge->Nat->Nat
 | [],s=>s
 | e::l,s=>uAm acc l (bif up4 e then Nat.lor (Nat.lor s (2^e.on)) (match nth acc e.on with|some b=>b|none=>0)else s)
def snoc(l:List Nat)(x:Nat):List Nat:=match l with
 | []=>[x]
 | y::l=>y::snoc l x
def ut5:List Oper->List Nat->List Nat
 | [],acc=>acc
 | o::l,acc=>ut5 l (snoc acc (uAm acc o.after.toList 0))
def uCt{α:Type}(f:Nat->α->Bool):Nat->List α->Bool
 | _,[]=>true
 | i,o::l=>bif f i o then uCt f (i+1) l else false
def uAn(t:Nat)(o:Oper):Bool:=match o.dst with
 | some d=>Nat.beq d t
 | none=>false
def uwh(ops:List Oper)(b:Nat)(x:Operand):Bool:=match x with
 | .tmp t=>uCt (fun i o=>bif uAn t o then tb b i else true) 0 ops
 | _=>true
def uwi(ops:List Oper)(j:Nat)(o:Oper):Bool:=match o.dst with
 | some d=>uCt (fun i o=>bif uAn d o then Nat.beq i j else true) 0 ops
 | none=>true
def up5(ops:List Oper)(b:Nat)(o:Oper):Bool:=match o.guard with
 | none=>true
 | some p=>bif tb b p.1 then match nth ops p.1 with
  | some oj=>match oj.dst with
   | some _=>true
   | none=>false
  | none=>false else false
def uEd(ops:List Oper)(j:Nat)(o:Oper)(b:Nat):Bool:=bif uwi ops j o then bif up5 ops b o then umm (uwh ops b) o.op.operands.toList else false else false
def stat(ops:List Oper)(B:List Nat):Bool:=uCt (fun j o=>match nth B j with
 | some b=>uEd ops j o b
 | none=>false) 0 ops
def uJm(i:Nat)(o:Oper):Bool:=umm (fun e:Edge=>bif up4 e then Nat.ble (e.on+1) i else true) o.after.toList
def uCu:List Nat->Nat->Nat->Nat
 | [],_,n=>n
 | b::B,i,n=>bif Nat.beq (Nat.land b (2^i-1)) (2^i-1)then uCu B (i+1) n else uCu B (i+1) (i+1)
def uiy{α:Type}:Nat->List α->List α
 | 0,_=>[]
 | n+1,l=>match l with
  | []=>[]
  | x::l=>x::uiy n l
def ut6{α:Type}:Nat->List α->List α
 | 0,l=>l
 | n+1,l=>match l with
  | []=>[]
  | _::l=>ut6 n l
inductive Ki where
 | rd|al|wr
def uI1:Builtin->Ki
 | .append=> .wr
 | .unsafeString=> .wr
 | .clear=> .wr
 | _=> .rd
def uI2:Callee->Ki
 | .builtin b=>uI1 b
 | _=> .wr
def kind:Op->Ki
 | .alloc _=> .al
 | .box _ _=> .al
 | .buildSlice _ _ _=> .al
 | .makeSlice _ _ _=> .al
 | .makeMap _ _=> .al
 | .store _ _ _=> .wr
 | .insert _ _ _ _=> .wr
 | .mapUpdate _ _ _ _=> .wr
 | .call c=>uI2 c.callee
 | _=> .rd
structure AB where
 i:Nat
 g:Nat
 ob:Ob
def uEe(b:Nat):List AB->Tr->(Tr->Bool)->Bool
 | [],t,K=>K t
 | x::l,t,K=>bif tb b x.i then match t.get x.g with
  | some _=>uEe b l t K
  | none=>uyv t x.g (some x.ob) fun t=>uEe b l t K
  else uEe b l t K
structure vAq where
 I:Nat
 m:Mem
structure WL where
 i:Nat
 vals:List Value
 v:Value
 al:List AB
section
variable (P:Program) (X:unv) (rec:ue9) (ops:List Oper) (B:List Nat) (n0:Nat)
def uwj(t:Tr)(o:Oper)(i:Nat)(tm:Tm)(al:List AB)(K:Tm->List AB->Bool):Bool:=ujq ops tm o fun b=>match b with
 | false=>uAl tm o.dst undef fun tm=>K tm al
 | true=>match kind o.op with
  | .wr=>false
  | .al=>alE P tm o.op fun ob sh=>uaa (n0+i) fun g=>uAl tm o.dst (sh.val g) fun tm=>K tm (⟨i,g,ob⟩::al)
  | .rd=>rdE P tm t o.op fun v=>uAl tm o.dst v fun tm=>K tm al
def uEf(o:Oper):Bool:=match kind o.op with
 | .wr=>true
 | _=>false
def ukj(sel:Nat)(t:Tr):List Oper->Nat->Nat->Tm->List AB->(Nat->Tm->List AB->Bool)->Bool
 | [],_,D,tm,al,K=>K D tm al
 | o::l,i,D,tm,al,K=>bif (bif tb sel i then bif tb D i then true else uEf o else true)then ukj sel t l (i+1) D tm al K else
  uaa (Nat.lor D (2^i)) fun D=>uwj P ops n0 t o i tm al fun tm al=>ukj sel t l (i+1) D tm al K
def uFy:List Oper->Nat->Nat->Tm->List AB->vAq->List vAq->List WL->(Nat->Tm->List AB->vAq->List vAq->List WL->Bool)->Bool
 | [],_,D,tm,al,s,S,W,K=>K D tm al s S W
 | o::l,i,D,tm,al,s,S,W,K=>match uEf o with
  | false=>uFy l (i+1) D tm al s S W K
  | true=>match nth B i with
   | none=>false
   | some b=>ukj P ops n0 b s.m.t ops 0 D tm al fun D tm al=>uaa (Nat.lor D (2^i)) fun D=>ujq ops tm o fun c=>match c with
    | false=>uAl tm o.dst undef fun tm=>uFy l (i+1) D tm al s S W K
    | true=>uyw tm o.op.operands.toList fun vals=>uEe b al s.m.t fun t=>wrE P X rec tm ⟨s.m.next,t⟩ o.op fun v m=>uAl tm o.dst v fun tm=>
     uaa (Nat.lor s.I (2^i)) fun I=>uFy l (i+1) D tm al ⟨I,m⟩ (s::S) (⟨i,vals,v,al⟩::W) K
def ugq:List WL->Bool
 | []=>true
 | w::W=>match W with
  | []=>true
  | v::_=>match nth B w.i with
   | some b=>bif tb b v.i then ugq W else false
   | none=>false
def ugr(tm:Tm)(o:Oper)(v:Value):Bool:=match o.dst with
 | none=>true
 | some d=>bif Nat.ble (d+1) tm.n then opd tm (.tmp d) fun u=>eqV 1000 v u else false
def uGw(b:Nat)(wal:List AB)(x:AB):Bool:=bif tb b x.i then uGl (fun y:AB=>Nat.beq y.i x.i) wal else true
def unw(tm:Tm)(al:List AB):List WL->Bool
 | []=>true
 | w::W=>match nth ops w.i with
  | some o=>ujq ops tm o fun c=>match c with
   | false=>false
   | true=>uyw tm o.op.operands.toList fun vs=>bif vCr 1000 vs w.vals then bif ugr tm o w.v then(match nth B w.i with
    | some b=>bif umm (uGw b w.al) al then unw tm al W else false
    | none=>false)else false else false
  | none=>false
def ufy(o:Ob):Bool:=match o with
 | .row _ _ _ _ top st=>bif top then(match st with
  | []=>true
  | _::_=>false)else false
 | .map _ _=>true
def uAo:List AB->Bool
 | []=>true
 | x::l=>bif umm (fun y:AB=> !Nat.beq y.i x.i) l then uAo l else false
def ual(i:Nat)(I:Nat):Nat->List Nat->Bool
 | _,[]=>true
 | j,b::l=>bif (bif tb I j then tb b i else false)then false else ual i I (j+1) l
def uGx(tm:Tm)(al:List AB)(wm:Nat)(s:vAq)(i:Nat)(o:Oper)(b:Nat):Bool:=ujq ops tm o fun c=>match c with
 | false=>ugr tm o undef
 | true=>match kind o.op with
  | .wr=>tb wm i
  | .al=>uGl (fun x:AB=>Nat.beq x.i i) al
  | .rd=>bif (bif uGv (Nat.land b wm) s.I then ual i s.I 0 B else false)then rdE P tm s.m.t o.op fun v=>ugr tm o v else true
def sameAt(tm:Tm)(al:List AB)(wm:Nat)(s:vAq):Bool:=uCt (fun i o=>match nth B i with
 | none=>false
 | some b=>uGx P ops B tm al wm s i o b) 0 ops
def uH0:List Nat->List Nat->Bool
 | [],[]=>true
 | [],_::_=>false
 | _::_,[]=>false
 | x::l,y::m=>bif Nat.beq x y then uH0 l m else false
def eqB(a b:Bool):Bool:=match a with
 | true=>b
 | false=> !b
def uH1(a b:Ob):Bool:=match a with
 | .row c e x u t s=>match b with
  | .row c' e' x' u' t' s'=>bif vCr 100000 c c' then bif Nat.beq e e' then bif eqB x x' then bif Nat.beq u u' then bif eqB t t' then uH0 s s' else false else false else false else false else false
  | .map _ _=>false
 | .map es k=>match b with
  | .row _ _ _ _ _ _=>false
  | .map es' k'=>match es with
   | []=>match es' with
    | []=>Nat.beq k k'
    | _::_=>false
   | _::_=>false
def urq(tm:Tm)(x:AB):Bool:=bif Nat.beq x.g (n0+x.i)then(match nth ops x.i with
 | none=>false
 | some o=>ujq ops tm o fun c=>match c with
  | false=>false
  | true=>bif ufy x.ob then alE P tm o.op fun ob sh=>bif uH1 ob x.ob then ugr tm o (sh.val x.g)else false else false)else false
def uJn(s:vAq)(x:AB):Bool:=match s.m.t.get x.g with
 | none=>ual x.i s.I 0 B
 | some _=> !ual x.i s.I 0 B
def uEg(al:List AB)(s:vAq):Bool:=umm (uJn B s) al
def unx:Nat->List Oper->Nat
 | _,[]=>0
 | i,_::l=>Nat.lor (2^i) (unx (i+1) l)
def uEh(tm:Tm)(m:Mem)(K:Tm->Mem->Bool):Bool:=
 uaa (m.next+uki ops) fun nx=>uFy P X rec ops B m.next ops 0 0 tm [] ⟨0,⟨nx,m.t⟩⟩ [] [] fun D tm al s S W=>
  ukj P ops m.next (unx 0 ops) s.m.t ops 0 D tm al fun D tm al=>
   bif uAo al then bif ugq B W then bif unw ops B tm al W then bif umm (sameAt P ops B tm al s.I) (s::S)then bif umm (urq P ops m.next tm) al then bif umm (uEg B al) (s::S)then
    uEe (unx 0 ops) al s.m.t fun t=>K tm ⟨s.m.next,t⟩else false else false else false else false else false else false
end
def uny(ops:List Oper):List Nat:=ut5 ops []
def uAp(ops:List Oper):Nat:=uCu (uny ops) 0 0
def uGy(ops:List Oper):List Oper:=uiy (uAp ops) ops
def uGz(ops:List Oper):List Oper:=ut6 (uAp ops) ops
def preB(ops:List Oper):List Nat:=uiy (uAp ops) (uny ops)
def uG0(ops:List Oper):Bool:=bif uCt uJm 0 ops then stat (uGy ops) (preB ops)else false
def uEi(P:Program)(X:unv)(rec:ue9)(ops:List Oper)(tm:Tm)(m:Mem)(K:Tm->Mem->Bool):Bool:=
 bif uG0 ops then uEh P X rec (uGy ops) (preB ops) tm m fun tm m=>ut4 P X rec ops (uGz ops) tm m K else false
def uAq(P:Program)(X:unv):Nat->ue9
 | 0=>fun _ _ _ _=>false
 | n+1=>uGu P X (uAq P X n) (uEi P X (uAq P X n))
end AC.Ev
