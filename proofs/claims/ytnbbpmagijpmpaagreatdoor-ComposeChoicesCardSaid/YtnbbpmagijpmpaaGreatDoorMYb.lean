/-
  Closed calls by reflection: its memory.
-/
import Derived.Test.YtnbbpmagijpmpaaGreatDoorMYa
import Derived.Tactics
import Derived.Laws.Strings
import Derived.Laws.Concat
import Derived.Laws.StructEq
import Derived.Scope
import Derived.LoopN
import Derived.Orders
set_option linter.unusedVariables false
set_option linter.unusedSimpArgs false
namespace AC.Ev
open Go
theorem uk{c x:Bool}:(bif c then x else false)=true↔c=true/\x=true:=by cases c<;>simp
theorem uJ{a b:Nat}:Nat.beq a b=true↔a=b:=Nat.beq_eq▸Iff.rfl
theorem uW{a b:Nat}:Nat.ble a b=true↔a<=b:=by rw[Nat.ble_eq]
theorem uw{n:Nat}{K:Nat->Bool}(h:uaa n K=true):K n=true:=by cases n<;>exact h
theorem uc3{b:Bool}{K:Bool->Bool}(h:uiv b K=true):K b=true:=by cases b<;>exact h
theorem udo{b:Bool}{K:Value->Bool}(h:unq b K=true):K (.bool b)=true:=by cases b<;>exact h
section
variable {α:Type}
theorem uag(v:Option α)(l r:Trie α)(n:Nat):(Trie.node v l r).get n=if n=0 then v else if n%2=1 then l.get (n/2)else r.get (n/2-1):=by
 rw[Trie.get];rcases aK n with h|h
 ·subst h;rfl
 ·have h0:Nat.beq n 0=false:=by
   cases hb:Nat.beq n 0 with
   | false=>rfl
   | true=>have:=uJ.1 hb;omega
  rw[h0,if_neg (by omega)]
  rcases Nat.mod_two_eq_zero_or_one n with h2|h2
  ·rw[h2,if_neg (by omega)];rfl
  ·rw[h2,if_pos rfl];rfl
theorem ubv(n:Nat):(Trie.nil:Trie α).get n=none:=by cases n<;>rfl
theorem uab{c x y:Bool}(h:(bif c then x else y)=true):(c=true/\x=true)\/(c=false/\y=true):=by cases c<;>simp at h<;>simp[h]
theorem uiz:∀(f:Nat) (t:Trie α) (n:Nat) (o:Option α) (K:Trie α->Bool),Trie.vCt f t n o K=true->∃t',K t'=true/\t'.get n=o/\∀j,j≠n->t'.get j=t.get j
 | 0,t,n,o,K,h=>by rw[Trie.vCt]at h;cases h
 | f+1,.nil,n,o,K,h=>by
  rw[Trie.vCt]at h;rcases uab h with⟨h0,h⟩|⟨h0,h⟩
  ·have:=uJ.1 h0
   subst this;refine⟨_,h,by rw[uag,if_pos rfl],fun j hj=>?_⟩
   rw[uag,if_neg hj,ubv,ubv,ubv];split<;>rfl
  ·have hn:n≠0:=fun e=>by subst e;cases h0
   rcases uab h with⟨h1,h⟩|⟨h1,h⟩
   ·have h1:=uJ.1 h1
    obtain⟨t',k,g1,g2⟩:=uiz f .nil _ o _ h;refine⟨_,k,by rw[uag,if_neg hn,if_pos h1,g1],fun j hj=>?_⟩
    rw[uag,ubv];split
    ·rfl
    ·split
     ·rw[g2 _ (by omega),ubv,ubv]
     ·simp only[ubv]
   ·have h1:¬n%2=1:=fun e=>by rw[uJ.2 e]at h1;cases h1
    obtain⟨t',k,g1,g2⟩:=uiz f .nil _ o _ h;refine⟨_,k,by rw[uag,if_neg hn,if_neg h1,g1],fun j hj=>?_⟩
    rw[uag,ubv];split
    ·rfl
    ·split
     ·simp only[ubv]
     ·rw[g2 _ (by omega),ubv,ubv]
 | f+1,.node v l r,n,o,K,h=>by
  rw[Trie.vCt]at h;rcases uab h with⟨h0,h⟩|⟨h0,h⟩
  ·have:=uJ.1 h0
   subst this;refine⟨_,h,by rw[uag,if_pos rfl],fun j hj=>?_⟩
   rw[uag,if_neg hj,uag,if_neg hj]
  ·have hn:n≠0:=fun e=>by subst e;cases h0
   rcases uab h with⟨h1,h⟩|⟨h1,h⟩
   ·have h1:=uJ.1 h1
    obtain⟨t',k,g1,g2⟩:=uiz f l _ o _ h;refine⟨_,k,by rw[uag,if_neg hn,if_pos h1,g1],fun j hj=>?_⟩
    rw[uag,uag];split
    ·rfl
    ·split
     ·exact g2 _ (by omega)
     ·rfl
   ·have h1:¬n%2=1:=fun e=>by rw[uJ.2 e]at h1;cases h1
    obtain⟨t',k,g1,g2⟩:=uiz f r _ o _ h;refine⟨_,k,by rw[uag,if_neg hn,if_neg h1,g1],fun j hj=>?_⟩
    rw[uag,uag];split
    ·rfl
    ·split
     ·rfl
     ·exact g2 _ (by omega)
theorem udp{t:Trie α}{n:Nat}{o:Option α}{K:Trie α->Bool}(h:uyv t n o K=true):∃t',K t'=true/\t'.get n=o/\∀j,j≠n->t'.get j=t.get j:=uiz _ _ _ _ _ h
theorem ubh:∀(l:List α) (n:Nat),nth l n=l[n]?
 | [],n=>by simp[nth]
 | x::l,0=>by simp[nth]
 | x::l,n+1=>by rw[nth,ubh l n];simp
theorem uah:∀(l:List α),uki l=l.length
 | []=>rfl
 | x::l=>by rw[uki,uah l];rfl
theorem ub5:∀(l:List α) (i n:Nat) (K:List α->Bool),ugp l i n K=true->K ((l.drop i).take n)=true/\(n=0\/i+n<=l.length)
 | l,i,0,K,h=>by rw[ugp]at h;exact⟨by simpa using h,.inl rfl⟩
 | [],i,n+1,K,h=>by rw[ugp]at h;cases h
 | x::l,0,n+1,K,h=>by
  rw[ugp]at h;obtain⟨h1,h2⟩:=ub5 l 0 n _ h;refine⟨by simpa using h1,.inr ?_⟩
  rw[aB];omega
 | x::l,i+1,n+1,K,h=>by
  rw[ugp]at h;obtain⟨h1,h2⟩:=ub5 l i (n+1) _ h;refine⟨by simpa using h1,.inr ?_⟩
  rw[aB];omega
theorem ugs:∀(l m:List α) (K:List α->Bool),uD4 l m K=true->K (l++m)=true
 | [],m,K,h=>h
 | x::l,m,K,h=>ugs l m _ h
def uo0:Nat->List α->List α
 | 0,_=>[]
 | n+1,z=>z++uo0 n z
theorem ui0:∀(n:Nat) (z:List α) (K:List α->Bool),uD5 n z K=true->K (uo0 n z)=true
 | 0,z,K,h=>h
 | n+1,z,K,h=>by
  rw[uD5]at h;exact ugs _ _ _ (ui0 n z _ h)
theorem uhy(z:List α):∀n,(uo0 n z).length=n*z.length
 | 0=>by simp[uo0]
 | n+1=>by rw[uo0,ay,uhy z n,Nat.succ_mul,Nat.add_comm]
theorem uwl:∀(l:List α) (n:Nat) (v:α) (K:List α->Bool),uGk l n v K=true->K (l.set n v)=true/\n<l.length
 | [],n,v,K,h=>by rw[uGk]at h;cases h
 | x::l,0,v,K,h=>⟨h,by simp⟩
 | x::l,n+1,v,K,h=>by
  rw[uGk]at h;obtain⟨h1,h2⟩:=uwl l n v _ h;exact⟨h1,by simpa using h2⟩
def ujr:List α->Nat->List α->List α
 | l,_,[]=>l
 | l,i,v::vs=>ujr (l.set i v) (i+1) vs
theorem uly:∀(vs l:List α) (i:Nat) (K:List α->Bool),uD6 l i vs K=true->K (ujr l i vs)=true/\(vs=[]\/i+vs.length<=l.length)
 | [],l,i,K,h=>⟨by rw[ujr];rw[uD6]at h;exact h,.inl rfl⟩
 | v::vs,l,i,K,h=>by
  rw[uD6]at h;obtain⟨h1,h2⟩:=uwl _ _ _ _ h;obtain⟨h3,h4⟩:=uly vs _ _ _ h1;refine⟨h3,.inr ?_⟩;rw[List.length_set]at h4;rw[aB];rcases h4 with h4|h4
  ·subst h4;simp;omega
  ·omega
theorem uew:∀(vs l:List α) (i:Nat),(ujr l i vs).length=l.length
 | [],l,i=>rfl
 | v::vs,l,i=>by rw[ujr,uew vs,List.length_set]
theorem uhz:∀(vs l:List α) (i j:Nat),i+vs.length<=l.length\/vs=[]->(ujr l i vs)[j]? = if i<=j/\j<i+vs.length then vs[j-i]? else l[j]?
 | [],l,i,j,h=>by rw[ujr,if_neg (by rintro⟨h1,h2⟩;simp at h2;omega)]
 | v::vs,l,i,j,h=>by
  have hl:i+(v::vs).length<=l.length:=by rcases h with h|h;exact h;cases h
  rw[aB]at hl;rw[ujr,uhz vs _ _ _ (.inl (by rw[List.length_set];omega))]
  rcases Nat.lt_trichotomy j i with h1|h1|h1
  ·rw[if_neg (by omega),if_neg (by omega),List.getElem?_set_ne (by omega)]
  ·subst h1
   rw[if_neg (by omega),if_pos (by simp),List.getElem?_set_self (by omega)]
   simp
  ·by_cases h2:j<i+1+vs.length
   ·rw[if_pos ⟨by omega,h2⟩,if_pos ⟨by omega,by rw[aB];omega⟩,show j-i=(j-(i+1))+1 by omega]
    simp
   ·rw[if_neg (by omega),if_neg (by rw[aB];omega),List.getElem?_set_ne (by omega)]
theorem ubw(f:α->Bool):∀ {l:List α},umm f l=true->∀x∈l,f x=true
 | [],h,x,hx=>by cases hx
 | y::l,h,x,hx=>by
  rw[umm,uk]at h;rcases List.mem_cons.1 hx with rfl|hx
  ·exact h.1
  ·exact ubw f h.2 x hx
end
theorem unz:∀ {l m:List UInt8},eqU l m=decide (l=m)
 | [],[]=>by simp[eqU]
 | [],_::_=>by simp[eqU]
 | _::_,[]=>by simp[eqU]
 | x::l,y::m=>by
  rw[eqU,unz (l:=l) (m:=m)];by_cases h:x=y
  ·subst h
   rw[uJ.2 rfl];simp
  ·have:Nat.beq x.toNat y.toNat=false:=by
    cases hb:Nat.beq x.toNat y.toNat with
    | false=>rfl
    | true=>exact absurd (UInt8.toNat_inj.1 (uJ.1 hb)) h
   rw[this];simp[h]
theorem uCv:∀ {l m:List UInt8},ltU l m=Op.bytesLess l m
 | _,[]=>by cases ‹List UInt8› <;>rfl
 | [],_::_=>rfl
 | x::l,y::m=>by
  rw[ltU,uCv (l:=l) (m:=m),Op.bytesLess];by_cases h:x.toNat<y.toNat
  ·rw[uW.2 h]
   have:x<y:=UInt8.lt_iff_toNat_lt.2 h;simp[this]
  ·have h1:Nat.ble (x.toNat+1) y.toNat=false:=by
    cases hb:Nat.ble (x.toNat+1) y.toNat with
    | false=>rfl
    | true=>exact absurd (uW.1 hb) h
   have h2:¬x<y:=fun e=>h (UInt8.lt_iff_toNat_lt.1 e)
   rw[h1];by_cases he:x=y
   ·subst he;rw[uJ.2 rfl];simp
   ·have:Nat.beq x.toNat y.toNat=false:=by
     cases hb:Nat.beq x.toNat y.toNat with
     | false=>rfl
     | true=>exact absurd (UInt8.toNat_inj.1 (uJ.1 hb)) he
    rw[this];simp[h2,he]
theorem ukk(a b:Int):ltI a b=decide (a<b):=by
 cases a with
 | ofNat a=>
  cases b with
  | ofNat b=>
   rw[ltI];by_cases h:a<b
   ·rw[uW.2 h];simp;exact h
   ·have:Nat.ble (a+1) b=false:=by
     cases hb:Nat.ble (a+1) b with
     | false=>rfl
     | true=>exact absurd (uW.1 hb) h
    rw[this];simp;omega
  | negSucc b=>rw[ltI];simp;omega
 | negSucc a=>
  cases b with
  | ofNat b=>rw[ltI];simp;omega
  | negSucc b=>
   rw[ltI];by_cases h:b<a
   ·rw[uW.2 h];simp;omega
   ·have:Nat.ble (b+1) a=false:=by
     cases hb:Nat.ble (b+1) a with
     | false=>rfl
     | true=>exact absurd (uW.1 hb) h
    rw[this];simp;omega
theorem urr(a b:Int):eqI a b=decide (a=b):=by
 have key:∀m n:Nat,Nat.beq m n=decide (m=n):=fun m n=>by
  by_cases h:m=n
  ·subst h;rw[uJ.2 rfl];simp
  ·cases hb:Nat.beq m n with
   | false=>simp[h]
   | true=>exact absurd (uJ.1 hb) h
 cases a with
 | ofNat a=>cases b with
  | ofNat b=>rw[eqI,key];simp only[Int.ofNat_eq_natCast,Int.natCast_inj]
  | negSucc b=>rw[eqI];simp
 | negSucc a=>cases b with
  | ofNat b=>rw[eqI];simp
  | negSucc b=>rw[eqI,key];simp
theorem uwm(a b:Int):uFu a b=a+b:=by
 cases a with
 | ofNat a=>cases b with
  | ofNat b=>rfl
  | negSucc b=>
   rw[uFu];rcases hb:Nat.ble (b+1) a with _|_
   ·have:¬b+1<=a:=fun e=>by rw[uW.2 e]at hb;cases hb
    simp only[cond_false];simp only[Int.negSucc_eq,Int.ofNat_eq_natCast];omega
   ·have:=uW.1 hb
    simp only[cond_true];simp only[Int.negSucc_eq,Int.ofNat_eq_natCast];omega
 | negSucc a=>cases b with
  | ofNat b=>
   rw[uFu];rcases hb:Nat.ble (a+1) b with _|_
   ·have:¬a+1<=b:=fun e=>by rw[uW.2 e]at hb;cases hb
    simp only[cond_false];simp only[Int.negSucc_eq,Int.ofNat_eq_natCast];omega
   ·have:=uW.1 hb
    simp only[cond_true];simp only[Int.negSucc_eq,Int.ofNat_eq_natCast];omega
  | negSucc b=>rw[uFu];simp only[Int.negSucc_eq];omega
theorem uwn(a:Int):uHr a = -a:=by
 cases a with
 | ofNat a=>cases a with
  | zero=>rfl
  | succ a=>rfl
 | negSucc a=>rw[uHr];simp only[Int.negSucc_eq,Int.ofNat_eq_natCast];omega
theorem ufz{j k:IntKind}(h:unp j k=true):j=k:=by cases j<;>cases k<;>first|rfl|cases h
theorem uAr{k:IntKind}{n:Int}{K:Int->Bool}(h:uD7 k n K=true):K (k.wrap n)=true:=by
 have hb:utx k=k.bits:=by cases k<;>rfl
 have hs:sgn k=k.signed:=by cases k<;>rfl
 unfold uD7 at h;rw[hs,hb]at h;unfold IntKind.wrap;cases hk:k.signed with
 | true=>
  rw[hk]at h;have hp:(2^k.bits:Int)=2*2^(k.bits-1)/\(2^(k.bits-1):Int)=((2^(k.bits-1):Nat):Int)/\(0:Int)<2^(k.bits-1):=by cases k<;>simp[IntKind.bits]<;>omega
  obtain⟨p1,p2,p3⟩:=hp;cases n with
  | ofNat a=>
   simp only[]at h;rw[uk]at h;have h1:=uW.1 h.1;have h2:=uw (K:=fun a=>K (.ofNat a)) h.2
   have hm:(Int.ofNat a)%(2^k.bits)=(a:Int):=by
    rw[Int.ofNat_eq_natCast,p1];exact Int.emod_eq_of_lt (by omega) (by omega)
   simp only[hm,Bool.true_and];rw[if_neg (by simp;omega)]
   exact h2
  | negSucc a=>
   simp only[]at h;rw[uk]at h;have h1:=uW.1 h.1;have h2:=uw (K:=fun a=>K (.negSucc a)) h.2
   have hm:(Int.negSucc a)%(2^k.bits)=2^k.bits-((a:Int)+1):=by
    rw[Int.negSucc_eq,p1];rw[<-Int.add_emod_right (a:= -((a:Int)+1)) (b:=2*2^(k.bits-1))];rw[Int.emod_eq_of_lt (by omega) (by omega)]
    omega
   simp only[hm,Bool.true_and];rw[if_pos (by simp;omega)]
   rw[show(2^k.bits-((a:Int)+1))-2^k.bits=Int.negSucc a by rw[Int.negSucc_eq];omega]
   exact h2
 | false=>
  rw[hk]at h;have hp:(0:Int)<2^k.bits/\(2^k.bits:Int)=((2^k.bits:Nat):Int):=by cases k<;>simp[IntKind.bits]
  obtain⟨p1,p2⟩:=hp;simp only[Bool.false_and,Bool.false_eq_true,if_false];cases n with
  | ofNat a=>
   have h2:=uw (K:=fun a=>K (.ofNat a)) h
   rw[Int.ofNat_eq_natCast,p2,<-Int.natCast_emod];exact h2
  | negSucc a=>
   have h2:=uw (K:=fun a=>K (.ofNat a)) h
   rw[p2,Int.negSucc_emod a (by rw[<-p2];exact p1)]
   have a0:a%2^k.bits<2^k.bits:=Nat.mod_lt _ (Nat.two_pow_pos _);have:((2^k.bits:Nat):Int)-1-(a:Int)%((2^k.bits:Nat):Int)=Int.ofNat (2^k.bits-1-a%2^k.bits):=by
    rw[<-Int.natCast_emod,Int.ofNat_eq_natCast];omega
   rw[this];exact h2
theorem ugt{k:IntKind}{n:Int}{K:Value->Bool}(h:uD8 k n K=true):K (.int k (k.wrap n))=true:=uAr (K:=fun n=>K (.int k n)) h
structure Im where
 b:Nat
 d:Nat
 sz:Nat
 un:Nat
 ex:Bool
abbrev Phi:=Nat->Option Im
mutual
inductive RV (φ:Phi):Value->Value->Prop
 | bool (b:Bool):RV φ (.bool b) (.bool b)
 | int (k:IntKind) (n:Int):RV φ (.int k n) (.int k n)
 | string (s:ByteArray):RV φ (.string s) (.string s)
 | nilp:RV φ (.pointer none) (.pointer none)
 | ptr {g off:Nat} {im:Im} (h:φ g=some im):RV φ (.pointer (some ⟨g,off,none⟩)) (.pointer (some ⟨im.b,im.d+off,none⟩))
 | nils (l c:Nat):RV φ (.slice none l c) (.slice none l c)
 | sli {g off l c c' o':Nat} {im:Im} (h:φ g=some im) (h1:l<=c') (h2:c<=c') (h3:im.ex=true->c'=c) (h4:(o'=im.d+off/\(im.ex=false->o'+c'*im.un<=im.sz))\/c'=0) :
  RV φ (.slice (some ⟨g,off,none⟩) l c) (.slice (some ⟨im.b,o',none⟩) l c')
 | nilm:RV φ (.map none) (.map none)
 | map {g:Nat} {im:Im} (h:φ g=some im):RV φ (.map (some g)) (.map (some im.b))
 | nilf:RV φ .nilFunc .nilFunc
 | nili:RV φ .nilIface .nilIface
 | func {f:Nat} {a a' c c':Array Value} (h1:RVs φ a.toList a'.toList) (h2:RVs φ c.toList c'.toList):RV φ (.func (.func f) a c) (.func (.func f) a' c')
 | agg {a a':Array Value} (h:RVs φ a.toList a'.toList):RV φ (.agg a) (.agg a')
 | tuple {a a':Array Value} (h:RVs φ a.toList a'.toList):RV φ (.tuple a) (.tuple a')
inductive RVs (φ:Phi):List Value->List Value->Prop
 | nil:RVs φ [] []
 | cons {x x':Value} {l l':List Value} (h1:RV φ x x') (h2:RVs φ l l'):RVs φ (x::l) (x'::l')
end
def Phi.Le(φ φ':Phi):Prop:=∀g im,φ g=some im->φ' g=some im
mutual
theorem RV.mono{φ φ':Phi}(hl:φ.Le φ'):∀ {v v':Value},RV φ v v'->RV φ' v v'
 | _,_,.bool b=> .bool b
 | _,_,.int k n=> .int k n
 | _,_,.string s=> .string s
 | _,_,.nilp=> .nilp
 | _,_,.ptr h=> .ptr (hl _ _ h)
 | _,_,.nils l c=> .nils l c
 | _,_,.sli h h1 h2 h3 h4=> .sli (hl _ _ h) h1 h2 h3 h4
 | _,_,.nilm=> .nilm
 | _,_,.map h=> .map (hl _ _ h)
 | _,_,.nilf=> .nilf
 | _,_,.nili=> .nili
 | _,_,.func h1 h2=> .func (RVs.mono hl h1) (RVs.mono hl h2)
 | _,_,.agg h=> .agg (RVs.mono hl h)
 | _,_,.tuple h=> .tuple (RVs.mono hl h)
theorem RVs.mono{φ φ':Phi}(hl:φ.Le φ'):∀ {l l':List Value},RVs φ l l'->RVs φ' l l'
 | _,_,.nil=> .nil
 | _,_,.cons h1 h2=> .cons (RV.mono hl h1) (RVs.mono hl h2)
end
section
variable {φ:Phi}
theorem RVs.len:∀ {l l':List Value},RVs φ l l'->l.length=l'.length
 | _,_,.nil=>rfl
 | _,_,.cons _ h=>by rw[aB,aB,RVs.len h]
theorem RVs.get:∀ {l l':List Value},RVs φ l l'->∀ {i:Nat} {v:Value},l[i]? = some v->∃v',l'[i]? = some v'/\RV φ v v'
 | _,_,.nil,i,v,h=>by simp at h
 | _,_,.cons h1 h2,0,v,h=>by simp at h;subst h;exact⟨_,by simp,h1⟩
 | _,_,.cons h1 h2,i+1,v,h=>by
  obtain⟨v',g1,g2⟩:=RVs.get h2 (i:=i) (by simpa using h)
  exact⟨v',by simpa using g1,g2⟩
theorem RVs.of:∀ {l l':List Value},l.length=l'.length->(∀(i:Nat) (v v':Value),l[i]? = some v->l'[i]? = some v'->RV φ v v')->RVs φ l l'
 | [],[],_,_=> .nil
 | [],_::_,h,_=>by simp at h
 | _::_,[],h,_=>by simp at h
 | x::l,y::m,h,hh=> .cons (hh 0 _ _ (by simp) (by simp)) (RVs.of (by simpa using h) fun i v v' h1 h2=>hh (i+1) v v' (by simpa using h1) (by simpa using h2))
theorem RVs.app:∀ {l l' m m':List Value},RVs φ l l'->RVs φ m m'->RVs φ (l++m) (l'++m')
 | _,_,_,_,.nil,h=>h
 | _,_,_,_,.cons h1 h2,h=> .cons h1 (RVs.app h2 h)
theorem RVs.rep{z z':List Value}(h:RVs φ z z'):∀n,RVs φ (uo0 n z) (uo0 n z')
 | 0=> .nil
 | n+1=>RVs.app h (RVs.rep h n)
theorem RVs.take:∀ {l l':List Value},RVs φ l l'->∀n,RVs φ (l.take n) (l'.take n)
 | _,_,.nil,n=>by simp;exact .nil
 | _,_,.cons h1 h2,0=>by simp;exact .nil
 | _,_,.cons h1 h2,n+1=> .cons h1 (RVs.take h2 n)
theorem RVs.drop:∀ {l l':List Value},RVs φ l l'->∀n,RVs φ (l.drop n) (l'.drop n)
 | _,_,.nil,n=>by simp;exact .nil
 | _,_,.cons h1 h2,0=> .cons h1 h2
 | _,_,.cons h1 h2,n+1=>RVs.drop h2 n
theorem RVs.vDa:∀ {l l':List Value},RVs φ l l'->∀(n:Nat) {v v':Value},RV φ v v'->RVs φ (l.set n v) (l'.set n v')
 | _,_,.nil,n,_,_,h=> .nil
 | _,_,.cons h1 h2,0,_,_,h=> .cons h h2
 | _,_,.cons h1 h2,n+1,_,_,h=> .cons h1 (RVs.vDa h2 n h)
theorem RVs.vDj:∀ {vs a0:List Value},RVs φ vs a0->∀ {l l':List Value} (i:Nat),RVs φ l l'->RVs φ (ujr l i vs) (ujr l' i a0)
 | _,_,.nil,_,_,i,h=>h
 | _,_,.cons h1 h2,_,_,i,h=>RVs.vDj h2 (i+1) (h.vDa i h1)
theorem RV.undef:RV φ undef undef:= .tuple .nil
theorem RV.plain{v:Value}(h:uiw v=true):RV φ v v:=by
 cases v with
 | bool b=>exact .bool b
 | int k n=>exact .int k n
 | string s=>exact .string s
 | pointer a=>cases a with
  | none=>exact .nilp
  | some a=>cases h
 | slice a l c=>cases a with
  | none=>exact .nils l c
  | some a=>cases h
 | map a=>cases a with
  | none=>exact .nilm
  | some a=>cases h
 | nilFunc=>exact .nilf
 | nilIface=>exact .nili
 | _=>cases h
theorem RV.cells{v v':Value}(h:RV φ v v'):RVs φ (cellsOf v) v'.cells.toList:=by
 cases h with
 | agg h=>exact h
 | bool b=>exact .cons (.bool b) .nil
 | int k n=>exact .cons (.int k n) .nil
 | string s=>exact .cons (.string s) .nil
 | nilp=>exact .cons .nilp .nil
 | ptr h=>exact .cons (.ptr h) .nil
 | nils l c=>exact .cons (.nils l c) .nil
 | sli h h1 h2 h3 h4=>exact .cons (.sli h h1 h2 h3 h4) .nil
 | nilm=>exact .cons .nilm .nil
 | map h=>exact .cons (.map h) .nil
 | nilf=>exact .cons .nilf .nil
 | nili=>exact .cons .nili .nil
 | func h1 h2=>exact .cons (.func h1 h2) .nil
 | tuple h=>exact .cons (.tuple h) .nil
end
def un0(tm:Tm):Operand->Option Value
 | .tmp t=>some ((tm.t.get t).getD undef)
 | .const v=>if uiw v=true then some v else none
 | .func f=>some (.func (.func f) #[] #[])
 | .global g=>if g<1000 then some (ptr g 0)else none
theorem uy{tm:Tm}{x:Operand}{K:Value->Bool}(h:opd tm x K=true):∃v,un0 tm x=some v/\K v=true:=by
 cases x with
 | tmp t=>
  unfold opd at h;refine⟨_,rfl,?_⟩;cases hg:tm.t.get t with
  | none=>simp only[hg]at h;exact h
  | some v=>simp only[hg]at h;exact h
 | const v=>
  unfold opd at h;rw[uk]at h;exact⟨v,by simp only[un0,h.1,if_true],h.2⟩
 | func f=>exact⟨_,rfl,h⟩
 | global g=>
  unfold opd at h;rw[uk]at h;have:=uW.1 h.1;exact⟨ptr g 0,by rw[un0,if_pos (by omega)],h.2⟩
def uhb(φ:Phi):Prop:=∀g,g<1000->∃im,φ g=some im/\im.b=g/\im.d=0
theorem uhb.mono{φ φ':Phi}(h:uhb φ)(hl:φ.Le φ'):uhb φ':=fun g hg=>by
 obtain⟨im,h1,h2⟩:=h g hg;exact⟨im,hl _ _ h1,h2⟩
theorem uhb.rv{φ:Phi}(h:uhb φ){g:Nat}(hg:g<1000):RV φ (ptr g 0) (.pointer (some ⟨g,0,none⟩)):=by
 obtain⟨im,h1,h2,h3⟩:=h g hg;have:=RV.ptr (off:=0) h1;rw[h2,h3]at this;exact this
def OR(φ:Phi)(tm:Tm)(ρ:Operand->Value)(x:Operand):Prop:=∀v,un0 tm x=some v->RV φ v (ρ x)
def uf0(tm:Tm):List Operand->Option (List Value)
 | []=>some []
 | x::l=>match un0 tm x,uf0 tm l with
  | some v,some vs=>some (v::vs)
  | _,_=>none
theorem udq{tm:Tm}:∀ {l:List Operand} {K:List Value->Bool},uyw tm l K=true->∃vs,uf0 tm l=some vs/\K vs=true
 | [],K,h=>⟨[],rfl,h⟩
 | x::l,K,h=>by
  obtain⟨v,h1,h2⟩:=uy (x:=x) h;obtain⟨vs,h3,h4⟩:=udq h2;exact⟨v::vs,by rw[uf0,h1,h3],h4⟩
theorem ugu{φ:Phi}{tm:Tm}{ρ:Operand->Value}:∀ {l:List Operand} {vs:List Value},uf0 tm l=some vs->(∀x∈l,OR φ tm ρ x)->RVs φ vs (l.map ρ)
 | [],vs,h,ho=>by
  rw[uf0]at h;injection h with h;subst h;exact .nil
 | x::l,vs,h,ho=>by
  rw[uf0]at h;split at h
  ·rename_i v ws h1 h2
   injection h with h;subst h;exact .cons (ho x (by simp) v h1) (ugu h2 fun y hy=>ho y (aG _ hy))
  ·cases h
def RT(φ:Phi)(tm:Tm)(tmps:Array Value):Prop:=tm.n=tmps.size/\∀i,RV φ ((tm.t.get i).getD undef) (tmps.getD i undef)
theorem RT.or{φ:Phi}{tm:Tm}{a:Act}(h:RT φ tm a.tmps)(hg:uhb φ)(x:Operand):OR φ tm a.eval x:=by
 intro v hv;cases x with
 | tmp t=>
  rw[un0]at hv;injection hv with hv;subst hv;exact h.2 t
 | const u=>
  rw[un0]at hv;split at hv
  ·rename_i hp
   injection hv with hv;subst hv;exact .plain hp
  ·cases hv
 | func f=>
  rw[un0]at hv;injection hv with hv;subst hv;exact .func .nil .nil
 | global g=>
  rw[un0]at hv;split at hv
  ·rename_i hl
   injection hv with hv;subst hv;exact hg.rv hl
  ·cases hv
theorem ufa{tm:Tm}{d:Option Nat}{v:Value}{K:Tm->Bool}(h:uAl tm d v K=true):∃a0,K a0=true/\a0.n=tm.n /\
 (∀i,(a0.t.get i).getD undef=if d=some i then v else(tm.t.get i).getD undef)/\∀i,d=some i->i<tm.n:=by
 cases d with
 | none=>exact⟨tm,h,rfl,fun i=>by simp,fun i hi=>by cases hi⟩
 | some d=>
  unfold uAl at h;simp only[]at h;rw[uk]at h;obtain⟨h1,h2⟩:=h;obtain⟨t',k,g1,g2⟩:=udp h2;refine⟨⟨tm.n,t'⟩,k,rfl,fun i=>?_,fun i hi=>?_⟩
  ·by_cases hi:d=i
   ·subst hi
    rw[if_pos rfl,g1];rfl
   ·rw[if_neg (by simpa using hi),g2 i (fun e=>hi e.symm)]
  ·injection hi with hi
   subst hi;exact uW.1 h1
theorem RT.put{φ:Phi}{tm a0:Tm}{a:Act}{d:Option Nat}{v v':Value}(h:RT φ tm a.tmps)(hn:a0.n=tm.n)(hg:∀i,(a0.t.get i).getD undef=if d=some i then v else(tm.t.get i).getD undef)(hd:∀i,d=some i->i<tm.n)(hv:RV φ v v'):RT φ a0 (a.put d v').tmps:=by
 cases d with
 | none=>exact⟨hn.trans h.1,fun i=>by rw[hg,if_neg (by simp)];exact h.2 i⟩
 | some d=>
  refine⟨?_,fun i=>?_⟩
  ·rw[hn,h.1]
   simp[Act.put]
  ·rw[hg]
   have a1:d<a.tmps.size:=by rw[<-h.1];exact hd d rfl
   by_cases hi:d=i
   ·subst hi
    rw[if_pos rfl];simp only[Act.put,ak];rw[aO a1];exact hv
   ·rw[if_neg (by simpa using hi)]
    simp only[Act.put,ak];rw[Array.getElem?_setIfInBounds_ne (fun e=>hi e),<-ak]
    exact h.2 i
theorem RT.mono{φ φ':Phi}(hl:φ.Le φ'){tm:Tm}{t:Array Value}(h:RT φ tm t):RT φ' tm t:=⟨h.1,fun i=>(h.2 i).mono hl⟩
abbrev ucd:=Nat->Option Ob
def uH3(fr:Nat×Nat)(sz:Nat):Prop:=fr.2<=fr.1\/sz<=fr.1
def uG1(φ:Phi)(w:World)(im:Im)(cells:List Value)(el:TypeId):Prop:=
 ∃(C:Array Value) (fr:Nat×Nat),w.heap[im.b]? = some (.cells C el fr)/\uH3 fr C.size/\im.sz=C.size/\im.d+cells.length<=C.size/\∀(j:Nat) (v:Value),cells[j]? = some v->∃v',C[im.d+j]? = some v'/\RV φ v v'
inductive RMs (φ:Phi):List MapEntry->List MapEntry->Prop
 | nil:RMs φ [] []
 | cons {x x':MapEntry} {l l':List MapEntry} (h0:RV φ x.key x'.key) (h1:RV φ x.val x'.val) (h2:x'.born=x.born) (h3:RMs φ l l'):RMs φ (x::l) (x'::l')
theorem RMs.mono{φ φ':Phi}(hl:φ.Le φ'):∀ {l l':List MapEntry},RMs φ l l'->RMs φ' l l'
 | _,_,.nil=> .nil
 | _,_,.cons h0 h1 h2 h3=> .cons (h0.mono hl) (h1.mono hl) h2 (RMs.mono hl h3)
def ObR(φ:Phi)(w:World)(g:Nat):Ob->Prop
 | .row cells e ex un top st=>∃im,φ g=some im/\im.ex=ex/\(ex=false->im.un=un)/\(ex=true->im.d=0/\cells.length=im.sz)/\uG1 φ w im cells e
 | .map es clock=>∃im es',φ g=some im/\w.heap[im.b]? = some (.map es' clock)/\RMs φ es es'.toList
def Ob.wr:Ob->Bool
 | .row _ _ _ _ top _=>top
 | .map _ _=>true
structure Rep (φ:Phi) (L:ucd) (w:World):Prop where
 ob:∀g o,L g=some o->ObR φ w g o
 sep:∀g1 g2 o1 o2 im1 im2,L g1=some o1->L g2=some o2->φ g1=some im1->φ g2=some im2->im1.b=im2.b->g1=g2\/∃t c e x u S,L t=some (.row c e x u true S)/\(g1=t\/g1∈S)/\(g2=t\/g2∈S)
 grp:∀t c e x u S g o im1 im2,L t=some (.row c e x u true S)->g∈S->L g=some o->φ t=some im1->φ g=some im2->∃c' e' x' u' S',o = .row c' e' x' u' false S'/\(im2.b=im1.b->im2.d+c'.length<=im1.d+c.length)
 out:∀t c e x u S,L t=some (.row c e x u true S)->t∉S/\∀k∈S,φ k≠none
 glob:uhb φ
def Men(L:ucd)(k:Nat):Prop:=(∃o,L k=some o)\/∃t c e x u S,L t=some (.row c e x u true S)/\k∈S
structure Ext (φ:Phi) (L:ucd) (n:Nat) (φ':Phi) (L':ucd) (n':Nat) (w w':World):Prop where
 le:φ.Le φ'
 nx:n<=n'
 new:∀g,φ' g≠φ g->n<=g/\g<n'
 os:w'.os=w.os
 tape:w'.tape=w.tape
 output:w'.output=w.output
 size:w.heap.size<=w'.heap.size
 fr:∀b,b<w.heap.size->(∀g o im,L g=some o->o.wr=true->φ g=some im->im.b≠b)->w'.heap[b]? = w.heap[b]?
 live:∀g' o' im',L' g'=some o'->φ' g'=some im'->w.heap.size<=im'.b\/∃g o im,L g=some o/\φ g=some im/\im.b=im'.b/\(o'.wr=true->o.wr=true)
 dom:∀g o,L' g=some o->(∃o0,L g=some o0)\/(n<=g/\g<n')
 men:∀k,Men L' k->Men L k\/(n<=k/\k<n')
theorem Phi.Le.refl(φ:Phi):φ.Le φ:=fun _ _ h=>h
theorem Phi.Le.trans{φ1 φ2 φ3:Phi}(h1:φ1.Le φ2)(h2:φ2.Le φ3):φ1.Le φ3:=fun g im h=>h2 g im (h1 g im h)
theorem Ext.refl(φ:Phi)(L:ucd)(n:Nat)(w:World):Ext φ L n φ L n w w where
 le:= .refl φ
 nx:=ab
 new:=fun g h=>absurd rfl h
 os:=rfl
 tape:=rfl
 output:=rfl
 size:=ab
 fr:=fun _ _ _=>rfl
 live:=fun g o im h1 h2=> .inr ⟨g,o,im,h1,h2,rfl,id⟩
 dom:=fun g o h=> .inl ⟨o,h⟩
 men:=fun k h=> .inl h
theorem Ext.trans{φ1 φ2 φ3:Phi}{L1 L2 L3:ucd}{n1 n2 n3:Nat}{w1 w2 w3:World}(h1:Ext φ1 L1 n1 φ2 L2 n2 w1 w2)(h2:Ext φ2 L2 n2 φ3 L3 n3 w2 w3):Ext φ1 L1 n1 φ3 L3 n3 w1 w3 where
 le:=h1.le.trans h2.le
 nx:=ag h1.nx h2.nx
 new:=fun g h=>by
  by_cases hg:φ3 g=φ2 g
  ·have:=h1.new g (by rw[<-hg];exact h)
   exact⟨this.1,af this.2 h2.nx⟩
  ·have:=h2.new g hg
   exact⟨ag h1.nx this.1,this.2⟩
 os:=h2.os.trans h1.os
 tape:=h2.tape.trans h1.tape
 output:=h2.output.trans h1.output
 size:=ag h1.size h2.size
 fr:=fun b hb hn=>by
  rw[h2.fr b (af hb h1.size) ?_,h1.fr b hb hn];intro g o im hg hw hi e;rcases h1.live g o im hg hi with h|⟨g0,o0,im0,k1,k2,k3,k4⟩
  ·omega
  ·exact hn g0 o0 im0 k1 (k4 hw) k2 (k3.trans e)
 live:=fun g o im hg hi=>by
  rcases h2.live g o im hg hi with h|⟨g0,o0,im0,k1,k2,k3,k4⟩
  ·exact .inl (ag h1.size h)
  ·rcases h1.live g0 o0 im0 k1 k2 with h|⟨g1,o1,im1,l1,l2,l3,l4⟩
   ·exact .inl (by rw[<-k3];exact h)
   ·exact .inr ⟨g1,o1,im1,l1,l2,l3.trans k3,fun h=>l4 (k4 h)⟩
 dom:=fun g o h=>by
  rcases h2.dom g o h with⟨o0,h0⟩|⟨h3,h4⟩
  ·rcases h1.dom g o0 h0 with h5|⟨h5,h6⟩
   ·exact .inl h5
   ·exact .inr ⟨h5,af h6 h2.nx⟩
  ·exact .inr ⟨ag h1.nx h3,h4⟩
 men:=fun k h=>by
  rcases h2.men k h with h|⟨h3,h4⟩
  ·rcases h1.men k h with h|⟨h5,h6⟩
   ·exact .inl h
   ·exact .inr ⟨h5,af h6 h2.nx⟩
  ·exact .inr ⟨ag h1.nx h3,h4⟩
def ut7(φ:Phi)(n n':Nat):Prop:=∀g,n<=g->g<n'->φ g=none
theorem ut7.left{φ:Phi}{n1 n2 n3:Nat}(h:ut7 φ n1 n3)(h2:n2<=n3):ut7 φ n1 n2:=fun g h1 h3=>h g h1 (af h3 h2)
theorem ut7.right{φ φ':Phi}{L L':ucd}{n1 n2 n3:Nat}{w w':World}(h:ut7 φ n1 n3)(he:Ext φ L n1 φ' L' n2 w w'):ut7 φ' n2 n3:=fun g h1 h3=>by
 have h0:=h g (ag he.nx h1) h3;by_cases hg:φ' g=φ g
 ·rw[hg,h0]
 ·have:=(he.new g hg).2
  omega
section
variable {P:Program}
theorem uat{t:TypeId}{K:Nat->Bool}(h:ufx P t K=true):∃n,K n=true/\(∃i,P.info? t=some i/\i.size=n)/\∀w,(Go.sizeOf t).run P w = .ok n w:=by
 unfold ufx at h;split at h
 ·rename_i i hi
  exact⟨_,h,⟨i,hi,rfl⟩,fun w=>by simp[Go.sizeOf,typeInfo,program,Sem.run,hi]⟩
 ·cases h
theorem ur{t:TypeId}{d:TypeDesc}(h:P.underlying t=some d)(w:World):(underlying t).run P w = .ok d w:=by simp[underlying,program,Sem.run,h]
theorem uEj{t:TypeId}{d:TypeDesc}(h:P.underlying t=some d)(w:World):(Go.isAgg t).run P w = .ok (uJk d) w:=by
 unfold Go.isAgg;rw[aD,ur h];cases d<;>rfl
theorem urs{t:TypeId}{K:Bool->Bool}(h:isAgg P t K=true):∃b,K b=true/\∀w,(Go.isAgg t).run P w = .ok b w:=by
 unfold isAgg at h;split at h
 ·rename_i d hd
  exact⟨_,uc3 h,uEj hd⟩
 ·cases h
theorem uwo{φ:Phi}:∀ {l:List Value},umm uiw l=true->RVs φ l l
 | [],_=> .nil
 | v::l,h=>by
  rw[umm,uk]at h;exact .cons (.plain h.1) (uwo h.2)
theorem urt{t:TypeId}{K:Value->Bool}(h:zeroV P t K=true):∃z,K z=true/\(∀φ,RV φ z z)/\∀w,(zeroValue t).run P w = .ok z w:=by
 unfold zeroV at h;split at h
 ·rename_i i hi
  split at h
  ·rename_i z hz
   rw[uk]at h;refine⟨z,h.2,fun φ=>?_,fun w=>by simp[zeroValue,typeInfo,program,Sem.run,hi,hz]⟩
   have hp:=h.1;cases z with
   | agg cs=>exact .agg (uwo hp)
   | _=>exact .plain hp
  ·cases h
 ·cases h
theorem uau(v:Value):v.cells.toList=cellsOf v:=by cases v<;>rfl
theorem udr{t:TypeId}{K:List Value->Bool}(h:ult P t K=true):∃z,K (cellsOf z)=true/\(∀φ,RVs φ (cellsOf z) (cellsOf z))/\∀w,(zeroValue t).run P w = .ok z w:=by
 obtain⟨z,h1,h2,h3⟩:=urt h;exact⟨z,h1,fun φ=>by have:=(h2 φ).cells;rwa [uau]at this,h3⟩
theorem ukl{t:TypeId}{K:List Field->Bool}(h:ulu P t K=true):∃fs,P.underlying t=some (.struct fs)/\K fs.toList=true:=by
 unfold ulu at h;split at h
 ·rename_i d hd
  split at h
  ·exact⟨_,hd,h⟩
  ·cases h
 ·cases h
theorem uc4{t:TypeId}{K:TypeId->Bool}(h:uha P t K=true):∃e,P.underlying t=some (.slice e)/\K e=true:=by
 unfold uha at h;split at h
 ·rename_i d hd
  split at h
  ·exact⟨_,hd,h⟩
  ·cases h
 ·cases h
theorem uwp{t:TypeId}{K:TypeId->TypeId->Bool}(h:uHs P t K=true):∃k e,P.underlying t=some (.map k e)/\K k e=true:=by
 unfold uHs at h;split at h
 ·rename_i d hd
  split at h
  ·exact⟨_,_,hd,h⟩
  ·cases h
 ·cases h
theorem uru{t:TypeId}{cs:List Value}{off:Nat}{K:Value->Bool}(h:up0 P t cs off K=true):∃v,K v=true/\∀(φ:Phi) (a0:Array Value) (w:World),RVs φ cs a0.toList->∃v',(part t a0 off).run P w = .ok v' w/\RV φ v v':=by
 unfold up0 at h;obtain⟨b,h,hb⟩:=urs h;cases b with
 | true=>
  obtain⟨n,h,_,hn⟩:=uat h;obtain⟨h1,h2⟩:=ub5 _ _ _ _ h;refine⟨_,h1,fun φ a0 w hr=>⟨_,by simp[part,hb,hn];rfl,.agg ?_⟩⟩
  rw[Array.toList_extract];have:=(hr.drop off).take n;simpa[List.extract,Nat.add_sub_cancel_left]using this
 | false=>
  rw[ubh]at h;simp only[]at h;split at h
  ·rename_i v hv
   refine⟨v,h,fun φ a0 w hr=>?_⟩
   obtain⟨v',g1,g2⟩:=hr.get hv;have:a0[off]? = some v':=by rw[<-aH];exact g1
   exact⟨v',by simp[part,hb,this],g2⟩
  ·cases h
theorem run_loadCells{w:World}{b:Nat}{C:Array Value}{el:TypeId}{fr:Nat×Nat}(hb:w.heap[b]? = some (.cells C el fr))(off:Nat):∀(n i:Nat) (acc:Array Value),off+i+n<=C.size ->
 (loadCellsFrom ⟨b,off,none⟩ i n acc).run P w = .ok (acc++C.extract (off+i) (off+i+n)) w
 | 0,i,acc,_=>by
  rw[loadCellsFrom,Nat.add_zero];simp[Nat.min_le_left]
 | n+1,i,acc,h=>by
  have hc:w.cell? ((⟨b,off,none⟩:Addr).add i)=some C[off+i]:=by
   have ha:(⟨b,off,none⟩:Addr).add i=⟨b,off+i,none⟩:=by unfold Addr.add;split<;>simp_all
   rw[ha];unfold World.cell?;simp only[hb];simp[aR (show off+i<C.size by omega)]
  rw[loadCellsFrom,aD];have hl:(load ((⟨b,off,none⟩:Addr).add i)).run P w = .ok C[off+i] w:=by simp[load,Sem.run,hc]
  rw[hl];simp only[aA];rw[run_loadCells hb off n (i+1) _ (by omega)]
  congr 1
  apply Array.ext';simp only[Array.toList_append,Array.toList_push,Array.toList_extract,aS];congr 1
  simp only[List.extract];rw[show off+(i+1)+n-(off+(i+1))=n by omega,show off+i+(n+1)-(off+i)=n+1 by omega,show off+(i+1)=off+i+1 by omega]
  rw[aN (l:=C.toList) (i:=off+i) (by simpa using(show off+i<C.size by omega))]
  simp
theorem uG1.take{φ:Phi}{w:World}{im:Im}{cells:List Value}{el:TypeId}(h:uG1 φ w im cells el){off n:Nat}(hn:n=0\/off+n<=cells.length):∃vs:Array Value,(∀w2:World,w2.heap=w.heap->(loadCells ⟨im.b,im.d+off,none⟩ n).run P w2 = .ok vs w2)/\RVs φ ((cells.drop off).take n) vs.toList:=by
 obtain⟨C,fr,h1,h2,h3,h4,h5⟩:=h;rcases aK n with h0|hp
 ·subst h0
  exact⟨#[],fun w2 _=>by simp[loadCells,loadCellsFrom],by simp;exact .nil⟩
 ·have hn:off+n<=cells.length:=by rcases hn with h|h;omega;exact h
  refine⟨_,fun w2 a0=>by rw[loadCells,run_loadCells (w:=w2) (by rw[a0];exact h1) _ n 0 #[] (by omega)],?_⟩
  rw[Array.toList_append,Array.toList_extract];simp only[List.extract,List.nil_append];rw[show im.d+off+0+n-(im.d+off+0)=n by omega,Nat.add_zero]
  refine RVs.of ?_ fun i v v' g1 g2=>?_
  ·simp only[List.length_take,List.length_drop,aM]
   omega
  ·rw[List.getElem?_take]at g1 g2
   split at g1
   ·rename_i hi
    rw[if_pos hi]at g2;rw[List.getElem?_drop]at g1 g2;obtain⟨v2,k1,k2⟩:=h5 _ _ g1;rw[aH,show im.d+off+i=im.d+(off+i) by omega,k1]at g2
    injection g2 with g2;subst g2;exact k2
   ·cases g1
theorem uG1.at{φ:Phi}{w:World}{im:Im}{cells:List Value}{el:TypeId}(h:uG1 φ w im cells el){off:Nat}{v:Value}(hv:cells[off]? = some v):∃v',(load ⟨im.b,im.d+off,none⟩).run P w = .ok v' w/\RV φ v v':=by
 obtain⟨C,fr,h1,h2,h3,h4,h5⟩:=h;obtain⟨v',k1,k2⟩:=h5 _ _ hv;refine⟨v',?_,k2⟩;simp[load,Sem.run,World.cell?,h1,k1]
theorem uds{a:Addr}{K:Nat->Nat->Bool}(h:uls a K=true):a=⟨a.block,a.off,none⟩/\K a.block a.off=true:=by
 unfold uls at h;obtain⟨b,o,s⟩:=a;cases s with
 | none=>exact⟨rfl,h⟩
 | some s=>cases h
theorem uf2{v:Value}{K:Nat->Nat->Bool}(h:uty v K=true):∃g off,v = .pointer (some ⟨g,off,none⟩)/\K g off=true:=by
 unfold uty at h;split at h
 ·split at h
  ·obtain⟨h1,h2⟩:=uds h
   exact⟨_,_,by rw[h1],h2⟩
  ·cases h
 ·cases h
theorem ucl{t:Tr}{g:Nat}{K:List Value->TypeId->Bool->Nat->Bool->List Nat->Bool}(h:rowOf t g K=true):∃c e x u p s,t.get g=some (.row c e x u p s)/\K c e x u p s=true:=by
 unfold rowOf at h;split at h
 ·rename_i o ho
  cases o with
  | row c e x u p s=>exact⟨c,e,x,u,p,s,ho,h⟩
  | map _ _=>cases h
 ·cases h
theorem ulz{t:Tr}{g:Nat}{K:List MapEntry->Nat->Bool}(h:mapOf t g K=true):∃es c,t.get g=some (.map es c)/\K es c=true:=by
 unfold mapOf at h;split at h
 ·rename_i o ho
  cases o with
  | row c e x u p s=>cases h
  | map es c=>exact⟨es,c,ho,h⟩
 ·cases h
theorem RV.vBk{φ:Phi}{g off:Nat}{v':Value}(h:RV φ (.pointer (some ⟨g,off,none⟩)) v'):∃im,φ g=some im/\v' = .pointer (some ⟨im.b,im.d+off,none⟩):=by
 cases h with
 | ptr h=>exact⟨_,h,rfl⟩
def Reads(P:Program)(tm:Tm)(L:ucd)(xs:List Operand)(s:(Operand->Value)->Sem Value)(v:Value):Prop:=
 ∀(φ:Phi) (w:World) (ρ:Operand->Value),(∀x∈xs,OR φ tm ρ x)->Rep φ L w->∃v',(s ρ).run P w = .ok v' w/\RV φ v v'
theorem ukm{φ:Phi}{w:World}{t:Tr}{ty g off:Nat}{K:Value->Bool}(h:rowOf t g (fun c _ _ _ _ _=>up0 P ty c off K)=true):∃v,K v=true/\∀(φ:Phi) (w:World) (im:Im),φ g=some im->Rep φ t.get w->∃v',(loadVar ty ⟨im.b,im.d+off,none⟩).run P w = .ok v' w/\RV φ v v':=by
 obtain⟨c,e,x,u,p,s,hg,h⟩:=ucl h;unfold up0 at h;obtain⟨b,h,hb⟩:=urs h;cases b with
 | true=>
  obtain⟨n,h,_,hn⟩:=uat h;obtain⟨h1,h2⟩:=ub5 _ _ _ _ h;refine⟨_,h1,fun φ w im hi hr=>?_⟩
  obtain⟨a0,k1,k2,k3,k4,k5⟩:=hr.ob _ _ hg;rw[hi]at k1;injection k1 with k1;subst k1;obtain⟨vs,l1,l2⟩:=k5.take (P:=P) h2;exact⟨.agg vs,by simp[loadVar,hb,hn,l1 w rfl],.agg l2⟩
 | false=>
  rw[ubh]at h;simp only[]at h;split at h
  ·rename_i v hv
   refine⟨v,h,fun φ w im hi hr=>?_⟩
   obtain⟨a0,k1,k2,k3,k4,k5⟩:=hr.ob _ _ hg;rw[hi]at k1;injection k1 with k1;subst k1;obtain⟨v',l1,l2⟩:=k5.at (P:=P) hv;exact⟨v',by simp only[loadVar,aD,hb,aA,Bool.false_eq_true,if_false];exact l1,l2⟩
  ·cases h
theorem uAs{tm:Tm}{t:Tr}{ty:TypeId}{a:Operand}{K:Value->Bool}(h:ut1 P tm t ty a K=true):∃v,K v=true/\Reads P tm t.get [a] (fun ρ=>Instr.loadAt ty (ρ a)) v:=by
 unfold ut1 at h;obtain⟨p,hp,h⟩:=uy h;obtain⟨g,off,rfl,h⟩:=uf2 h;obtain⟨v,hv,hl⟩:=ukm (φ:=fun _=>none) (w:=default) h
 refine⟨v,hv,fun φ w ρ ho hr=>?_⟩
 obtain⟨im,hi,he⟩:=(ho a (by simp) _ hp).vBk
 obtain⟨v',k1,k2⟩:=hl φ w im hi hr;exact⟨v',by simp[Instr.loadAt,Instr.sureAddr,he,k1],k2⟩
theorem RV.vAt{φ:Phi}{b:Bool}{v':Value}(h:RV φ (.bool b) v'):v' = .bool b:=by cases h;rfl
theorem RV.vAc{φ:Phi}{k:IntKind}{n:Int}{v':Value}(h:RV φ (.int k n) v'):v' = .int k n:=by cases h;rfl
theorem RV.vAg{φ:Phi}{s:ByteArray}{v':Value}(h:RV φ (.string s) v'):v' = .string s:=by cases h;rfl
theorem RV.vCm{φ:Phi}{a:Array Value}{v':Value}(h:RV φ (.agg a) v'):∃a',v' = .agg a'/\RVs φ a.toList a'.toList:=by cases h with|agg h=>exact⟨_,rfl,h⟩
theorem RV.vCo{φ:Phi}{a:Array Value}{v':Value}(h:RV φ (.tuple a) v'):∃a',v' = .tuple a'/\RVs φ a.toList a'.toList:=by cases h with|tuple h=>exact⟨_,rfl,h⟩
theorem RV.vAu{φ:Phi}{g off l c:Nat}{v':Value}(h:RV φ (.slice (some ⟨g,off,none⟩) l c) v'):∃im o' c',φ g=some im/\v' = .slice (some ⟨im.b,o',none⟩) l c'/\l<=c'/\c<=c'/\(im.ex=true->c'=c)/\((o'=im.d+off/\(im.ex=false->o'+c'*im.un<=im.sz))\/c'=0):=by
 cases h with|sli h h1 h2 h3 h4=>exact⟨_,_,_,h,rfl,h1,h2,h3,h4⟩
theorem RV.vAx{φ:Phi}{l c:Nat}{v':Value}(h:RV φ (.slice none l c) v'):v' = .slice none l c:=by cases h;rfl
theorem RV.vBt{φ:Phi}{g:Nat}{v':Value}(h:RV φ (.map (some g)) v'):∃im,φ g=some im/\v' = .map (some im.b):=by cases h with|map h=>exact⟨_,h,rfl⟩
theorem RV.vCe{φ:Phi}{v':Value}(h:RV φ (.map none) v'):v' = .map none:=by cases h;rfl
theorem RV.vCg{φ:Phi}{f:Nat}{a c:Array Value}{v':Value}(h:RV φ (.func (.func f) a c) v'):∃a' c',v' = .func (.func f) a' c'/\RVs φ a.toList a'.toList/\RVs φ c.toList c'.toList:=by cases h with|func h1 h2=>exact⟨_,_,rfl,h1,h2⟩
theorem uAt{tm:Tm}{L:ucd}{c a b:Operand}{K:Value->Bool}(h:uAd tm c a b K=true):∃v,K v=true/\Reads P tm L [c,a,b] (fun ρ=>do pure (if <-asBool (ρ c)then ρ a else ρ b)) v:=by
 unfold uAd at h;obtain⟨p,hp,h⟩:=uy h;cases p with
 | bool q=>
  cases q with
  | true=>
   obtain⟨v,hv,h⟩:=uy h;refine⟨v,h,fun φ w ρ ho hr=>?_⟩
   exact⟨ρ a,by simp[asBool,(ho c (by simp) _ hp).vAt],ho a (by simp) _ hv⟩
  | false=>
   obtain⟨v,hv,h⟩:=uy h;refine⟨v,h,fun φ w ρ ho hr=>?_⟩
   exact⟨ρ b,by simp[asBool,(ho c (by simp) _ hp).vAt],ho b (by simp) _ hv⟩
 | _=>cases h
theorem uEk{tm:Tm}{L:ucd}{x:Operand}{K:Value->Bool}(h:uHt tm x K=true):∃v,K v=true/\∀(φ:Phi) (ρ:Operand->Value),OR φ tm ρ x->RV φ v (ρ x)/\((∃a,ρ x = .pointer (some a))\/∃f a c,ρ x = .func (.func f) a c):=by
 unfold uHt at h;obtain⟨p,hp,h⟩:=uy h;split at h
 ·split at h
  ·refine⟨_,h,fun φ ρ ho=>⟨ho _ hp,?_⟩⟩
   have h1:=ho _ hp;generalize ρ x=r at h1 ⊢;cases h1;exact .inl ⟨_,rfl⟩
  ·cases h
 ·split at h
  ·refine⟨_,h,fun φ ρ ho=>⟨ho _ hp,?_⟩⟩
   obtain⟨a',c',e,_⟩:=(ho _ hp).vCg;exact .inr ⟨_,_,_,e⟩
  ·cases h
 ·cases h
theorem up6{tm:Tm}{L:ucd}{x:Operand}{i:Nat}{K:Value->Bool}(h:uhx tm x i K=true):∃v,K v=true/\Reads P tm L [x] (fun ρ=>Instr.extract (ρ x) i) v:=by
 unfold uhx at h;obtain⟨p,hp,h⟩:=uy h;split at h
 ·rw[ubh]at h
  split at h
  ·rename_i v hv
   refine⟨v,h,fun φ w ρ ho hr=>?_⟩
   obtain⟨a',e,ha⟩:=(ho x (by simp) _ hp).vCo
   obtain⟨v',g1,g2⟩:=ha.get hv;have:a'[i]? = some v':=by rw[<-aH];exact g1
   exact⟨v',by simp[Instr.extract,e,this],g2⟩
  ·cases h
 ·cases h
theorem ui1{tm:Tm}:∀ {ps:List (Nat×Operand)} {K:List (Nat×Value)->Bool},unr tm ps K=true->∃vs,K vs=true/\vs.map (·.1)=ps.map (·.1)/\∀(φ:Phi) (ρ:Operand->Value),(∀p∈ps,OR φ tm ρ p.2)->RVs φ (vs.map (·.2)) (ps.map fun p=>ρ p.2)
 | [],K,h=>⟨[],h,rfl,fun φ ρ ho=> .nil⟩
 | p::ps,K,h=>by
  rw[unr]at h;obtain⟨v,hv,h⟩:=uy h;obtain⟨vs,h1,h2,h3⟩:=ui1 h;refine⟨(p.1,v)::vs,h1,by simp[h2],fun φ ρ ho=> .cons (ho p (by simp) _ hv) (h3 φ ρ fun q hq=>ho q (aG _ hq))⟩
theorem RVs.vB0{φ:Phi}{v v':Value}(h:RV φ v v'):v'.cells.size=(cellsOf v).length:=by
 rw[<-aM];exact h.cells.len.symm
theorem un1(off:Nat):∀(cs:List Value) (j:Nat) (l:Array Value),(cs.zipIdx j).foldl (fun(a:Array Value) (p:Value×Nat)=>a.setIfInBounds (off+p.2) p.1) l=(ujr l.toList (off+j) cs).toArray
 | [],j,l=>by simp[ujr]
 | c::cs,j,l=>by
  rw[List.zipIdx_cons,List.foldl_cons,un1 off cs (j+1),ujr];simp[Nat.add_assoc]
theorem un2{φ:Phi}{place:Nat->Option (Nat×Nat)}{p:Nat×Value}{z:List Value}{z':Array Value}{off:Nat}{qv:Value}(ps:List (Nat×Value))(hz:RVs φ z z'.toList)(a0:RV φ p.2 qv)(g1:place p.1=some (off,(cellsOf p.2).length))(g2:off+(cellsOf p.2).length<=z.length) :
 ∃a1:Array Value,Instr.fill place z' ((p.1,qv)::ps)=Instr.fill place a1 ps/\RVs φ (ujr z off (cellsOf p.2)) a1.toList:=by
 have a2:=RVs.vB0 a0;have a3:z.length=z'.size:=by rw[<-aM];exact hz.len
 refine⟨(ujr z'.toList (off+0) qv.cells.toList).toArray,?_,by simpa using RVs.vDj a0.cells (off+0) hz⟩
 rw[Instr.fill,g1];simp only[];rw[a2];rw[if_neg (by simp only[ne_eq,not_true,decide_false,Bool.false_or,aP];omega)]
 rw[<-Array.foldl_toList,Array.toList_zipIdx,un1]
theorem ul0{n:Nat}:∀ {vs:List (Nat×Value)} {z:List Value} {K:List Value->Bool},uwe n vs z K=true->∃l,K l=true/\l.length=z.length /\
 ∀(φ:Phi) (ps:List (Nat×Value)) (z':Array Value),RVs φ z z'.toList->vs.map (·.1)=ps.map (·.1)->RVs φ (vs.map (·.2)) (ps.map (·.2))->∃l':Array Value,Instr.fill (fun i=>some (i*n,n)) z' ps=some l'/\RVs φ l l'.toList
 | [],z,K,h=>⟨z,h,rfl,fun φ ps z' hz hi hv=>by
  cases ps with
  | nil=>exact⟨z',rfl,hz⟩
  | cons _ _=>simp at hi⟩
 | p::vs,z,K,h=>by
  rw[uwe,uk,uk,uah]at h;obtain⟨h0,h1,h⟩:=h;have h0:=uW.1 h0;have h1:=uJ.1 h1;obtain⟨h,h2⟩:=uly _ _ _ _ h;obtain⟨l,k1,k2,k3⟩:=ul0 h;refine⟨l,k1,by rw[k2,uew],fun φ ps z' hz hi hv=>?_⟩
  cases ps with
  | nil=>simp at hi
  | cons q ps=>
   obtain⟨qi,qv⟩:=q;simp only[List.map_cons,List.cons.injEq]at hi;have a0:RV φ p.2 qv:=by cases hv with|cons a b=>exact a
   have a1:RVs φ (vs.map (·.2)) (ps.map (·.2)):=by cases hv with|cons a b=>exact b
   have h2:p.1*n+(cellsOf p.2).length<=z.length:=by
    rcases h2 with h2|h2
    ·rw[h2]at h1;simp at h1;omega
    ·exact h2
   obtain⟨a3,e,a2⟩:=un2 (place:=fun i=>some (i*n,n)) ps hz a0 (by rw[h1]) h2
   rw[<-hi.1,e];exact k3 φ ps a3 a2 hi.2 a1
theorem urv{fs:List Field}{G:Array (Nat×Nat)}(hG:∀(i:Nat) (f:Field) (n:Nat),fs[i]? = some f->(∃ti,P.info? f.type=some ti/\ti.size=n)->G[i]? = some (f.offset,n)):∀ {vs:List (Nat×Value)} {z:List Value} {K:List Value->Bool},uAe P fs vs z K=true->∃l,K l=true/\l.length=z.length /\
 ∀(φ:Phi) (ps:List (Nat×Value)) (z':Array Value),RVs φ z z'.toList->vs.map (·.1)=ps.map (·.1)->RVs φ (vs.map (·.2)) (ps.map (·.2))->∃l':Array Value,Instr.fill (G[·]?) z' ps=some l'/\RVs φ l l'.toList
 | [],z,K,h=>⟨z,h,rfl,fun φ ps z' hz hi hv=>by
  cases ps with
  | nil=>exact⟨z',rfl,hz⟩
  | cons _ _=>simp at hi⟩
 | p::vs,z,K,h=>by
  rw[uAe,ubh]at h;split at h
  ·rename_i f hf
   obtain⟨n,h,hn,_⟩:=uat h;rw[uk,uk,uah]at h;obtain⟨h0,h1,h⟩:=h;have h0:=uW.1 h0;have h1:=uJ.1 h1;obtain⟨h,h2⟩:=uly _ _ _ _ h;obtain⟨l,k1,k2,k3⟩:=urv hG h;refine⟨l,k1,by rw[k2,uew],fun φ ps z' hz hi hv=>?_⟩
   cases ps with
   | nil=>simp at hi
   | cons q ps=>
    obtain⟨qi,qv⟩:=q;simp only[List.map_cons,List.cons.injEq]at hi;have a0:RV φ p.2 qv:=by cases hv with|cons a b=>exact a
    have a1:RVs φ (vs.map (·.2)) (ps.map (·.2)):=by cases hv with|cons a b=>exact b
    have h2:f.offset+(cellsOf p.2).length<=z.length:=by
     rcases h2 with h2|h2
     ·rw[h2]at h1;simp at h1;omega
     ·exact h2
    obtain⟨a3,e,a2⟩:=un2 (place:=(G[·]?)) ps hz a0 (by rw[hG p.1 f n hf hn,h1]) h2
    rw[<-hi.1,e];exact k3 φ ps a3 a2 hi.2 a1
  ·cases h
end
end AC.Ev
