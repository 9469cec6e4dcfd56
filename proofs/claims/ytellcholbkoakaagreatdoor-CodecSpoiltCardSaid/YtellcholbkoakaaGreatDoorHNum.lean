/-
  ud8: the utq part of writing and reading.
-/
import Derived.Lib.ItoaNum
import Derived.Lib.ParseIntB
import Derived.Lib.IndexMore
import Derived.Lib.Strings
import Derived.Lib.Repeat
namespace AC
open Go
set_option linter.unusedVariables false
set_option linter.unusedSimpArgs false
def ube(ts:Nat→List UInt8):Nat→List UInt8
 | 0=>[]
 | 1=>ts 0
 | k+2=>ube ts (k+1)++32::ts (k+1)
def par(ts:Nat→List UInt8)(k:Nat):List UInt8:=40::(ube ts k++[41])
theorem uca{ts ts':Nat→List UInt8}:∀ {k:Nat},(∀i,i<k→ts i=ts' i)→ube ts k=ube ts' k
 | 0,_=>rfl
 | 1,h=>h 0 (by omega)
 | k+2,h=>by
  unfold ube;rw[uca (k:=k+1) fun i hi=>h i (by omega),h (k+1) (by omega)]
theorem uju{ts ts':Nat→List UInt8}{k:Nat}(h:∀i,i<k→ts i=ts' i):par ts k=par ts' k:=by
 unfold par;rw[uca h]
theorem ubf(ts:Nat→List UInt8){k:Nat}(h:0<k):ube ts (k+1)=ube ts k++32::ts k:=by
 obtain⟨j,rfl⟩:∃j,k=j+1:=⟨k-1,by omega⟩
 rfl
def put(o:Option (List UInt8))(t:List UInt8):Option (List UInt8):=
 match o with
 | none=>none
 | some s=>if s.length+t.length≤262144 then some (s++t)else none
theorem uuu(t:List UInt8):put none t=none:=rfl
theorem ugf{s t:List UInt8}(h:s.length+t.length≤262144):put (some s) t=some (s++t):=if_pos h
theorem ue8{s t:List UInt8}(h:¬s.length+t.length≤262144):put (some s) t=none:=if_neg h
theorem uiu(o:Option (List UInt8))(a b:List UInt8):put (put o a) b=put o (a++b):=by
 cases o with
 | none=>rfl
 | some s=>
  by_cases h:s.length+a.length≤262144
  ·rw[ugf h]
   by_cases h2:s.length+a.length+b.length≤262144
   ·rw[ugf (by simpa using h2),ugf (by simp;omega),List.append_assoc]
   ·rw[ue8 (by simpa using h2),ue8 (by simp;omega)]
  ·rw[ue8 h,uuu,ue8 (by simp;omega)]
def listed(o:Option (List UInt8))(ts:Nat→List UInt8)(k:Nat):Option (List UInt8):=put o (40::ube ts k)
theorem uf3(o:Option (List UInt8))(ts:Nat→List UInt8):put (listed o ts 0) (ts 0)=listed o ts 1:=by
 unfold listed;rw[uiu];rfl
theorem ugl(o:Option (List UInt8))(ts:Nat→List UInt8){k:Nat}(h:0<k):put (put (listed o ts k) [32]) (ts k)=listed o ts (k+1):=by
 unfold listed;rw[uiu,uiu,ubf ts h];simp
theorem uh6(o:Option (List UInt8))(ts:Nat→List UInt8)(k:Nat):put (listed o ts k) [41]=put o (par ts k):=by
 unfold listed;rw[uiu];rfl
theorem ull(o:Option (List UInt8))(ts:Nat→List UInt8){k n:Nat}(hk:k≤n)(h:listed o ts k=none):put o (par ts n)=none:=by
 have key:∀j,listed o ts (k+j)=none:=by
  intro j;induction j with
  | zero=>exact h
  | succ j ih=>
   rcases Nat.eq_zero_or_pos (k+j)with h0|h0
   ·rw[show k+(j+1)=1 by omega,←uf3,←h0,ih];rfl
   ·rw[show k+(j+1)=k+j+1 by omega,←ugl o ts h0,ih];rfl
 obtain⟨j,rfl⟩:∃j,n=k+j:=⟨n-k,by omega⟩
 rw[←uh6,key j];rfl
def want(b:UInt8):Option (List UInt8)→Option (List UInt8)
 | some (c::r)=>if c=b then some r else none
 | _=>none
theorem ujv(b:UInt8):want b none=none:=rfl
theorem uuv(b:UInt8):want b (some [])=none:=rfl
theorem ue9(b:UInt8)(r:List UInt8):want b (some (b::r))=some r:=if_pos rfl
theorem ulm{b c:UInt8}(r:List UInt8)(h:c≠b):want b (some (c::r))=none:=if_neg h
theorem ual{b:UInt8}{o:Option (List UInt8)}{r:List UInt8}(h:want b o=some r):o=some (b::r):=by
 match o,h with
 | some (c::r'),h=>
  by_cases e:c=b
  ·subst e;rw[ue9]at h;injection h with h;rw[h]
  ·rw[ulm _ e]at h;cases h
 | some [],h=>cases h
 | none,h=>cases h
def uer(c:UInt8):Bool:=c==32||c==40||c==41
def uar(r:List UInt8):List UInt8:=r.takeWhile fun c=> !uer c
def ubn(r:List UInt8):List UInt8:=r.dropWhile fun c=> !uer c
theorem uds(r:List UInt8):uar r++ubn r=r:=List.takeWhile_append_dropWhile
theorem ucb(r:List UInt8):(uar r).length+(ubn r).length=r.length:=by
 rw[←List.length_append,uds]
def ubh(ok:List UInt8→Bool):Option (List UInt8)→Option (List UInt8)
 | some r=>if ok (uar r)then some (ubn r)else none
 | none=>none
def uiv(rdE:Option (List UInt8)→Option (List UInt8)):Nat→Nat→Option (List UInt8)→Option (List UInt8)
 | 0,_,_=>none
 | F+1,n,o=>
  match o with
  | none=>none
  | some r=>if r.head? = some 41 then some r else uiv rdE F (n+1) (rdE (if n=0 then some r else want 32 (some r)))
theorem ucy(rdE:Option (List UInt8)→Option (List UInt8))(F n:Nat):uiv rdE F n none=none:=by cases F<;>rfl
theorem ugm(rdE:Option (List UInt8)→Option (List UInt8))(F n:Nat){r:List UInt8}(h:r.head? = some 41):uiv rdE (F+1) n (some r)=some r:=if_pos h
theorem ued(rdE:Option (List UInt8)→Option (List UInt8))(F n:Nat){r:List UInt8}(h:r.head? ≠ some 41):uiv rdE (F+1) n (some r)=uiv rdE F (n+1) (rdE (if n=0 then some r else want 32 (some r))):=if_neg h
inductive Shape where
 | int|bool|rat|big|fin
 | no (s:Shape)
 | list (s:Shape)
 | st (f:Shape)
 | and (s f:Shape)
def Shape.sz:Shape→Nat
 | .int=>1
 | .bool=>1
 | .rat=>3
 | .big=>3
 | .no s=>s.sz
 | .fin=>0
 | .list _=>1
 | .st f=>f.sz
 | .and s f=>s.sz+f.sz
def uR(l:List UInt8):Nat:=l.foldl (fun a c=>a*10+(c.toNat-48)) 0
def uaa(l:List UInt8):Bool:=l.all fun c=>decide (48≤c.toNat)&&decide (c.toNat≤57)
def uap(l:List UInt8):Option Nat:=if 0<l.length∧l.length≤200∧uaa l=true then some (uR l)else none
def ubc(l:List UInt8):Option Rat:=
 match uap (Lib.cut (Lib.trimPrefix l [45]) [47]).1 with
 | none=>none
 | some n=>
  if(Lib.cut (Lib.trimPrefix l [45]) [47]).2.2 then
   match uap (Lib.cut (Lib.trimPrefix l [45]) [47]).2.1 with
   | none=>none
   | some d=>if d=0 then none else some (mkRat (if Lib.hasPrefix l [45]then -(n:Int)else n) d)
  else some (mkRat (if Lib.hasPrefix l [45]then -(n:Int)else n) 1)
def ues(q:Rat):List UInt8:=
 (if q.num<0 then 45::Lib.decDigits q.num.natAbs else Lib.decDigits q.num.natAbs)++(if q.den=1 then []else 47::Lib.decDigits q.den)
def ubu(l:List UInt8):Bool:=l==[48]||l==[49]
def ubl(l:List UInt8):Bool:=
 match Lib.parseIntB 64 l with
 | .ok n=>Lib.itoa n==l
 | _=>false
def udb(l:List UInt8):Bool:=
 match ubc l with
 | some q=>ues q==l
 | none=>false
theorem uo8:ubu []=false:=rfl
theorem udt:ubl []=false:=rfl
theorem ucd:udb []=false:=by
 have h:ubc []=none:=by decide
 unfold udb;rw[h]
def rd:Shape→Nat→Option (List UInt8)→Option (List UInt8)
 | .int,_,o=>ubh ubl o
 | .bool,_,o=>ubh ubu o
 | .rat,_,o=>ubh udb o
 | .big,_,_=>none
 | .no _,_,_=>none
 | .fin,_,o=>o
 | .list s,_,o=>match o with
  | none=>none
  | some r=>want 41 (uiv (rd s 0) (r.length+1) 0 (want 40 (some r)))
 | .st f,_,o=>want 41 (rd f 0 (want 40 o))
 | .and s f,n,o=>rd f (n+1) (rd s 0 (if n=0 then o else want 32 o))
theorem udc:∀(s:Shape) (n:Nat),rd s n none=none
 | .int,_=>rfl
 | .bool,_=>rfl
 | .rat,_=>rfl
 | .big,_=>rfl
 | .no _,_=>rfl
 | .fin,_=>rfl
 | .list _,_=>rfl
 | .st f,_=>by unfold rd;rw[ujv,udc f,ujv]
 | .and s f,n=>by
  unfold rd;have:(if n=0 then none else want 32 none)=none:=by split<;>rfl
  rw[this,udc s,udc f]
def Shape.one:Shape→Bool
 | .fin=>false
 | .and _ _=>false
 | _=>true
theorem uet{ok:List UInt8→Bool}(h0:ok []=false){o:Option (List UInt8)}{r':List UInt8}(h:ubh ok o=some r'):∃r,o=some r∧r'.length<r.length:=by
 cases o with
 | none=>cases h
 | some r=>
  refine⟨r,rfl,?_⟩;unfold ubh at h;by_cases hk:ok (uar r)=true
  ·simp only[hk,if_true,Option.some.injEq]at h
   subst h;have:=ucb r;rcases Nat.eq_zero_or_pos (uar r).length with h1|h1
   ·rw[List.length_eq_zero_iff.1 h1,h0]at hk;cases hk
   ·omega
  ·simp only[hk]at h;cases h
theorem ucz{b:UInt8}{o:Option (List UInt8)}{r':List UInt8}(h:want b o=some r'):∃r,o=some r∧r'.length+1=r.length:=⟨_,ual h,rfl⟩
theorem uh7(rdE:Option (List UInt8)→Option (List UInt8))(he:∀o r',rdE o=some r'→∃r,o=some r∧r'.length≤r.length):∀(F n:Nat) (o:Option (List UInt8)) (r':List UInt8),uiv rdE F n o=some r'→∃r,o=some r∧r'.length≤r.length
 | 0,_,_,_,h=>by cases h
 | F+1,n,none,_,h=>by rw[ucy]at h;cases h
 | F+1,n,some r,r',h=>by
  refine⟨r,rfl,?_⟩;by_cases hr:r.head? = some 41
  ·rw[ugm _ _ _ hr]at h;injection h with h;rw[h];exact Nat.le_refl _
  ·rw[ued _ _ _ hr]at h
   obtain⟨r2,h2,h3⟩:=uh7 rdE he F _ _ _ h;obtain⟨r3,h4,h5⟩:=he _ _ h2;by_cases hn:n=0
   ·rw[if_pos hn]at h4;injection h4 with h4;subst h4;omega
   ·rw[if_neg hn]at h4
    obtain⟨r4,h6,h7⟩:=ucz h4;injection h6 with h6;subst h6;omega
theorem uln:∀(s:Shape) (n:Nat) (o:Option (List UInt8)) (r':List UInt8),rd s n o=some r'→∃r,o=some r∧r'.length+(if s.one then 1 else 0)≤r.length
 | .int,_,o,r',h=>by obtain⟨r,h1,h2⟩:=uet udt h;exact⟨r,h1,h2⟩
 | .bool,_,o,r',h=>by obtain⟨r,h1,h2⟩:=uet uo8 h;exact⟨r,h1,h2⟩
 | .rat,_,o,r',h=>by obtain⟨r,h1,h2⟩:=uet ucd h;exact⟨r,h1,h2⟩
 | .big,_,o,r',h=>by cases h
 | .no _,_,o,r',h=>by cases h
 | .fin,_,o,r',h=>⟨r',h,Nat.le_refl _⟩
 | .list s,_,none,r',h=>by cases h
 | .list s,_,some r,r',h=>by
  unfold rd at h;obtain⟨r1,h1,h2⟩:=ucz h;obtain⟨r2,h3,h4⟩:=uh7 _ (fun o r hr=>by
   obtain⟨q,hq,hl⟩:=uln s 0 o r hr;exact⟨q,hq,by split at hl<;>omega⟩) _ _ _ _ h1
  obtain⟨r3,h5,h6⟩:=ucz h3;injection h5 with h5;subst h5;exact⟨_,rfl,by simp[Shape.one];omega⟩
 | .st f,_,o,r',h=>by
  unfold rd at h;obtain⟨r1,h1,h2⟩:=ucz h;obtain⟨r2,h3,h4⟩:=uln f 0 _ _ h1;obtain⟨r3,h5,h6⟩:=ucz h3;exact⟨r3,h5,by simp[Shape.one];split at h4<;>omega⟩
 | .and s f,n,o,r',h=>by
  unfold rd at h;obtain⟨r1,h1,h2⟩:=uln f (n+1) _ _ h;obtain⟨r2,h3,h4⟩:=uln s 0 _ _ h1;by_cases hn:n=0
  ·rw[if_pos hn]at h3
   exact⟨r2,h3,by simp[Shape.one];split at h4<;>split at h2<;>omega⟩
  ·rw[if_neg hn]at h3
   obtain⟨r3,h5,h6⟩:=ucz h3;exact⟨r3,h5,by simp[Shape.one];split at h4<;>split at h2<;>omega⟩
end AC
/-
  Plain facts about digits to the base 10^9: no program in sight.
-/
namespace AC
set_option linter.unusedVariables false
set_option linter.unusedSimpArgs false
theorem gq{α:Type}:(∀(l:List α) (i:Nat),l.toArray[i]? = l[i]?)∧(∀(a:α) (l:List α),(a::l)[0]? = some a)∧(∀(a:α) (l:List α) (i:Nat),(a::l)[i+1]? = l[i]?):=
 ⟨fun _ _=>List.getElem?_toArray,fun _ _=>rfl,fun _ _ _=>List.getElem?_cons_succ⟩
theorem gf{α:Type}:(∀(a:List α) (l:List (List α)),(a::l).flatten=a++l.flatten)∧(([]:List (List α)).flatten=[])∧(∀l:List α,l++[]=l)∧(∀(a:α) (l m:List α),(a::l)++m=a::(l++m))∧(∀l:List α,[]++l=l):=
 ⟨fun _ _=>rfl,rfl,List.append_nil,fun _ _ _=>rfl,fun _=>rfl⟩
def B:Nat:=1000000000
theorem udd:B=1000000000:=rfl
theorem udu:0<B:=by decide
theorem uZ(k:Nat):0<B^k:=Nat.pow_pos udu
def vs(f:Nat→Nat):Nat→Nat
 | 0=>0
 | n+1=>vs f n+f n*B^n
def dg(n i:Nat):Nat:=n/B^i%B
def dl(n:Nat):Nat:=if h:n=0 then 0 else dl (n/B)+1
termination_by n
decreasing_by exact Nat.div_lt_self (Nat.pos_of_ne_zero h) (by decide)
theorem uai(n i:Nat):dg n i<B:=Nat.mod_lt _ udu
theorem uiw{f g:Nat→Nat}{k:Nat}(h:∀i,i<k→f i=g i):vs f k=vs g k:=by
 induction k with
 | zero=>rfl
 | succ k ih=>simp only[vs];rw[ih (fun i hi=>h i (by omega)),h k (by omega)]
theorem uo9{f:Nat→Nat}{k:Nat}(h:∀i,i<k→f i<B):vs f k<B^k:=by
 induction k with
 | zero=>simp[vs]
 | succ k ih=>
  have h1:=ih (fun i hi=>h i (by omega))
  have h2:f k+1≤B:=h k (by omega)
  have h3:(f k+1)*B^k≤B*B^k:=Nat.mul_le_mul_right _ h2;simp only[vs];rw[Nat.pow_succ,Nat.mul_comm (B^k) B];rw[Nat.add_mul,Nat.one_mul]at h3;omega
theorem uY(n k:Nat):n%B^(k+1)=n%B^k+dg n k*B^k:=by
 unfold dg;rw[Nat.pow_succ,Nat.mod_mul,Nat.mul_comm (B^k)]
theorem uuw(n k:Nat):vs (dg n) k=n%B^k:=by
 induction k with
 | zero=>simp[vs,Nat.mod_one]
 | succ k ih=>rw[vs,ih,uY]
theorem uw3(f:Nat→Nat)(k:Nat):vs f (k+1)/B^k=f k+vs f k/B^k:=by
 rw[vs,Nat.add_mul_div_right _ _ (uZ k),Nat.add_comm]
theorem ua6(n k:Nat):n/B^(k+1)=n/B^k/B:=by
 rw[Nat.pow_succ,Nat.div_div_eq_div_mul]
theorem uce(f:Nat→Nat)(k:Nat):vs f (k+1)/B^(k+1)=(f k+vs f k/B^k)/B:=by
 rw[ua6,uw3]
theorem urs(f:Nat→Nat){i k:Nat}(h:i<k):dg (vs f k) i=dg (vs f (i+1)) i:=by
 induction k with
 | zero=>omega
 | succ k ih=>
  rcases Nat.lt_or_ge i k with hk|hk
  ·rw[←ih hk]
   unfold dg;rw[vs];obtain⟨d,rfl⟩:∃d,k=i+1+d:=⟨k-(i+1),by omega⟩
   have e:f (i+1+d)*B^(i+1+d)=f (i+1+d)*B^d*B*B^i:=by
    rw[Nat.pow_add,Nat.pow_succ];simp only[Nat.mul_comm,Nat.mul_left_comm,Nat.mul_assoc]
   rw[e,Nat.add_mul_div_right _ _ (uZ i),Nat.add_mul_mod_self_right]
  ·obtain rfl:i=k:=by omega
   rfl
theorem udv(f:Nat→Nat){i k:Nat}(h:i<k):dg (vs f k) i=(f i+vs f i/B^i)%B:=by
 rw[urs f h];unfold dg;rw[uw3]
theorem uxi{f:Nat→Nat}{i k:Nat}(hf:∀j,j<k→f j<B)(h:i<k):dg (vs f k) i=f i:=by
 rw[udv f h,Nat.div_eq_of_lt (uo9 (fun j hj=>hf j (by omega))),Nat.add_zero,Nat.mod_eq_of_lt (hf i h)]
theorem uab:dl 0=0:=by rw[dl];simp
theorem uw4{n:Nat}(h:n≠0):dl n=dl (n/B)+1:=by rw[dl];simp[h]
theorem ucp{n k:Nat}(h:n<B^k):dl n≤k:=by
 induction k generalizing n with
 | zero=>
  have:n=0:=by simpa using h
  subst this;rw[uab];exact Nat.le_refl _
 | succ k ih=>
  by_cases h0:n=0
  ·subst h0;rw[uab];omega
  ·rw[uw4 h0]
   have:n/B<B^k:=by
    rw[Nat.div_lt_iff_lt_mul udu,←Nat.pow_succ];exact h
   have:=ih this;omega
theorem uav(n:Nat):n<B^(dl n):=by
 induction n using Nat.strongRecOn with
 | ind n ih=>
  by_cases h0:n=0
  ·subst h0;rw[uab];decide
  ·rw[uw4 h0,Nat.pow_succ]
   have:=ih (n/B) (Nat.div_lt_self (Nat.pos_of_ne_zero h0) (by decide))
   rwa [Nat.div_lt_iff_lt_mul udu]at this
theorem uux{n k:Nat}(h:B^k≤n):k<dl n:=by
 rcases Nat.lt_or_ge k (dl n)with h1|h1
 ·exact h1
 ·have h2:=uav n
  have h3:B^(dl n)≤B^k:=Nat.pow_le_pow_right udu h1;omega
theorem uS{n:Nat}:dl n=0↔n=0:=by
 constructor
 ·intro h;have:=uav n;rw[h]at this;simpa using this
 ·rintro rfl;exact uab
theorem ujw{n k:Nat}(h1:n<B^(k+1))(h2:B^k≤n):dl n=k+1:=by
 have:=ucp h1;have:=uux h2;omega
theorem udw{n:Nat}(h:n≠0):B^(dl n-1)≤n:=by
 rcases Nat.lt_or_ge n (B^(dl n-1))with h1|h1
 ·have:=ucp h1
  have h2:dl n≠0:=fun e=>h (uS.1 e)
  omega
 ·exact h1
theorem ujx{n:Nat}(h:n≠0):dg n (dl n-1)≠0:=by
 have h1:=udw h;have h2:=uav n;have h3:dl n≠0:=fun e=>h (uS.1 e)
 obtain⟨d,hd⟩:∃d,dl n=d+1:=⟨dl n-1,by omega⟩
 rw[hd]at h1 h2 ⊢;simp only[Nat.add_sub_cancel]at h1 ⊢;unfold dg;have h4:n/B^d<B:=by
  rw[Nat.div_lt_iff_lt_mul (uZ d),Nat.mul_comm,←Nat.pow_succ];exact h2
 rw[Nat.mod_eq_of_lt h4];have:=(Nat.le_div_iff_mul_le (k:=B^d) (x:=1) (y:=n) (uZ d)).2 (by omega)
 omega
theorem uf4{n i:Nat}(h:n<B^i):dg n i=0:=by
 unfold dg;rw[Nat.div_eq_of_lt h];exact Nat.zero_mod _
theorem ujy{n i:Nat}(h:dl n≤i):dg n i=0:=
 uf4 (Nat.lt_of_lt_of_le (uav n) (Nat.pow_le_pow_right udu h))
theorem ub6{n m:Nat}(h:n≤m):dl n≤dl m:=ucp (Nat.lt_of_le_of_lt h (uav m))
theorem ulo(n:Nat):vs (dg n) (dl n)=n:=by rw[uuw,Nat.mod_eq_of_lt (uav n)]
theorem uf5{n k:Nat}(h:n<B^k)(ht:k=0∨dg n (k-1)≠0):dl n=k:=by
 have h1:=ucp h;rcases Nat.lt_or_ge (dl n) k with h2|h2
 ·exact absurd (ujy (n:=n) (i:=k-1) (by omega)) (by rcases ht with ht|ht;omega;exact ht)
 ·omega
theorem urt(a b:Nat):dl (a*b)≤dl a+dl b:=by
 apply ucp;rw[Nat.pow_add];have h1:=uav a;have h2:=uav b;rcases Nat.eq_zero_or_pos a with h0|h0
 ·subst h0;rw[Nat.zero_mul];exact Nat.mul_pos (uZ _) (uZ _)
 ·exact Nat.mul_lt_mul_of_lt_of_le h1 (Nat.le_of_lt h2) (uZ _)
theorem ude{a b:Nat}(h:dl a<dl b):a<b:=by
 rcases Nat.lt_or_ge a b with h1|h1
 ·exact h1
 ·have:=ub6 h1;omega
end AC
/-
  Plain facts for the long division: the guess of a digit.
-/
namespace AC
set_option linter.unusedVariables false
set_option linter.unusedSimpArgs false
theorem ulq{U V head top next u2 vl ul P q:Nat}(hV:V=(top*B+next)*P+vl)(hU:U=(head*B+u2)*P+ul)(hul:ul<P)(hu2:u2<B)(hq:q*V≤U):q*top≤head:=by
 rcases Nat.lt_or_ge head (q*top)with h|h
 ·exfalso
  have h1:q*(top*B*P)≤q*V:=Nat.mul_le_mul_left q (by rw[hV,Nat.add_mul];omega)
  have h2:(head+1)*(B*P)≤q*top*(B*P):=Nat.mul_le_mul_right _ h;have h3:q*(top*B*P)=q*top*(B*P):=by simp only[Nat.mul_assoc]
  have h4:(u2+1)*P≤B*P:=Nat.mul_le_mul_right _ hu2;have h5:(head*B+u2)*P=head*(B*P)+u2*P:=by rw[Nat.add_mul,Nat.mul_assoc]
  rw[Nat.add_mul,Nat.one_mul]at h2 h4;omega
 ·exact h
theorem upc{U V head top next u2 vl ul P q g r:Nat}(hV:V=(top*B+next)*P+vl)(hU:U=(head*B+u2)*P+ul)(hul:ul<P)(hh:head=g*top+r)
 (hg:r*B+u2<g*next) (hq:q*V≤U):q<g:=by
 rcases Nat.lt_or_ge q g with h|h
 ·exact h
 ·exfalso
  have h1:g*((top*B+next)*P)≤q*V:=Nat.mul_le_mul h (by rw[hV];omega)
  have h2:g*((top*B+next)*P)=(g*top*B+g*next)*P:=by rw[←Nat.mul_assoc,Nat.mul_add,Nat.mul_assoc]
  have h3:head*B+u2+1≤g*top*B+g*next:=by
   have:head*B=g*top*B+r*B:=by rw[hh,Nat.add_mul]
   omega
  have h4:(head*B+u2+1)*P≤(g*top*B+g*next)*P:=Nat.mul_le_mul_right _ h3;rw[Nat.add_mul,Nat.one_mul]at h4;omega
theorem uh9{U V head top next u2 vl ul P g r:Nat}(hV:V=(top*B+next)*P+vl)(hvl:vl<P)(hnext:next<B)(hU:U=(head*B+u2)*P+ul)(hh:head=g*top+r)
 (htop:0<top) (hgB:g<B) (hend:B≤r∨g*next≤r*B+u2):(g-1)*V≤U:=by
 rcases Nat.eq_zero_or_pos g with h0|h0
 ·subst h0;simp
 obtain⟨k,rfl⟩:∃k,g=k+1:=⟨g-1,by omega⟩
 simp only[Nat.add_sub_cancel];rcases hend with h|h
 ·have h1:V≤(top+1)*(B*P):=by
   have h2:(next+1)*P≤B*P:=Nat.mul_le_mul_right _ hnext;rw[Nat.add_mul,Nat.one_mul]at h2;have h3:(top*B+next)*P=top*(B*P)+next*P:=by rw[Nat.add_mul,Nat.mul_assoc]
   rw[Nat.add_mul,Nat.one_mul];omega
  have h2:k*V≤k*((top+1)*(B*P)):=Nat.mul_le_mul_left _ h1;have h3:k*((top+1)*(B*P))=(k*top+k)*(B*P):=by rw[←Nat.mul_assoc,Nat.mul_add,Nat.mul_one]
  have h4:(k*top+k)*(B*P)≤head*(B*P):=by
   apply Nat.mul_le_mul_right;rw[hh,Nat.add_mul];omega
  have h5:(head*B+u2)*P=head*(B*P)+u2*P:=by rw[Nat.add_mul,Nat.mul_assoc]
  omega
 ·have h1:V≤(top*B+next+1)*P:=by rw[Nat.add_mul (top*B+next),Nat.one_mul];omega
  have h2:k*V≤k*((top*B+next+1)*P):=Nat.mul_le_mul_left _ h1;have h3:k*((top*B+next+1)*P)=(k*(top*B+next)+k)*P:=by rw[←Nat.mul_assoc,Nat.mul_add k (top*B+next),Nat.mul_one]
  have h4:k*(top*B+next)+k≤head*B+u2:=by
   have e1:head*B=(k+1)*top*B+r*B:=by rw[hh,Nat.add_mul]
   have e2:(k+1)*(top*B+next)=(k+1)*top*B+(k+1)*next:=by rw[Nat.mul_add,Nat.mul_assoc]
   have e3:(k+1)*(top*B+next)=k*(top*B+next)+(top*B+next):=by rw[Nat.add_mul,Nat.one_mul]
   have e4:1*B≤top*B:=Nat.mul_le_mul_right _ htop;omega
  have h5:(k*(top*B+next)+k)*P≤(head*B+u2)*P:=Nat.mul_le_mul_right _ h4;omega
theorem upe{U V head top next u2 vl ul P g r:Nat}(hV:V=(top*B+next)*P+vl)(hvl:vl<P)(hnext:next<B)(hU:U=(head*B+u2)*P+ul)(hh:head=g*top+r)
 (hUV:U<V*B) (hr:B≤r):g<B:=by
 rcases Nat.lt_or_ge g B with h|h
 ·exact h
 ·exfalso
  have h1:B*top≤g*top:=Nat.mul_le_mul_right _ h;have h2:(B*top+B)*(B*P)≤head*(B*P):=Nat.mul_le_mul_right _ (by omega)
  have h3:V*B≤(top+1)*(B*P)*B:=by
   apply Nat.mul_le_mul_right;have h2:(next+1)*P≤B*P:=Nat.mul_le_mul_right _ hnext;rw[Nat.add_mul,Nat.one_mul]at h2;have h3:(top*B+next)*P=top*(B*P)+next*P:=by rw[Nat.add_mul,Nat.mul_assoc]
   rw[Nat.add_mul,Nat.one_mul];omega
  have h4:(top+1)*(B*P)*B=(B*top+B)*(B*P):=by
   have:B*top+B=(top+1)*B:=by rw[Nat.add_mul,Nat.one_mul,Nat.mul_comm]
   rw[this];simp only[Nat.mul_comm,Nat.mul_left_comm,Nat.mul_assoc]
  have h5:(head*B+u2)*P=head*(B*P)+u2*P:=by rw[Nat.add_mul,Nat.mul_assoc]
  omega
theorem uxj(V m:Nat)(h:V<B^(m+2)):V=(dg V (m+1)*B+dg V m)*B^m+V%B^m:=by
 have h1:=uY V (m+1);have h2:=uY V m;rw[Nat.mod_eq_of_lt h]at h1;have h3:dg V (m+1)*B^(m+1)=dg V (m+1)*B*B^m:=by rw[Nat.pow_succ,Nat.mul_comm (B^m) B,Nat.mul_assoc]
 rw[Nat.add_mul];omega
theorem uj0(f:Nat→Nat)(m:Nat):vs f (m+3)=((f (m+2)*B+f (m+1))*B+f m)*B^m+vs f m:=by
 simp only[vs];have e1:f (m+1)*B^(m+1)=f (m+1)*B*B^m:=by rw[Nat.pow_succ,Nat.mul_comm (B^m) B,Nat.mul_assoc]
 have e2:f (m+2)*B^(m+2)=f (m+2)*B*B*B^m:=by
  rw[Nat.pow_succ,Nat.pow_succ];simp only[Nat.mul_comm,Nat.mul_left_comm,Nat.mul_assoc]
 rw[e1,e2];simp only[Nat.add_mul];omega
end AC
/-
  Plain facts about rational numbers and their sizes.
-/
namespace AC
set_option linter.unusedVariables false
set_option linter.unusedSimpArgs false
def sg(neg:Bool)(n:Nat):Int:=if neg then -(n:Int)else(n:Int)
theorem ubo(neg:Bool)(n:Nat):(sg neg n).natAbs=n:=by cases neg<;>simp[sg]
theorem uix(neg:Bool):sg neg 0=0:=by cases neg<;>simp[sg]
theorem uys(neg:Bool)(n d:Nat)(hd:d≠0):(mkRat (sg neg n) d).den=d/Nat.gcd n d:=by
 rw[Rat.den_mkRat,if_neg hd,ubo,Nat.gcd_comm]
theorem uw7(neg:Bool)(n d:Nat)(hd:d≠0):(mkRat (sg neg n) d).num=sg neg (n/Nat.gcd n d):=by
 rw[Rat.num_mkRat,if_neg hd,ubo,Nat.gcd_comm];cases neg
 ·simp[sg]
 ·simp only[sg,if_true]
  rw[Int.neg_ediv_of_dvd (Int.natCast_dvd_natCast.2 (Nat.gcd_dvd_left n d))];simp
theorem ur0(neg:Bool)(n d:Nat)(hd:d≠0):(mkRat (sg neg n) d).num.natAbs=n/Nat.gcd n d:=by
 rw[uw7 neg n d hd,ubo]
theorem ur1{n d:Nat}(hn:n≠0):n/Nat.gcd n d≠0:=by
 have h1:0<Nat.gcd n d:=Nat.gcd_pos_of_pos_left d (Nat.pos_of_ne_zero hn);have h2:Nat.gcd n d≤n:=Nat.gcd_le_left d (Nat.pos_of_ne_zero hn);have:=Nat.div_pos h2 h1;omega
theorem uyt(neg:Bool)(n d:Nat)(hd:d≠0)(hn:n≠0):decide ((mkRat (sg neg n) d).num<0)=neg:=by
 rw[uw7 neg n d hd];have:=ur1 (d:=d) hn;generalize n/Nat.gcd n d=m at *;cases neg
 ·simp[sg]
 ·simp[sg];omega
def sz(q:Rat):Nat:=max (dl q.num.natAbs) (dl q.den)
theorem upi(x:Int)(d k:Nat)(h1:dl x.natAbs≤k)(h2:dl d≤k)(hk:1≤k):sz (mkRat x d)≤k:=by
 unfold sz;rw[Rat.num_mkRat,Rat.den_mkRat];by_cases hd:d=0
 ·subst hd
  have:dl 1=1:=ujw (k:=0) (by decide) (by decide)
  simp[uab,this];omega
 ·rw[if_neg hd,if_neg hd]
  apply Nat.max_le.2;constructor
  ·refine Nat.le_trans (ub6 ?_) h1
   have:(x/((Nat.gcd d x.natAbs:Nat):Int)).natAbs≤x.natAbs:=by
    have hdv:((Nat.gcd d x.natAbs:Nat):Int)∣x:=Int.ofNat_dvd_left.2 (Nat.gcd_dvd_right _ _);rw[Int.natAbs_ediv_of_dvd hdv];exact Nat.div_le_self _ _
   exact this
  ·exact Nat.le_trans (ub6 (Nat.div_le_self _ _)) h2
end AC
/-
  Decimal numerals, by limbs: no program in sight.
-/
namespace AC
open Go
set_option linter.unusedVariables false
set_option linter.unusedSimpArgs false
def ufs:Nat→Nat→List UInt8
 | 0,_=>[]
 | j+1,d=>ufs j (d/10)++[UInt8.ofNat (48+d%10)]
theorem ugt{u:Nat}(h:¬u<10):Lib.decDigits u=Lib.decDigits (u/10)++[UInt8.ofNat (48+u%10)]:=by rw[Lib.decDigits,dif_neg h]
theorem ul2:∀(j m d:Nat),0<m→d<10^j→Lib.decDigits (m*10^j+d)=Lib.decDigits m++ufs j d
 | 0,m,d,hm,hd=>by
  have:d=0:=by simpa using hd
  subst this;simp[ufs]
 | j+1,m,d,hm,hd=>by
  have hp:1≤10^j:=Nat.one_le_pow _ _ (by decide)
  have h1:m*10^(j+1)=m*10^j*10:=by rw[Nat.pow_succ,Nat.mul_assoc]
  have h2:1≤m*10^j:=Nat.mul_pos hm hp;rw[ugt (by omega),show(m*10^(j+1)+d)/10=m*10^j+d/10 by omega,show(m*10^(j+1)+d)%10=d%10 by omega,
   ul2 j m (d/10) hm (by rw[Nat.pow_succ]at hd;omega)]
  simp[ufs]
theorem uoc:∀j,ufs j 0=List.replicate j 48
 | 0=>rfl
 | j+1=>by
  unfold ufs;rw[Nat.zero_div,uoc j,List.replicate_succ'];rfl
theorem usc:∀(j d:Nat),0<j→d<10^j→ufs j d=List.replicate (j-Lib.nDigits d) 48++Lib.decDigits d
 | j+1,d,_,hd=>by
  unfold ufs;by_cases h:d<10
  ·rw[Nat.div_eq_of_lt h,uoc,Lib.nDigits_small h,Lib.decDigits,dif_pos h,Nat.mod_eq_of_lt h]
   rfl
  ·have hj:0<j:=by
    rcases Nat.eq_zero_or_pos j with h0|h0
    ·subst h0;simp at hd;omega
    ·exact h0
   rw[usc j (d/10) hj (by rw[Nat.pow_succ]at hd;omega),Lib.nDigits_big h,ugt h,Nat.add_sub_add_right,List.append_assoc]
theorem ugu:∀c,Lib.repeatL [48] c=List.replicate c 48
 | 0=>rfl
 | c+1=>by unfold Lib.repeatL;rw[ugu c];rfl
theorem uft{d:Nat}(h:d<B):Lib.nDigits d≤9:=by
 have key:∀(j d:Nat),0<j→d<10^j→Lib.nDigits d≤j:=by
  intro j;induction j with
  | zero=>intro d h;omega
  | succ j ih=>
   intro d _ hd;by_cases h:d<10
   ·rw[Lib.nDigits_small h];omega
   ·rw[Lib.nDigits_big h]
    have hj:0<j:=by
     rcases Nat.eq_zero_or_pos j with h0|h0
     ·subst h0;simp at hd;omega
     ·exact h0
    have:=ih (d/10) hj (by rw[Nat.pow_succ]at hd;omega)
    omega
 exact key 9 d (by omega) (by rw[udd]at h;exact h)
theorem uvb{m d:Nat}(hm:0<m)(hd:d<B):Lib.decDigits (m*B+d)=Lib.decDigits m++(Lib.repeatL [48] (9-Lib.nDigits d)++Lib.decDigits d):=by
 have h9:d<10^9:=by rw[udd]at hd;exact hd
 rw[show B=10^9 by rw[udd],ul2 9 m d hm h9,usc 9 d (by omega) h9,ugu]
def uat(n k i:Nat):List UInt8:=if i=0 then []else Lib.decDigits (n/B^(k-i))
theorem uem{n k:Nat}(hk:dl n=k)(h0:0<k):uat n k 1=Lib.decDigits (dg n (k-1)):=by
 unfold uat;rw[if_neg (by omega)]
 congr 1
 unfold dg;rw[Nat.mod_eq_of_lt];rw[Nat.div_lt_iff_lt_mul (uZ _),Nat.mul_comm,←Nat.pow_succ];have h1:(k-1).succ=dl n:=by omega
 rw[h1];exact uav n
theorem uff{n k i:Nat}(hk:dl n=k)(hi:0<i)(hik:i<k):uat n k (i+1)=uat n k i++(Lib.repeatL [48] (9-Lib.nDigits (dg n (k-1-i)))++Lib.decDigits (dg n (k-1-i))):=by
 unfold uat;rw[if_neg (by omega),if_neg (by omega)]
 have h1:k-(i+1)=k-1-i:=by omega
 have h2:k-i=k-1-i+1:=by omega
 have h3:n/B^(k-1-i)=n/B^(k-i)*B+dg n (k-1-i):=by
  rw[h2,ua6];unfold dg;have:=Nat.div_add_mod (n/B^(k-1-i)) B;rw[Nat.mul_comm]at this;exact this.symm
 have h4:0<n/B^(k-i):=by
  rw[Nat.div_pos_iff];refine⟨uZ _,?_⟩;rcases Nat.lt_or_ge n (B^(k-i))with h|h
  ·have:=ucp h;omega
  ·exact h
 rw[h1,h3,uvb h4 (uai _ _)]
theorem ud2{n k:Nat}(h0:0<k):uat n k k=Lib.decDigits n:=by
 unfold uat;rw[if_neg (by omega),Nat.sub_self,Nat.pow_zero,Nat.div_one]
theorem usd(l:List UInt8)(a:Nat):l.foldl (fun a c=>a*10+(c.toNat-48)) a=a*10^l.length+uR l:=by
 unfold uR;induction l generalizing a with
 | nil=>simp
 | cons c l ih=>
  simp only[List.foldl_cons,List.length_cons];rw[ih,ih (0*10+(c.toNat-48)),Nat.pow_succ,Nat.add_mul,Nat.zero_mul,Nat.zero_add,Nat.mul_assoc,Nat.mul_comm 10,Nat.add_assoc]
theorem ub8(a b:List UInt8):uR (a++b)=uR a*10^b.length+uR b:=by
 show(a++b).foldl _ 0=_
 rw[List.foldl_append,usd];rfl
theorem ub3:∀ {l:List UInt8},uaa l=true→uR l<10^l.length
 | [],_=>by simp[uR]
 | c::l,h=>by
  unfold uaa at h;simp only[List.all_cons,Bool.and_eq_true,decide_eq_true_eq]at h;have ih:=ub3 (l:=l) (by unfold uaa;exact h.2)
  have e:uR (c::l)=(c.toNat-48)*10^l.length+uR l:=by
   have:=ub8 [c] l;simpa[uR]using this
  rw[e,List.length_cons,Nat.pow_succ];have:(c.toNat-48)*10^l.length≤9*10^l.length:=Nat.mul_le_mul_right _ (by omega)
  omega
theorem uex{l:List UInt8}(h:uaa l=true)(n:Nat):uaa (l.take n)=true:=by
 unfold uaa at *;rw[List.all_eq_true]at *;exact fun x hx=>h x (List.mem_of_mem_take hx)
theorem uey{l:List UInt8}(h:uaa l=true)(n:Nat):uaa (l.drop n)=true:=by
 unfold uaa at *;rw[List.all_eq_true]at *;exact fun x hx=>h x (List.mem_of_mem_drop hx)
theorem upq{l:List UInt8}(h:uaa l=true)(m:Nat):uR l/10^m=uR (l.take (l.length-m)):=by
 rcases Nat.lt_or_ge m l.length with hm|hm
 ·have e:l=l.take (l.length-m)++l.drop (l.length-m):=(List.take_append_drop _ _).symm
  have hl:(l.drop (l.length-m)).length=m:=by simp;omega
  have h2:=ub3 (uey h (l.length-m));rw[hl]at h2;conv=>lhs;rw[e,ub8,hl]
  rw[Nat.mul_comm,Nat.mul_add_div (Nat.pow_pos (by decide)),Nat.div_eq_of_lt h2,Nat.add_zero]
 ·have:l.length-m=0:=by omega
  rw[this,List.take_zero];have h2:=ub3 h;rw[Nat.div_eq_of_lt (Nat.lt_of_lt_of_le h2 (Nat.pow_le_pow_right (by decide) hm))]
  rfl
theorem upr{l:List UInt8}(h:uaa l=true)(m:Nat):uR l%10^m=uR (l.drop (l.length-m)):=by
 rcases Nat.lt_or_ge m l.length with hm|hm
 ·have e:l=l.take (l.length-m)++l.drop (l.length-m):=(List.take_append_drop _ _).symm
  have hl:(l.drop (l.length-m)).length=m:=by simp;omega
  have h2:=ub3 (uey h (l.length-m));rw[hl]at h2;conv=>lhs;rw[e,ub8,hl]
  rw[Nat.add_comm,Nat.add_mul_mod_self_right,Nat.mod_eq_of_lt h2]
 ·have:l.length-m=0:=by omega
  rw[this,List.drop_zero];have h2:=ub3 h;rw[Nat.mod_eq_of_lt (Nat.lt_of_lt_of_le h2 (Nat.pow_le_pow_right (by decide) hm))]
def ua3(l:List UInt8)(j:Nat):List UInt8:=(l.take (l.length-9*j)).drop (l.length-9*j-9)
theorem usf(j:Nat):B^j=10^(9*j):=by rw[show B=10^9 from rfl,←Nat.pow_mul]
theorem uj9{l:List UInt8}(h:uaa l=true)(j:Nat):uR (ua3 l j)=dg (uR l) j:=by
 unfold dg ua3;rw[usf,upq h,show B=10^9 from rfl,upr (uex h _)]
 congr 2
 simp
theorem uka{l:List UInt8}(h:uaa l=true)(j:Nat):uaa (ua3 l j)=true:=uey (uex h _) _
theorem chunk_len(l:List UInt8)(j:Nat):(ua3 l j).length≤9:=by unfold ua3;simp;omega
theorem uez{l:List UInt8}(h:uaa l=true){j:Nat}(hj:l.length≤9*j):uR l<B^j:=by
 rw[usf];exact Nat.lt_of_lt_of_le (ub3 h) (Nat.pow_le_pow_right (by decide) hj)
theorem ue0(l:List UInt8)(c:UInt8):uR (l++[c])=uR l*10+(c.toNat-48):=by
 unfold uR;rw[List.foldl_append];rfl
theorem ucj{l:List UInt8}(h:uaa l=true){i:Nat}{c:UInt8}(hc:l[i]? = some c):48≤c.toNat∧c.toNat≤57:=by
 unfold uaa at h;rw[List.all_eq_true]at h;have:=h c (List.mem_of_getElem? hc);simpa using this
def DigTo(l:List UInt8)(i:Nat):Prop:=∀j c,j<i→l[j]? = some c→48≤c.toNat∧c.toNat≤57
theorem DigTo.all{l:List UInt8}(h:DigTo l l.length):uaa l=true:=by
 unfold uaa;rw[List.all_eq_true];intro x hx;obtain⟨j,hj,rfl⟩:=List.mem_iff_getElem.1 hx;have:=h j _ hj (List.getElem?_eq_getElem hj);simpa using this
theorem DigTo.not{l:List UInt8}{i:Nat}{c:UInt8}(hc:l[i]? = some c)(h:c.toNat<48∨57<c.toNat):uaa l=false:=by
 cases hd:uaa l with
 | false=>rfl
 | true=>have:=ucj hd hc;omega
end AC
