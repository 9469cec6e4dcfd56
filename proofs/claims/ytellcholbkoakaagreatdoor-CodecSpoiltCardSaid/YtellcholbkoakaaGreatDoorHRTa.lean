/-
  Decimal numerals, limb by limb from the lowest: no program in sight.
-/
import Derived.Test.YtellcholbkoakaaGreatDoorHNum
import Derived.Lib.ParseIntBTie
import Derived.Lib.ItoaLen
import Derived.Test.YtellcholbkoakaaGreatDoorHCRa
import Derived.Test.YtellcholbkoakaaGreatDoorHCDi
namespace AC
open Go
set_option linter.unusedVariables false
set_option linter.unusedSimpArgs false
theorem ui8:∀(b a m d:Nat),d<10^b→ufs (a+b) (m*10^b+d)=ufs a m++ufs b d
 | 0,a,m,d,hd=>by
  have:d=0:=by simpa using hd
  subst this;simp[ufs]
 | b+1,a,m,d,hd=>by
  have h1:m*10^(b+1)=m*10^b*10:=by rw[Nat.pow_succ,Nat.mul_assoc]
  show ufs (a+b) ((m*10^(b+1)+d)/10)++[UInt8.ofNat (48+(m*10^(b+1)+d)%10)]=ufs a m++(ufs b (d/10)++[UInt8.ofNat (48+d%10)])
  rw[show(m*10^(b+1)+d)/10=m*10^b+d/10 by omega,show(m*10^(b+1)+d)%10=d%10 by omega,
   ui8 b a m (d/10) (by rw[Nat.pow_succ]at hd;omega),List.append_assoc]
theorem ui9:∀(j d:Nat),(ufs j d).length=j
 | 0,_=>rfl
 | j+1,d=>by unfold ufs;simp[ui9 j]
def ufw(n i:Nat):List UInt8:=ufs (9*i) (n%B^i)
theorem uma(n i:Nat):(ufw n i).length=9*i:=ui9 _ _
theorem uke(n i:Nat):ufw n (i+1)=ufs 9 (dg n i)++ufw n i:=by
 unfold ufw;rw[uY,show 9*(i+1)=9+9*i by omega,usf,Nat.add_comm (n%_),ui8 (9*i) 9 (dg n i) _ (Nat.mod_lt _ (Nat.pow_pos (by decide)))]
theorem umb{n:Nat}(h:n≠0):Lib.decDigits n=Lib.decDigits (dg n (dl n-1))++ufw n (dl n-1):=by
 have h0:=mt uS.1 h;have ht:=ujx h;have e:n=dg n (dl n-1)*10^(9*(dl n-1))+n%B^(dl n-1):=by
  have h1:=uY n (dl n-1);rw[show dl n-1+1=dl n by omega,Nat.mod_eq_of_lt (uav n)]at h1
  rw[←usf];omega
 conv=>lhs;rw[e]
 rw[ul2 _ _ _ (by omega) (by rw[←usf];exact Nat.mod_lt _ (uZ _))]
 rfl
theorem usm(m:Nat):ufs 1 m=[UInt8.ofNat (48+m%10)]:=rfl
theorem uoh(v k:Nat):ufs (k+1) (v%10^(k+1))=UInt8.ofNat (48+v/10^k%10)::ufs k (v%10^k):=by
 have h1:v%10^(k+1)=(v/10^k%10)*10^k+v%10^k:=by
  rw[Nat.pow_succ,Nat.mod_mul];rw[Nat.mul_comm (10^k) _];omega
 rw[h1,Nat.add_comm k 1,ui8 k 1 _ _ (Nat.mod_lt _ (Nat.pow_pos (by decide))),usm,Nat.mod_mod]
 rfl
theorem uoi:∀(k v:Nat),0<k→v<10^k→(k=1∨10^(k-1)≤v)→ufs k v=Lib.decDigits v
 | 1,v,_,hv,_=>by
  have:v<10:=by simpa using hv
  rw[Lib.decDigits,dif_pos this,usm,Nat.mod_eq_of_lt this]
 | k+2,v,_,hv,h=>by
  have hp:1≤10^k:=Nat.one_le_pow _ _ (by decide)
  rcases h with h|h
  ·omega
  ·have h2:10^(k+1)=10^k*10:=Nat.pow_succ ..
   have h3:10^(k+2)=10^(k+1)*10:=Nat.pow_succ ..;have h4:k+2-1=k+1:=by omega
   rw[h4]at h;have hb:¬v<10:=by omega
   rw[ugt hb];show ufs (k+1) (v/10)++_=_
   rw[uoi (k+1) (v/10) (by omega) (by omega) (.inr (by rw[show k+1-1=k by omega];omega))]
theorem udj(ts:Nat→List UInt8):∀ {i k:Nat},i≤k→(ube ts i).length≤(ube ts k).length:=by
 have key:∀i j,(ube ts i).length≤(ube ts (i+j)).length:=by
  intro i j;induction j with
  | zero=>exact Nat.le_refl _
  | succ j ih=>
   refine Nat.le_trans ih ?_;rcases Nat.eq_zero_or_pos (i+j)with h|h
   ·have h1:i=0:=by omega
    have h2:j=0:=by omega
    subst h1;subst h2;simp[ube]
   ·rw[show i+(j+1)=i+j+1 by omega,ubf ts h]
    simp
 intro i k h;have:=key i (k-i);rwa [show i+(k-i)=k by omega]at this
theorem umc(ts:Nat→List UInt8){i k:Nat}(h:i<k):(ts i).length≤(ube ts k).length:=by
 refine Nat.le_trans ?_ (udj ts (show i+1≤k from h))
 rcases Nat.eq_zero_or_pos i with h0|h0
 ·subst h0;exact Nat.le_refl _
 ·rw[ubf ts h0];simp;omega
theorem ugy(ts:Nat→List UInt8):∀k,k≤(ube ts k).length+1
 | 0=>by omega
 | 1=>by omega
 | k+2=>by
  have:=ugy ts (k+1);unfold ube;simp;omega
theorem uc(ts:Nat→List UInt8){i k:Nat}(h:i<k):(ts i).length≤(par ts k).length:=by
 have:=umc ts h;unfold par;simp;omega
theorem uN(ts:Nat→List UInt8)(k:Nat):k≤(par ts k).length:=by
 have:=ugy ts k;unfold par;simp;omega
end AC
/-
  ud8 of whole numbers, read by two readers: no program in sight.
-/
namespace AC
open Go
set_option linter.unusedVariables false
set_option linter.unusedSimpArgs false
theorem uei{d:Nat}(h:d<10):(UInt8.ofNat (48+d)).toNat=48+d:=by
 rw[UInt8.toNat_ofNat'];omega
theorem uc5:∀u:Nat,uaa (Lib.decDigits u)=true:=by
 intro u;induction u using Nat.strongRecOn with
 | ind u ih=>
  by_cases h:u<10
  ·rw[Lib.decDigits_one h]
   have:=uei h;simp[uaa,this];omega
  ·rw[ugt h]
   have h1:=ih (u/10) (by omega)
   have h2:=uei (show u%10<10 by omega)
   unfold uaa at *;rw[List.all_append,h1];simp[h2];omega
theorem umd:∀u:Nat,uR (Lib.decDigits u)=u:=by
 intro u;induction u using Nat.strongRecOn with
 | ind u ih=>
  by_cases h:u<10
  ·rw[Lib.decDigits_one h]
   have:=uei h;simp[uR,this];omega
  ·rw[ugt h,ue0,ih (u/10) (by omega),uei (show u%10<10 by omega)]
   omega
theorem usn(u:Nat):Lib.decDigits u≠[]:=by
 intro h;have:=Lib.decDigits_length u;rw[h]at this;have h2:=Lib.nDigits_pos u;simp at this;omega
theorem uoj(u:Nat):∃c r,Lib.decDigits u=c::r∧48≤c.toNat∧c.toNat≤57:=by
 cases h:Lib.decDigits u with
 | nil=>exact absurd h (usn u)
 | cons c r=>
  have:=ucj (uc5 u) (i:=0) (c:=c) (by rw[h];rfl)
  exact⟨c,r,rfl,this⟩
theorem ume(c:UInt8)(l:List UInt8):uR (c::l)=(c.toNat-48)*10^l.length+uR l:=by
 have:=ub8 [c] l;simpa[uR]using this
theorem ufj:∀(l:List UInt8) (acc:Nat),uaa l=true→acc*10^l.length+uR l≤9223372036854775808→Lib.parseUintM (2^64-1) acc l = .ok (acc*10^l.length+uR l)
 | [],acc,_,_=>by simp[Lib.parseUintM,uR]
 | c::r,acc,h,hb=>by
  have hc:=ucj h (i:=0) (c:=c) rfl;have hr:uaa r=true:=by unfold uaa at *;simp only[List.all_cons,Bool.and_eq_true]at h;exact h.2
  have hp:1≤10^r.length:=Nat.one_le_pow _ _ (by decide)
  have hp2:10^(r.length+1)=10^r.length*10:=Nat.pow_succ ..;rw[ume,List.length_cons,hp2]at hb ⊢;have e:acc*(10^r.length*10)+((c.toNat-48)*10^r.length+uR r)=(acc*10+(c.toNat-48))*10^r.length+uR r:=by
   rw[Nat.add_mul,←Nat.mul_assoc,Nat.mul_right_comm acc 10];omega
  rw[e]at hb ⊢;have h1:acc*10+(c.toNat-48)≤(acc*10+(c.toNat-48))*10^r.length:=Nat.le_mul_of_pos_right _ hp;unfold Lib.parseUintM;rw[if_pos hc,if_neg (by omega),if_neg (by omega),ufj r _ hr hb]
theorem uen{u:Nat}(h:u≤9223372036854775808):Lib.parseUintB 64 (Lib.decDigits u) = .ok u:=by
 unfold Lib.parseUintB;rw[if_neg (usn u),ufj _ 0 (uc5 u) (by rw[umd];omega),umd]
 simp
theorem uht{n:Int}(h1 : -9223372036854775808≤n)(h2:n≤9223372036854775807):Lib.parseIntB 64 (Lib.itoa n) = .ok n:=by
 have e:(2:Nat)^(64-1)=9223372036854775808:=by decide
 unfold Lib.itoa;by_cases hn:n<0
 ·rw[if_pos hn]
  unfold Lib.parseIntB;simp only[show((45:UInt8).toNat=43∨(45:UInt8).toNat=45) from .inr (by decide),if_true]
  rw[uen (by omega)]
  simp only[e,show(45:UInt8).toNat=45 from by decide,not_true,false_and,if_false,true_and,if_true]
  rw[if_neg (by omega)]
  congr 1
  omega
 ·rw[if_neg hn]
  obtain⟨c,r,hcr,hc1,hc2⟩:=uoj n.toNat;have hp:=uen (u:=n.toNat) (by omega)
  rw[hcr]at hp ⊢;unfold Lib.parseIntB;have g1:¬(c.toNat=43∨c.toNat=45):=by omega
  have g2:¬(c.toNat=45):=by omega
  have g3:¬(2^(64-1)≤n.toNat):=by rw[e];omega
  have g4:((n.toNat:Nat):Int)=n:=by omega
  simp only[if_neg g1,hp];rw[if_neg (fun h=>g3 h.2),if_neg (fun h=>g2 h.1),if_neg g2,g4]
theorem upt{n:Int}(h1 : -9223372036854775808≤n)(h2:n≤9223372036854775807):ubl (Lib.itoa n)=true:=by
 unfold ubl;rw[uht h1 h2];simp
theorem upu{l:List UInt8}(h:ubl l=true):∃n:Int, -9223372036854775808≤n∧n≤9223372036854775807∧l=Lib.itoa n:=by
 unfold ubl at h;split at h
 ·rename_i n hn
  have:=Lib.parseIntB_bounds hn;have e:(2:Nat)^(64-1)=9223372036854775808:=by decide
  rw[e]at this;exact⟨n,by omega,by omega,(by simpa using h:Lib.itoa n=l).symm⟩
 ·cases h
theorem ugz:∀ {l:List UInt8} {i:Nat},l[i]? = some 47→(∀j,j<i→l[j]? ≠ some 47)→Lib.index l [47]=(i:Int)
 | [],i,h,_=>by simp at h
 | c::l,0,h,_=>by
  simp at h;subst h;unfold Lib.index;rw[if_pos (by simp)]
  rfl
 | c::l,i+1,h,h2=>by
  have hc:c≠47:=fun e=>h2 0 (by omega) (by rw[e];rfl)
  have ih:=ugz (l:=l) (i:=i) (by simpa using h) (fun j hj=>by have:=h2 (j+1) (by omega);simpa using this)
  unfold Lib.index;have hb:(47==c)=false:=beq_eq_false_iff_ne.2 (fun e=>hc e.symm)
  rw[if_neg (by simp;exact fun e=>hc e.symm),ih,if_neg (by simp)]
  omega
theorem uf8:∀ {l:List UInt8},(∀j:Nat,l[j]? ≠ some 47)→Lib.index l [47] = -1
 | [],_=>by unfold Lib.index;rfl
 | c::l,h=>by
  have hc:c≠47:=fun e=>h 0 (by rw[e];rfl)
  have ih:=uf8 (l:=l) (fun j=>by have:=h (j+1);simpa using this)
  unfold Lib.index;have hb:(47==c)=false:=beq_eq_false_iff_ne.2 (fun e=>hc e.symm)
  rw[if_neg (by simp;exact fun e=>hc e.symm),ih,if_pos (by simp)]
theorem uso{l:List UInt8}{i:Nat}(h:l[i]? = some 47)(h2:∀j,j<i→l[j]? ≠ some 47):Lib.cut l [47]=(l.take i,l.drop (i+1),true):=by
 unfold Lib.cut;rw[ugz h h2,if_pos (by omega)]
 simp
theorem ufx{l:List UInt8}(h:∀j:Nat,l[j]? ≠ some 47):Lib.cut l [47]=(l,[],false):=by
 unfold Lib.cut;rw[uf8 h,if_neg (by omega)]
theorem uf9{l:List UInt8}(h:uaa l=true):∀j:Nat,l[j]? ≠ some 47:=fun j e=>by
 have:=ucj h e;have h2:(47:UInt8).toNat=47:=by decide
 omega
theorem uig{u:Nat}(h:u≤9223372036854775808):uap (Lib.decDigits u)=some u:=by
 unfold uap;have h1:=Lib.decDigits_length u;have h2:=Lib.nDigits_le20 u (by omega)
 have h3:=Lib.nDigits_pos u;rw[if_pos ⟨by omega,by omega,uc5 u⟩,umd]
theorem umf{n:Int}(h1 : -9223372036854775808≤n)(h2:n≤9223372036854775807):ubc (Lib.itoa n)=some (mkRat n 1):=by
 unfold Lib.itoa;by_cases hn:n<0
 ·rw[if_pos hn]
  have e1:Lib.hasPrefix (45::Lib.decDigits n.natAbs) [45]=true:=by simp[Lib.hasPrefix]
  have e2:Lib.trimPrefix (45::Lib.decDigits n.natAbs) [45]=Lib.decDigits n.natAbs:=by unfold Lib.trimPrefix;rw[e1];rfl
  unfold ubc;rw[e2,e1,ufx (uf9 (uc5 _))];simp only[uig (show n.natAbs≤9223372036854775808 by omega)]
  simp only[Bool.false_eq_true,if_false,if_true];congr 2
  omega
 ·rw[if_neg hn]
  obtain⟨c,r,hcr,hc1,hc2⟩:=uoj n.toNat;have hb:(45==c)=false:=beq_eq_false_iff_ne.2 (fun e=>by subst e;revert hc1;decide)
  have e1:Lib.hasPrefix (Lib.decDigits n.toNat) [45]=false:=by rw[hcr];unfold Lib.hasPrefix;show(45==c&&List.isPrefixOf [] r)=false;rw[hb];rfl
  have e2:Lib.trimPrefix (Lib.decDigits n.toNat) [45]=Lib.decDigits n.toNat:=by unfold Lib.trimPrefix;rw[e1];rfl
  unfold ubc;rw[e2,e1,ufx (uf9 (uc5 _))];simp only[uig (show n.toNat≤9223372036854775808 by omega)]
  simp only[Bool.false_eq_true,if_false];congr 2
  omega
theorem uvh(n:Int):ues (mkRat n 1)=Lib.itoa n:=by
 have h1:(mkRat n 1).num=n:=by rw[Rat.mkRat_one];rfl
 have h2:(mkRat n 1).den=1:=by rw[Rat.mkRat_one];rfl
 unfold ues Lib.itoa;rw[h1,h2];by_cases hn:n<0
 ·simp[hn]
 ·simp[hn];congr 1;omega
def usp(l:List UInt8):Option Int:=
 match ubc l with
 | some q=>if q.den=1 ∧ -9223372036854775808≤q.num∧q.num≤9223372036854775807∧Lib.itoa q.num=l then some q.num else none
 | none=>none
theorem ukf(l:List UInt8):(usp l).isSome=ubl l:=by
 cases h:ubl l with
 | true=>
  obtain⟨n,h1,h2,rfl⟩:=upu h;unfold usp;rw[umf h1 h2];have e1:(mkRat n 1).num=n:=by rw[Rat.mkRat_one];rfl
  have e2:(mkRat n 1).den=1:=by rw[Rat.mkRat_one];rfl
  simp[e1,e2,h1,h2]
 | false=>
  unfold usp;split
  ·split
   ·rename_i q _ hq
    have:=upt hq.2.1 hq.2.2.1;rw[hq.2.2.2,h]at this;cases this
   ·rfl
  ·rfl
end AC
/-
  How long texts are; lists and structs taken apart and put together again.
-/
namespace Go.Proofs.YtellcholbkoakaaGreatDoor
open Go.RowKit AC
set_option linter.unusedVariables false
set_option linter.unusedSimpArgs false
theorem ug0(tx:Nat→List UInt8)(M:Nat):∀k,(∀i,i<k→(tx i).length≤M)→(ube tx k).length≤k*(M+1)
 | 0,_=>by simp[ube]
 | 1,h=>by have:=h 0 (by omega);unfold ube;omega
 | k+2,h=>by
  have h1:=ug0 tx M (k+1) fun i hi=>h i (by omega)
  have h2:=h (k+1) (by omega)
  unfold ube;rw[List.length_append,List.length_cons,show(k+2)*(M+1)=(k+1)*(M+1)+(M+1) from Nat.succ_mul _ _]
  omega
theorem uah{tx:Nat→List UInt8}{k n M:Nat}(hk:k≤n)(h:∀i,i<k→(tx i).length≤M):(par tx k).length≤2+n*(M+1):=by
 have h1:=ug0 tx M k h;have h2:k*(M+1)≤n*(M+1):=Nat.mul_le_mul_right _ hk;unfold par;simp;omega
section
variable {w:World} {D:Nat→Prop}
theorem Rep.int_len{v:List Value}{t:List UInt8}(h:Rep w D .int v [t]):t.length≤21:=by
 obtain⟨n,_,h1,h2,ht⟩:=h;injection ht with ht _;rw[ht];exact Lib.itoa_length_le n h1 h2
theorem Rep.bool_len{v:List Value}{t:List UInt8}(h:Rep w D .bool v [t]):t.length≤21:=by
 obtain⟨b,_,ht⟩:=h;injection ht with ht _;rw[ht];cases b<;>simp
theorem Rep.unlist{s:Shape}{A:Option Addr}{k c:Nat}{t:List UInt8}(h:Rep w D (.list s) [.slice A k c] [t]):∃(us:Nat→List Value) (tx:Nat→List UInt8),t=par tx k∧k≤c∧c≤maxLen∧(0<k→∃b off,A=some ⟨b,off,none⟩∧D b∧b<w.heap.size∧∀i,i<k→ugo w b (off+i*s.sz) (us i))∧∀i,i<k→Rep w D s (us i) [tx i]:=by
 obtain⟨A',k',c',us,tx,hl,h1,h2,ht,h3,h4⟩:=h;injection hl with hl _;injection hl with e1 e2 e3;subst e1;subst e2;subst e3;injection ht with ht _;exact⟨us,tx,ht,h1,h2,h3,h4⟩
theorem Rep.relist{s s':Shape}(hsz:s'.sz=s.sz){A:Option Addr}{k c:Nat}{us:Nat→List Value}{tx:Nat→List UInt8}(h1:k≤c)(h2:c≤maxLen)(h3:0<k→∃b off,A=some ⟨b,off,none⟩∧D b∧b<w.heap.size∧∀i,i<k→ugo w b (off+i*s.sz) (us i))(h4:∀i,i<k→Rep w D s' (us i) [tx i]):Rep w D (.list s') [.slice A k c] [par tx k]:=
 ⟨A,k,c,us,tx,rfl,h1,h2,rfl,fun h0=>by rw[hsz];exact h3 h0,h4⟩
theorem Rep.list_len{s:Shape}{A:Option Addr}{k c n M:Nat}{t:List UInt8}(h:Rep w D (.list s) [.slice A k c] [t])(hk:k≤n)(hM:∀v t,Rep w D s v [t]→t.length≤M):t.length≤2+n*(M+1):=by
 obtain⟨us,tx,rfl,_,_,_,h4⟩:=h.unlist;exact uah hk fun i hi=>hM _ _ (h4 i hi)
theorem umg{a b:List UInt8}:(par (fun i=>[a,b].getD i []) [a,b].length).length=a.length+b.length+3:=by
 simp[par,ube];omega
theorem usq{a b c:List UInt8}:(par (fun i=>[a,b,c].getD i []) [a,b,c].length).length=a.length+b.length+c.length+4:=by
 simp[par,ube];omega
theorem uxt{a b c d:List UInt8}:(par (fun i=>[a,b,c,d].getD i []) [a,b,c,d].length).length=a.length+b.length+c.length+d.length+5:=by
 simp[par,ube];omega
theorem uxu{a b c d e:List UInt8}:(par (fun i=>[a,b,c,d,e].getD i []) [a,b,c,d,e].length).length=a.length+b.length+c.length+d.length+e.length+6:=by
 simp[par,ube];omega
theorem Rep.un2{s1 s2:Shape}{v:List Value}{t:List UInt8}(h:Rep w D (.st (.and s1 (.and s2 .fin))) v [t]):∃l1 l2 t1 t2,v=l1++l2∧t=par (fun i=>[t1,t2].getD i []) 2∧Rep w D s1 l1 [t1]∧Rep w D s2 l2 [t2]:=by
 obtain⟨tx,ht,l1,_,t1,_,rfl,rfl,h1,l2,_,t2,_,rfl,rfl,h2,rfl,rfl⟩:=h;injection ht with ht _;exact⟨l1,l2,t1,t2,by simp,ht,h1,h2⟩
theorem Rep.re2{s1 s2:Shape}{l1 l2:List Value}{t1 t2:List UInt8}(h1:Rep w D s1 l1 [t1])(h2:Rep w D s2 l2 [t2]):Rep w D (.st (.and s1 (.and s2 .fin))) (l1++l2) [par (fun i=>[t1,t2].getD i []) 2]:=
 ⟨[t1,t2],rfl,l1,l2,t1,[t2],rfl,rfl,h1,l2,[],t2,[],by simp,rfl,h2,rfl,rfl⟩
theorem Rep.re3{s1 s2 s3:Shape}{l1 l2 l3:List Value}{t1 t2 t3:List UInt8}(h1:Rep w D s1 l1 [t1])(h2:Rep w D s2 l2 [t2])(h3:Rep w D s3 l3 [t3]):Rep w D (.st (.and s1 (.and s2 (.and s3 .fin)))) (l1++(l2++l3)) [par (fun i=>[t1,t2,t3].getD i []) 3]:=
 ⟨[t1,t2,t3],rfl,l1,l2++l3,t1,[t2,t3],rfl,rfl,h1,l2,l3,t2,[t3],rfl,rfl,h2,l3,[],t3,[],by simp,rfl,h3,rfl,rfl⟩
theorem uja(a b:List UInt8):(par (fun i=>[a,b].getD i []) 2).length=a.length+b.length+3:=umg
theorem ue2{v:List Value}{t:List UInt8}(h:Rep w D uH v [t]):t.length≤45:=by
 obtain⟨l1,l2,t1,t2,rfl,rfl,h1,h2⟩:=h.un2;have:=h1.int_len;have:=h2.int_len;rw[uja];omega
theorem umh{v:List Value}{t:List UInt8}(h:Rep w D uX v [t]){n:Nat}(hk:∀z A k c,v=[.int .i64 z,.slice A k c]→k≤n):t.length≤26+46*n:=by
 obtain⟨l1,l2,t1,t2,rfl,rfl,h1,h2⟩:=h.un2;have q1:=h1.int_len;obtain⟨z,rfl⟩:=ug h1.ty;obtain⟨A,k,c,rfl⟩:=ua h2.ty;have q2:=h2.list_len (hk z A k c rfl) (M:=45) fun v t h=>ue2 h
 rw[uja];omega
end
theorem uvi{neg:Bool}{kn kd:Nat}{fn fd:Nat→Nat}(hn:∀i,i<kn→fn i<4294967296)(hd:∀i,i<kd→fd i<4294967296)(h1:kn≤2)(h2:kd≤2):(ues (mkRat (sg neg (vs fn kn)) (vs fd kd))).length≤58:=by
 have key:∀(k:Nat) (f:Nat→Nat),(∀i,i<k→f i<4294967296)→k≤2→vs f k<B^3:=by
  intro k f hf hk;have hB:B^3=1000000000000000000000000000:=by decide
  rcases k with _|_|_|k
  ·rw[hB];simp[vs]
  ·have:=hf 0 (by omega)
   simp[vs];omega
  ·have a:=hf 0 (by omega)
   have b:=hf 1 (by omega)
   have:vs f 2=f 0+f 1*B:=by simp[vs]
   rw[this,hB,udd];omega
  ·omega
 have hN:=key kn fn hn h1;have hD:=key kd fd hd h2;have hs:AC.sz (mkRat (sg neg (vs fn kn)) (vs fd kd))≤3:=upi _ _ 3 (by rw[ubo];exact ucp hN) (ucp hD) (by omega)
 have q1:dl (mkRat (sg neg (vs fn kn)) (vs fd kd)).num.natAbs≤3:=Nat.le_trans (Nat.le_max_left _ _) hs;have q2:dl (mkRat (sg neg (vs fn kn)) (vs fd kd)).den≤3:=Nat.le_trans (Nat.le_max_right _ _) hs;have p1:=udi (mkRat (sg neg (vs fn kn)) (vs fd kd)).num.natAbs;have p2:=udi (mkRat (sg neg (vs fn kn)) (vs fd kd)).den;unfold ues;rw[List.length_append];split<;>split<;>simp<;>omega
end Go.Proofs.YtellcholbkoakaaGreatDoor
