/-
  Decimal numerals, limb by limb from the lowest: no program in sight.
-/
import Derived.Test.YtellcholbkoakaaGreatDoorHNum
import Derived.Lib.ParseIntBTie
import Derived.Lib.ItoaLen
import Derived.Test.YtellcholbkoakaaGreatDoorHCRa
import Derived.Test.YtellcholbkoakaaGreatDoorHCDi
namespace AC
open Go
set_option linter.unusedVariables false
set_option linter.unusedSimpArgs false
theorem padD_add:∀(b a m d:Nat),d<10^b→padD (a+b) (m*10^b+d)=padD a m++padD b d
 | 0,a,m,d,hd=>by
  have:d=0:=by simpa using hd
  subst this;simp[padD]
 | b+1,a,m,d,hd=>by
  have h1:m*10^(b+1)=m*10^b*10:=by rw[Nat.pow_succ,Nat.mul_assoc]
  show padD (a+b) ((m*10^(b+1)+d)/10)++[UInt8.ofNat (48+(m*10^(b+1)+d)%10)]=padD a m++(padD b (d/10)++[UInt8.ofNat (48+d%10)])
  rw[show(m*10^(b+1)+d)/10=m*10^b+d/10 by omega,show(m*10^(b+1)+d)%10=d%10 by omega,
   padD_add b a m (d/10) (by rw[Nat.pow_succ]at hd;omega),List.append_assoc]
theorem padD_len:∀(j d:Nat),(padD j d).length=j
 | 0,_=>rfl
 | j+1,d=>by unfold padD;simp[padD_len j]
def lowText (n i : Nat) : List UInt8 := padD (9 * i) (n % B ^ i)
theorem lowText_len(n i:Nat):(lowText n i).length=9*i:=padD_len _ _
theorem lowText_succ(n i:Nat):lowText n (i+1)=padD 9 (dg n i)++lowText n i:=by
 unfold lowText;rw[mod_pow_succ,show 9*(i+1)=9+9*i by omega,B_pow,Nat.add_comm (n%_),padD_add (9*i) 9 (dg n i) _ (Nat.mod_lt _ (Nat.pow_pos (by decide)))]
theorem lowText_top{n:Nat}(h:n≠0):Lib.decDigits n=Lib.decDigits (dg n (dl n-1))++lowText n (dl n-1):=by
 have h0:=mt dl_eq_zero.1 h;have ht:=dg_top h;have e:n=dg n (dl n-1)*10^(9*(dl n-1))+n%B^(dl n-1):=by
  have h1:=mod_pow_succ n (dl n-1);rw[show dl n-1+1=dl n by omega,Nat.mod_eq_of_lt (lt_dl n)]at h1
  rw[←B_pow];omega
 conv=>lhs;rw[e]
 rw[dec_pad _ _ _ (by omega) (by rw[←B_pow];exact Nat.mod_lt _ (Bp_pos _))]
 rfl
theorem pad_one(m:Nat):padD 1 m=[UInt8.ofNat (48+m%10)]:=rfl
theorem pad_next (v k : Nat) : padD (k + 1) (v % 10 ^ (k + 1)) = UInt8.ofNat (48 + v / 10 ^ k % 10) :: padD k (v % 10 ^ k) := by
  have h1 : v % 10 ^ (k + 1) = (v / 10 ^ k % 10) * 10 ^ k + v % 10 ^ k := by
    rw [Nat.pow_succ, Nat.mod_mul]
    rw [Nat.mul_comm (10 ^ k) _]
    omega
  rw [h1, Nat.add_comm k 1, padD_add k 1 _ _ (Nat.mod_lt _ (Nat.pow_pos (by decide))), pad_one, Nat.mod_mod]
  rfl
theorem pad_full:∀(k v:Nat),0<k→v<10^k→(k=1∨10^(k-1)≤v)→padD k v=Lib.decDigits v
 | 1,v,_,hv,_=>by
  have:v<10:=by simpa using hv
  rw[Lib.decDigits,dif_pos this,pad_one,Nat.mod_eq_of_lt this]
 | k+2,v,_,hv,h=>by
  have hp:1≤10^k:=Nat.one_le_pow _ _ (by decide)
  rcases h with h|h
  ·omega
  ·have h2:10^(k+1)=10^k*10:=Nat.pow_succ ..
   have h3:10^(k+2)=10^(k+1)*10:=Nat.pow_succ ..;have h4:k+2-1=k+1:=by omega
   rw[h4]at h;have hb:¬v<10:=by omega
   rw[dec_big hb];show padD (k+1) (v/10)++_=_
   rw[pad_full (k+1) (v/10) (by omega) (by omega) (.inr (by rw[show k+1-1=k by omega];omega))]
theorem body_len_mono(ts:Nat→List UInt8):∀ {i k:Nat},i≤k→(body ts i).length≤(body ts k).length:=by
 have key:∀i j,(body ts i).length≤(body ts (i+j)).length:=by
  intro i j;induction j with
  | zero=>exact Nat.le_refl _
  | succ j ih=>
   refine Nat.le_trans ih ?_;rcases Nat.eq_zero_or_pos (i+j)with h|h
   ·have h1:i=0:=by omega
    have h2:j=0:=by omega
    subst h1;subst h2;simp[body]
   ·rw[show i+(j+1)=i+j+1 by omega,body_succ ts h]
    simp
 intro i k h;have:=key i (k-i);rwa [show i+(k-i)=k by omega]at this
theorem body_len_at(ts:Nat→List UInt8){i k:Nat}(h:i<k):(ts i).length≤(body ts k).length:=by
 refine Nat.le_trans ?_ (body_len_mono ts (show i+1≤k from h))
 rcases Nat.eq_zero_or_pos i with h0|h0
 ·subst h0;exact Nat.le_refl _
 ·rw[body_succ ts h0];simp;omega
theorem body_len_ge(ts:Nat→List UInt8):∀k,k≤(body ts k).length+1
 | 0=>by omega
 | 1=>by omega
 | k+2=>by
  have:=body_len_ge ts (k+1);unfold body;simp;omega
theorem par_len_at(ts:Nat→List UInt8){i k:Nat}(h:i<k):(ts i).length≤(par ts k).length:=by
 have:=body_len_at ts h;unfold par;simp;omega
theorem par_len_ge(ts:Nat→List UInt8)(k:Nat):k≤(par ts k).length:=by
 have:=body_len_ge ts k;unfold par;simp;omega
end AC
/-
  Texts of whole numbers, read by two readers: no program in sight.
-/
namespace AC
open Go
set_option linter.unusedVariables false
set_option linter.unusedSimpArgs false
theorem dig_byte{d:Nat}(h:d<10):(UInt8.ofNat (48+d)).toNat=48+d:=by
 rw[UInt8.toNat_ofNat'];omega
theorem dec_allDig:∀u:Nat,allDig (Lib.decDigits u)=true:=by
 intro u;induction u using Nat.strongRecOn with
 | ind u ih=>
  by_cases h:u<10
  ·rw[Lib.decDigits_one h]
   have:=dig_byte h;simp[allDig,this];omega
  ·rw[dec_big h]
   have h1:=ih (u/10) (by omega)
   have h2:=dig_byte (show u%10<10 by omega)
   unfold allDig at *;rw[List.all_append,h1];simp[h2];omega
theorem dec_val:∀u:Nat,digVal (Lib.decDigits u)=u:=by
 intro u;induction u using Nat.strongRecOn with
 | ind u ih=>
  by_cases h:u<10
  ·rw[Lib.decDigits_one h]
   have:=dig_byte h;simp[digVal,this];omega
  ·rw[dec_big h,digVal_snoc,ih (u/10) (by omega),dig_byte (show u%10<10 by omega)]
   omega
theorem dec_ne(u:Nat):Lib.decDigits u≠[]:=by
 intro h;have:=Lib.decDigits_length u;rw[h]at this;have h2:=Lib.nDigits_pos u;simp at this;omega
theorem dec_cons(u:Nat):∃c r,Lib.decDigits u=c::r∧48≤c.toNat∧c.toNat≤57:=by
 cases h:Lib.decDigits u with
 | nil=>exact absurd h (dec_ne u)
 | cons c r=>
  have:=allDig_at (dec_allDig u) (i:=0) (c:=c) (by rw[h];rfl)
  exact⟨c,r,rfl,this⟩
theorem digVal_cons(c:UInt8)(l:List UInt8):digVal (c::l)=(c.toNat-48)*10^l.length+digVal l:=by
 have:=digVal_append [c] l;simpa[digVal]using this
theorem parseUintM_ok:∀(l:List UInt8) (acc:Nat),allDig l=true→acc*10^l.length+digVal l≤9223372036854775808→Lib.parseUintM (2^64-1) acc l = .ok (acc*10^l.length+digVal l)
 | [],acc,_,_=>by simp[Lib.parseUintM,digVal]
 | c::r,acc,h,hb=>by
  have hc:=allDig_at h (i:=0) (c:=c) rfl;have hr:allDig r=true:=by unfold allDig at *;simp only[List.all_cons,Bool.and_eq_true]at h;exact h.2
  have hp:1≤10^r.length:=Nat.one_le_pow _ _ (by decide)
  have hp2:10^(r.length+1)=10^r.length*10:=Nat.pow_succ ..;rw[digVal_cons,List.length_cons,hp2]at hb ⊢;have e:acc*(10^r.length*10)+((c.toNat-48)*10^r.length+digVal r)=(acc*10+(c.toNat-48))*10^r.length+digVal r:=by
   rw[Nat.add_mul,←Nat.mul_assoc,Nat.mul_right_comm acc 10];omega
  rw[e]at hb ⊢;have h1:acc*10+(c.toNat-48)≤(acc*10+(c.toNat-48))*10^r.length:=Nat.le_mul_of_pos_right _ hp;unfold Lib.parseUintM;rw[if_pos hc,if_neg (by omega),if_neg (by omega),parseUintM_ok r _ hr hb]
theorem parseUintB_dec{u:Nat}(h:u≤9223372036854775808):Lib.parseUintB 64 (Lib.decDigits u) = .ok u:=by
 unfold Lib.parseUintB;rw[if_neg (dec_ne u),parseUintM_ok _ 0 (dec_allDig u) (by rw[dec_val];omega),dec_val]
 simp
theorem parseIntB_itoa{n:Int}(h1 : -9223372036854775808≤n)(h2:n≤9223372036854775807):Lib.parseIntB 64 (Lib.itoa n) = .ok n:=by
 have e:(2:Nat)^(64-1)=9223372036854775808:=by decide
 unfold Lib.itoa;by_cases hn:n<0
 ·rw[if_pos hn]
  unfold Lib.parseIntB;simp only[show((45:UInt8).toNat=43∨(45:UInt8).toNat=45) from .inr (by decide),if_true]
  rw[parseUintB_dec (by omega)]
  simp only[e,show(45:UInt8).toNat=45 from by decide,not_true,false_and,if_false,true_and,if_true]
  rw[if_neg (by omega)]
  congr 1
  omega
 ·rw[if_neg hn]
  obtain⟨c,r,hcr,hc1,hc2⟩:=dec_cons n.toNat;have hp:=parseUintB_dec (u:=n.toNat) (by omega)
  rw[hcr]at hp ⊢;unfold Lib.parseIntB;have g1:¬(c.toNat=43∨c.toNat=45):=by omega
  have g2:¬(c.toNat=45):=by omega
  have g3:¬(2^(64-1)≤n.toNat):=by rw[e];omega
  have g4:((n.toNat:Nat):Int)=n:=by omega
  simp only[if_neg g1,hp];rw[if_neg (fun h=>g3 h.2),if_neg (fun h=>g2 h.1),if_neg g2,g4]
theorem okInt_itoa{n:Int}(h1 : -9223372036854775808≤n)(h2:n≤9223372036854775807):okInt (Lib.itoa n)=true:=by
 unfold okInt;rw[parseIntB_itoa h1 h2];simp
theorem okInt_some{l:List UInt8}(h:okInt l=true):∃n:Int, -9223372036854775808≤n∧n≤9223372036854775807∧l=Lib.itoa n:=by
 unfold okInt at h;split at h
 ·rename_i n hn
  have:=Lib.parseIntB_bounds hn;have e:(2:Nat)^(64-1)=9223372036854775808:=by decide
  rw[e]at this;exact⟨n,by omega,by omega,(by simpa using h:Lib.itoa n=l).symm⟩
 ·cases h
theorem index_first:∀ {l:List UInt8} {i:Nat},l[i]? = some 47→(∀j,j<i→l[j]? ≠ some 47)→Lib.index l [47]=(i:Int)
 | [],i,h,_=>by simp at h
 | c::l,0,h,_=>by
  simp at h;subst h;unfold Lib.index;rw[if_pos (by simp)]
  rfl
 | c::l,i+1,h,h2=>by
  have hc:c≠47:=fun e=>h2 0 (by omega) (by rw[e];rfl)
  have ih:=index_first (l:=l) (i:=i) (by simpa using h) (fun j hj=>by have:=h2 (j+1) (by omega);simpa using this)
  unfold Lib.index;have hb:(47==c)=false:=beq_eq_false_iff_ne.2 (fun e=>hc e.symm)
  rw[if_neg (by simp;exact fun e=>hc e.symm),ih,if_neg (by simp)]
  omega
theorem index_absent:∀ {l:List UInt8},(∀j:Nat,l[j]? ≠ some 47)→Lib.index l [47] = -1
 | [],_=>by unfold Lib.index;rfl
 | c::l,h=>by
  have hc:c≠47:=fun e=>h 0 (by rw[e];rfl)
  have ih:=index_absent (l:=l) (fun j=>by have:=h (j+1);simpa using this)
  unfold Lib.index;have hb:(47==c)=false:=beq_eq_false_iff_ne.2 (fun e=>hc e.symm)
  rw[if_neg (by simp;exact fun e=>hc e.symm),ih,if_pos (by simp)]
theorem cut_first{l:List UInt8}{i:Nat}(h:l[i]? = some 47)(h2:∀j,j<i→l[j]? ≠ some 47):Lib.cut l [47]=(l.take i,l.drop (i+1),true):=by
 unfold Lib.cut;rw[index_first h h2,if_pos (by omega)]
 simp
theorem cut_absent{l:List UInt8}(h:∀j:Nat,l[j]? ≠ some 47):Lib.cut l [47]=(l,[],false):=by
 unfold Lib.cut;rw[index_absent h,if_neg (by omega)]
theorem dig_no_slash{l:List UInt8}(h:allDig l=true):∀j:Nat,l[j]? ≠ some 47:=fun j e=>by
 have:=allDig_at h e;have h2:(47:UInt8).toNat=47:=by decide
 omega
theorem parseN_dec{u:Nat}(h:u≤9223372036854775808):parseN (Lib.decDigits u)=some u:=by
 unfold parseN;have h1:=Lib.decDigits_length u;have h2:=Lib.nDigits_le20 u (by omega)
 have h3:=Lib.nDigits_pos u;rw[if_pos ⟨by omega,by omega,dec_allDig u⟩,dec_val]
theorem parseQ_itoa{n:Int}(h1 : -9223372036854775808≤n)(h2:n≤9223372036854775807):parseQ (Lib.itoa n)=some (mkRat n 1):=by
 unfold Lib.itoa;by_cases hn:n<0
 ·rw[if_pos hn]
  have e1:Lib.hasPrefix (45::Lib.decDigits n.natAbs) [45]=true:=by simp[Lib.hasPrefix]
  have e2:Lib.trimPrefix (45::Lib.decDigits n.natAbs) [45]=Lib.decDigits n.natAbs:=by unfold Lib.trimPrefix;rw[e1];rfl
  unfold parseQ;rw[e2,e1,cut_absent (dig_no_slash (dec_allDig _))];simp only[parseN_dec (show n.natAbs≤9223372036854775808 by omega)]
  simp only[Bool.false_eq_true,if_false,if_true];congr 2
  omega
 ·rw[if_neg hn]
  obtain⟨c,r,hcr,hc1,hc2⟩:=dec_cons n.toNat;have hb:(45==c)=false:=beq_eq_false_iff_ne.2 (fun e=>by subst e;revert hc1;decide)
  have e1:Lib.hasPrefix (Lib.decDigits n.toNat) [45]=false:=by rw[hcr];unfold Lib.hasPrefix;show(45==c&&List.isPrefixOf [] r)=false;rw[hb];rfl
  have e2:Lib.trimPrefix (Lib.decDigits n.toNat) [45]=Lib.decDigits n.toNat:=by unfold Lib.trimPrefix;rw[e1];rfl
  unfold parseQ;rw[e2,e1,cut_absent (dig_no_slash (dec_allDig _))];simp only[parseN_dec (show n.toNat≤9223372036854775808 by omega)]
  simp only[Bool.false_eq_true,if_false];congr 2
  omega
theorem fmtQ_int(n:Int):fmtQ (mkRat n 1)=Lib.itoa n:=by
 have h1:(mkRat n 1).num=n:=by rw[Rat.mkRat_one];rfl
 have h2:(mkRat n 1).den=1:=by rw[Rat.mkRat_one];rfl
 unfold fmtQ Lib.itoa;rw[h1,h2];by_cases hn:n<0
 ·simp[hn]
 ·simp[hn];congr 1;omega
def okRef (l : List UInt8) : Option Int :=
  match parseQ l with
  | some q => if q.den = 1 ∧ -9223372036854775808 ≤ q.num ∧ q.num ≤ 9223372036854775807 ∧ Lib.itoa q.num = l then some q.num else none
  | none => none
theorem okRef_int(l:List UInt8):(okRef l).isSome=okInt l:=by
 cases h:okInt l with
 | true=>
  obtain⟨n,h1,h2,rfl⟩:=okInt_some h;unfold okRef;rw[parseQ_itoa h1 h2];have e1:(mkRat n 1).num=n:=by rw[Rat.mkRat_one];rfl
  have e2:(mkRat n 1).den=1:=by rw[Rat.mkRat_one];rfl
  simp[e1,e2,h1,h2]
 | false=>
  unfold okRef;split
  ·split
   ·rename_i q _ hq
    have:=okInt_itoa hq.2.1 hq.2.2.1;rw[hq.2.2.2,h]at this;cases this
   ·rfl
  ·rfl
end AC
/-
  How long texts are; lists and structs taken apart and put together again.
-/
namespace Go.Proofs.YtellcholbkoakaaGreatDoor
open Go.RowKit AC
set_option linter.unusedVariables false
set_option linter.unusedSimpArgs false
section
variable {w:World} {D:Nat→Prop}
theorem Rep.unlist {s : Shape} {A : Option Addr} {k c : Nat} {t : List UInt8} (h : Rep w D (.list s) [.slice A k c] [t]) : ∃ (us : Nat → List Value) (tx : Nat → List UInt8), t = par tx k ∧ k ≤ c ∧ c ≤ maxLen ∧ (0 < k → ∃ b off, A = some ⟨b, off, none⟩ ∧ D b ∧ b < w.heap.size ∧ ∀ i, i < k → CellsAt w b (off + i * s.sz) (us i)) ∧ ∀ i, i < k → Rep w D s (us i) [tx i] := by
  obtain ⟨A', k', c', us, tx, hl, h1, h2, ht, h3, h4⟩ := h
  injection hl with hl _
  injection hl with e1 e2 e3
  subst e1; subst e2; subst e3
  injection ht with ht _
  exact ⟨us, tx, ht, h1, h2, h3, h4⟩
end
end Go.Proofs.YtellcholbkoakaaGreatDoor
