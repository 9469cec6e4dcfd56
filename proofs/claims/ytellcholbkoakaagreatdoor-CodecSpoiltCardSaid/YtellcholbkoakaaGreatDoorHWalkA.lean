/-
  The walks of rational's natural numbers: trim, isOne, normal, compare, add, subtract.
-/
import Derived.Test.YtellcholbkoakaaGreatDoorHMem
import Derived.Test.YtellcholbkoakaaGreatDoorProg
import Derived.WalkKit
import Derived.WalkSpells
import Derived.WalkLawsBesides
import Derived.Deep.QuietTactic
import Derived.BigQuiet
import Derived.IntWalk
import Derived.Lib.Hide
namespace Go.Proofs.YtellcholbkoakaaGreatDoor
open Go.Lib (hid)
open Go.RowKit AC
set_option linter.unusedVariables false
set_option linter.unusedSimpArgs false
def Ret(R:Value→World→Prop)(e:Ending)(w':World):Prop:=∃v,e = .returned v∧R v w'
theorem ugn{N j:Nat}(h:N<B^(j+1))(h0:dg N j=0):N<B^j:=by
 have h1:=uY N j;rw[h0,Nat.mod_eq_of_lt h]at h1;have:=Nat.mod_lt N (uZ j);omega
set_option maxHeartbeats 400000 in
theorem uef(w:World)(lo:Nat)(v:Value)(k N:Nat)(hv:Limbs w lo v k (dg N))(hN:N<B^k) :
 Calls Tryz.prog 347 #[v] w (Ret fun v' w'=>NatR w lo v' N∧w=w'):=by
 obtain⟨hlt,A,c,rfl,hkc,hcm,hb⟩:=hv;have hv:Hid (Limbs w lo (.slice A k c) k (dg N)):=⟨hlt,A,c,rfl,hkc,hcm,hb⟩;have HN:=hid hN;have HB:=hid hb;have HL:=hid hlt;unfold maxLen at hcm;clear hN hb hlt;go_enter Tryz.func347,Tryz.ntmps347
 go_wp2;go_loop [3] (fun t=>∃j:Nat,j≤k∧t = .int .i64 j∧Hid (N<B^j)) (fun t=>(intOf t).toNat)
 case atStart=>exact⟨k,Nat.le_refl _,rfl,HN⟩
 case round=>
  obtain⟨j,hj,rfl,hNj⟩:=hrel;rcases j with _|j
  ·go_wp2
   go_ret
   refine⟨.slice A 0 c,rfl,?_,rfl⟩;have h0:N=0:=by simpa using hNj.out
   subst h0;refine⟨fun i hi=>?_,A,c,by rw[uab],by rw[uab];omega,by unfold maxLen;omega,fun h=>?_⟩
   ·rw[uab]at hi;omega
   ·rw[uab]at h;omega
  ·obtain⟨b,off,rfl,hlb,hbw,hcell⟩:=HB.out (by omega)
   have hcl:=hcell j (by omega)
   have HC:=hid hcell;clear hcell;by_cases h0:dg N j=0
   ·have h1:(((dg N j:Nat):Int)==0)=true:=by rw[h0];rfl
    have H0:=hid h0;clear h0;go_wp2;go_round
    case rel=>exact⟨j,by omega,rfl,ugn hNj.out H0.out⟩
    case measure=>simp[intOf]
   ·have h1:(((dg N j:Nat):Int)==0)=false:=by rw[beq_eq_false_iff_ne];omega
    have H0:=hid h0;clear h0;go_wp2;go_ret
    have e:=uf5 (k:=j+1) hNj.out (.inr (by simpa using H0.out))
    refine⟨.slice (some ⟨b,off,none⟩) (j+1) c,rfl,?_,rfl⟩;refine NatR.of (k:=j+1) ⟨fun i hi=>HL.out i (by omega),_,c,rfl,by omega,by unfold maxLen;omega,fun _=>⟨b,off,rfl,hlb,hbw,fun i hi=>HC.out i (by omega)⟩⟩ e
theorem uak:(Tryz.prog.info? 228).map (fun i=>(i.zero,i.size,i.bytes))=some (some (.int .u32 0),1,4):=by kernel_rfl
theorem ueu(f:Nat→Nat)(k:Nat)(h:∀i,i<k→f i<4294967296):∀j,j≤k→vs f j/B^j≤4:=by
 intro j;induction j with
 | zero=>intro _;simp[vs]
 | succ j ih=>
  intro hj;have h1:=ih (by omega)
  have h2:=h j (by omega)
  rw[uce];generalize vs f j/B^j=q at *;rw[udd];omega
set_option maxHeartbeats 800000 in
theorem uh8(w:World)(lo:Nat)(v:Value)(k:Nat)(f:Nat→Nat)(hv:Limbs w lo v k f)(hk:k≤4294967296) :
 Calls Tryz.prog 348 #[v] w (Ret fun v' w'=>NatR w' w.heap.size v' (vs f k)∧Below w.heap.size w w'):=by
 obtain⟨hlt,A,c,rfl,hkc,hcm,hb⟩:=hv;have HC:=hid (ueu f k hlt);have HB:=hid hb;have HL:=hid hlt;obtain⟨N,HN⟩:∃N,Hid (N=vs f k):=⟨_,rfl⟩;unfold maxLen at hcm;clear hb hlt;go_enter Tryz.func348,Tryz.ntmps348
 go_wp2_with (at_make;refine upa _ rfl _ _ 287 rfl w.heap.size 228 Tryz.underlying287 uak _ _ _ (k+1) rfl rfl (by omega) (by omega) (Nat.le_refl _) ?_;intro v0 w0 hown0 hg0)
 have hb0:Below w.heap.size w w0:=(Below.refl _ _).grown hg0 (Nat.le_refl _) (by simp)
 go_loopw [3,4,13] (fun o cv i wr=>∃j c:Nat,j≤k∧c≤4∧i = .int .i64 j∧cv = .int .u64 c∧Hid (c=vs f j/B^j)∧Own wr w.heap.size 228 o j (dg N)∧Below w.heap.size w wr) (fun _ _ i _=>k-(intOf i).toNat)
 case atStart=>exact⟨0,0,by omega,by omega,rfl,rfl,by simp[vs,Hid],hown0 _,hb0⟩
 case round=>
  obtain⟨j,c,hj,hc,rfl,rfl,hcv,hown,hbw⟩:=hrel;by_cases hlt:j<k
  ·obtain⟨b,off,rfl,hlb,hbb,hcell⟩:=HB.out (by omega)
   have hcl:=(hbw.cell (p:=⟨b,off+j,none⟩) hbb).trans (hcell j hlt);have hfj:=HL.out j hlt;have hdg:Hid ((f j+c)%1000000000=dg N j):=by
    have h1:=udv f hlt;rw[←hcv.out,←HN.out,udd]at h1;exact h1.symm
   have hcn:Hid ((f j+c)/1000000000=vs f (j+1)/B^(j+1)):=by
    have h1:=uce f j;rw[←hcv.out]at h1;exact h1.symm
   have hc4:(f j+c)/1000000000≤4:=by omega
   clear hcell;go_wp2_with (at_builtin;refine ua7 wr rfl _ _ 287 rfl w.heap.size 228 Tryz.underlying287 uak _ j (dg N) (by rfl) hown (by rfl) w hbw hbw.size (by omega) ?c1 ?_)
   case c1=>rw[←hdg.out];omega
   intro v1 w1 hown1 hb1;go_wp2;go_roundw
   case rel=>exact⟨j+1,(f j+c)/1000000000,by omega,hc4,by go_num,by go_num,hcn,hown1,hb1⟩
   case measure=>simp[intOf];omega
  ·obtain rfl:j=k:=by omega
   have hNv:Hid (N=vs f j):=HN;have hdv:Hid (c=N/B^j):=by rw[hcv.out,HN.out];rfl
   by_cases hc0:0<c
   ·have hcb:Hid (dg N j=c):=by
     show N/B^j%B=c
     rw[←hdv.out,udd];omega
    have hNj:Hid (N<B^(j+1)):=by
     show N<B^(j+1)
     rw[Nat.pow_succ,Nat.mul_comm,←Nat.div_lt_iff_lt_mul (uZ j),←hdv.out,udd];omega
    go_wp2_with (at_builtin;refine ua7 wr rfl _ _ 287 rfl w.heap.size 228 Tryz.underlying287 uak _ j (dg N) (by rfl) hown (by rfl) w hbw hbw.size (by omega) ?c1 ?_)
    case c1=>rw[hcb.out]
    intro v1 w1 hown1 hb1;go_wp2_with fail
    refine(uef _ _ _ _ _ (hown1.limbs fun i _=>Nat.lt_trans (uai N i) (by decide)) hNj.out).mono ?_
    rintro e w'⟨v',rfl,hnat,rfl⟩;go_wp2;go_ret
    exact⟨v',rfl,by rw[←HN.out];exact hnat,hb1⟩
   ·have hNj:Hid (N<B^j):=by
     have h0:N/B^j=0:=by rw[←hdv.out];omega
     exact(Nat.div_eq_zero_iff_lt (uZ j)).1 h0
    go_wp2_with fail
    refine(uef _ _ _ _ _ (hown.limbs fun i _=>Nat.lt_trans (uai N i) (by decide)) hNj.out).mono ?_
    rintro e w'⟨v',rfl,hnat,rfl⟩;go_wp2;go_ret
    exact⟨v',rfl,by rw[←HN.out];exact hnat,hbw⟩
theorem upb(n j:Nat):n/B^j=n/B^(j+1)*B+dg n j:=by
 have h:=ua6 n j;unfold dg;rw[h,Nat.mul_comm];exact(Nat.div_add_mod _ _).symm
set_option maxHeartbeats 1000000 in
theorem un9(w:World)(lo:Nat)(v:Value)(n:Nat)(hv:NatR w lo v n)(hn:n<18446744073709551616) :
 Calls Tryz.prog 371 #[v] w (fun e w'=>e = .returned (.tuple #[.int .u64 n,.bool true])∧w=w'):=by
 obtain⟨_,A,c,rfl,hkc,hcm,hb⟩:=hv;unfold maxLen at hcm;have HB:=hid hb;have HN:=hid hn;clear hb hn;obtain⟨k,hk⟩:∃k,k=dl n:=⟨_,rfl⟩;rw[←hk]at HB hkc ⊢;have HK:=hid hk;clear hk;go_enter Tryz.func371,Tryz.ntmps371
 go_wp2;go_loop [4,9] (fun x i=>∃j y:Nat,j≤k∧y<18446744073709551616∧i = .int .i64 j∧x = .int .u64 y∧Hid (y=n/B^(k-j))) (fun _ i=>k-(intOf i).toNat)
 case atStart=>exact⟨0,0,by omega,by omega,rfl,rfl,by show 0=n/B^(k-0);rw[Nat.sub_zero,HK.out,Nat.div_eq_of_lt (uav n)]⟩
 case round=>
  obtain⟨j,y,hj,hy,rfl,rfl,hyv⟩:=hrel;by_cases hlt:j<k
  ·obtain⟨b,off,rfl,hlb,hbb,hcell⟩:=HB.out (by omega)
   have hcl:=hcell (k-1-j) (by omega)
   clear hcell;have hd:=uai n (k-1-j);rw[udd]at hd;have hnx:y*1000000000+dg n (k-1-j)=n/B^(k-(j+1)):=by
    have h1:=upb n (k-1-j);rw[show k-1-j+1=k-j by omega,←hyv.out,udd]at h1
    rw[←h1,show k-(j+1)=k-1-j by omega];rfl
   have hle:n/B^(k-(j+1))≤n:=Nat.div_le_self _ _;have HNX:=hid hnx;have hs:y*1000000000+dg n (k-1-j)≤18446744073709551615:=by have:=HN.out;omega
   clear hle hnx;generalize dg n (k-1-j)=d at *;have hq:¬((18446744073709551615-(d:Int))/1000000000<(y:Int)):=by omega
   go_wp2;go_round
   case rel=>exact⟨j+1,y*1000000000+d,by omega,by omega,by go_num,by go_num,HNX⟩
   case measure=>simp[intOf];omega
  ·obtain rfl:j=k:=by omega
   have hfin:Hid (y=n):=by have:=hyv.out;rw[Nat.sub_self,Nat.pow_zero,Nat.div_one]at this;exact this
   go_wp2;go_ret2
   exact⟨by rw[←hfin.out];rfl,rfl⟩
def ugb(n m:Nat):Int:=if n<m then -1 else if n=m then 0 else 1
theorem uct{n m:Nat}(h:n<m):ugb n m = -1:=by unfold ugb;rw[if_pos h]
theorem ucu{n m:Nat}(h:n=m):ugb n m=0:=by unfold ugb;rw[if_neg (by omega),if_pos h]
theorem ucf{n m:Nat}(h:m<n):ugb n m=1:=by unfold ugb;rw[if_neg (by omega),if_neg (by omega)]
theorem uc0(n j:Nat):n/B^j=n/B^(j+1)*B+dg n j:=by
 have h:=ua6 n j;unfold dg;rw[h,Nat.mul_comm];exact(Nat.div_add_mod _ _).symm
theorem ucq{n m k:Nat}(h:n/k<m/k):n<m:=by
 rcases Nat.lt_or_ge n m with h1|h1
 ·exact h1
 ·have:=Nat.div_le_div_right (c:=k) h1;omega
set_option maxHeartbeats 800000 in
theorem uev(w:World)(lo lo':Nat)(v v':Value)(n m:Nat)(hv:NatR w lo v n)(hv':NatR w lo' v' m) :
 Calls Tryz.prog 373 #[v,v'] w (fun e w'=>e = .returned (.int .i64 (ugb n m))∧Qt w w'):=by
 obtain⟨_,A,c,rfl,hkc,hcm,hb⟩:=hv;obtain⟨_,A',c',rfl,hkc',hcm',hb'⟩:=hv';unfold maxLen at hcm hcm';have HB:=hid hb;have HB':=hid hb';clear hb hb';rcases Nat.lt_trichotomy (dl n) (dl m)with h|h|h
 ·have hne:(((dl n:Nat):Int) != ((dl m:Nat):Int))=true:=by rw[bne_iff_ne];omega
  go_enter Tryz.func373,Tryz.ntmps373
  go_wp2;go_ret
  exact⟨by rw[uct (ude h)];rfl,Qt.refl _⟩
 ·obtain⟨k,hk⟩:∃k,k=dl n:=⟨_,rfl⟩
  have hm:=hk.trans h;rw[←hk]at HB hkc ⊢;rw[←hm]at HB' hkc' ⊢;have HK:=hid hk;have HM:=hid hm;clear hk hm h;go_enter Tryz.func373,Tryz.ntmps373
  go_wp2;go_loopw [5] (fun i wr=>∃j q:Nat,j≤k∧i = .int .i64 (↑j-1)∧Hid (n/B^j=m/B^j)∧wr=w.drewN q) (fun i _=>(intOf i+1).toNat)
  case atStart=>
   refine⟨k,0,Nat.le_refl _,rfl,?_,rfl⟩;have h1:=uav n;have h2:=uav m;rw[←HK.out]at h1;rw[←HM.out]at h2;show n/B^k=m/B^k
   rw[Nat.div_eq_of_lt h1,Nat.div_eq_of_lt h2]
  case round=>
   obtain⟨j,q,hj,rfl,hd,rfl⟩:=hrel;rcases j with _|j
   ·go_wp2
    go_ret
    refine⟨?_,Qt.of _ _⟩;have h1:n=m:=by simpa using hd.out
    rw[ucu h1];rfl
   ·obtain⟨b,off,rfl,hlb,hbb,hcell⟩:=HB.out (by omega)
    obtain⟨b',off',rfl,hlb',hbb',hcell'⟩:=HB'.out (by omega)
    have hc1:=hcell j (by omega)
    have hc2:=hcell' j (by omega)
    clear hcell hcell';have hs1:=hid (uc0 n j);have hs2:=hid (uc0 m j);rcases Nat.lt_trichotomy (dg n j) (dg m j)with h|h|h
    ·have hfin:Hid (n<m):=ucq (k:=B^j) (by rw[hs1.out,hs2.out,hd.out];omega)
     go_wp2;go_quiet (fail)
     go_wp2;go_ret
     exact⟨by rw[uct hfin.out];rfl,(Qt.of _ _).drewN _⟩
    ·have hfin:Hid (n/B^j=m/B^j):=by show n/B^j=m/B^j;rw[hs1.out,hs2.out,hd.out,h]
     have hne1:decide (dg n j<dg m j)=false:=by simp;omega
     have hne2:decide (dg m j<dg n j)=false:=by simp;omega
     clear h;go_wp2;go_quiet (fail)
     go_wp2;go_quiet (fail)
     go_wp2;go_roundw
     case rel=>exact⟨j,_,by omega,by go_num,hfin,rfl⟩
     case measure=>simp[intOf]
    ·have hfin:Hid (m<n):=ucq (k:=B^j) (by rw[hs1.out,hs2.out,hd.out];omega)
     have hne1:decide (dg n j<dg m j)=false:=by simp;omega
     go_wp2;go_quiet (fail)
     go_wp2;go_quiet (fail)
     go_wp2;go_ret
     exact⟨by rw[ucf hfin.out];rfl,((Qt.of _ _).drewN _).drewN _⟩
 ·have hne:(((dl n:Nat):Int) != ((dl m:Nat):Int))=true:=by rw[bne_iff_ne];omega
  go_enter Tryz.func373,Tryz.ntmps373
  go_wp2;go_ret
  exact⟨by rw[ucf (ude h)];rfl,Qt.refl _⟩
theorem urw(n m k:Nat):vs (fun i=>dg n i+dg m i) k=n%B^k+m%B^k:=by
 induction k with
 | zero=>simp[vs,Nat.mod_one]
 | succ k ih=>rw[vs,ih,uY,uY m,Nat.add_mul];omega
theorem urx(n m j:Nat):vs (fun i=>dg n i+dg m i) j/B^j≤1:=by
 rw[urw];have h1:=Nat.mod_lt n (uZ j);have h2:=Nat.mod_lt m (uZ j);have:(n%B^j+m%B^j)/B^j<2:=by
  rw[Nat.div_lt_iff_lt_mul (uZ j)];omega
 omega
theorem ujz(n m j:Nat):dg (n+m) j=(dg n j+dg m j+vs (fun i=>dg n i+dg m i) j/B^j)%B:=by
 have h:=udv (fun i=>dg n i+dg m i) (Nat.lt_succ_self j)
 rw[←h,urw];unfold dg;generalize hk:B^j=K;have e:B^(j+1)=K*B:=by rw[Nat.pow_succ,hk]
 rw[e];have hK:0<K:=hk▸uZ j;rw[←Nat.mod_mul_right_div_self,←Nat.mod_mul_right_div_self,←Nat.add_mod]
theorem uoa(n m j:Nat):vs (fun i=>dg n i+dg m i) (j+1)/B^(j+1)=(dg n j+dg m j+vs (fun i=>dg n i+dg m i) j/B^j)/B:=
 uce (fun i=>dg n i+dg m i) j
theorem uuz{n m N j c:Nat}(hn:n=m+N)(hc:c=vs (fun i=>dg m i+dg N i) j/B^j) :
 ∃c',c'≤1∧c'=vs (fun i=>dg m i+dg N i) (j+1)/B^(j+1)∧dg m j+dg N j+c=c'*1000000000+dg n j:=by
 have h1:=ujz m N j;have h2:=uoa m N j;rw[←hn,←hc,udd]at h1;rw[←hc,udd]at h2;refine⟨_,urx m N (j+1),rfl,?_⟩;rw[h1];rw[udd];rw[h2];omega
theorem uc1:dl 1=1:=ujw (k:=0) (by decide) (by decide)
theorem ubi{n:Nat}(h:n<B):dg n 0=n:=by unfold dg;rw[Nat.pow_zero,Nat.div_one,Nat.mod_eq_of_lt h]
theorem ufa(w:World)(lo:Nat)(v:Value)(hv:NatR w lo v 1) :
 Calls Tryz.prog 319 #[v] w (fun e w'=>e = .returned (.bool true)∧w=w'):=by
 obtain⟨_,A,c,rfl,hkc,hcm,hb⟩:=hv;rw[uc1]at hkc hb ⊢;obtain⟨b,off,rfl,hlb,hbb,hcell⟩:=hb (by omega)
 have hcl:=hcell 0 (by omega)
 rw[ubi (by decide),Nat.add_zero]at hcl
 clear hcell hb;go_enter Tryz.func319,Tryz.ntmps319
 go_wp2;go_ret
 exact⟨rfl,rfl⟩
theorem ugg(w:World)(lo:Nat)(v:Value)(n:Nat)(hv:NatR w lo v n)(hn:n≠1) :
 Calls Tryz.prog 319 #[v] w (fun e w'=>e = .returned (.bool false)∧w=w'):=by
 obtain⟨_,A,c,rfl,hkc,hcm,hb⟩:=hv;unfold maxLen at hcm;by_cases h1:dl n=1
 ·rw[h1]at hkc hb ⊢
  obtain⟨b,off,rfl,hlb,hbb,hcell⟩:=hb (by omega)
  have hcl:=hcell 0 (by omega)
  have hB:n<B:=by have:=uav n;rw[h1]at this;simpa using this
  rw[ubi hB,Nat.add_zero]at hcl;have hne:(((n:Nat):Int)==1)=false:=by rw[beq_eq_false_iff_ne];omega
  clear hcell hb h1 hB;go_enter Tryz.func319,Tryz.ntmps319
  go_wp2;go_ret
  exact⟨rfl,rfl⟩
 ·have hne:(((dl n:Nat):Int)==1)=false:=by rw[beq_eq_false_iff_ne];omega
  clear hb;go_enter Tryz.func319,Tryz.ntmps319
  go_wp2;go_ret
  exact⟨rfl,rfl⟩
set_option maxHeartbeats 1000000 in
theorem uf6(w:World)(n:Nat)(hn:n<18446744073709551616) :
 Calls Tryz.prog 372 #[.int .u64 n] w (Ret fun v2 w'=>NatR w' w.heap.size v2 n∧Below w.heap.size w w'):=by
 go_enter Tryz.func372,Tryz.ntmps372
 go_wp2;go_loopw [0,3] (fun x o wr=>∃j r:Nat,j≤3∧r<18446744073709551616∧x = .int .u64 r∧Hid (r=n/B^j)∧Hid (j=0∨B^(j-1)≤n)∧Own wr w.heap.size 228 o j (dg n)∧Below w.heap.size w wr) (fun x _ _=>(intOf x).toNat)
 case atStart=>exact⟨0,n,by omega,hn,rfl,by simp[Hid],.inl rfl,World.ownsRow_nil _ _ _ _,Below.refl _ _⟩
 case round=>
  obtain⟨j,r,hj,hr,rfl,hrv,hjn,hown,hbw⟩:=hrel;by_cases h0:0<r
  ·have hge:Hid (B^j≤n):=by
    rcases Nat.lt_or_ge n (B^j)with h|h
    ·have:=hrv.out;rw[Nat.div_eq_of_lt h]at this;omega
    ·exact h
   have hj2:j≤2:=by
    rcases Nat.lt_or_ge 2 j with h|h
    ·exfalso
     have h1:B^3≤B^j:=Nat.pow_le_pow_right udu (by omega)
     have h2:=hge.out;have h3:B^3=1000000000000000000000000000:=by decide
     omega
    ·exact h
   have hdg:Hid (r%1000000000=dg n j):=by show _=n/B^j%B;rw[←hrv.out];rfl
   have hnx:Hid (r/1000000000=n/B^(j+1)):=by show _=_;rw[ua6,←hrv.out];rfl
   go_wp2_with (at_builtin;refine ua7 wr rfl _ _ 287 rfl w.heap.size 228 Tryz.underlying287 uak _ j (dg n) (by rfl) hown (by rfl) w hbw hbw.size (by omega) ?c1 ?_)
   case c1=>rw[←hdg.out];omega
   intro v1 w1 hown1 hb1;go_wp2;go_roundw
   case rel=>exact⟨j+1,r/1000000000,by omega,by omega,by go_num,hnx,.inr (by simpa using hge.out),hown1,hb1⟩
   case measure=>simp[intOf];omega
  ·obtain rfl:r=0:=by omega
   have hlen:Hid (dl n=j):=by
    have h1:n<B^j:=(Nat.div_eq_zero_iff_lt (uZ j)).1 hrv.out.symm;refine Nat.le_antisymm (ucp h1) ?_;rcases hjn.out with h|h
    ·omega
    ·have:=uux h;omega
   go_wp2;go_ret
   exact⟨_,rfl,NatR.of (hown.limbs fun i _=>Nat.lt_trans (uai _ i) (by decide)) hlen.out,hbw⟩
theorem uob(n m k:Nat):vs (fun i=>dg n i*m) k=n%B^k*m:=by
 induction k with
 | zero=>simp[vs,Nat.mod_one]
 | succ k ih=>
  rw[vs,ih,uY,Nat.add_mul];congr 1
  simp only[Nat.mul_comm,Nat.mul_assoc]
theorem ulp(n m j:Nat)(hm:m<B):vs (fun i=>dg n i*m) j/B^j<1000000000:=by
 rw[uob];have h1:=Nat.mod_lt n (uZ j);have h2:n%B^j*m/B^j≤m:=by
  apply Nat.div_le_of_le_mul;exact Nat.mul_le_mul_right m (Nat.le_of_lt h1)
 rw[udd]at hm;omega
theorem ufr{a b:Nat}(ha:a<1000000000)(hb:b<1000000000):a*b≤999999998000000001:=
 Nat.le_trans (Nat.mul_le_mul (show a≤999999999 by omega) (show b≤999999999 by omega)) (by decide)
set_option maxHeartbeats 1000000 in
theorem uc2(w:World)(lo:Nat)(v:Value)(n m:Nat)(hv:NatR w lo v n)(hk:dl n≤4294967296)(hm:m<1000000000) :
 Calls Tryz.prog 375 #[v,.int .u64 m] w (Ret fun v2 w'=>∃b,v2 = .slice (some ⟨b,0,none⟩) (dl n+1) (dl n+1)∧w.heap.size≤b∧RowU w' b 228 (dl n+1) (dg (n*m))∧Below w.heap.size w w'):=by
 obtain⟨_,A,c,rfl,hkc,hcm,hb⟩:=hv;unfold maxLen at hcm;have HB:=hid hb;have HN:Hid (vs (fun i=>dg n i*m) (dl n)=n*m):=by show _=_;rw[uob,Nat.mod_eq_of_lt (uav n)]
 clear hb;go_enter Tryz.func375,Tryz.ntmps375
 go_wp2_with (at_make;refine ubv _ rfl _ _ 287 rfl w.heap.size 228 Tryz.underlying287 uak _ _ _ _ (dl n+1) (by rfl) (by rfl) (by omega) (by omega) (by omega) w (Below.refl _ _) (Nat.le_refl _) ?_;intro b w1 hlb1 _ hrow1 hbw1 _)
 go_loopw [6,15] (fun cv i wr=>∃j c:Nat,j≤dl n∧c<1000000000∧i = .int .i64 j∧cv = .int .u64 c∧Hid (c=vs (fun i=>dg n i*m) j/B^j)∧RowU wr b 228 (dl n+1) (fun t=>if t<j then dg (n*m) t else 0)∧Below w.heap.size w wr) (fun _ i _=>dl n-(intOf i).toNat)
 case atStart=>exact⟨0,0,by omega,by omega,rfl,rfl,by simp[vs,Hid],hrow1.congr fun t _=>by simp,hbw1⟩
 case round=>
  obtain⟨j,c,hj,hc,rfl,rfl,hcv,hrow,hbw⟩:=hrel;have hd:dg n j<1000000000:=uai n j;by_cases hlt:j<dl n
  ·obtain⟨ba,off,rfl,hlb,hbb,hcell⟩:=HB.out (by omega)
   have hcl:=(hbw.cell (p:=⟨ba,off+j,none⟩) hbb).trans (hcell j hlt);have hfz:=hrow.frozen j;have hc3:=hrow.cell (i:=j) (by omega)
   have hdg:Hid ((dg n j*m+c)%1000000000=dg (n*m) j):=by
    have h1:=udv (fun i=>dg n i*m) hlt
    rw[←hcv.out,HN.out,udd]at h1;exact h1.symm
   have hcn:Hid ((dg n j*m+c)/1000000000=vs (fun i=>dg n i*m) (j+1)/B^(j+1)):=by
    have h1:=uce (fun i=>dg n i*m) j
    rw[←hcv.out]at h1;exact h1.symm
   have hnb:Hid ((dg n j*m+c)/1000000000<1000000000):=by
    have:=ulp n m (j+1) hm;rw[←hcn.out]at this;exact this
   obtain⟨x,hxe⟩:∃x,Hid (x=dg n j):=⟨_,rfl⟩;rw[←hxe.out]at hcl hd hdg hcn hnb;have hpb:=ufr hd hm;have hm1:((x:Int)*m)≤999999998000000001:=by omega
   have hm0:0≤((x:Int)*m):=by omega
   clear hcell hpb;go_wp2;go_roundw
   case rel=>
    refine⟨j+1,(x*m+c)/1000000000,by omega,hnb.out,by go_num,by go_num,hcn,RowU.congr (RowU.set hrow j (z:=(x*m+c)%1000000000) (by go_num)) fun t ht=>?_,Below.setCell hbw hlb1 _⟩
    by_cases e:t=j
    ·subst e;rw[uam,if_pos (by omega)];exact hdg.out
    ·rw[uV _ _ e]
     by_cases h2:t<j
     ·rw[if_pos h2,if_pos (by omega)]
     ·rw[if_neg h2,if_neg (by omega)]
   case measure=>simp[intOf];omega
  ·obtain rfl:j=dl n:=by omega
   have hfz:=hrow.frozen (dl n);have hc3:=hrow.cell (i:=dl n) (by omega)
   have htop:Hid (c=dg (n*m) (dl n)):=by
    show c=n*m/B^dl n%B
    rw[←HN.out,←hcv.out,Nat.mod_eq_of_lt (show c<B from hc)]
   go_wp2;go_ret
   refine⟨_,rfl,b,rfl,hlb1,RowU.congr (RowU.set hrow (dl n) (z:=c) rfl) fun t ht=>?_,Below.setCell hbw hlb1 _⟩
   by_cases e:t=dl n
   ·subst e;rw[uam];exact htop.out
   ·rw[uV _ _ e,if_pos (by omega)]
theorem ufb{n m j:Nat}(hm:0<m) :
 (n/B^(j+1)%m*1000000000+dg n j)/m=dg (n/m) j∧(n/B^(j+1)%m*1000000000+dg n j)%m=n/B^j%m:=by
 have h1:n/B^j=n/B^(j+1)*B+dg n j:=by
  have h:=ua6 n j;unfold dg;rw[h,Nat.mul_comm];exact(Nat.div_add_mod _ _).symm
 have h2:n/m/B^j=n/B^j/m:=by rw[Nat.div_div_eq_div_mul,Nat.div_div_eq_div_mul,Nat.mul_comm]
 generalize n/B^(j+1)=X at *;have hd:dg n j<B:=uai n j;generalize dg n j=d at *;have h3:X*B+d=m*(X/m*B)+(X%m*1000000000+d):=by
  have h:=Nat.div_add_mod X m;calc X*B+d=(m*(X/m)+X%m)*B+d:=by rw[h]
   _=m*(X/m*B)+(X%m*1000000000+d):=by rw[Nat.add_mul,udd,Nat.mul_assoc,Nat.add_assoc]
 have h4:(X%m*1000000000+d)/m<B:=by
  rw[Nat.div_lt_iff_lt_mul hm];have h:=Nat.mod_lt X hm;have h5:(X%m+1)*B≤m*B:=Nat.mul_le_mul_right _ h;rw[Nat.mul_comm B m];rw[udd]at *;omega
 constructor
 ·unfold dg
  rw[h2,h1,h3,Nat.mul_add_div hm,Nat.mul_add_mod_self_right,Nat.mod_eq_of_lt h4]
 ·rw[h1,h3,Nat.mul_add_mod]
set_option maxHeartbeats 1000000 in
theorem udx(w:World)(lo:Nat)(v:Value)(n m:Nat)(hv:NatR w lo v n)(hk:dl n≤8589934592)(hm:m<1000000000)(hm0:0<m) :
 Calls Tryz.prog 374 #[v,.int .u64 m] w (fun e w'=>∃v2,e = .returned (.tuple #[v2,.int .u64 (n%m:Nat)])∧NatR w' w.heap.size v2 (n/m)∧Below w.heap.size w w'):=by
 obtain⟨_,A,c,rfl,hkc,hcm,hb⟩:=hv;unfold maxLen at hcm;have HB:=hid hb;have hmz:((m:Int)==0)=false:=by rw[beq_eq_false_iff_ne];omega
 clear hb;go_enter Tryz.func374,Tryz.ntmps374
 go_wp2_with (at_make;refine ubv _ rfl _ _ 287 rfl w.heap.size 228 Tryz.underlying287 uak _ _ _ _ (dl n) (by rfl) (by rfl) (by omega) (by omega) (by omega) w (Below.refl _ _) (Nat.le_refl _) ?_;intro b w1 hlb1 _ hrow1 hbw1 _)
 go_loopw [7,8] (fun rv i wr=>∃j r:Nat,j≤dl n∧r<m∧i = .int .i64 (↑j-1)∧rv = .int .u64 r∧Hid (r=n/B^j%m)∧RowU wr b 228 (dl n) (fun t=>if j≤t then dg (n/m) t else 0)∧Below w.heap.size w wr) (fun _ i _=>(intOf i+1).toNat)
 case atStart=>
  refine⟨dl n,0,by omega,hm0,rfl,rfl,?_,hrow1.congr fun t ht=>by rw[if_neg (by omega)],hbw1⟩
  show 0=n/B^dl n%m
  rw[Nat.div_eq_of_lt (uav n),Nat.zero_mod]
 case round=>
  obtain⟨j,r,hj,hr,rfl,rfl,hrv,hrow,hbw⟩:=hrel;rcases j with _|j
  ·have hrow0:RowU wr b 228 (dl n) (dg (n/m)):=hrow.congr fun t _=>by rw[if_pos (by omega)]
   have hq:Hid (n/m<B^dl n):=Nat.lt_of_le_of_lt (Nat.div_le_self _ _) (uav n);have hrf:Hid (r=n%m):=by have:=hrv.out;rw[Nat.pow_zero,Nat.div_one]at this;exact this
   clear hrow;go_wp2_with fail
   refine(uef _ _ _ _ _ (hrow0.limbs hlb1 (by omega) fun i _=>Nat.lt_trans (uai _ i) (by decide)) hq.out).mono ?_
   rintro e w'⟨v',rfl,hnat,rfl⟩;go_wp2;go_ret2
   exact⟨v',by rw[←hrf.out];rfl,hnat,hbw⟩
  ·have hd:dg n j<1000000000:=uai n j
   obtain⟨ba,off,rfl,hlb,hbb,hcell⟩:=HB.out (by omega)
   have hcl:=(hbw.cell (p:=⟨ba,off+j,none⟩) hbb).trans (hcell j (by omega))
   have hfz:=hrow.frozen j;have hc3:=hrow.cell (i:=j) (by omega)
   obtain⟨hq1,hq2⟩:=ufb (n:=n) (j:=j) hm0;rw[←hrv.out]at hq1 hq2;have HQ1:=hid hq1;have HQ2:=hid hq2;have hqb:(r*1000000000+dg n j)/m<1000000000:=by rw[hq1];exact uai _ _
   have hqm:(r*1000000000+dg n j)%m<m:=Nat.mod_lt _ hm0;obtain⟨x,hxe⟩:∃x,Hid (x=dg n j):=⟨_,rfl⟩;rw[←hxe.out]at hcl hd HQ1 HQ2 hqb hqm;have hqi:((r:Int)*1000000000+x)/m<1000000000:=by have h:=Int.ofNat_lt.2 hqb;simpa using h
   have hqi0:0≤((r:Int)*1000000000+x)/m:=Int.ediv_nonneg (by omega) (by omega)
   clear hcell hq1 hq2 hqb;go_wp2;go_roundw
   case rel=>
    refine⟨j,(r*1000000000+x)%m,by omega,hqm,by go_num,by go_num,HQ2,RowU.congr (RowU.set hrow j (z:=(r*1000000000+x)/m) (by go_num)) fun t ht=>?_,Below.setCell hbw hlb1 _⟩
    by_cases e:t=j
    ·subst e;rw[uam,if_pos (by omega)];exact HQ1.out
    ·rw[uV _ _ e]
     by_cases h2:j+1≤t
     ·rw[if_pos h2,if_pos (by omega)]
     ·rw[if_neg h2,if_neg (by omega)]
   case measure=>simp[intOf]
theorem uvj{g:Nat→Nat}{T x y c K m' s:Nat}(hT:s=x*y+dg T K+c)
 (h:vs g K+c*B^K=T%B^K+m'):vs (upd g K (s%1000000000)) (K+1)+s/1000000000*B^(K+1)=T%B^(K+1)+(m'+x*y*B^K):=by
 rw[vs,uw5 g _ (Nat.le_refl K),uam,uY,Nat.pow_succ];have h1:s%1000000000*B^K+s/1000000000*(B^K*B)=s*B^K:=by
  have e:s/1000000000*(B^K*B)=s/1000000000*1000000000*B^K:=by rw[udd,Nat.mul_comm (1000000000^K),Nat.mul_assoc]
  rw[e,←Nat.add_mul,Nat.mod_add_div']
 have h2:s*B^K=x*y*B^K+dg T K*B^K+c*B^K:=by rw[hT,Nat.add_mul,Nat.add_mul]
 omega
theorem uvk(x m i j:Nat):x*(m%B^j)*B^i+x*dg m j*B^(i+j)=x*(m%B^(j+1))*B^i:=by
 rw[uY,Nat.mul_add,Nat.add_mul,Nat.pow_add];congr 1
 simp only[Nat.mul_comm,Nat.mul_left_comm,Nat.mul_assoc]
theorem uvl{g:Nat→Nat}{n m i c L:Nat}(hg:∀t,t<L→g t<B)(hc:c<B)(hL:i+dl m<L)
 (hhi:∀t,i+dl m≤t→t<L→g t=dg (n%B^i*m) t)
 (h:vs g (i+dl m)+c*B^(i+dl m)=(n%B^i*m)%B^(i+dl m)+dg n i*(m%B^dl m)*B^i) :
 ∀t,t<L→upd g (i+dl m) c t=dg (n%B^(i+1)*m) t:=by
 have hT:n%B^i*m<B^(i+dl m):=by
  rw[Nat.pow_add];have h1:=Nat.mod_lt n (uZ i);have h2:=uav m;rcases Nat.eq_zero_or_pos m with h0|h0
  ·subst h0;rw[Nat.mul_zero];exact Nat.mul_pos (uZ _) (uZ _)
  ·exact Nat.mul_lt_mul_of_lt_of_le h1 (Nat.le_of_lt h2) (uZ _)
 rw[Nat.mod_eq_of_lt hT,Nat.mod_eq_of_lt (uav m)]at h;have hv:vs (upd g (i+dl m) c) (i+dl m+1)=n%B^(i+1)*m:=by
  rw[vs,uw5 g _ (Nat.le_refl _),uam,h,uY,Nat.add_mul];congr 1
  simp only[Nat.mul_comm,Nat.mul_assoc]
 have hd:∀t,t<i+dl m+1→upd g (i+dl m) c t<B:=by
  intro t ht;by_cases e:t=i+dl m
  ·subst e;rw[uam];exact hc
  ·rw[uV g c e];exact hg t (by omega)
 intro t ht;rcases Nat.lt_or_ge t (i+dl m+1)with h1|h1
 ·rw[←hv];exact(uxi hd h1).symm
 ·rw[uV g c (by omega),hhi t (by omega) ht]
  have h2:n%B^(i+1)*m<B^(i+dl m+1):=by rw[←hv];exact uo9 hd
  rw[uf4 (Nat.lt_of_lt_of_le hT (Nat.pow_le_pow_right udu (by omega))),uf4 (Nat.lt_of_lt_of_le h2 (Nat.pow_le_pow_right udu h1))]
theorem ukg{a b t c:Nat}(ha:a<1000000000)(hb:b<1000000000)(ht:t<1000000000)(hc:c<1000000000) :
 a*b≤999999998000000001∧a*b+t+c≤999999999999999999:=by
 have h:a*b≤999999999*999999999:=Nat.mul_le_mul (by omega) (by omega)
 omega
end Go.Proofs.YtellcholbkoakaaGreatDoor
