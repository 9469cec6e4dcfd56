/-
  The walks of the reference's natural numbers: cut, nat, limbs, natCmp.
-/
import Derived.Test.YtellcholbkoakaaGreatDoorHWalkN
import Derived.Laws.FloatArith
namespace Go.Proofs.YtellcholbkoakaaGreatDoor
open Go.Lib (hid)
open Go.RowKit AC
set_option linter.unusedVariables false
set_option linter.unusedSimpArgs false
set_option maxHeartbeats 800000 in
theorem udk(w:World)(lo:Nat)(v:Value)(k N:Nat)(hv:Limbs w lo v k (dg N))(hN:N<B^k)(hk:k≤4294967296000) :
 Calls Tryz.prog 280 #[v] w (Ret fun v' w'=>NatR w' w.heap.size v' N∧Below w.heap.size w w'):=by
 obtain⟨hlt,A,c,rfl,hkc,hcm,hb⟩:=hv;have HN:=hid hN;have HB:=hid hb;have HL:=hid hlt;unfold maxLen at hcm;clear hN hb hlt;go_enter Tryz.func280,Tryz.ntmps280
 go_wp2;go_loop [3] (fun t=>∃j:Nat,j≤k∧t = .int .i64 j∧Hid (N<B^j)) (fun t=>(intOf t).toNat)
 case atStart=>exact⟨k,Nat.le_refl _,rfl,HN⟩
 case round=>
  obtain⟨j,hj,rfl,hNj⟩:=hrel;rcases j with _|j
  ·have HS:Hid (Limbs w lo (.slice A 0 c) 0 (dg N)):=⟨fun i hi=>absurd hi (by omega),A,c,rfl,by omega,by unfold maxLen;omega,fun h=>absurd h (by omega)⟩
   go_wp2_with (at_builtin;refine ucs _ rfl _ _ 74 rfl w.heap.size 228 Tryz.underlying74 uak (by rfl) _ 0 c (dg N) (by rfl) lo HS.out w (Below.refl _ _) (Nat.le_refl _) (by omega) ?_;intro v1 w1 hown1 hb1)
   go_ret
   have h0:N=0:=by simpa using hNj.out
   exact⟨v1,rfl,NatR.of (hown1.limbs fun i _=>Nat.lt_trans (uai _ i) (by decide)) (by rw[h0,uab]),hb1⟩
  ·obtain⟨b,off,rfl,hlb,hbw,hcell⟩:=HB.out (by omega)
   have hcl:=hcell j (by omega)
   have HC:=hid hcell;clear hcell;by_cases h0:dg N j=0
   ·have h1:(((dg N j:Nat):Int)==0)=true:=by rw[h0];rfl
    have H0:=hid h0;clear h0;go_wp2;go_round
    case rel=>exact⟨j,by omega,rfl,ugn hNj.out H0.out⟩
    case measure=>simp[intOf]
   ·have h1:(((dg N j:Nat):Int)==0)=false:=by rw[beq_eq_false_iff_ne];omega
    have H0:=hid h0;clear h0;have HS:Hid (Limbs w lo (.slice (some ⟨b,off,none⟩) (j+1) c) (j+1) (dg N)):=⟨fun i hi=>HL.out i (by omega),_,c,rfl,by omega,by unfold maxLen;omega,fun _=>⟨b,off,rfl,hlb,hbw,fun i hi=>HC.out i (by omega)⟩⟩
    go_wp2_with (at_builtin;refine ucs _ rfl _ _ 74 rfl w.heap.size 228 Tryz.underlying74 uak (by rfl) _ (j+1) c (dg N) (by rfl) lo HS.out w (Below.refl _ _) (Nat.le_refl _) (by omega) ?_;intro v1 w1 hown1 hb1)
    go_ret
    have e:=uf5 (k:=j+1) hNj.out (.inr (by simpa using H0.out))
    exact⟨v1,rfl,NatR.of (hown1.limbs fun i _=>Nat.lt_trans (uai _ i) (by decide)) e,hb1⟩
set_option maxHeartbeats 800000 in
theorem ujb(w:World)(lo:Nat)(v:Value)(k:Nat)(f:Nat→Nat)(hv:Limbs w lo v k f)(hk:k≤4294967296) :
 Calls Tryz.prog 281 #[v] w (Ret fun v' w'=>NatR w' w.heap.size v' (vs f k)∧Below w.heap.size w w'):=by
 obtain⟨hlt,A,c,rfl,hkc,hcm,hb⟩:=hv;have HC:=hid (ueu f k hlt);have HB:=hid hb;have HL:=hid hlt;obtain⟨N,HN⟩:∃N,Hid (N=vs f k):=⟨_,rfl⟩;unfold maxLen at hcm;clear hb hlt;go_enter Tryz.func281,Tryz.ntmps281
 go_wp2;go_loopw [3,4,5] (fun o cv i wr=>∃j c:Nat,j≤k∧c≤4∧i = .int .i64 j∧cv = .int .u64 c∧Hid (c=vs f j/B^j)∧Own wr w.heap.size 228 o j (dg N)∧Below w.heap.size w wr) (fun _ _ i _=>k-(intOf i).toNat)
 case atStart=>exact⟨0,0,by omega,by omega,rfl,rfl,by simp[vs,Hid],World.ownsRow_nil _ _ _ _,Below.refl _ _⟩
 case round=>
  obtain⟨j,c,hj,hc,rfl,rfl,hcv,hown,hbw⟩:=hrel;by_cases hlt:j<k
  ·obtain⟨b,off,rfl,hlb,hbb,hcell⟩:=HB.out (by omega)
   have hcl:=(hbw.cell (p:=⟨b,off+j,none⟩) hbb).trans (hcell j hlt);have hfj:=HL.out j hlt;have hdg:Hid ((c+f j)%1000000000=dg N j):=by
    have h1:=udv f hlt;rw[←hcv.out,←HN.out,udd,Nat.add_comm]at h1;exact h1.symm
   have hcn:Hid ((c+f j)/1000000000=vs f (j+1)/B^(j+1)):=by
    have h1:=uce f j;rw[←hcv.out,Nat.add_comm (f j)]at h1;exact h1.symm
   have hc4:(c+f j)/1000000000≤4:=by omega
   clear hcell;go_wp2_with (at_builtin;refine ua7 wr rfl _ _ 74 rfl w.heap.size 228 Tryz.underlying74 uak _ j (dg N) (by rfl) hown (by rfl) w hbw hbw.size (by omega) ?c1 ?_)
   case c1=>rw[←hdg.out];omega
   intro v1 w1 hown1 hb1;go_wp2;go_roundw
   case rel=>exact⟨j+1,(c+f j)/1000000000,by omega,hc4,by go_num,by go_num,hcn,hown1,hb1⟩
   case measure=>simp[intOf];omega
  ·obtain rfl:j=k:=by omega
   have hNv:Hid (N=vs f j):=HN;have hdv:Hid (c=N/B^j):=by rw[hcv.out,HN.out];rfl
   by_cases hc0:0<c
   ·have hcb:Hid (dg N j=c):=by
     show N/B^j%B=c
     rw[←hdv.out,udd];omega
    have hNj:Hid (N<B^(j+1)):=by
     show N<B^(j+1)
     rw[Nat.pow_succ,Nat.mul_comm,←Nat.div_lt_iff_lt_mul (uZ j),←hdv.out,udd];omega
    go_wp2_with (at_builtin;refine ua7 wr rfl _ _ 74 rfl w.heap.size 228 Tryz.underlying74 uak _ j (dg N) (by rfl) hown (by rfl) w hbw hbw.size (by omega) ?c1 ?_)
    case c1=>rw[hcb.out]
    intro v1 w1 hown1 hb1;go_wp2_with fail
    refine(udk _ _ _ _ _ (hown1.limbs fun i _=>Nat.lt_trans (uai N i) (by decide)) hNj.out (by omega)).mono ?_
    rintro e w'⟨v',rfl,hnat,hb2⟩;go_wp2;go_ret
    exact⟨v',rfl,by rw[←HN.out];exact hnat.lower hb1.size,hb1.trans (hb2.mono hb1.size)⟩
   ·have hNj:Hid (N<B^j):=by
     have h0:N/B^j=0:=by rw[←hdv.out];omega
     exact(Nat.div_eq_zero_iff_lt (uZ j)).1 h0
    go_wp2_with fail
    refine(udk _ _ _ _ _ (hown.limbs fun i _=>Nat.lt_trans (uai N i) (by decide)) hNj.out (by omega)).mono ?_
    rintro e w'⟨v',rfl,hnat,hb2⟩;go_wp2;go_ret
    exact⟨v',rfl,by rw[←HN.out];exact hnat.lower hbw.size,hbw.trans (hb2.mono hbw.size)⟩
set_option maxHeartbeats 800000 in
theorem uba(w:World)(n:Nat)(hn:n<18446744073709551616) :
 Calls Tryz.prog 217 #[.int .u64 n] w (Ret fun v' w'=>NatR w' w.heap.size v' n∧Below w.heap.size w w'):=by
 have hd3:dl n≤3:=ucp (Nat.lt_trans hn (by decide))
 obtain⟨N,HN⟩:∃N,Hid (N=n):=⟨_,rfl⟩;go_enter Tryz.func217,Tryz.ntmps217
 go_wp2;go_loopw [0,3] (fun nv o wr=>∃j m:Nat,j≤3∧m≤n∧nv = .int .u64 m∧Hid (m=N/B^j)∧Hid (j≤dl N)∧Own wr w.heap.size 228 o j (dg N)∧Below w.heap.size w wr) (fun nv _ _=>(intOf nv).toNat)
 case atStart=>exact⟨0,n,by omega,by omega,rfl,by simp[Hid,HN.out],Nat.zero_le _,World.ownsRow_nil _ _ _ _,Below.refl _ _⟩
 case round=>
  obtain⟨j,m,hj,hm,rfl,hmv,hjd,hown,hbw⟩:=hrel;by_cases h0:0<m
  ·have hdg:Hid (m%1000000000=dg N j):=by show _=N/B^j%B;rw[←hmv.out,udd]
   have hnx:Hid (m/1000000000=N/B^(j+1)):=by show _=_;rw[ua6,←hmv.out,udd]
   have hjl:Hid (j+1≤dl N):=by
    refine uux ?_;have h1:=hmv.out;rcases Nat.lt_or_ge N (B^j)with h|h
    ·rw[Nat.div_eq_of_lt h]at h1;omega
    ·exact h
   have hj3:j+1≤3:=by have:=hjl.out;rw[HN.out]at this;omega
   go_wp2_with (at_builtin;refine ua7 wr rfl _ _ 74 rfl w.heap.size 228 Tryz.underlying74 uak _ j (dg N) (by rfl) hown (by rfl) w hbw hbw.size (by omega) ?c1 ?_)
   case c1=>rw[←hdg.out];omega
   intro v1 w1 hown1 hb1;go_wp2;go_roundw
   case rel=>exact⟨j+1,m/1000000000,hj3,by omega,by go_num,hnx,hjl,hown1,hb1⟩
   case measure=>simp[intOf];omega
  ·obtain rfl:m=0:=by omega
   go_wp2;go_ret
   have hlt:N<B^j:=(Nat.div_eq_zero_iff_lt (uZ j)).1 hmv.out.symm;have e:dl N=j:=Nat.le_antisymm (ucp hlt) hjd.out;refine⟨_,rfl,?_,hbw⟩;rw[←HN.out];exact NatR.of (hown.limbs fun i _=>Nat.lt_trans (uai _ i) (by decide)) e
set_option maxHeartbeats 800000 in
theorem ua0(w:World)(lo lo':Nat)(v v':Value)(n m:Nat)(hv:NatR w lo v n)(hv':NatR w lo' v' m) :
 Calls Tryz.prog 216 #[v,v'] w (fun e w'=>e = .returned (.int .i64 (ugb n m))∧Qt w w'):=by
 obtain⟨_,A,c,rfl,hkc,hcm,hb⟩:=hv;obtain⟨_,A',c',rfl,hkc',hcm',hb'⟩:=hv';unfold maxLen at hcm hcm';have HB:=hid hb;have HB':=hid hb';clear hb hb';rcases Nat.lt_trichotomy (dl n) (dl m)with h|h|h
 ·have hne:(((dl n:Nat):Int) != ((dl m:Nat):Int))=true:=by rw[bne_iff_ne];omega
  go_enter Tryz.func216,Tryz.ntmps216
  go_wp2;go_ret
  exact⟨by rw[uct (ude h)];rfl,Qt.refl _⟩
 ·obtain⟨k,hk⟩:∃k,k=dl n:=⟨_,rfl⟩
  have hm:=hk.trans h;rw[←hk]at HB hkc ⊢;rw[←hm]at HB' hkc' ⊢;have HK:=hid hk;have HM:=hid hm;clear hk hm h;go_enter Tryz.func216,Tryz.ntmps216
  go_wp2;go_loopw [5] (fun i wr=>∃j q:Nat,j≤k∧i = .int .i64 (↑j-1)∧Hid (n/B^j=m/B^j)∧wr=w.drewN q) (fun i _=>(intOf i+1).toNat)
  case atStart=>
   refine⟨k,0,Nat.le_refl _,rfl,?_,rfl⟩;have h1:=uav n;have h2:=uav m;rw[←HK.out]at h1;rw[←HM.out]at h2;show n/B^k=m/B^k
   rw[Nat.div_eq_of_lt h1,Nat.div_eq_of_lt h2]
  case round=>
   obtain⟨j,q,hj,rfl,hd,rfl⟩:=hrel;rcases j with _|j
   ·go_wp2
    go_ret
    refine⟨?_,Qt.of _ _⟩;have h1:n=m:=by simpa using hd.out
    rw[ucu h1];rfl
   ·obtain⟨b,off,rfl,hlb,hbb,hcell⟩:=HB.out (by omega)
    obtain⟨b',off',rfl,hlb',hbb',hcell'⟩:=HB'.out (by omega)
    have hc1:=hcell j (by omega)
    have hc2:=hcell' j (by omega)
    clear hcell hcell';have hs1:=hid (uc0 n j);have hs2:=hid (uc0 m j);rcases Nat.lt_trichotomy (dg n j) (dg m j)with h|h|h
    ·have hfin:Hid (n<m):=ucq (k:=B^j) (by rw[hs1.out,hs2.out,hd.out];omega)
     go_wp2;go_quiet (fail)
     go_wp2;go_ret
     exact⟨by rw[uct hfin.out];rfl,(Qt.of _ _).drewN _⟩
    ·have hfin:Hid (n/B^j=m/B^j):=by show n/B^j=m/B^j;rw[hs1.out,hs2.out,hd.out,h]
     have hne1:decide (dg n j<dg m j)=false:=by simp;omega
     have hne2:decide (dg m j<dg n j)=false:=by simp;omega
     clear h;go_wp2;go_quiet (fail)
     go_wp2;go_quiet (fail)
     go_wp2;go_roundw
     case rel=>exact⟨j,_,by omega,by go_num,hfin,rfl⟩
     case measure=>simp[intOf]
    ·have hfin:Hid (m<n):=ucq (k:=B^j) (by rw[hs1.out,hs2.out,hd.out];omega)
     have hne1:decide (dg n j<dg m j)=false:=by simp;omega
     go_wp2;go_quiet (fail)
     go_wp2;go_quiet (fail)
     go_wp2;go_ret
     exact⟨by rw[ucf hfin.out];rfl,((Qt.of _ _).drewN _).drewN _⟩
 ·have hne:(((dl n:Nat):Int) != ((dl m:Nat):Int))=true:=by rw[bne_iff_ne];omega
  go_enter Tryz.func216,Tryz.ntmps216
  go_wp2;go_ret
  exact⟨by rw[ucf (ude h)];rfl,Qt.refl _⟩
set_option maxHeartbeats 1000000 in
theorem uij(w:World)(lo lo':Nat)(v v':Value)(n m N:Nat)(hv:NatR w lo v n)(hv':NatR w lo' v' m)(hk:dl n≤4294967296)(hn:n=m+N) :
 Calls Tryz.prog 328 #[v,v'] w (Ret fun v2 w'=>NatR w' w.heap.size v2 N∧Below w.heap.size w w'):=by
 obtain⟨_,A,c,rfl,hkc,hcm,hb⟩:=hv;obtain⟨_,A',c',rfl,hkc',hcm',hb'⟩:=hv';unfold maxLen at hcm hcm';have HB:=hid hb;have HB':=hid hb';have hmn:dl m≤dl n:=ub6 (by omega)
 have HN:=hid hn;clear hb hb' hn;go_enter Tryz.func328,Tryz.ntmps328
 go_wp2_with (at_make;refine ubv _ rfl _ _ 74 rfl w.heap.size 228 Tryz.underlying74 uak _ _ _ _ (dl n) (by rfl) (by rfl) (by omega) (by omega) (by omega) w (Below.refl _ _) (Nat.le_refl _) ?_;intro b w1 hlb1 _ hrow1 hbw1 _)
 go_loopw [6,7] (fun cv i wr=>∃j c:Nat,j≤dl n∧c≤1∧i = .int .i64 j∧cv = .int .u32 c∧Hid (c=vs (fun i=>dg m i+dg N i) j/B^j)∧RowU wr b 228 (dl n) (fun t=>if t<j then dg N t else 0)∧Below w.heap.size w wr) (fun _ i _=>dl n-(intOf i).toNat)
 case atStart=>exact⟨0,0,by omega,by omega,rfl,rfl,by simp[vs,Hid],hrow1.congr fun t _=>by rw[if_neg (by omega)],hbw1⟩
 case round=>
  obtain⟨j,c,hj,hc,rfl,rfl,hcv,hrow,hbw⟩:=hrel;have hd1:dg n j<1000000000:=uai n j;have hd2:dg m j<1000000000:=uai m j;have hd3:dg N j<1000000000:=uai N j;by_cases hlt:j<dl n
  ·obtain⟨ba,off,rfl,hlb,hbb,hcell⟩:=HB.out (by omega)
   have hcl:=(hbw.cell (p:=⟨ba,off+j,none⟩) hbb).trans (hcell j hlt);clear hcell;have hfz:=hrow.frozen j;have hc3:=hrow.cell (i:=j) hlt;have hnx:Hid (∀t,t<dl n→upd (fun t=>if t<j then dg N t else 0) j (dg N j) t=if t<j+1 then dg N t else 0):=by
    intro t _;by_cases e:t=j
    ·subst e;rw[uam,if_pos (by omega)]
    ·rw[uV _ _ e]
     by_cases h2:t<j
     ·rw[if_pos h2,if_pos (by omega)]
     ·rw[if_neg h2,if_neg (by omega)]
   obtain⟨c2,hc2,hc2v,hstep⟩:=uuz HN.out hcv.out;have HS:=hid hstep;have HV:=hid hc2v;clear hstep hc2v;by_cases hjm:j<dl m
   ·obtain⟨b',off',rfl,hlb',hbb',hcell'⟩:=HB'.out (by omega)
    have hcl':=(hbw.cell (p:=⟨b',off'+j,none⟩) hbb').trans (hcell' j hjm);clear hcell';by_cases hneg:dg n j<c+dg m j
    ·obtain rfl:c2=1:=by have:=HS.out;omega
     have hval:Hid (((dg n j:Nat):Int)+1000000000-(c+dg m j)=((dg N j:Nat):Int)):=by have:=HS.out;show _=_;omega
     go_wp2;go_roundw
     case rel=>exact⟨j+1,1,by omega,by omega,by go_num,by go_num,HV,RowU.congr (RowU.set hrow j (by rw[←hval.out])) hnx.out,Below.setCell hbw hlb1 _⟩
     case measure=>simp[intOf];omega
    ·obtain rfl:c2=0:=by have:=HS.out;omega
     have hval:Hid (((dg n j:Nat):Int)-(c+dg m j)=((dg N j:Nat):Int)):=by have:=HS.out;show _=_;omega
     go_wp2;go_roundw
     case rel=>exact⟨j+1,0,by omega,by omega,by go_num,by go_num,HV,RowU.congr (RowU.set hrow j (by rw[←hval.out])) hnx.out,Below.setCell hbw hlb1 _⟩
     case measure=>simp[intOf];omega
   ·have hz:=hid (ujy (n:=m) (i:=j) (by omega))
    rw[hz.out]at HS;by_cases hneg:dg n j<c
    ·obtain rfl:c2=1:=by have:=HS.out;omega
     have hval:Hid (((dg n j:Nat):Int)+1000000000-c=((dg N j:Nat):Int)):=by have:=HS.out;show _=_;omega
     go_wp2;go_roundw
     case rel=>exact⟨j+1,1,by omega,by omega,by go_num,by go_num,HV,RowU.congr (RowU.set hrow j (by rw[←hval.out])) hnx.out,Below.setCell hbw hlb1 _⟩
     case measure=>simp[intOf];omega
    ·obtain rfl:c2=0:=by have:=HS.out;omega
     have hval:Hid (((dg n j:Nat):Int)-c=((dg N j:Nat):Int)):=by have:=HS.out;show _=_;omega
     go_wp2;go_roundw
     case rel=>exact⟨j+1,0,by omega,by omega,by go_num,by go_num,HV,RowU.congr (RowU.set hrow j (by rw[←hval.out])) hnx.out,Below.setCell hbw hlb1 _⟩
     case measure=>simp[intOf];omega
  ·obtain rfl:j=dl n:=by omega
   have hNj:Hid (N<B^dl n):=Nat.lt_of_le_of_lt (by have:=HN.out;omega) (uav n)
   have hrow0:RowU wr b 228 (dl n) (dg N):=hrow.congr fun t ht=>by rw[if_pos ht]
   clear hrow;go_wp2_with fail
   refine(udk _ _ _ _ _ (hrow0.limbs hlb1 (by omega) fun i _=>Nat.lt_trans (uai N i) (by decide)) hNj.out (by omega)).mono ?_
   rintro e w'⟨v',rfl,hnat,hb2⟩;go_wp2;go_ret
   exact⟨v',rfl,hnat.lower hbw.size,hbw.trans (hb2.mono hbw.size)⟩
set_option maxHeartbeats 1000000 in
theorem ukh(w:World)(lo:Nat)(v:Value)(n m:Nat)(hv:NatR w lo v n)(hk:dl n≤8589934592)(hm:m<1000000000)(hm0:0<m) :
 Calls Tryz.prog 325 #[v,.int .u64 m] w (fun e w'=>∃v2,e = .returned (.tuple #[v2,.int .u64 (n%m:Nat)])∧NatR w' w.heap.size v2 (n/m)∧Below w.heap.size w w'):=by
 obtain⟨_,A,c,rfl,hkc,hcm,hb⟩:=hv;unfold maxLen at hcm;have HB:=hid hb;have hmz:((m:Int)==0)=false:=by rw[beq_eq_false_iff_ne];omega
 clear hb;go_enter Tryz.func325,Tryz.ntmps325
 go_wp2_with (at_make;refine ubv _ rfl _ _ 74 rfl w.heap.size 228 Tryz.underlying74 uak _ _ _ _ (dl n) (by rfl) (by rfl) (by omega) (by omega) (by omega) w (Below.refl _ _) (Nat.le_refl _) ?_;intro b w1 hlb1 _ hrow1 hbw1 _)
 go_loopw [7,8] (fun rv i wr=>∃j r:Nat,j≤dl n∧r<m∧i = .int .i64 (↑j-1)∧rv = .int .u64 r∧Hid (r=n/B^j%m)∧RowU wr b 228 (dl n) (fun t=>if j≤t then dg (n/m) t else 0)∧Below w.heap.size w wr) (fun _ i _=>(intOf i+1).toNat)
 case atStart=>
  refine⟨dl n,0,by omega,hm0,rfl,rfl,?_,hrow1.congr fun t ht=>by rw[if_neg (by omega)],hbw1⟩
  show 0=n/B^dl n%m
  rw[Nat.div_eq_of_lt (uav n),Nat.zero_mod]
 case round=>
  obtain⟨j,r,hj,hr,rfl,rfl,hrv,hrow,hbw⟩:=hrel;rcases j with _|j
  ·have hrow0:RowU wr b 228 (dl n) (dg (n/m)):=hrow.congr fun t _=>by rw[if_pos (by omega)]
   have hq:Hid (n/m<B^dl n):=Nat.lt_of_le_of_lt (Nat.div_le_self _ _) (uav n);have hrf:Hid (r=n%m):=by have:=hrv.out;rw[Nat.pow_zero,Nat.div_one]at this;exact this
   clear hrow;go_wp2_with fail
   refine(udk _ _ _ _ _ (hrow0.limbs hlb1 (by omega) fun i _=>Nat.lt_trans (uai _ i) (by decide)) hq.out (by omega)).mono ?_
   rintro e w'⟨v',rfl,hnat,hb2⟩;go_wp2;go_ret2
   exact⟨v',by rw[←hrf.out];rfl,hnat.lower hbw.size,hbw.trans (hb2.mono hbw.size)⟩
  ·have hd:dg n j<1000000000:=uai n j
   obtain⟨ba,off,rfl,hlb,hbb,hcell⟩:=HB.out (by omega)
   have hcl:=(hbw.cell (p:=⟨ba,off+j,none⟩) hbb).trans (hcell j (by omega))
   have hfz:=hrow.frozen j;have hc3:=hrow.cell (i:=j) (by omega)
   obtain⟨hq1,hq2⟩:=ufb (n:=n) (j:=j) hm0;rw[←hrv.out]at hq1 hq2;have HQ1:=hid hq1;have HQ2:=hid hq2;have hqb:(r*1000000000+dg n j)/m<1000000000:=by rw[hq1];exact uai _ _
   have hqm:(r*1000000000+dg n j)%m<m:=Nat.mod_lt _ hm0;obtain⟨x,hxe⟩:∃x,Hid (x=dg n j):=⟨_,rfl⟩;rw[←hxe.out]at hcl hd HQ1 HQ2 hqb hqm;have hqi:((r:Int)*1000000000+x)/m<1000000000:=by have h:=Int.ofNat_lt.2 hqb;simpa using h
   have hqi0:0≤((r:Int)*1000000000+x)/m:=Int.ediv_nonneg (by omega) (by omega)
   clear hcell hq1 hq2 hqb;go_wp2;go_roundw
   case rel=>
    refine⟨j,(r*1000000000+x)%m,by omega,hqm,by go_num,by go_num,HQ2,RowU.congr (RowU.set hrow j (z:=(r*1000000000+x)/m) (by go_num)) fun t ht=>?_,Below.setCell hbw hlb1 _⟩
    by_cases e:t=j
    ·subst e;rw[uam,if_pos (by omega)];exact HQ1.out
    ·rw[uV _ _ e]
     by_cases h2:j+1≤t
     ·rw[if_pos h2,if_pos (by omega)]
     ·rw[if_neg h2,if_neg (by omega)]
   case measure=>simp[intOf]
def uz5(w:World)(b i n m:Nat)(cv jv:Value)(wr:World):Prop:=
 (∃(j c:Nat) (g:Nat→Nat),j≤dl m∧c<1000000000∧jv = .int .i64 j∧cv = .int .u64 c∧Hid (∀t,t<dl n+dl m+1→g t<B) ∧
  Hid (∀t,i+j≤t→t<dl n+dl m+1→g t=dg (n%B^i*m) t)∧Hid (vs g (i+j)+c*B^(i+j)=(n%B^i*m)%B^(i+j)+dg n i*(m%B^j)*B^i) ∧
  RowU wr b 228 (dl n+dl m+1) g∧Below w.heap.size w wr) ∨
 (jv = .int .i64 ((dl m:Int)+1)∧cv = .int .u64 0∧RowU wr b 228 (dl n+dl m+1) (dg (n%B^(i+1)*m))∧Below w.heap.size w wr)
set_option maxHeartbeats 2000000 in
theorem uik(w:World)(lo lo':Nat)(v v':Value)(n m:Nat)(hv:NatR w lo v n)(hv':NatR w lo' v' m)(hk:dl n≤4294967296)(hk':dl m≤4294967296) :
 Calls Tryz.prog 327 #[v,v'] w (Ret fun v2 w'=>NatR w' w.heap.size v2 (n*m)∧Below w.heap.size w w'):=by
 obtain⟨_,A,c,rfl,hkc,hcm,hb⟩:=hv;obtain⟨_,A',c',rfl,hkc',hcm',hb'⟩:=hv';unfold maxLen at hcm hcm';have HB:=hid hb;have HB':=hid hb';clear hb hb';go_enter Tryz.func327,Tryz.ntmps327
 go_wp2_with (at_make;refine ubv _ rfl _ _ 74 rfl w.heap.size 228 Tryz.underlying74 uak _ _ _ _ (dl n+dl m+1) (by rfl) (by rfl) (by omega) (by omega) (by omega) w (Below.refl _ _) (Nat.le_refl _) ?_;intro b w1 hlb1 _ hrow1 hbw1 _)
 go_loopw [6] (fun i wr=>∃i0:Nat,i0≤dl n∧i = .int .i64 i0∧RowU wr b 228 (dl n+dl m+1) (dg (n%B^i0*m))∧Below w.heap.size w wr) (fun i _=>dl n-(intOf i).toNat)
 case atStart=>
  refine⟨0,by omega,rfl,hrow1.congr fun t _=>?_,hbw1⟩
  rw[Nat.pow_zero,Nat.mod_one,Nat.zero_mul];unfold dg;simp
 case round=>
  obtain⟨i,hi,rfl,hrow,hbw⟩:=hrel;by_cases hlt:i<dl n
  ·obtain⟨ba,off,rfl,hlb,hbb,hcell⟩:=HB.out (by omega)
   have hca:Hid (∀wx,Below w.heap.size w wx→wx.cell? ⟨ba,off+i,none⟩=some (.int .u32 ((dg n i:Nat):Int))):=fun wx hx=>(hx.cell (p:=⟨ba,off+i,none⟩) hbb).trans (hcell i hlt)
   have hda:dg n i<1000000000:=uai n i;clear hcell;go_wp2;go_loopw [7,8] (fun cv jv wr=>uz5 w b i n m cv jv wr) (fun _ jv _=>dl m+1-(intOf jv).toNat)
   case atStart=>
    refine .inl ⟨0,0,dg (n%B^i*m),by omega,by omega,rfl,rfl,fun t _=>uai _ _,fun _ _ _=>rfl,?_,hrow,hbw⟩
    show _=_
    rw[uuw,Nat.pow_zero,Nat.mod_one];simp
   case round=>
    rcases hrel with⟨j,c,g,hj,hc,rfl,rfl,hgB,hghi,hgv,hrow',hbw'⟩|⟨rfl,rfl,hrow',hbw'⟩
    ·by_cases hjm:j<dl m
     ·obtain⟨bb,off',rfl,hlb',hbb',hcell'⟩:=HB'.out (by omega)
      have hc1:=hca.out wr hbw';have hc2:=(hbw'.cell (p:=⟨bb,off'+j,none⟩) hbb').trans (hcell' j hjm);have hc3:=hrow'.cell (i:=i+j) (by omega)
      have hfz:=hrow'.frozen (i+j);rw[hghi.out (i+j) (Nat.le_refl _) (by omega)]at hc3
      have hdb:dg m j<1000000000:=uai m j;have hdt:dg (n%B^i*m) (i+j)<1000000000:=uai _ _;obtain⟨x,hxe⟩:∃x,Hid (x=dg n i):=⟨_,rfl⟩;obtain⟨y,hye⟩:∃y,Hid (y=dg m j):=⟨_,rfl⟩;obtain⟨t,hte⟩:∃t,Hid (t=dg (n%B^i*m) (i+j)):=⟨_,rfl⟩;rw[←hxe.out]at hc1 hda;rw[←hye.out]at hc2 hdb;rw[←hte.out]at hc3 hdt;have hmb:=ukg hda hdb hdt hc;have hm1:((x:Int)*y)≤999999998000000001:=by have:=hmb.1;omega
      have hm0:0≤((x:Int)*y):=by omega
      clear hmb hcell';go_wp2;go_quiet (fail)
      go_wp2;go_roundw
      case rel=>
       have hs:=(ukg hda hdb hdt hc).2;have h9:(x*y+t+c)/1000000000<1000000000:=by omega
       refine .inl ⟨j+1,(x*y+t+c)/1000000000,upd g (i+j) ((x*y+t+c)%1000000000),by omega,h9,by go_num,by go_num,?_,?_,?_,RowU.set (RowU.drewN hrow' _) (i+j) (by go_num),Below.setCell (hbw'.drewN _) hlb1 _⟩
       ·intro t' ht'
        by_cases e:t'=i+j
        ·subst e;rw[uam];exact Nat.mod_lt _ udu
        ·rw[uV g _ e];exact hgB.out t' ht'
       ·intro t' h1 h2
        rw[uV g _ (by omega)];exact hghi.out t' (by omega) h2
       ·have h1:=uvj (g:=g) (T:=n%B^i*m) (x:=x) (y:=y) (c:=c) (K:=i+j) (s:=x*y+t+c) (by rw[hte.out]) hgv.out
        show vs _ (i+(j+1))+_*B^(i+(j+1))=_
        rw[show i+(j+1)=i+j+1 by omega,h1,←uvk,hxe.out,hye.out]
      case measure=>simp[intOf];omega
     ·obtain rfl:j=dl m:=by omega
      have hfz:=hrow'.frozen (i+dl m);have hc3:=hrow'.cell (i:=i+dl m) (by omega)
      have hT:n%B^i*m<B^(i+dl m):=by
       rw[Nat.pow_add];have h1:=Nat.mod_lt n (uZ i);have h2:=uav m;rcases Nat.eq_zero_or_pos m with h0|h0
       ·subst h0;rw[Nat.mul_zero];exact Nat.mul_pos (uZ _) (uZ _)
       ·exact Nat.mul_lt_mul_of_lt_of_le h1 (Nat.le_of_lt h2) (uZ _)
      have hg0:g (i+dl m)=0:=(hghi.out (i+dl m) (Nat.le_refl _) (by omega)).trans (uf4 hT)
      have HDN:=hid (uvl hgB.out hc (by omega) hghi.out hgv.out)
      rw[hg0]at hc3;have HG:=hid hg0;clear hT hg0;by_cases hc0:0<c
      ·go_wp2
       go_roundw
       case rel=>
        refine .inr ⟨by go_num,by go_num,RowU.congr (RowU.set hrow' (i+dl m) (z:=c) (by go_num)) HDN.out,Below.setCell hbw' hlb1 _⟩
       case measure=>simp[intOf]
      ·obtain rfl:c=0:=by omega
       go_wp2;go_roundw
       case rel=>
        refine⟨i+1,by omega,by go_num,RowU.congr hrow' fun t ht=>?_,hbw'⟩
        rw[←HDN.out t ht];by_cases e:t=i+dl m
        ·subst e;rw[uam,HG.out]
        ·rw[uV g _ e]
       case measure=>simp[intOf];omega
    ·go_wp2
     go_roundw
     case rel=>exact⟨i+1,by omega,by go_num,hrow',hbw'⟩
     case measure=>simp[intOf];omega
  ·obtain rfl:i=dl n:=by omega
   have hT:Hid (n%B^dl n*m=n*m):=by show _=_;rw[Nat.mod_eq_of_lt (uav n)]
   rw[hT.out]at hrow;have hlt2:Hid (n*m<B^(dl n+dl m+1)):=Nat.lt_of_lt_of_le (uav _) (Nat.pow_le_pow_right udu (Nat.le_succ_of_le (urt n m)));go_wp2_with fail
   refine(udk _ _ _ _ _ (hrow.limbs hlb1 (by omega) fun i _=>Nat.lt_trans (uai _ i) (by decide)) hlt2.out (by omega)).mono ?_
   rintro e w'⟨v',rfl,hnat,hb2⟩;go_wp2;go_ret
   exact⟨v',rfl,hnat.lower hbw.size,hbw.trans (hb2.mono hbw.size)⟩
def flW(op:BinOp)(k:FloatKind)(x y:Nat)(w:World):Nat×Nat:=
 match floatBits op k x y with
 | some r=>(r,0)
 | none=>((Question.nanBits k x y).cut (w.tape w.drawn (.nanBits k x y)),1)
theorem uss(P:Program)(w:World)(op:BinOp)(hop:op = .mul∨op = .add∨op = .quo)(t:TypeId)(k:FloatKind)(x y:Nat) :
 (binOp op t (.float k x) (.float k y)).run P w = .ok (.float k (flW op k x y w).1) (w.drewN (flW op k x y w).2):=by
 cases h:floatBits op k x y with
 | some r=>rw[run_float_arith w op t k x y r h];simp[flW,h];rfl
 | none=>
  rcases hop with rfl|rfl|rfl<;>(simp only[floatBits]at h;simp[binOp,Op.floatArith,h,flW,floatBits];rfl)
def cvW(b:Nat)(w:World):Int×Nat:=
 match floatToIntVal .f64 b .u64 with
 | some n=>(n,0)
 | none=>(IntKind.u64.wrap ((Question.floatToInt .f64 b .u64).cut (w.tape w.drawn (.floatToInt .f64 b .u64))),1)
theorem uy1(P:Program)(w:World)(src dst:TypeId)(b:Nat)(hs:(P.underlying src).isSome=true)(hd:P.underlying dst=some (.int .u64)) :
 (convert src dst (.float .f64 b)).run P w = .ok (.int .u64 (cvW b w).1) (w.drewN (cvW b w).2):=by
 cases h:floatToIntVal .f64 b .u64 with
 | some n=>rw[run_convert_float_int w src dst .f64 .u64 b n hs hd h];simp[cvW,h];rfl
 | none=>
  obtain⟨u,hs'⟩:=Option.isSome_iff_exists.1 hs;have h2:(Conv.floatToInt .f64 b .u64).run P w = .ok (.int .u64 (cvW b w).1) (w.drewN (cvW b w).2):=by
   simp only[cvW,h];unfold floatToIntVal at h;unfold Conv.floatToInt;split at h
   ·rename_i m he
    split at h
    ·cases h
    ·rename_i hb
     simp[he,hb];rfl
   ·rename_i he
    simp[he];rfl
  cases u<;>simp[convert,run_underlying hs',run_underlying hd,h2]
theorem ust(w w':World)(x:Int)(h:IntKind.u64.wrap x≤999999999)(hq:Qt w w'):∃d:Nat,d≤999999999∧Ending.returned (.int .u64 (IntKind.u64.wrap x)) = .returned (.int .u64 d)∧Qt w w':=by
 have h0:0≤IntKind.u64.wrap x:=by
  simp[IntKind.wrap,IntKind.bits,IntKind.signed];omega
 refine⟨(IntKind.u64.wrap x).toNat,by omega,?_,hq⟩
 rw[Int.toNat_of_nonneg h0]
set_option maxHeartbeats 2000000 in
theorem usu(w:World)(lo lo':Nat)(v v':Value)(n m:Nat)(hv:NatR w lo v n)(hv':NatR w lo' v' m)(hm2:2≤dl m)(hnm:dl n≤dl m+1) :
 Calls Tryz.prog 326 #[v,v'] w (fun e w'=>∃d:Nat,d≤999999999∧e = .returned (.int .u64 d)∧Qt w w'):=by
 obtain⟨_,A,c,rfl,hkc,hcm,hb⟩:=hv;obtain⟨_,A',c',rfl,hkc',hcm',hb'⟩:=hv';unfold maxLen at hcm hcm';obtain⟨b',off',rfl,hlb',hbb',hcell'⟩:=hb' (by omega)
 have hc1:=hcell' (dl m-1) (by omega)
 have hc2:=hcell' (dl m-2) (by omega)
 have hd1:dg m (dl m-1)<1000000000:=uai _ _;have hd2:dg m (dl m-2)<1000000000:=uai _ _;have hd0:0<dg m (dl m-1):=Nat.pos_of_ne_zero (ujx (by intro h;rw[h,uab]at hm2;omega))
 clear hcell' hb';by_cases hlt:dl n<dl m
 ·go_enter Tryz.func326,Tryz.ntmps326
  go_wp2;go_ret
  exact⟨0,by omega,rfl,Qt.refl _⟩
 ·obtain⟨b,off,rfl,hlb,hbb,hcell⟩:=hb (by omega)
  have hc3:=hcell (dl m-1) (by omega)
  have hc4:=hcell (dl m-2) (by omega)
  have hd3:dg n (dl m-1)<1000000000:=uai _ _;have hd4:dg n (dl m-2)<1000000000:=uai _ _;have hd5:dg n (dl m)<1000000000:=uai _ _;obtain⟨x1,hx1⟩:∃x,x=dg m (dl m-1):=⟨_,rfl⟩;obtain⟨x2,hx2⟩:∃x,x=dg m (dl m-2):=⟨_,rfl⟩;obtain⟨x3,hx3⟩:∃x,x=dg n (dl m-1):=⟨_,rfl⟩;obtain⟨x4,hx4⟩:∃x,x=dg n (dl m-2):=⟨_,rfl⟩;obtain⟨x5,hx5⟩:∃x,x=dg n (dl m):=⟨_,rfl⟩;have hc5:=fun h=>hcell (dl m) h
  rw[←hx1]at hc1 hd1 hd0;rw[←hx2]at hc2 hd2;rw[←hx3]at hc3 hd3;rw[←hx4]at hc4 hd4;rw[←hx5]at hd5 hc5;obtain⟨k,hk⟩:∃k,dl m=k+2:=⟨dl m-2,by omega⟩
  rw[hk]at hc1 hc2 hc3 hc4 hc5 hkc' hnm hlt ⊢;have e1:k+2-1=k+1:=rfl;have e2:k+2-2=k:=rfl;rw[e1]at hc1 hc3;rw[e2]at hc2 hc4;clear hcell hb hx1 hx2 hx3 hx4 hx5 hk;by_cases heq:dl n=k+2
  ·rw[heq]
   clear hc5;have hee:(((k:Int)+2)==((k:Int)+2))=true:=by simp
   go_enter Tryz.func326,Tryz.ntmps326
   go_wp2;go_quiet (fail)
   go_wp2;go_quiet (fail)
   go_wp2;go_ret
   refine⟨(x3*1000000000+x4)/(x1*1000000000+x2),?_,by go_num,Qt.of _ _⟩
   have:(x3*1000000000+x4)/(x1*1000000000+x2)<1000000000:=by
    rw[Nat.div_lt_iff_lt_mul (by omega)]
    omega
   omega
  ·obtain⟨h5⟩:Nonempty (dl n=k+3):=⟨by omega⟩
   rw[h5]at hc5 ⊢;have hc6:=hc5 (by omega)
   clear hc5 heq;have hee:(((k:Int)+3)==((k:Int)+2))=false:=by rw[beq_eq_false_iff_ne];omega
   go_enter Tryz.func326,Tryz.ntmps326
   go_wp2;go_quiet (fail)
   go_wp2;go_quiet (fail)
   go_wp2_with (first|(simp only[uss Tryz.prog _ .mul (.inl rfl),uss Tryz.prog _ .add (.inr (.inl rfl)),uss Tryz.prog _ .quo (.inr (.inr rfl))])|(simp only[uy1 Tryz.prog _ 320 233 _ (by rw[Tryz.underlying320];rfl) Tryz.underlying233]))
   all_goals go_ret
   ·exact⟨999999999,Nat.le_refl _,rfl,Qt.of _ _⟩
   ·exact ust _ _ _ (by omega) (Qt.of _ _)
end Go.Proofs.YtellcholbkoakaaGreatDoor
