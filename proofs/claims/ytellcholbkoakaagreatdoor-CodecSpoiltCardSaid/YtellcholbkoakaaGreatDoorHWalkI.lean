/-
  The walk of rational's divide.
-/
import Derived.Test.YtellcholbkoakaaGreatDoorHWalkA
import Derived.Test.YtellcholbkoakaaGreatDoorHWalkH
import Derived.Test.YtellcholbkoakaaGreatDoorHNum
import Derived.Deep.RegionHeld3
namespace Go.Proofs.YtellcholbkoakaaGreatDoor
open Go.Lib (hid)
open Go.RowKit AC
set_option linter.unusedVariables false
set_option linter.unusedSimpArgs false
def uzy(w:World)(a b:Nat)(e:Ending)(w':World):Prop:=
 ∃vq vr,e = .returned (.tuple #[vq,vr])∧NatR w' w.heap.size vq (a/b)∧NatR w' w.heap.size vr (a%b)∧Below w.heap.size w w'
set_option maxHeartbeats 1000000 in
theorem ury(w:World)(lo lo':Nat)(v v':Value)(a b:Nat)(hv:NatR w lo v a)(hv':NatR w lo' v' b)(hk:dl a≤4294967296)(h:a<b) :
 Calls Tryz.prog 350 #[v,v'] w (uzy w a b):=by
 have hq:Hid (a/b=0):=Nat.div_eq_of_lt h;have hr:Hid (a%b=a):=Nat.mod_eq_of_lt h;have HC:=hid (uct h);have H1:=hid hv;have H2:=hid hv';obtain⟨A,c,rfl⟩:=Limbs.len hv;obtain⟨A',c',rfl⟩:=Limbs.len hv';clear hv hv' h;go_enter Tryz.func350,Tryz.ntmps350
 go_wp2_with fail
 refine(uev _ _ _ _ _ _ _ H1.out H2.out).mono ?_;rintro e w'⟨rfl,q,rfl⟩;rw[HC.out];go_wp2_with (at_builtin;refine ucs _ rfl _ _ 287 rfl w.heap.size 228 Tryz.underlying287 uak rfl A (dl a) c (dg a) (by rfl) _ (Limbs.drewN H1.out q) w ((Below.refl _ w).drewN q) (Nat.le_refl _) (by omega) ?_;intro v1 w1 hown1 hb1)
 go_ret2
 exact⟨_,v1,rfl,by rw[hq.out];exact NatR.zero _ _,by rw[hr.out];exact NatR.of (hown1.limbs fun i _=>Nat.lt_trans (uai _ i) (by decide)) rfl,hb1⟩
set_option maxHeartbeats 1000000 in
theorem upf(w:World)(lo lo':Nat)(v v':Value)(a b:Nat)(hv:NatR w lo v a)(hv':NatR w lo' v' b)(hk:dl a≤4294967296)(h:b≤a)(h0:0<b)(h1:dl b=1) :
 Calls Tryz.prog 350 #[v,v'] w (uzy w a b):=by
 have hcm:Hid (0≤ugb a b):=by
  rcases Nat.lt_or_ge b a with h2|h2
  ·show 0≤ugb a b;rw[ucf h2];decide
  ·show 0≤ugb a b;rw[ucu (by omega)];decide
 have hbB:b<1000000000:=by have:=uav b;rw[h1]at this;simpa[udd]using this
 have H1:=hid hv;have H2:=hid hv';obtain⟨A,c,rfl⟩:=Limbs.len hv;obtain⟨_,A',c',rfl,hkc',hcm',hb'⟩:=hv';obtain⟨bb,off,rfl,hlb,hbb,hcell⟩:=hb' (by omega)
 have hcl:=hcell 0 (by omega)
 rw[ubi (by rw[udd];exact hbB),Nat.add_zero]at hcl
 have hmb:=Nat.mod_lt a h0;obtain⟨ci,hci⟩:∃ci,Hid (ugb a b=ci):=⟨_,rfl⟩;rw[hci.out]at hcm;have hcm0:0≤ci:=hcm.out;rw[h1]at H2 ⊢;have HH:=hid h1;clear hv hb' hcell h hcm hcm' hkc' h1;go_enter Tryz.func350,Tryz.ntmps350
 go_wp2_with fail
 refine(uev _ _ _ _ _ _ _ H1.out H2.out).mono ?_;rintro e w'⟨rfl,q,rfl⟩;rw[hci.out];go_wp2_with fail
 refine(udx _ _ _ a b (NatR.drewN H1.out q) (by omega) hbB h0).mono ?_
 rintro e w1⟨v2,rfl,hq1,hb1⟩;go_wp2_with fail
 refine(uf6 _ (a%b) (by omega)).mono ?_
 rintro e w2⟨v3,rfl,hr1,hb2⟩;go_wp2;go_ret2
 have hs1:w.heap.size≤w1.heap.size:=hb1.size;have hbw:Below w.heap.size w w1:=⟨hb1.os,hb1.tape,hb1.output,hb1.size,hb1.block⟩;exact⟨v2,v3,rfl,hq1.below hb2,hr1.lower hs1,hbw.trans (hb2.mono hs1)⟩
theorem uu1(f:Nat→Nat)(k:Nat):vs f (k+1)=f 0+vs (fun t=>f (t+1)) k*B:=by
 induction k with
 | zero=>simp[vs]
 | succ k ih=>
  rw[vs,ih];simp only[vs];rw[Nat.add_mul,Nat.pow_succ,Nat.mul_assoc (f (k+1))];omega
def uf(A V J t:Nat):Nat:=if t<J then dg A t else dg (A/B^J%V) (t-J)
theorem urz{A V n j:Nat}(hV:V<B^n)(hVp:0<V):vs (fun t=>uf A V (j+1) (j+t)) (n+1)=A/B^(j+1)%V*1000000000+dg A j:=by
 have hR:A/B^(j+1)%V<B^n:=Nat.lt_trans (Nat.mod_lt _ hVp) hV;rw[uu1,uiw (g:=dg (A/B^(j+1)%V)) (fun t _=>by unfold uf;rw[if_neg (by omega),show j+(t+1)-(j+1)=t by omega]),uuw,Nat.mod_eq_of_lt hR]
 unfold uf;rw[if_pos (by omega),Nat.add_zero,udd]
 omega
theorem uxl{A V n j U:Nat}{f':Nat→Nat}(hV:V<B^n)(hVp:0<V)(hU:U%V=A/B^j%V)(h1:∀t,t<j∨j+n<t→f' t=uf A V (j+1) t)(h2:∀t,t≤n→f' (j+t)=dg (U%V) t) :
 ∀t,f' t=uf A V j t:=by
 intro t;have hb:∀x,x%V<B^n:=fun x=>Nat.lt_trans (Nat.mod_lt _ hVp) hV
 rcases Nat.lt_or_ge t j with h|h
 ·rw[h1 t (.inl h)];unfold uf;rw[if_pos (by omega),if_pos h]
 ·rcases Nat.lt_or_ge (j+n) t with h3|h3
  ·rw[h1 t (.inr h3)]
   unfold uf;rw[if_neg (by omega),if_neg (by omega),uf4 (Nat.lt_of_lt_of_le (hb _) (Nat.pow_le_pow_right udu (by omega))),uf4 (Nat.lt_of_lt_of_le (hb _) (Nat.pow_le_pow_right udu (by omega)))]
  ·obtain⟨d,rfl⟩:∃d,t=j+d:=⟨t-j,by omega⟩
   rw[h2 d (by omega),hU]
   unfold uf;rw[if_neg (by omega),Nat.add_sub_cancel_left]
theorem ulr{b n:Nat}(hn:dl b=n)(h2:2≤n):0<1000000000/(dg b (n-1)+1)∧1000000000/(dg b (n-1)+1)<1000000000∧b*(1000000000/(dg b (n-1)+1))<B^n:=by
 have hb0:b≠0:=fun e=>by subst e;rw[uab]at hn;omega
 have ht:dg b (n-1)<1000000000:=uai _ _;have ht0:dg b (n-1)≠0:=by rw[←hn];exact ujx hb0
 have hlt:b<(dg b (n-1)+1)*B^(n-1):=by
  have h:=uY b (n-1);rw[show n-1+1=n by omega,Nat.mod_eq_of_lt (by rw[←hn];exact uav b)]at h
  have:=Nat.mod_lt b (uZ (n-1));rw[Nat.add_mul,Nat.one_mul];omega
 generalize dg b (n-1)=t at *;have hp:0<1000000000/(t+1):=Nat.div_pos (by omega) (by omega)
 have hd:1000000000/(t+1)*(t+1)≤1000000000:=Nat.div_mul_le_self _ _;refine⟨hp,Nat.div_lt_self (by omega) (by omega),?_⟩
 generalize 1000000000/(t+1)=s at *;have h3:b*s<(t+1)*B^(n-1)*s:=Nat.mul_lt_mul_of_pos_right hlt hp;have h4:(t+1)*B^(n-1)*s=s*(t+1)*B^(n-1):=by rw[Nat.mul_comm,Nat.mul_assoc]
 have h5:s*(t+1)*B^(n-1)≤B*B^(n-1):=Nat.mul_le_mul_right _ hd;have h6:B*B^(n-1)=B^n:=by rw[Nat.mul_comm,←Nat.pow_succ,show(n-1).succ=n by omega]
 omega
def uAk(w:World)(bu bv bq e la n A V Q:Nat)(iv:Value)(wr:World):Prop:=
 ∃J:Nat,J≤la-n+1∧iv = .int .i64 (↑J-1)∧RowU wr bu e (la+1) (uf A V J)∧RowU wr bv e (n+1) (dg V)∧RowU wr bq e (la-n+1) (fun t=>if J≤t then dg Q t else 0)∧Below w.heap.size w wr
set_option maxRecDepth 100000 in
set_option maxHeartbeats 2000000 in
theorem upg(w:World)(lo lo':Nat)(v v':Value)(a b:Nat)(hv:NatR w lo v a)(hv':NatR w lo' v' b)(hk:dl a≤4294967296)(h:b≤a)(h2:2≤dl b) :
 Calls Tryz.prog 350 #[v,v'] w (uzy w a b):=by
 have hcm:0≤ugb a b:=by
  rcases Nat.lt_or_ge b a with h2|h2
  ·rw[ucf h2];decide
  ·rw[ucu (by omega)];decide
 have hba:dl b≤dl a:=ub6 h;have hsf:=ulr rfl h2;have H1:=hid hv;have H2:=hid hv';obtain⟨A,c,rfl⟩:=Limbs.len hv;obtain⟨_,A',c',rfl,hkc',hcm',hb'⟩:=hv';obtain⟨bb,off,rfl,hlb,hbb,hcell⟩:=hb' (by omega)
 have hcl:=hcell (dl b-1) (by omega)
 obtain⟨ci,hci⟩:∃ci,Hid (ugb a b=ci):=⟨_,rfl⟩;rw[hci.out]at hcm;obtain⟨t,et⟩:∃t,Hid (t=dg b (dl b-1)):=⟨_,rfl⟩;have ht:t<1000000000:=by rw[et.out];exact uai _ _
 rw[←et.out]at hcl hsf;obtain⟨s,es⟩:∃s,Hid (s=1000000000/(t+1)):=⟨_,rfl⟩;rw[←es.out]at hsf;obtain⟨hs0,hsB,hVn⟩:=hsf;have HVn:=hid hVn;have htz:((t:Int)+1==0)=false:=by rw[beq_eq_false_iff_ne];omega
 obtain⟨n,hn⟩:∃n,Hid (n=dl b):=⟨_,rfl⟩;obtain⟨la,hla⟩:∃n,Hid (n=dl a):=⟨_,rfl⟩;have HLA:Hid (NatR w lo (.slice A la c) a):=by rw[hla.out];exact H1
 have HLB:Hid (NatR w lo' (.slice (some ⟨bb,off,none⟩) n c') b):=by rw[hn.out];exact H2
 rw[←hn.out]at h2 hba hkc' HVn hcl ⊢;rw[←hla.out]at hk hba ⊢;have HH:=hid h;unfold maxLen at hcm';clear H1 H2 hb' hcell hVn hv h;go_enter Tryz.func350,Tryz.ntmps350
 go_wp2_with fail
 refine(uev _ _ _ _ _ _ _ HLA.out HLB.out).mono ?_;rintro e w'⟨rfl,q,rfl⟩;rw[hci.out];have esi:(1000000000:Int)/(↑t+1) = ↑s:=by rw[es.out];rfl
 have HES:=hid esi;clear esi;go_wp2_with fail
 rw[HES.out];refine(uc2 _ _ _ a s (NatR.drewN HLA.out q) (by rw[←hla.out];omega) hsB).mono ?_
 rintro e w1⟨v1,rfl,bu,rfl,hbu,hrow1,hb1⟩;rw[←hla.out]at hrow1 ⊢;have hb1':Below w.heap.size w w1:=⟨hb1.os,hb1.tape,hb1.output,hb1.size,hb1.block⟩;have hsz1:w.heap.size≤w1.heap.size:=hb1.size;have hbu':w.heap.size≤bu:=hbu;go_wp2_with fail
 refine(uc2 _ _ _ b s (NatR.below (NatR.drewN HLB.out q) hb1) (by rw[←hn.out];omega) hsB).mono ?_
 rintro e w2⟨v2,rfl,bv,rfl,hbv,hrow2,hb2⟩;rw[←hn.out]at hrow2 ⊢;have hrow1':=hrow1.below hb2;have hb2':=hb1'.trans (hb2.mono hsz1);have hsz2:=hb2.size;have hlt1:=hrow1.lt;clear hrow1 hb1 hb2 hbu;go_wp2_with (at_make;refine ubv _ rfl _ _ 287 rfl w.heap.size 228 Tryz.underlying287 uak _ _ _ _ (la-n+1) (by rfl) (by rfl) (by omega) (by omega) (by omega) w hb2' (by omega) ?_;intro bq w3 hlbq hlbq2 hrow3 hb3 hb3')
 have hlt2:=hrow2.lt;have hr1:=hrow1'.below hb3';have hr2:=hrow2.below hb3';clear hrow1' hrow2 hb2' hb3';have hVp:Hid (0<b*s):=Nat.mul_pos (by
  have:=h2;have:=hn.out;rcases Nat.eq_zero_or_pos b with h0|h0;· subst h0;rw[uab]at this;omega
  ·exact h0) hs0
 have hla2:=hla.out;have hn2:=hn.out;have HA:Hid (a*s<B^(la+1)):=by
  show a*s<B^(la+1)
  rw[Nat.pow_succ];exact Nat.mul_lt_mul_of_lt_of_le (by rw[hla2];exact uav a) (by rw[udd];omega) (Nat.pos_of_ne_zero (by decide))
 have Hstart:Hid (a*s/B^(la-n+1)<b*s):=by
  show a*s/B^(la-n+1)<b*s
  rw[Nat.div_lt_iff_lt_mul (uZ _)];have hbp:B^(n-1)≤b:=by rw[hn2];exact udw (fun e=>by subst e;rw[uab]at hn2;omega)
  have h5:a<b*B^(la-n+1):=by
   have h6:B^la=B^(n-1)*B^(la-n+1):=by rw[←Nat.pow_add];congr 1;omega
   have h7:a<B^la:=by rw[hla2];exact uav a
   have h8:B^(n-1)*B^(la-n+1)≤b*B^(la-n+1):=Nat.mul_le_mul_right _ hbp;omega
  have h9:a*s<b*B^(la-n+1)*s:=Nat.mul_lt_mul_of_pos_right h5 hs0;have h10:b*B^(la-n+1)*s=b*s*B^(la-n+1):=by rw[Nat.mul_right_comm]
  omega
 clear hla2 hn2;go_wp2;go_loopw [13] (fun iv wr=>uAk w bu bv bq 228 la n (a*s) (b*s) (a/b) iv wr) (fun iv _=>(intOf iv+1).toNat)
 case atStart=>
  refine⟨la-n+1,by omega,by go_num,hr1.congr fun t ht=>?_,hr2,hrow3.congr fun t ht=>?_,hb3⟩
  ·unfold uf
   by_cases h5:t<la-n+1
   ·rw[if_pos h5]
   ·rw[if_neg h5,Nat.mod_eq_of_lt Hstart.out]
    unfold dg;rw[Nat.div_div_eq_div_mul,←Nat.pow_add,show la-n+1+(t-(la-n+1))=t by omega]
  ·rw[if_neg (by omega)]
 case round=>
  obtain⟨J,hJ,rfl,hru,hrv,hrq,hbw⟩:=hrel;rcases J with _|j
  ·have hru0:RowU wr bu 228 (la+1) (dg (a*s%(b*s))):=hru.congr fun t _=>by unfold uf;rw[if_neg (by omega),Nat.pow_zero,Nat.div_one,Nat.sub_zero]
   have hrq0:RowU wr bq 228 (la-n+1) (dg (a/b)):=hrq.congr fun t _=>by rw[if_pos (by omega)]
   have hmod:Hid (a*s%(b*s)/s=a%b):=by show _=_;rw[Nat.mul_mod_mul_right,Nat.mul_div_cancel _ hs0]
   have hmlt:Hid (a*s%(b*s)<B^(la+1)):=Nat.lt_of_le_of_lt (Nat.mod_le _ _) HA.out;have hdlt:Hid (a/b<B^(la-n+1)):=by
    show a/b<B^(la-n+1)
    have h5:=Hstart.out;rw[Nat.div_lt_iff_lt_mul (uZ _)]at h5;have hbp:0<b:=Nat.pos_of_ne_zero (fun e=>by subst e;have:=hVp.out;simp at this)
    rw[Nat.div_lt_iff_lt_mul hbp,Nat.mul_comm];have h6:b*s*B^(la-n+1)=b*B^(la-n+1)*s:=by rw[Nat.mul_right_comm]
    rw[h6]at h5;exact Nat.lt_of_mul_lt_mul_right h5
   have hmdl:dl (a*s%(b*s))≤la+1:=ucp hmlt.out;clear hru hrq;go_wp2_with fail
   refine(uef _ _ _ _ _ (hru0.limbs hbu' (by omega) fun i _=>Nat.lt_trans (uai _ i) (by decide)) hmlt.out).mono ?_
   rintro e w4⟨v4,rfl,hnat4,rfl⟩;go_wp2_with fail
   refine(udx _ _ _ _ s hnat4 (by omega) hsB hs0).mono ?_
   rintro e w5⟨v5,rfl,hnat5,hb5⟩;rw[hmod.out]at hnat5;have hrq5:=hrq0.below hb5;have hszr:w.heap.size≤wr.heap.size:=hbw.size;clear hrq0 hru0;go_wp2_with fail
   refine(uef _ _ _ _ _ (hrq5.limbs hlbq (by omega) fun i _=>Nat.lt_trans (uai _ i) (by decide)) hdlt.out).mono ?_
   rintro e w6⟨v6,rfl,hnat6,rfl⟩;go_wp2;go_ret2
   exact⟨v6,v5,rfl,hnat6,hnat5.lower hszr,hbw.trans (hb5.mono hszr)⟩
  ·obtain⟨hq1,hq2⟩:=ufb (n:=a*s) (j:=j) hVp.out
   rw[Nat.mul_div_mul_right _ _ hs0]at hq1;have HQ1:=hid hq1;have HQ2:=hid hq2;have hfz:=hrq.frozen j;have hcq:=hrq.cell (i:=j) (by omega)
   clear hq1 hq2;go_wp2_with fail
   rw[show j+n+1-j=n+1 by omega]
   refine(ugc wr (bu+1) bu j (la+1) (la+1-j) n (uf (a*s) (b*s) (j+1)) _ (b*s) (a*s/B^(j+1)%(b*s)*1000000000+dg (a*s) j) hru ?_ (by omega) (by omega) (by omega) (by omega)
    (hrv.part (by omega) (by omega) (by omega) fun i _=>Nat.lt_trans (uai _ i) (by decide)) (by omega) h2 HVn.out ?_ (urz HVn.out hVp.out).symm ?_).mono ?_
   ·intro t _;unfold uf;split<;>exact uai _ _
   ·have hbp:B^(n-1)≤b:=by
     rw[hn.out];exact udw (fun e=>by subst e;have:=hVp.out;simp at this)
    exact Nat.le_trans hbp (Nat.le_mul_of_pos_right b hs0)
   ·have h5:=Nat.mod_lt (a*s/B^(j+1)) hVp.out
    have h6:(a*s/B^(j+1)%(b*s)+1)*B≤b*s*B:=Nat.mul_le_mul_right _ h5;have h7:=uai (a*s) j;rw[udd]at *;omega
   ·rintro e w4 ⟨rfl,f',hrf,hfB,hsame,hwin,hgr⟩
    rw[HQ1.out];have hnx:=uxl HVn.out hVp.out HQ2.out hsame hwin;have hru4:RowU w4 bu 228 (la+1) (uf (a*s) (b*s) j):=hrf.congr fun t _=>hnx t
    have hrv4:=hrv.grown hgr (by omega)
    have hrq4:=hrq.grown hgr (by omega)
    have hb4:=hbw.trans (hgr.belowOf hbu' hbw.size);have hfz4:=hrq4.frozen j;have hcq4:=hrq4.cell (i:=j) (by omega)
    clear hnx hrf hfB hsame hwin hgr hru hrv hrq hfz hcq;go_wp2;go_roundw
    case rel=>
     refine⟨j,by omega,by go_num,hru4.setOther (by simp;omega) _,hrv4.setOther (by simp;omega) _,RowU.congr (RowU.set hrq4 j (z:=dg (a/b) j) rfl) fun t ht=>?_,hb4.setCell hlbq _⟩
     by_cases e:t=j
     ·subst e;rw[uam,if_pos (Nat.le_refl _)]
     ·rw[uV _ _ e]
      by_cases h5:j+1≤t
      ·rw[if_pos h5,if_pos (by omega)]
      ·rw[if_neg h5,if_neg (by omega)]
    case measure=>simp[intOf]
theorem ueg(w:World)(lo lo':Nat)(v v':Value)(a b:Nat)(hv:NatR w lo v a)(hv':NatR w lo' v' b)(hk:dl a≤4294967296)(h0:0<b) :
 Calls Tryz.prog 350 #[v,v'] w (uzy w a b):=by
 rcases Nat.lt_or_ge a b with h|h
 ·exact ury w lo lo' v v' a b hv hv' hk h
 ·have hd:dl b≠0:=fun e=>by have:=uS.1 e;omega
  by_cases h1:dl b=1
  ·exact upf w lo lo' v v' a b hv hv' hk h h0 h1
  ·exact upg w lo lo' v v' a b hv hv' hk h (by omega)
theorem uw6{x:Nat}(h:dl x≤2):x<1000000000000000000:=by
 have h1:=Nat.lt_of_lt_of_le (uav x) (Nat.pow_le_pow_right udu h);have h2:B^2=1000000000000000000:=by decide
 omega
set_option maxHeartbeats 2000000 in
theorem uxm(w:World)(lo:Nat)(v v':Value)(a b:Nat)(hlo:lo≤w.heap.size)(hv:NatR w lo v a)(hv':NatR w lo v' b)(hk:dl a≤4294967296)(hk':dl b≤4294967296) :
 Calls Tryz.prog 349 #[v,v'] w (Ret fun v2 w'=>NatR w' lo v2 (Nat.gcd a b)∧Below w.heap.size w w'):=by
 have H1:=hid hv;have H2:=hid hv';obtain⟨A,c,rfl⟩:=Limbs.len hv;obtain⟨A',c',rfl⟩:=Limbs.len hv';clear hv hv';go_enter Tryz.func349,Tryz.ntmps349
 go_wp2;go_loopg [0,1] b (fun m av bv wr=>∃x y:Nat,y≤m∧dl x≤4294967296∧dl y≤4294967296∧NatR wr lo av x∧NatR wr lo bv y∧Hid (Nat.gcd x y=Nat.gcd a b)∧Below w.heap.size w wr)
 case atStart=>exact⟨a,b,Nat.le_refl _,hk,hk',H1.out,H2.out,rfl,Below.refl _ _⟩
 case round=>
  obtain⟨x,y,hym,hkx,hky,hx,hy,hg,hbw⟩:=hrel;obtain⟨A1,c1,rfl⟩:=Limbs.len hx;obtain⟨A2,c2,rfl⟩:=Limbs.len hy;have HX:=hid hx;have HY:=hid hy;clear hx hy;by_cases hy0:y=0
  ·subst hy0
   rw[uab]at *;go_wp2;go_ret
   refine⟨_,rfl,?_,hbw⟩;have:=hg.out;rw[Nat.gcd_zero_right]at this;rw[←this];exact HX.out
  ·have hyp:0<dl y:=Nat.pos_of_ne_zero (mt uS.1 hy0)
   by_cases hb2:dl x≤2∧dl y≤2
   ·obtain⟨hx2,hy2⟩:=hb2
    have e1:decide (((dl x:Nat):Int)≤2)=true:=by simp;omega
    have e2:decide (((dl y:Nat):Int)≤2)=true:=by simp;omega
    have hxb:=uw6 hx2;have hyb:=uw6 hy2;go_wp2_with fail
    refine(un9 _ _ _ _ HX.out (by omega)).mono ?_
    rintro e w1⟨rfl,rfl⟩;go_wp2_with fail
    refine(un9 _ _ _ _ HY.out (by omega)).mono ?_
    rintro e w2⟨rfl,rfl⟩;go_wp2;obtain⟨wo,rfl⟩:∃wo:World,wo=wr:=⟨_,rfl⟩;go_loopg [5,7] y (fun m xv yv wr=>∃x' y':Nat,y'≤m∧x'<1000000000000000000∧y'<1000000000000000000∧xv = .int .u64 x'∧yv = .int .u64 y'∧Hid (Nat.gcd x' y'=Nat.gcd x y)∧Hid (Qt wo wr))
    case atStart=>exact⟨x,y,Nat.le_refl _,hxb,hyb,rfl,rfl,rfl,Qt.refl _⟩
    case round=>
     obtain⟨x',y',hm',hx',hy',rfl,rfl,hg',hq'⟩:=hrel;by_cases hz:y'=0
     ·subst hz
      go_wp2_with fail
      refine(uf6 _ x' (by omega)).mono ?_
      rintro e w3⟨v3,rfl,hn3,hb3⟩;go_wp2;go_ret
      have hbq:=hbw.trans (hq'.out.below _);refine⟨v3,rfl,?_,hbq.trans (hb3.mono hbq.size)⟩;have e3:x'=Nat.gcd a b:=by
       have:=hg'.out;rw[Nat.gcd_zero_right]at this;rw[this];exact hg.out
      rw[←e3];exact hn3.lower (Nat.le_trans hlo hbq.size)
     ·have hzb:((y':Int)==0)=false:=by rw[beq_eq_false_iff_ne];omega
      have hyp':0<y':=by omega
      have hml:=Nat.mod_lt x' hyp';go_wp2;go_quiet (fail)
      go_wp2;go_roundg (x'%y')
      case measure=>omega
      case rel=>exact⟨y',x'%y',Nat.le_refl _,hy',by omega,rfl,by go_num,by show _=_;rw[←hg'.out,Nat.gcd_comm x' y',Nat.gcd_rec y' x',Nat.gcd_comm],hq'.out.drewN _⟩
   ·have hyv:0<y:=by omega
    by_cases hx2:dl x≤2
    ·have e1:decide (((dl x:Nat):Int)≤2)=true:=by simp;omega
     have e2:decide (((dl y:Nat):Int)≤2)=false:=by simp;omega
     go_wp2_with fail
     refine(ueg _ _ _ _ _ _ _ HX.out HY.out hkx hyv).mono ?_;rintro e w1⟨vq,vr,rfl,hq1,hr1,hb1⟩;go_wp2;go_roundg (x%y)
     case measure=>have:=Nat.mod_lt x hyv;omega
     case rel=>exact⟨y,x%y,Nat.le_refl _,hky,Nat.le_trans (ub6 (Nat.le_of_lt (Nat.mod_lt x hyv))) hky,HY.out.below hb1,hr1.lower (Nat.le_trans hlo hbw.size),by show _=_;rw[←hg.out,Nat.gcd_comm x y,Nat.gcd_rec y x,Nat.gcd_comm],hbw.trans (hb1.mono hbw.size)⟩
    ·have e1:decide (((dl x:Nat):Int)≤2)=false:=by simp;omega
     go_wp2_with fail
     refine(ueg _ _ _ _ _ _ _ HX.out HY.out hkx hyv).mono ?_;rintro e w1⟨vq,vr,rfl,hq1,hr1,hb1⟩;go_wp2;go_roundg (x%y)
     case measure=>have:=Nat.mod_lt x hyv;omega
     case rel=>exact⟨y,x%y,Nat.le_refl _,hky,Nat.le_trans (ub6 (Nat.le_of_lt (Nat.mod_lt x hyv))) hky,HY.out.below hb1,hr1.lower (Nat.le_trans hlo hbw.size),by show _=_;rw[←hg.out,Nat.gcd_comm x y,Nat.gcd_rec y x,Nat.gcd_comm],hbw.trans (hb1.mono hbw.size)⟩
def FracR(w:World)(lo:Nat)(v:Value)(neg:Bool)(n d:Nat):Prop:=
 ∃vn vd,v = .agg #[.bool neg,vn,vd]∧NatR w lo vn n∧NatR w lo vd d
theorem FracR.below{w w':World}{lo:Nat}{v:Value}{neg:Bool}{n d:Nat}(h:FracR w lo v neg n d)(hb:Below w.heap.size w w'):FracR w' lo v neg n d:=by
 obtain⟨vn,vd,rfl,h1,h2⟩:=h;exact⟨vn,vd,rfl,h1.below hb,h2.below hb⟩
theorem FracR.lower{w:World}{lo lo':Nat}{v:Value}{neg:Bool}{n d:Nat}(h:FracR w lo v neg n d)(hl:lo'≤lo):FracR w lo' v neg n d:=by
 obtain⟨vn,vd,rfl,h1,h2⟩:=h;exact⟨vn,vd,rfl,h1.lower hl,h2.lower hl⟩
theorem uxn{W w1:World}(hb:Below W.heap.size W w1) :
 (∀b o,b<W.heap.size→w1.cell? ⟨b,o,none⟩=W.cell? ⟨b,o,none⟩)∧(∀b o,b<W.heap.size→w1.frozen? ⟨b,o,none⟩=W.frozen? ⟨b,o,none⟩):=
 ⟨fun b o h=>hb.cell (p:=⟨b,o,none⟩) h,fun b o h=>hb.frozen (p:=⟨b,o,none⟩) h⟩
theorem NatR.oneNew(w:World)(lo:Nat)(e:TypeId)(h:lo≤w.heap.size):NatR (w.alloc (.cells #[.int .u32 1] e)) lo (.slice (some ⟨w.heap.size,0,none⟩) 1 1) 1:=by
 refine NatR.of (k:=1) ⟨fun i _=>Nat.lt_trans (uai _ i) (by decide),_,1,rfl,Nat.le_refl _,by unfold maxLen;omega,fun _=>⟨w.heap.size,0,rfl,h,by simp,fun i hi=>?_⟩⟩ uc1
 obtain rfl:i=0:=by omega
 rw[World.cell?_alloc_at _ _ _ _ rfl,ubi (by decide)]
 rfl
theorem uur(w:World)(o o':Obj):Below w.heap.size w ((w.alloc o).alloc o'):=((Below.refl _ _).alloc (Nat.le_refl _) o).alloc (by simp) o'
theorem uAl(w:World)(o o' o2:Obj):Below w.heap.size w (((w.alloc o).alloc o').alloc o2):=(uur w o o').alloc (by simp;omega) o2
set_option maxHeartbeats 1000000 in
theorem uls(w:World)(lo:Nat)(v:Value)(neg:Bool)(d:Nat)(hv:FracR w lo v neg 0 d) :
 Calls Tryz.prog 317 #[v] w (Ret fun v2 w'=>FracR w' w.heap.size v2 false 0 1∧Below w.heap.size w w'):=by
 obtain⟨vn,vd,rfl,h1,h2⟩:=hv;obtain⟨A,c,rfl⟩:=Limbs.len h1;obtain⟨A',c',rfl⟩:=Limbs.len h2;rw[uab];clear h1 h2;go_enter Tryz.func317,Tryz.ntmps317
 go_wp2;refine bodyPost_ret (v:= .agg #[.bool false,.slice none 0 0,.slice (some ⟨w.heap.size+1+1,0,none⟩) 1 1]) (by simp[results,Tryz.results317,go_sem]) rfl ⟨_,rfl,⟨_,_,rfl,NatR.zero _ _,?_⟩,uAl _ _ _ _⟩
 have:=NatR.oneNew ((w.alloc (.cells #[.bool neg,.slice A 0 c,.slice A' (dl d) c'] 291)).alloc (.cells #[.bool false,.slice none 0 0,.slice (some ⟨w.heap.size+1+1,0,none⟩) 1 1] 291)) w.heap.size 228 (by simp;omega)
 simpa using this
set_option maxHeartbeats 1000000 in
theorem uph(w:World)(lo:Nat)(v:Value)(neg:Bool)(n:Nat)(hv:FracR w lo v neg n 1)(hn:n≠0) :
 Calls Tryz.prog 317 #[v] w (Ret fun v2 w'=>v2=v∧Below w.heap.size w w'):=by
 obtain⟨vn,vd,rfl,h1,h2⟩:=hv;have H2:=hid h2;obtain⟨A,c,rfl⟩:=Limbs.len h1;obtain⟨A',c',rfl⟩:=Limbs.len h2;have hp:(((dl n:Nat):Int)==0)=false:=by
  rw[beq_eq_false_iff_ne];have:=mt uS.1 hn;omega
 clear h1 h2;go_enter Tryz.func317,Tryz.ntmps317
 go_wp2_with fail
 refine(ufa _ lo _ ((H2.out.alloc _).alloc _)).mono ?_;rintro e w1⟨rfl,rfl⟩;go_wp2;exact bodyPost_ret (v:= .agg #[.bool neg,.slice A (dl n) c,.slice A' (dl 1) c']) (by simp[results,Tryz.results317,go_sem]) rfl ⟨_,rfl,rfl,uur _ _ _⟩
set_option maxHeartbeats 1000000 in
theorem ult(w:World)(lo:Nat)(v:Value)(neg:Bool)(n d:Nat)(hlo:lo≤w.heap.size)(hv:FracR w lo v neg n d)(hn:n≠0)(hd:d≠1)(hk:dl n≤4294967296)(hk':dl d≤4294967296) :
 Calls Tryz.prog 317 #[v] w (Ret fun v2 w'=>(v2=v∧Nat.gcd n d=1∨FracR w' w.heap.size v2 neg (n/Nat.gcd n d) (d/Nat.gcd n d))∧Below w.heap.size w w'):=by
 obtain⟨vn,vd,rfl,h1,h2⟩:=hv;have H1:=hid h1;have H2:=hid h2;obtain⟨A,c,rfl⟩:=Limbs.len h1;obtain⟨A',c',rfl⟩:=Limbs.len h2;have hp:(((dl n:Nat):Int)==0)=false:=by
  rw[beq_eq_false_iff_ne];have:=mt uS.1 hn;omega
 have HG:0<Nat.gcd n d:=Nat.gcd_pos_of_pos_left d (Nat.pos_of_ne_zero hn);clear h1 h2;go_enter Tryz.func317,Tryz.ntmps317
 go_wp2_with fail
 refine(ugg _ lo _ d ((H2.out.alloc _).alloc _) hd).mono ?_;rintro e w1⟨rfl,rfl⟩;go_wp2_with fail
 refine(uxm _ lo _ _ n d (by simp;omega) ((H1.out.alloc _).alloc _) ((H2.out.alloc _).alloc _) hk hk').mono ?_
 rintro e w2⟨vg,rfl,hg2,hb2⟩;obtain⟨hc2,hf2⟩:=uxn hb2;have hz2:w.heap.size+1+1≤w2.heap.size:=by have:=hb2.size;simpa using this
 have hbw2:=(uur w _ _).trans (hb2.mono (by simp;omega))
 by_cases hone:Nat.gcd n d=1
 ·rw[hone]at hg2
  go_wp2_with fail
  refine(ufa _ lo _ hg2).mono ?_;rintro e w3⟨rfl,rfl⟩;go_wp2;have hfin:=fun(a b c:Value)=>((hbw2.setCell (p:=⟨w.heap.size+1,0,none⟩) (by simp) a).setCell (p:=⟨w.heap.size+1,1,none⟩) (by simp) b).setCell (p:=⟨w.heap.size+1,2,none⟩) (by simp) c
  refine bodyPost_ret (v:= .agg #[.bool neg,.slice A (dl n) c,.slice A' (dl d) c']) (by simp[results,Tryz.results317,go_sem,hc2,hf2]) rfl ⟨_,rfl,.inl ⟨rfl,hone⟩,hfin _ _ _⟩
 ·go_wp2_with fail
  refine(ugg _ lo _ _ hg2 hone).mono ?_;rintro e w3⟨rfl,rfl⟩;go_wp2_with fail
  refine(ueg _ _ _ _ _ n (Nat.gcd n d) (H1.out.below hbw2) hg2 hk HG).mono ?_;rintro e w3⟨vq,vr,rfl,hq3,hr3,hb3⟩;have hz3:=hb3.size;have hbw3:=hbw2.trans (hb3.mono (by omega))
  have hc3:∀b o,b<w.heap.size+2→w3.cell? ⟨b,o,none⟩=w2.cell? ⟨b,o,none⟩:=fun b o h=>hb3.cell (p:=⟨b,o,none⟩) (by simp;omega)
  have hf3:∀b o,b<w.heap.size+2→w3.frozen? ⟨b,o,none⟩=w2.frozen? ⟨b,o,none⟩:=fun b o h=>hb3.frozen (p:=⟨b,o,none⟩) (by simp;omega)
  clear hb2;go_wp2_with fail
  refine(ueg _ _ _ _ _ d (Nat.gcd n d) (H2.out.below hbw3) (hg2.below hb3) hk' HG).mono ?_;rintro e w4⟨vq4,vr4,rfl,hq4,hr4,hb4⟩;have hz4:=hb4.size;have hbw4:=hbw3.trans (hb4.mono (by omega))
  have hc4:∀b o,b<w.heap.size+2→w4.cell? ⟨b,o,none⟩=w3.cell? ⟨b,o,none⟩:=fun b o h=>hb4.cell (p:=⟨b,o,none⟩) (by simp;omega)
  have hf4:∀b o,b<w.heap.size+2→w4.frozen? ⟨b,o,none⟩=w3.frozen? ⟨b,o,none⟩:=fun b o h=>hb4.frozen (p:=⟨b,o,none⟩) (by simp;omega)
  obtain⟨Aq,cq,rfl⟩:=Limbs.len hq3;obtain⟨Aq4,cq4,rfl⟩:=Limbs.len hq4;have HQ3:=hid (hq3.below hb4);have HQ4:=hid hq4;clear hq3 hq4 hr3 hr4 hb3 hb4;go_wp2;have hfin:=fun(a b c:Value)=>((hbw4.setCell (p:=⟨w.heap.size+1,0,none⟩) (by simp) a).setCell (p:=⟨w.heap.size+1,1,none⟩) (by simp) b).setCell (p:=⟨w.heap.size+1,2,none⟩) (by simp) c
  refine bodyPost_ret (v:= .agg #[.bool neg,.slice Aq (dl (n/Nat.gcd n d)) cq,.slice Aq4 (dl (d/Nat.gcd n d)) cq4]) (by simp[results,Tryz.results317,go_sem,hc4,hf4,hc3,hf3,hc2,hf2]) rfl ⟨_,rfl,.inr ⟨_,_,rfl,?_,?_⟩,hfin _ _ _⟩
  ·exact(((Limbs.setCell HQ3.out (by simp;omega) _).setCell (by simp;omega) _).setCell (by simp;omega) _).lower (by omega)
  ·exact(((Limbs.setCell HQ4.out (by simp;omega) _).setCell (by simp;omega) _).setCell (by simp;omega) _).lower (by omega)
def RatR(w:World)(lo:Nat)(v:Value)(q:Rat):Prop:=FracR w lo v (decide (q.num<0)) q.num.natAbs q.den
theorem RatR.below{w w':World}{lo:Nat}{v:Value}{q:Rat}(h:RatR w lo v q)(hb:Below w.heap.size w w'):RatR w' lo v q:=FracR.below h hb
theorem RatR.lower{w:World}{lo lo':Nat}{v:Value}{q:Rat}(h:RatR w lo v q)(hl:lo'≤lo):RatR w lo' v q:=FracR.lower h hl
theorem RatR.ofLow{w:World}{lo:Nat}{v:Value}{neg:Bool}{n d:Nat}(hd:d≠0)(hn:n≠0)(h:FracR w lo v neg (n/Nat.gcd n d) (d/Nat.gcd n d)):RatR w lo v (mkRat (sg neg n) d):=by
 unfold RatR;rw[uyt neg n d hd hn,ur0 neg n d hd,uys neg n d hd];exact h
theorem RatR.ofZero{w:World}{lo:Nat}{v:Value}{neg:Bool}{d:Nat}(h:FracR w lo v false 0 1):RatR w lo v (mkRat (sg neg 0) d):=by
 rw[uix,Rat.zero_mkRat];exact h
theorem uia(w:World)(lo:Nat)(v:Value)(neg:Bool)(n d:Nat)(hlo:lo≤w.heap.size)(hv:FracR w lo v neg n d)(hd:d≠0)(hk:dl n≤4294967296)(hk':dl d≤4294967296) :
 Calls Tryz.prog 317 #[v] w (Ret fun v2 w'=>(v2=v∧(∀W l,FracR W l v neg n d→RatR W l v (mkRat (sg neg n) d))∨RatR w' w.heap.size v2 (mkRat (sg neg n) d))∧Below w.heap.size w w'):=by
 by_cases hn:n=0
 ·subst hn
  refine(uls w lo v neg d hv).mono ?_;rintro e w'⟨v2,rfl,h,hb⟩;exact⟨v2,rfl,.inr (RatR.ofZero h),hb⟩
 ·by_cases h1:d=1
  ·subst h1
   refine(uph w lo v neg n hv hn).mono ?_;rintro e w'⟨v2,rfl,rfl,hb⟩;exact⟨_,rfl,.inl ⟨rfl,fun W l h=>RatR.ofLow hd hn (by rw[Nat.gcd_one_right,Nat.div_one,Nat.div_one];exact h)⟩,hb⟩
  ·refine(ult w lo v neg n d hlo hv hn h1 hk hk').mono ?_
   rintro e w'⟨v2,rfl,h,hb⟩;rcases h with⟨rfl,hg⟩|h
   ·exact⟨_,rfl,.inl ⟨rfl,fun W l h=>RatR.ofLow hd hn (by rw[hg,Nat.div_one,Nat.div_one];exact h)⟩,hb⟩
   ·exact⟨v2,rfl,.inr (RatR.ofLow hd hn h),hb⟩
theorem FracR.form{w:World}{lo:Nat}{v:Value}{neg:Bool}{n d:Nat}(h:FracR w lo v neg n d) :
 ∃A c A' c',v = .agg #[.bool neg,.slice A (dl n) c,.slice A' (dl d) c']∧NatR w lo (.slice A (dl n) c) n∧NatR w lo (.slice A' (dl d) c') d:=by
 obtain⟨vn,vd,rfl,h1,h2⟩:=h;obtain⟨A,c,rfl⟩:=Limbs.len h1;obtain⟨A',c',rfl⟩:=Limbs.len h2;exact⟨A,c,A',c',rfl,h1,h2⟩
set_option maxHeartbeats 1000000 in
theorem uj1(w:World)(lo:Nat)(v:Value)(neg:Bool)(n d:Nat)(hlo:lo≤w.heap.size)(hv:FracR w lo v neg n d)(hd:d≠0)(hk:dl n≤4294967296)(hk':dl d≤4294967296) :
 Calls Tryz.prog 315 #[v] w (Ret fun v2 w'=>RatR w' lo v2 (mkRat (sg neg n) d)∧Below w.heap.size w w'):=by
 have HV:=hid hv;obtain⟨A,c,A',c',rfl,h1,h2⟩:=hv.form;clear h1 h2 hv;go_enter Tryz.func315,Tryz.ntmps315
 go_wp2_with fail
 refine(uia _ lo _ neg n d (by simp;omega) (HV.out.below (uur w _ _)) hd hk hk').mono ?_
 rintro e w2⟨v2,rfl,hr2,hb2⟩;obtain⟨hc2,hf2⟩:=uxn hb2;have hz2:w.heap.size+1<w2.heap.size:=by have:=hb2.size;simp at this;omega
 have hz2':w.heap.size<w2.heap.size:=by omega
 have hbw2:=(uur w _ _).trans (hb2.mono (by simp;omega))
 obtain⟨q,hq⟩:∃q,Hid (q=mkRat (sg neg n) d):=⟨_,rfl⟩;rw[←hq.out]at hr2;have hdone:∃A2 c2 A3 c3,v2 = .agg #[.bool (decide (q.num<0)),.slice A2 (dl q.num.natAbs) c2,.slice A3 (dl q.den) c3] ∧
  ∀(a b c:Value) (o:Obj),RatR (World.alloc (((w2.setCell ⟨w.heap.size+1,0,none⟩ a).setCell ⟨w.heap.size+1,1,none⟩ b).setCell ⟨w.heap.size+1,2,none⟩ c) o) lo v2 q:=by
  rcases hr2 with⟨rfl,h⟩|h
  ·have h0:=h w lo HV.out
   obtain⟨A2,c2,A3,c3,e,_,_⟩:=FracR.form h0;refine⟨A2,c2,A3,c3,e,fun a b c o=>?_⟩
   exact h0.below ((((hbw2.setCell (by simp) a).setCell (by simp) b).setCell (by simp) c).alloc (by simp[World.setCell];omega) o)
  ·obtain⟨A2,c2,A3,c3,e,_,_⟩:=FracR.form h
   refine⟨A2,c2,A3,c3,e,fun a b c o=>?_⟩
   obtain⟨vn,vd,hvv,h1,h2⟩:=h;exact⟨vn,vd,hvv,((((Limbs.setCell h1 (by simp) a).setCell (by simp) b).setCell (by simp) c).alloc o).lower (by simp;omega),((((Limbs.setCell h2 (by simp) a).setCell (by simp) b).setCell (by simp) c).alloc o).lower (by simp;omega)⟩
 obtain⟨A2,c2,A3,c3,rfl,hdone⟩:=hdone;have HD:=hid hdone;clear hdone hr2 hb2;go_wp2;refine bodyPost_ret (v:= .agg #[.bool (decide (q.num<0)),.slice A2 (dl q.num.natAbs) c2,.slice A3 (dl q.den) c3]) (by simp[results,Tryz.results315,go_sem,hc2,hz2]) rfl ⟨_,rfl,?_,?_⟩
 ·rw[←hq.out];exact HD.out _ _ _ _
 ·exact(((hbw2.setCell (by simp) _).setCell (by simp) _).setCell (by simp) _).alloc (by simp[World.setCell];omega) _
def RatV(w:World)(lo:Nat)(v:Value)(K:Nat)(q:Rat):Prop:=
 ∃(neg:Bool) (kn kd:Nat) (fn fd:Nat→Nat) (vn vd:Value),v = .agg #[.bool neg,vn,vd]∧Limbs w lo vn kn fn∧Limbs w lo vd kd fd∧kn≤K∧kd≤K∧q=mkRat (sg neg (vs fn kn)) (vs fd kd)
theorem RatV.below{w w':World}{lo:Nat}{v:Value}{K:Nat}{q:Rat}(h:RatV w lo v K q)(hb:Below w.heap.size w w'):RatV w' lo v K q:=by
 obtain⟨neg,kn,kd,fn,fd,vn,vd,rfl,h1,h2,h3,h4,h5⟩:=h;exact⟨neg,kn,kd,fn,fd,vn,vd,rfl,h1.below hb,h2.below hb,h3,h4,h5⟩
theorem RatV.lower{w:World}{lo lo':Nat}{v:Value}{K:Nat}{q:Rat}(h:RatV w lo v K q)(hl:lo'≤lo):RatV w lo' v K q:=by
 obtain⟨neg,kn,kd,fn,fd,vn,vd,rfl,h1,h2,h3,h4,h5⟩:=h;exact⟨neg,kn,kd,fn,fd,vn,vd,rfl,h1.lower hl,h2.lower hl,h3,h4,h5⟩
theorem upj(q:Rat):sg (decide (q.num<0)) q.num.natAbs=q.num:=by
 unfold sg;by_cases h:q.num<0
 ·simp[h];omega
 ·simp[h];omega
theorem uu2(q:Rat):mkRat (sg (decide (q.num<0)) q.num.natAbs) q.den=q:=by rw[upj];exact Rat.mkRat_self q
theorem RatR.toV{w:World}{lo:Nat}{v:Value}{q:Rat}(h:RatR w lo v q){K:Nat}(hK:sz q≤K):RatV w lo v K q:=by
 obtain⟨vn,vd,rfl,h1,h2⟩:=h;refine⟨_,_,_,_,_,vn,vd,rfl,h1,h2,?_,?_,?_⟩
 ·exact Nat.le_trans (Nat.le_max_left _ _) hK
 ·exact Nat.le_trans (Nat.le_max_right _ _) hK
 ·rw[ulo,ulo,uu2]
theorem ueh{f:Nat→Nat}{k:Nat}(h:∀i,i<k→f i<4294967296):dl (vs f k)≤k+1:=by
 apply ucp;have h1:=ueu f k h k (Nat.le_refl _);rw[Nat.pow_succ,Nat.mul_comm,←Nat.div_lt_iff_lt_mul (uZ k)];exact Nat.lt_of_le_of_lt h1 (by decide)
theorem RatV.size{w:World}{lo:Nat}{v:Value}{K:Nat}{q:Rat}(h:RatV w lo v K q):sz q≤K+1:=by
 obtain⟨neg,kn,kd,fn,fd,vn,vd,rfl,h1,h2,h3,h4,h5⟩:=h;rw[h5];refine upi _ _ _ ?_ ?_ (by omega)
 ·rw[ubo];have:=ueh h1.1;omega
 ·have:=ueh h2.1;omega
def LoadR(w:World)(K:Nat)(q:Rat)(v2:Value)(w':World):Prop:=
 ∃neg n d,FracR w' w.heap.size v2 neg n d∧d≠0∧dl n≤K+1∧dl d≤K+1∧q=mkRat (sg neg n) d∧Below w.heap.size w w'
set_option maxHeartbeats 2000000 in
theorem uu3(w:World)(lo:Nat)(v:Value)(K:Nat)(q:Rat)(hv:RatV w lo v K q)(hK:K≤4294967290) :
 Calls Tryz.prog 316 #[v] w (Ret (LoadR w K q)):=by
 obtain⟨neg,kn,kd,fn,fd,vn,vd,rfl,h1,h2,h3,h4,h5⟩:=hv;have H1:=hid h1;have H2:=hid h2;have H5:=hid h5;obtain⟨A,c,rfl⟩:=h1.len;obtain⟨A',c',rfl⟩:=h2.len;clear h1 h2 h5;go_enter Tryz.func316,Tryz.ntmps316
 go_wp2;go_region_held3 (fun w'=>w'.cell? ⟨w.heap.size,1,none⟩=some (.slice A kn c)∧w'.cell? ⟨w.heap.size,2,none⟩=some (.slice A' kd c')) (go_keep)
  (first
   | (go_at_call_of 348 (Value.slice A kn c);refine(uh8 _ lo _ kn fn (by exact(H1.out.alloc _).alloc _) (by omega)).mono ?_;rintro e w1 ⟨v1,rfl,hn1,hb1⟩;have hbw1:=(uur w _ _).drew.trans (hb1.mono (by simp;omega));have hz1:w.heap.size+1<w1.heap.size:=(by have:=hb1.size;simp at this;omega);have hz1':w.heap.size<w1.heap.size:=(by omega);obtain⟨hc1,hf1⟩:=uxn hb1;have hcA:w1.cell? ⟨w.heap.size,1,none⟩=some (.slice A kn c):=(hb1.cell (p:=⟨w.heap.size,1,none⟩) (by simp;omega)).trans (by simp[go_sem]);have hcB:w1.cell? ⟨w.heap.size,2,none⟩=some (.slice A' kd c'):=(hb1.cell (p:=⟨w.heap.size,2,none⟩) (by simp;omega)).trans (by simp[go_sem]))
   | (go_at_call_of 348 (Value.slice A' kd c');refine(uh8 _ lo _ kd fd (by exact H2.out.below hbw1) (by omega)).mono ?_;rintro e w2 ⟨v2,rfl,hn2,hb2⟩;have hcA2:w2.cell? ⟨w.heap.size,1,none⟩=some (.slice A kn c):=(hb2.cell (p:=⟨w.heap.size,1,none⟩) (by simp;omega)).trans hcA;have hcB2:w2.cell? ⟨w.heap.size,2,none⟩=some (.slice A' kd c'):=(hb2.cell (p:=⟨w.heap.size,2,none⟩) (by simp;omega)).trans hcB))
 have hz2:w.heap.size+1<w2.heap.size:=by have:=hb2.size;omega
 have hz2':w.heap.size<w2.heap.size:=by omega
 have hbw2:=hbw1.trans (hb2.mono (by omega))
 have hc2:∀b o,b<w.heap.size+2→w2.cell? ⟨b,o,none⟩=w1.cell? ⟨b,o,none⟩:=fun b o h=>hb2.cell (p:=⟨b,o,none⟩) (by simp;omega)
 have hf2:∀b o,b<w.heap.size+2→w2.frozen? ⟨b,o,none⟩=w1.frozen? ⟨b,o,none⟩:=fun b o h=>hb2.frozen (p:=⟨b,o,none⟩) (by simp;omega)
 have HN1:=hid (hn1.below hb2);have HN2:=hid hn2;obtain⟨N,hN⟩:∃N,Hid (N=vs fn kn):=⟨_,rfl⟩;obtain⟨D,hD⟩:∃D,Hid (D=vs fd kd):=⟨_,rfl⟩;rw[←hN.out]at HN1 hn1;rw[←hD.out]at HN2 hn2;have hszN:Hid (dl N≤K+1):=by show dl N≤K+1;rw[hN.out];have:=ueh H1.out.1;omega
 have hszD:Hid (dl D≤K+1):=by show dl D≤K+1;rw[hD.out];have:=ueh H2.out.1;omega
 obtain⟨A1,c1,rfl⟩:=Limbs.len hn1;obtain⟨A2,c2,rfl⟩:=Limbs.len hn2;clear hn1 hn2 hb1 hb2;have hval:Hid (q=mkRat (sg neg N) D):=by rw[hN.out,hD.out];exact H5
 have hfin:=fun(a b c:Value)=>((hbw2.setCell (p:=⟨w.heap.size+1,0,none⟩) (by simp) a).setCell (p:=⟨w.heap.size+1,1,none⟩) (by simp) b).setCell (p:=⟨w.heap.size+1,2,none⟩) (by simp) c
 have HFIN:=hid hfin;have hone:=fun(a b c:Value)=>NatR.oneNew (((w2.setCell ⟨w.heap.size+1,0,none⟩ a).setCell ⟨w.heap.size+1,1,none⟩ b).setCell ⟨w.heap.size+1,2,none⟩ c) w.heap.size 228 (by simp[World.setCell];omega)
 have hsz:∀a b c:Value,(((w2.setCell ⟨w.heap.size+1,0,none⟩ a).setCell ⟨w.heap.size+1,1,none⟩ b).setCell ⟨w.heap.size+1,2,none⟩ c).heap.size=w2.heap.size:=fun a b c=>by simp[World.setCell]
 simp only[hsz]at hone;have HONE:=hid hone;clear hone hsz hfin;by_cases h0:N=0
 ·have hq0:Hid (q=mkRat (sg false 0) 1):=by
   show _=_
   rw[hval.out,h0,uix,uix,Rat.zero_mkRat,Rat.zero_mkRat]
  have hd0:(((dl N:Nat):Int)==0)=true:=by rw[h0,uab];rfl
  clear h0;go_wp2;exact bodyPost_ret (v:= .agg #[.bool false,.slice none 0 0,.slice (some ⟨w2.heap.size,0,none⟩) 1 1]) (by simp[results,Tryz.results316,go_sem,hc2,hc1,hz2]) rfl
   ⟨_,rfl,false,0,1,⟨_,_,rfl,NatR.zero _ _,HONE.out _ _ _⟩,by omega,by rw[uab];omega,by rw[uc1];omega,hq0.out,(HFIN.out _ _ _).alloc (by simp[World.setCell];omega) _⟩
 ·have hd0:(((dl N:Nat):Int)==0)=false:=by
   rw[beq_eq_false_iff_ne];have:=mt uS.1 h0;omega
  by_cases h1:D=0
  ·have hq0:Hid (q=mkRat (sg false 0) 1):=by
    show _=_
    rw[hval.out,h1,uix,Rat.mkRat_zero,Rat.zero_mkRat]
   have hd1:(((dl D:Nat):Int)==0)=true:=by rw[h1,uab];rfl
   clear h0 h1;go_wp2;exact bodyPost_ret (v:= .agg #[.bool false,.slice none 0 0,.slice (some ⟨w2.heap.size,0,none⟩) 1 1]) (by simp[results,Tryz.results316,go_sem,hc2,hc1,hz2]) rfl
    ⟨_,rfl,false,0,1,⟨_,_,rfl,NatR.zero _ _,HONE.out _ _ _⟩,by omega,by rw[uab];omega,by rw[uc1];omega,hq0.out,(HFIN.out _ _ _).alloc (by simp[World.setCell];omega) _⟩
  ·have hd1:(((dl D:Nat):Int)==0)=false:=by
    rw[beq_eq_false_iff_ne];have:=mt uS.1 h1;omega
   clear h0;go_wp2;refine bodyPost_ret (v:= .agg #[.bool neg,.slice A1 (dl N) c1,.slice A2 (dl D) c2]) (by simp[results,Tryz.results316,go_sem,hc2,hc1,hz2]) rfl
    ⟨_,rfl,neg,N,D,⟨_,_,rfl,?_,?_⟩,h1,hszN.out,hszD.out,hval.out,HFIN.out _ _ _⟩
   ·exact(((Limbs.setCell HN1.out (by simp) _).setCell (by simp) _).setCell (by simp) _).lower (by simp;omega)
   ·exact(((Limbs.setCell HN2.out (by simp;omega) _).setCell (by simp;omega) _).setCell (by simp;omega) _).lower (by omega)
end Go.Proofs.YtellcholbkoakaaGreatDoor
