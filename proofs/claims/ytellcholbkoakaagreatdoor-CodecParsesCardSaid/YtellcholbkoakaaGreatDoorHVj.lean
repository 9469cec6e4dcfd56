/-
 The reference's Parse.
-/
import Derived.Test.YtellcholbkoakaaGreatDoorHVc
namespace Go.Proofs.YtellcholbkoakaaGreatDoor
open Go.Lib (hid)
open Go.RowKit AC
set_option linter.unusedVariables false
set_option linter.unusedSimpArgs false
theorem pref_no{l:List UInt8}(h:l.head? ≠ some 45):Lib.hasPrefix l [45]=false∧Lib.trimPrefix l [45]=l:=by
 have e:Lib.hasPrefix l [45]=false:=by
  cases l with
  | nil=>rfl
  | cons c r=>
   have hc:(45==c)=false:=beq_eq_false_iff_ne.2 (fun e=>h (by rw[←e];rfl))
   unfold Lib.hasPrefix;show(45==c&&List.isPrefixOf [] r)=false
   rw[hc];rfl
 refine⟨e,?_⟩;unfold Lib.trimPrefix;rw[e];rfl
theorem pref_yes(r:List UInt8):Lib.hasPrefix (45::r) [45]=true∧Lib.trimPrefix (45::r) [45]=r:=by
 have e:Lib.hasPrefix (45::r) [45]=true:=by simp[Lib.hasPrefix]
 refine⟨e,?_⟩;unfold Lib.trimPrefix;rw[e];rfl
def parseT(neg:Bool)(tx:List UInt8):Option Rat:=
 match parseN (Lib.cut tx [47]).1 with
 | none=>none
 | some n=>if(Lib.cut tx [47]).2.2 then(match parseN (Lib.cut tx [47]).2.1 with
  | none=>none
  | some d=>if d=0 then none else some (mkRat (if neg then -(n:Int)else n) d))else some (mkRat (if neg then -(n:Int)else n) 1)
theorem parseQ_T(l:List UInt8):parseQ l=parseT (Lib.hasPrefix l [45]) (Lib.trimPrefix l [45]):=by
 unfold parseQ parseT;rfl
theorem parseT_cut{neg:Bool}{tx num den:List UInt8}{quo:Bool}(h:Lib.cut tx [47]=(num,den,quo)):parseT neg tx=(match parseN num with
 | none=>none
 | some n=>if quo then(match parseN den with
  | none=>none
  | some d=>if d=0 then none else some (mkRat (if neg then -(n:Int)else n) d))else some (mkRat (if neg then -(n:Int)else n) 1)):=by
 unfold parseT;rw[h]
def PTPost(neg:Bool)(tx:List UInt8)(w:World)(e:Ending)(w':World):Prop:=
 (∃v q,parseT neg tx=some q∧e = .returned (.tuple #[v,.bool true])∧RatV w' w.heap.size v 64 q∧Below w.heap.size w w') ∨
 (parseT neg tx=none∧e = .returned (.tuple #[.agg #[.bool false,.slice none 0 0,.slice none 0 0],.bool false])∧Below w.heap.size w w')
theorem PTPost.to{l:List UInt8}{neg:Bool}{tx:List UInt8}{w w':World}{e:Ending}(h:PTPost neg tx w e w')(hn:Lib.hasPrefix l [45]=neg)(ht:Lib.trimPrefix l [45]=tx):PQPost l w e w':=by
 unfold PQPost;rw[parseQ_T,hn,ht];exact h
set_option maxHeartbeats 8000000 in
set_option maxRecDepth 100000 in
theorem rParse_any(w:World)(s:ByteArray)(hs:s.size≤262144):Calls Tryz.prog 129 #[.string s] w (PQPost s.data.toList w):=by
 obtain⟨l,hl⟩:∃l,s.data.toList=l:=⟨_,rfl⟩;have hll:l.length=s.size:=by rw[←hl];simp
 obtain⟨S,T,neg,hS,hT,hn,ht,hcase⟩:∃(S:ByteArray) (T:List UInt8) (neg:Bool),S.data.toList=T∧S.size≤s.size∧Lib.hasPrefix l [45]=neg∧Lib.trimPrefix l [45]=T ∧
  ((s.size=0∧neg=false∧s=S)∨(∃h:0<s.size,(((s[0]'h).toNat:Int)==45)=false∧neg=false∧s=S)∨(∃h:0<s.size,(((s[0]'h).toNat:Int)==45)=true∧neg=true∧s.extract 1 s.size=S)):=by
  by_cases h0:s.size=0
  ·have hn:l.head? ≠ some 45:=by
    have:l=[]:=List.length_eq_zero_iff.1 (by omega)
    rw[this];simp
   exact⟨s,l,false,hl,Nat.le_refl _,(pref_no hn).1,(pref_no hn).2,.inl ⟨h0,rfl,rfl⟩⟩
  ·have hp:0<s.size:=by omega
   have hd:l[0]? = some (s[0]'hp):=by rw[←hl];exact Lib.data_getElem? s 0 hp
   cases l with
   | nil=>simp at hd
   | cons c r=>
    simp at hd;by_cases hc:c=45
    ·subst hc
     refine⟨s.extract 1 s.size,r,true,?_,by rw[ByteArray.size_extract];omega,(pref_yes r).1,(pref_yes r).2,.inr (.inr ⟨hp,by rw[←hd];rfl,rfl,rfl⟩)⟩
     rw[Lib.extract_data,hl,←hll];simp
    ·refine⟨s,c::r,false,hl,Nat.le_refl _,(pref_no (by simpa using hc)).1,(pref_no (by simpa using hc)).2,.inr (.inl ⟨hp,?_,rfl,rfl⟩)⟩
     rw[←hd,beq_eq_false_iff_ne];intro e;exact hc (UInt8.toNat_inj.1 (by have h45:(45:UInt8).toNat=45:=rfl;omega))
 have hTL:T.length=S.size:=by rw[←hS];simp
 have HS:=hid hS;have HTL:=hid hTL;rw[hl];suffices hgo:Calls Tryz.prog 129 #[.string s] w (PTPost neg T w) from hgo.mono fun e w' h=>h.to hn ht
 clear hn ht hl hll hS hTL;go_enter Tryz.func129,Tryz.ntmps129
 rcases hcase with⟨h0,hng,hSS⟩|⟨h0,h45,hng,hSS⟩|⟨h0,h45,hng,hSS⟩
 case' inl=>
  have hSS':=hSS.symm;subst hSS';clear hSS;have HNG:=hid hng;clear hng;have d0:decide (0<S.size)=false:=decide_eq_false (by omega)
  have d1:decide ((0:Int)<(S.size:Int))=false:=decide_eq_false (by omega)
  have H0:=hid h0;clear h0;go_wp2
 case' inr.inl=>
  have hSS':=hSS.symm;subst hSS';clear hSS;have HNG:=hid hng;clear hng;have d1:decide ((0:Int)<(S.size:Int))=true:=decide_eq_true (by omega)
  go_wp2
 case' inr.inr=>
  have hss:((s.extract 1 s.size).size:Int)=(S.size:Int):=by rw[hSS]
  have HNG:=hid hng;clear hng;have d1:decide ((0:Int)<(s.size:Int))=true:=decide_eq_true (by omega)
  go_wp2
 all_goals
  have hT2:S.size≤262144:=by omega
  clear d1;have HB0:Hid (Below w.heap.size w (w.alloc (.cells #[.bool false,.slice none 0 0,.slice none 0 0] 76))):=(Below.refl _ _).alloc (Nat.le_refl _) _;have HK0:Hid (Bk (w.alloc (.cells #[.bool false,.slice none 0 0,.slice none 0 0] 76)) w.heap.size 76 #[.bool false,.slice none 0 0,.slice none 0 0]):=Bk.new _ _ _;go_loop [5,6] (fun av iv=>av = .int .i64 (S.size:Int)∧∃i:Nat,i≤S.size∧iv = .int .i64 i∧Hid (∀j,j<i→T[j]? ≠ some 47)) (fun _ iv=>S.size-(intOf iv).toNat)
  case atStart=>exact⟨rfl,0,by omega,rfl,fun j hj=>absurd hj (by omega)⟩
  case round=>
   obtain⟨rfl,i,hi,rfl,hns⟩:=hrel;by_cases hit:i<S.size
   ·obtain⟨c,hc⟩:∃c:UInt8,S[i]'hit=c:=⟨_,rfl⟩
    have hcl:T[i]? = some c:=by rw[←HS.out,←hc];exact Lib.data_getElem? S i hit
    by_cases h47:c=47
    ·subst h47
     have e47:(((47:UInt8).toNat:Int)==47)=true:=rfl;have hcut:Lib.cut T [47]=(T.take i,T.drop (i+1),true):=cut_first hcl hns.out;have hpt:=fun ng=>parseT_cut (neg:=ng) hcut
     obtain⟨num,hnum⟩:∃num,T.take i=num:=⟨_,rfl⟩;obtain⟨den,hden⟩:∃den,T.drop (i+1)=den:=⟨_,rfl⟩;rw[hnum,hden]at hpt;have HPT:=hid hpt;have hx1:(S.extract 0 i).data.toList=num:=by rw[Lib.extract_data,HS.out,←hnum];simp
     have hx2:(S.extract (i+1) S.size).data.toList=den:=by rw[Lib.extract_data,HS.out,←hden,←HTL.out];exact List.take_of_length_le (by simp)
     have HX1:=hid hx1;have HX2:=hid hx2;clear hcl hcut hpt hnum hden hx1 hx2 hns;go_wp2_with fail
     refine(rDigits_any _ (S.extract 0 i) (by rw[ByteArray.size_extract];omega)).mono ?_
     intro e w2 hpd;rw[HX1.out]at hpd;rcases hpd with⟨vn,n,hpn,rfl,hnr,hb2⟩|⟨hpn,rfl,hb2⟩
     ·have hdn:=parseN_small hpn
      have HPN:=hid hpn;have HK2:=hid (HK0.out.below hb2 HK0.out.lt);have HB2:=hid (HB0.out.trans (hb2.mono (by simp)))
      have a0:w.heap.size+1≤w2.heap.size:=by have:=hb2.size;simpa using this
      have HNR:=hid (show NatR w2 (w.heap.size+1) vn n by simpa using hnr)
      obtain⟨A,c,rfl⟩:=Limbs.len hnr;clear hnr hpn hb2;have HK3:=hid (HK2.out.alloc (.cells #[.int .u32 1] 228));have HB3:=hid (HB2.out.alloc HB2.out.size (.cells #[.int .u32 1] 228));have HN3:=hid (HNR.out.alloc (.cells #[.int .u32 1] 228));have d3:decide ((i:Int)<(S.size:Int))=true:=decide_eq_true (by omega)
      go_wp2_with fail
      refine(rDigits_any _ (S.extract (i+1) S.size) (by rw[ByteArray.size_extract];omega)).mono ?_
      intro e w3 hpd;rw[HX2.out]at hpd;rcases hpd with⟨vd,d,hpd,rfl,hdr,hb3⟩|⟨hpd,rfl,hb3⟩
      ·have hdd:=parseN_small hpd
       have HPD:=hid hpd;have HKd:=hid (HK3.out.below hb3 HK3.out.lt);have HBd:=hid (HB3.out.trans (hb3.mono HB3.out.size));have HNd:=hid (HN3.out.below hb3);have HDd:=hid (show NatR w3 (w.heap.size+1) vd d from hdr.lower (by simp;omega))
       have a2:w2.heap.size+1≤w3.heap.size:=by have:=hb3.size;simpa using this
       obtain⟨Ad,cd,rfl⟩:=Limbs.len hdr;clear hpd hb3 hdr;by_cases hd0:d=0
       ·subst hd0
        have hz0:(((dl 0:Nat):Int)==0)=true:=by rw[dl_zero];rfl
        have c0:=HKd.out.cell 0;have c1:=HKd.out.cell 1;have c2:=HKd.out.cell 2;have f0:=HKd.out.frozen 0;have f1:=HKd.out.frozen 1;have f2:=HKd.out.frozen 2;simp only[gq]at c0 c1 c2;go_wp2;have hb5:=((HKd.out.set 0 (.bool false)).set 1 (.slice none 0 0)).set 2 (.slice none 0 0);have r0:=hb5.cell 0;have r1:=hb5.cell 1;have r2:=hb5.cell 2;refine bodyPost_ret (v:= .tuple #[.agg #[.bool false,.slice none 0 0,.slice none 0 0],.bool false]) (by simp[results,Tryz.results129,go_sem,r0,r1,r2]) rfl ?_
        exact .inr ⟨by rw[HPT.out,HPN.out];show(match parseN den with|none=>none|some d=>_)=_;rw[HPD.out];rfl,rfl,below_set3 HBd.out (Nat.le_refl _) _ _ _⟩
       ·have hz0:(((dl d:Nat):Int)==0)=false:=beq_eq_false_iff_ne.2 (by have:=mt dl_eq_zero.1 hd0;omega)
        obtain⟨q,hq⟩:∃q,mkRat (sg neg n) d=q:=⟨_,rfl⟩;have hqs:sz q≤64:=by rw[←hq];exact Nat.le_trans (sz_mk _ _ 23 (by rw[sg_natAbs];exact hdn) (hdd) (by omega)) (by omega)
        have HQ:=hid hq;have HQS:=hid hqs;clear hq hqs;go_wp2_with fail
        refine(build_any _ (w.heap.size+1) (w.heap.size+1) _ _ _ (dl n) (dl d) (dg n) (dg d) (HNd.out) (HDd.out) (by omega) (by omega) q (by have h9:=HNG.out;subst h9;rw[vs_dl,vs_dl];exact HQ.out.symm)).mono ?_
        rintro e w4⟨v2,rfl,hr4,hb4⟩;have hk4:=HKd.out.below hb4 HKd.out.lt;have HB4:=hid (HBd.out.trans (hb4.mono HBd.out.size));have HV4:=hid (RatR.toV hr4 HQS.out);have a1:=HKd.out.lt;obtain⟨A4,c4,A5,c5,rfl,_,_⟩:=FracR.form hr4;have c0:=hk4.cell 0;have c1:=hk4.cell 1;have c2:=hk4.cell 2;have f0:=hk4.frozen 0;have f1:=hk4.frozen 1;have f2:=hk4.frozen 2;simp only[gq]at c0 c1 c2;have HK4:=hid hk4;clear hk4 hb4 hr4;go_wp2;obtain⟨b4,hb4⟩:∃b4,decide (q.num<0)=b4:=⟨_,rfl⟩;obtain⟨n4,hn4⟩:∃n4,dl q.num.natAbs=n4:=⟨_,rfl⟩;obtain⟨d4,hd4⟩:∃d4,dl q.den=d4:=⟨_,rfl⟩;rw[hb4,hn4,hd4]at HV4 ⊢;have hb5:=((HK4.out.set 0 (.bool b4)).set 1 (.slice A4 n4 c4)).set 2 (.slice A5 d4 c5);have r0:=hb5.cell 0;have r1:=hb5.cell 1;have r2:=hb5.cell 2;refine bodyPost_ret (v:= .tuple #[.agg #[.bool b4,.slice A4 n4 c4,.slice A5 d4 c5],.bool true]) (by simp[results,Tryz.results129,go_sem,r0,r1,r2]) rfl ?_
        refine .inl ⟨_,q,by rw[←HQ.out,HPT.out,HPN.out];show(match parseN den with|none=>none|some d=>_)=_;rw[HPD.out];show(if d=0 then none else _)=_;rw[if_neg hd0];rfl,rfl,?_,below_set3 HB4.out (Nat.le_refl _) _ _ _⟩
        obtain⟨ng,kn,kd,fn,fd,xn,xd,hx,l1,l2,l3,l4,l5⟩:=HV4.out;exact⟨ng,kn,kd,fn,fd,xn,xd,hx,(limbs_set3 l1 (by omega) _ _ _).lower (by omega),(limbs_set3 l2 (by omega) _ _ _).lower (by omega),l3,l4,l5⟩
      ·have HPD:=hid hpd
       have HKd:=hid (HK3.out.below hb3 HK3.out.lt);have HBd:=hid (HB3.out.trans (hb3.mono HB3.out.size));clear hpd hb3;have c0:=HKd.out.cell 0;have c1:=HKd.out.cell 1;have c2:=HKd.out.cell 2;have f0:=HKd.out.frozen 0;have f1:=HKd.out.frozen 1;have f2:=HKd.out.frozen 2;simp only[gq]at c0 c1 c2;go_wp2;have hb5:=((HKd.out.set 0 (.bool false)).set 1 (.slice none 0 0)).set 2 (.slice none 0 0);have r0:=hb5.cell 0;have r1:=hb5.cell 1;have r2:=hb5.cell 2;refine bodyPost_ret (v:= .tuple #[.agg #[.bool false,.slice none 0 0,.slice none 0 0],.bool false]) (by simp[results,Tryz.results129,go_sem,r0,r1,r2]) rfl ?_
       exact .inr ⟨by rw[HPT.out,HPN.out];show(match parseN den with|none=>none|some d=>_)=_;rw[HPD.out],rfl,below_set3 HBd.out (Nat.le_refl _) _ _ _⟩
     ·have HPN:=hid hpn
      have HK2:=hid (HK0.out.below hb2 HK0.out.lt);have HB2:=hid (HB0.out.trans (hb2.mono (by simp)))
      clear hb2 hpn;have c0:=HK2.out.cell 0;have c1:=HK2.out.cell 1;have c2:=HK2.out.cell 2;have f0:=HK2.out.frozen 0;have f1:=HK2.out.frozen 1;have f2:=HK2.out.frozen 2;simp only[gq]at c0 c1 c2;go_wp2;have hb5:=((HK2.out.set 0 (.bool false)).set 1 (.slice none 0 0)).set 2 (.slice none 0 0);have r0:=hb5.cell 0;have r1:=hb5.cell 1;have r2:=hb5.cell 2;refine bodyPost_ret (v:= .tuple #[.agg #[.bool false,.slice none 0 0,.slice none 0 0],.bool false]) (by simp[results,Tryz.results129,go_sem,r0,r1,r2]) rfl ?_
      exact .inr ⟨by rw[HPT.out,HPN.out],rfl,below_set3 HB2.out (Nat.le_refl _) _ _ _⟩
    ·have e47:((c.toNat:Int)==47)=false:=beq_eq_false_iff_ne.2 (fun e=>h47 (UInt8.toNat_inj.1 (by have h9:(47:UInt8).toNat=47:=rfl;omega)))
     have HCL:=hid hcl;have H47:=hid h47;clear hcl h47;go_wp2;go_round
     case rel=>exact⟨rfl,i+1,by omega,by go_num,fun j hj he=>by
      rcases Nat.lt_or_ge j i with h1|h1
      ·exact hns.out j h1 he
      ·obtain rfl:j=i:=by omega
       rw[HCL.out]at he;injection he with he;exact H47.out he⟩
     case measure=>simp[intOf];omega
   ·obtain rfl:i=S.size:=by omega
    have hcut:Lib.cut T [47]=(T,[],false):=cut_absent fun j he=>by
     by_cases h1:j<S.size
     ·exact hns.out j h1 he
     ·rw[List.getElem?_eq_none (by rw[HTL.out];omega)]at he;cases he
    have hpt:=fun ng=>parseT_cut (neg:=ng) hcut
    have HPT:=hid hpt;clear hcut hpt hns;go_wp2_with fail
    refine(rDigits_any _ _ (by first|exact hT2|(rw[ByteArray.size_extract];omega))).mono ?_
    intro e w2 hpd;first|rw[HS.out]at hpd|rw[Lib.extract_data,HS.out,←HTL.out,List.drop_zero,List.take_of_length_le (by simp)]at hpd
    rcases hpd with⟨vn,n,hpn,rfl,hnr,hb2⟩|⟨hpn,rfl,hb2⟩
    ·have hdn:=parseN_small hpn
     have HPN:=hid hpn;have HK2:=hid (HK0.out.below hb2 HK0.out.lt);have HB2:=hid (HB0.out.trans (hb2.mono (by simp)))
     have a0:w.heap.size+1≤w2.heap.size:=by have:=hb2.size;simpa using this
     have HNR:=hid (show NatR w2 (w.heap.size+1) vn n by simpa using hnr)
     obtain⟨A,c,rfl⟩:=Limbs.len hnr;clear hnr hpn hb2;have HK3:=hid (HK2.out.alloc (.cells #[.int .u32 1] 228));have HB3:=hid (HB2.out.alloc HB2.out.size (.cells #[.int .u32 1] 228));have HN3:=hid (HNR.out.alloc (.cells #[.int .u32 1] 228));have HO3:=hid (NatR.oneNew w2 (w.heap.size+1) 228 a0);have d3:decide ((S.size:Int)<(S.size:Int))=false:=decide_eq_false (by omega)
     obtain⟨q,hq⟩:∃q,mkRat (sg neg n) 1=q:=⟨_,rfl⟩;have hqs:sz q≤64:=by rw[←hq];exact Nat.le_trans (sz_mk _ _ 23 (by rw[sg_natAbs];exact hdn) (by rw[dl_one];omega) (by omega)) (by omega)
     have HQ:=hid hq;have HQS:=hid hqs;clear hq hqs;go_wp2_with fail
     refine(build_any _ (w.heap.size+1) (w.heap.size+1) _ _ _ (dl n) (dl 1) (dg n) (dg 1) (HN3.out) (by have:=HO3.out;unfold NatR at this;exact this) (by omega) (by rw[dl_one];omega) q (by have h9:=HNG.out;subst h9;rw[vs_dl,vs_dl];exact HQ.out.symm)).mono ?_
     rintro e w4⟨v2,rfl,hr4,hb4⟩;have hk4:=HK3.out.below hb4 HK3.out.lt;have HB4:=hid (HB3.out.trans (hb4.mono HB3.out.size));have HV4:=hid (RatR.toV hr4 HQS.out);have a1:=HK3.out.lt;obtain⟨A4,c4,A5,c5,rfl,_,_⟩:=FracR.form hr4;have c0:=hk4.cell 0;have c1:=hk4.cell 1;have c2:=hk4.cell 2;have f0:=hk4.frozen 0;have f1:=hk4.frozen 1;have f2:=hk4.frozen 2;simp only[gq]at c0 c1 c2;have HK4:=hid hk4;clear hk4 hb4 hr4;go_wp2;obtain⟨b4,hb4⟩:∃b4,decide (q.num<0)=b4:=⟨_,rfl⟩;obtain⟨n4,hn4⟩:∃n4,dl q.num.natAbs=n4:=⟨_,rfl⟩;obtain⟨d4,hd4⟩:∃d4,dl q.den=d4:=⟨_,rfl⟩;rw[hb4,hn4,hd4]at HV4 ⊢;have hb5:=((HK4.out.set 0 (.bool b4)).set 1 (.slice A4 n4 c4)).set 2 (.slice A5 d4 c5);have r0:=hb5.cell 0;have r1:=hb5.cell 1;have r2:=hb5.cell 2;refine bodyPost_ret (v:= .tuple #[.agg #[.bool b4,.slice A4 n4 c4,.slice A5 d4 c5],.bool true]) (by simp[results,Tryz.results129,go_sem,r0,r1,r2]) rfl ?_
     refine .inl ⟨_,q,by rw[←HQ.out,HPT.out,HPN.out];rfl,rfl,?_,below_set3 HB4.out (Nat.le_refl _) _ _ _⟩
     obtain⟨ng,kn,kd,fn,fd,xn,xd,hx,l1,l2,l3,l4,l5⟩:=HV4.out;exact⟨ng,kn,kd,fn,fd,xn,xd,hx,(limbs_set3 l1 (by omega) _ _ _).lower (by omega),(limbs_set3 l2 (by omega) _ _ _).lower (by omega),l3,l4,l5⟩
    ·have HPN:=hid hpn
     have HK2:=hid (HK0.out.below hb2 HK0.out.lt);have HB2:=hid (HB0.out.trans (hb2.mono (by simp)))
     clear hb2 hpn;have c0:=HK2.out.cell 0;have c1:=HK2.out.cell 1;have c2:=HK2.out.cell 2;have f0:=HK2.out.frozen 0;have f1:=HK2.out.frozen 1;have f2:=HK2.out.frozen 2;simp only[gq]at c0 c1 c2;go_wp2;have hb5:=((HK2.out.set 0 (.bool false)).set 1 (.slice none 0 0)).set 2 (.slice none 0 0);have r0:=hb5.cell 0;have r1:=hb5.cell 1;have r2:=hb5.cell 2;refine bodyPost_ret (v:= .tuple #[.agg #[.bool false,.slice none 0 0,.slice none 0 0],.bool false]) (by simp[results,Tryz.results129,go_sem,r0,r1,r2]) rfl ?_
     exact .inr ⟨by rw[HPT.out,HPN.out],rfl,below_set3 HB2.out (Nat.le_refl _) _ _ _⟩
end Go.Proofs.YtellcholbkoakaaGreatDoor
