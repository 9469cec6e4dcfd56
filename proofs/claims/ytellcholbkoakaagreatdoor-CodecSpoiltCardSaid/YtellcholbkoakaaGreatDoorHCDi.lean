/-
  rational.digits: the decimal digits of a natural number.
-/
import Derived.Test.YtellcholbkoakaaGreatDoorHNum
import Derived.Test.YtellcholbkoakaaGreatDoorHCWa
import Derived.Test.YtellcholbkoakaaGreatDoorHCIx
import Derived.Test.YtellcholbkoakaaGreatDoorHWalkI
namespace Go.Proofs.YtellcholbkoakaaGreatDoor
open Go.Lib (hid)
open Go.RowKit AC
set_option linter.unusedVariables false
set_option linter.unusedSimpArgs false
theorem Dst.new(w:World):Dst (w.alloc (.cells #[.pointer none,.slice none 0 0] 95)) w.heap.size []:=
 ⟨_,_,AC.Bk.new w _ _,.inl rfl,World.ownsRow_nil _ _ _ _⟩
def uyy(w:World)(n k i:Nat)(wr:World):Prop:=Dst wr w.heap.size (uat n k i)∧Below w.heap.size w wr
theorem udq(l:List UInt8):(⟨l.toArray⟩:ByteArray).size=l.length:=by show l.toArray.size=_;simp
theorem ud4{n k i:Nat}(hk:dl n=k)(hik:i≤k):(uat n k i).length≤9*i:=by
 induction i with
 | zero=>simp[uat]
 | succ i ih=>
  rcases Nat.eq_zero_or_pos i with h0|h0
  ·subst h0
   rw[uem hk (by omega),Lib.decDigits_length]
   have:=uft (uai n (k-1));omega
  ·rw[uff hk h0 (by omega),List.length_append,List.length_append,Lib.repeatL_length,Lib.decDigits_length]
   have h1:=uft (uai n (k-1-i));have h2:=ih (by omega)
   simp;omega
set_option maxHeartbeats 4000000 in
theorem ufv(w:World)(lo:Nat)(v:Value)(n:Nat)(hv:NatR w lo v n)(hk:dl n≤1000)(hg:Gl w) :
 Calls Tryz.prog 318 #[v] w (FmtPost (Lib.decDigits n) w):=by
 have HV:=hid hv;obtain⟨A,c,rfl⟩:=Limbs.len hv;by_cases h0:dl n=0
 ·have hn:n=0:=uS.1 h0
  subst hn;rw[uab];clear hv;go_enter Tryz.func318,Tryz.ntmps318
  go_wp2;go_ret
  exact⟨by rw[Lib.decDigits_one (by decide)];rfl,Below.refl _ _⟩
 ·obtain⟨_,A',c',hA,hkc,hcm,hb⟩:=hv
  injection hA with hA1 _ hA2;subst hA1;subst hA2;obtain⟨b,off,rfl,hlb,hbb,hcell⟩:=hb (by omega)
  obtain⟨k,hkk⟩:∃k,dl n=k:=⟨_,rfl⟩;rw[hkk]at hkc hk hcell h0 ⊢;unfold maxLen at hcm;have HCE:=hid hcell;have HK:=hid hkk;have HG:=hid hg;have hz:((k:Int)==0)=false:=by simp;omega
  clear hkk hb hg hcell;go_enter Tryz.func318,Tryz.ntmps318
  go_wp2;go_loopw [11] (fun iv wr=>∃(i:Nat),i≤k∧iv = .int .i64 i∧Hid (uyy w n k i wr)) (fun iv _=>k-(intOf iv).toNat)
  case atStart=>exact⟨0,by omega,rfl,Dst.new w,(Below.refl _ _).alloc (Nat.le_refl _) _⟩
  case round=>
   obtain⟨i,hi,rfl,hI⟩:=hrel;by_cases hlt:i<k
   ·obtain⟨d,hd⟩:∃d,dg n (k-1-i)=d:=⟨_,rfl⟩
    have hdl:d<1000000000:=by rw[←hd];exact uai _ _
    have hlen:=ud4 HK.out hi;have hc:wr.cell? ⟨b,off+(k-1-i),none⟩=some (.int .u32 (d:Int)):=(hI.out.2.cell (p:=⟨b,off+(k-1-i),none⟩) hbb).trans ((HCE.out (k-1-i) (by omega)).trans (by rw[hd]))
    have HD:=hid hd;have HGR:=hid (HG.out.below hI.out.2);clear hd;have i1:0≤(k:Int)-1-i:=by omega
    have i2:((k:Int)-1-i).toNat=k-1-i:=by omega
    have i3:(k:Int)-1-i<k:=by omega
    have hdn:(Lib.decDigits d).length≤9:=by rw[Lib.decDigits_length];exact uft (by rw[udd];exact hdl)
    have hdn1:1≤(Lib.decDigits d).length:=by rw[Lib.decDigits_length];exact Lib.nDigits_pos d
    go_wp2_with fail
    refine(uhs _ d (by omega) HGR.out).mono ?_
    rintro e w1⟨rfl,hb1⟩;have HI1:=hid (show uyy w n k i w1 from⟨hI.out.1.below hb1,hI.out.2.trans (hb1.mono hI.out.2.size)⟩)
    have HG1:=hid (HGR.out.below hb1);clear hb1;by_cases hi0:i=0
    ·subst hi0
     go_wp2_with fail
     refine(ufu _ w.heap.size (uat n k 0) ⟨(Lib.decDigits d).toArray⟩ HI1.out.1 (by rw[udq];omega)).mono ?_
     rintro e w2⟨rfl,hf2,hd2⟩;have HI2:=hid (show uyy w n k 1 w2 from⟨by rw[uem HK.out (by omega)];have:=HD.out;rw[Nat.sub_zero]at this;rw[this];simpa[uat]using hd2,HI1.out.2.trans hf2.1⟩)
     clear hf2 hd2;go_wp2;go_roundw
     case rel=>exact⟨1,by omega,by go_num,HI2⟩
     case measure=>simp[intOf];omega
    ·have hip:decide (0<(i:Int))=true:=by simp;omega
     go_wp2_with fail
     have e9:(9:Int)-((Lib.decDigits d).length:Int)=((9-Lib.nDigits d:Nat):Int):=by rw[Lib.decDigits_length]at hdn ⊢;omega
     rw[e9];refine(Tryz.strings_Repeat ⟨#[48]⟩ (9-Lib.nDigits d) _ (by omega) (by show 1*_≤_;omega)).mono ?_
     rintro e w2⟨rfl,hb2⟩;have HI2:=hid (show uyy w n k i w2 from⟨HI1.out.1.below hb2,HI1.out.2.trans (hb2.mono HI1.out.2.size)⟩)
     clear hb2 e9;obtain⟨zs,hzs⟩:∃zs,Lib.repeatL [48] (9-Lib.nDigits d)=zs:=⟨_,rfl⟩;have hzl:zs.length≤9:=by rw[←hzs,Lib.repeatL_length];simp
     have hzs':Lib.repeatL (⟨#[48]⟩:ByteArray).data.toList (9-Lib.nDigits d)=zs:=hzs;rw[hzs'];have HZ:=hid hzs;clear hzs hzs';go_wp2_with fail
     refine(ufu _ w.heap.size (uat n k i) ⟨zs.toArray⟩ HI2.out.1 (by rw[udq];omega)).mono ?_
     rintro e w3⟨rfl,hf3,hd3⟩;have HD3:=hid (show Dst w3 w.heap.size (uat n k i++zs) by simpa using hd3)
     have HB3:=hid (HI2.out.2.trans hf3.1);clear hf3 hd3;go_wp2_with fail
     refine(ufu _ w.heap.size (uat n k i++zs) ⟨(Lib.decDigits d).toArray⟩ HD3.out (by rw[udq,List.length_append];omega)).mono ?_
     rintro e w4⟨rfl,hf4,hd4⟩;have HI4:=hid (show uyy w n k (i+1) w4 from⟨by rw[uff HK.out (by omega) hlt,HD.out,HZ.out,←List.append_assoc];simpa using hd4,HB3.out.trans hf4.1⟩)
     clear hf4 hd4;go_wp2;go_roundw
     case rel=>exact⟨i+1,by omega,by go_num,HI4⟩
     case measure=>simp[intOf];omega
   ·obtain rfl:i=k:=by omega
    go_wp2_with fail
    have hne:uat n i i≠[]:=by
     rw[ud2 (by omega)]
     intro e;have:=Lib.decDigits_length n;rw[e]at this;have:=Lib.nDigits_pos n;simp at *;omega
    have hlen:=ud4 HK.out (Nat.le_refl i);refine(ul5 _ w.heap.size (uat n i i) hI.out.1 hne (by omega)).mono ?_
    rintro e w1⟨rfl,hb⟩;rw[ud2 (by omega)]
    go_wp2;go_ret
    exact⟨rfl,hI.out.2.trans hb⟩
theorem RatV.shape{w:World}{lo:Nat}{v:Value}{K:Nat}{q:Rat}(h:RatV w lo v K q):∃(b:Bool) (A:Option Addr) (k c:Nat) (A':Option Addr) (k' c':Nat),v = .agg #[.bool b,.slice A k c,.slice A' k' c']:=by
 obtain⟨neg,kn,kd,fn,fd,vn,vd,rfl,h1,h2,_⟩:=h;obtain⟨A,c,rfl⟩:=h1.len;obtain⟨A',c',rfl⟩:=h2.len;exact⟨_,_,_,_,_,_,_,rfl⟩
theorem FmtPost.of{b:ByteArray}{l:List UInt8}{w w':World}(h:b.data.toList=l)(hb:Below w.heap.size w w'):FmtPost l w (.returned (.string b)) w':=by
 subst h;exact⟨rfl,hb⟩
theorem udi(n:Nat):(Lib.decDigits n).length≤9*dl n+1:=by
 rcases Nat.eq_zero_or_pos (dl n)with h|h
 ·rw[uS.1 h,Lib.decDigits_one (by decide)];simp
 ·have:=ud4 (n:=n) rfl (Nat.le_refl (dl n))
  rw[ud2 h]at this;omega
set_option maxHeartbeats 4000000 in
theorem uif(w:World)(lo:Nat)(v:Value)(q:Rat)(hv:RatV w lo v 64 q)(hg:Gl w) :
 Calls Tryz.prog 266 #[v] w (FmtPost (ues q) w):=by
 have hsz:=hv.size;have HV:=hid hv;have HG:=hid hg;obtain⟨zb,zA,zk,zc,zD,zl,zd,rfl⟩:=hv.shape;clear hv hg;go_enter Tryz.func266,Tryz.ntmps266
 go_wp2_with fail
 refine(uu3 _ lo _ 64 q (HV.out.below ((Below.refl _ _).alloc (Nat.le_refl _) _)) (by omega)).mono ?_
 rintro e w1⟨v1,rfl,neg,n,d,hF,hd,hn1,hd1,hq,hb1⟩;have HF1:=hid hF;have HQ:=hid hq;have HB1:=hid (((Below.refl _ w).alloc (Nat.le_refl _) (.cells #[.bool zb,.slice zA zk zc,.slice zD zl zd] 76)).trans (hb1.mono (by simp)))
 have hsz1:w.heap.size+1≤w1.heap.size:=by have:=hb1.size;simpa using this
 obtain⟨A,c,A',c',rfl,h1,h2⟩:=hF.form;clear hF hq hb1 h1 h2;go_wp2_with fail
 refine(uia _ (w.heap.size+1) _ neg n d (by omega) (by have:=HF1.out;simpa using this) hd (by omega) (by omega)).mono ?_
 rintro e w2⟨v2,rfl,hor,hb2⟩;have hR:RatR w2 (w.heap.size+1) v2 q:=by
  rw[HQ.out];rcases hor with⟨rfl,h⟩|h
  ·exact h _ _ ((by have:=HF1.out;simpa using this:FracR w1 (w.heap.size+1) _ neg n d).below hb2)
  ·exact h.lower (by omega)
 have HB2:=hid (HB1.out.trans (hb2.mono (by omega)))
 have hsz2:w.heap.size+1≤w2.heap.size:=by have:=hb2.size;omega
 clear hor hb2;obtain⟨vn,vd,rfl,hn,hdn⟩:=hR;have HN:=hid hn;have HD:=hid hdn;obtain⟨A1,c1,rfl⟩:=Limbs.len hn;obtain⟨A2,c2,rfl⟩:=Limbs.len hdn;clear hn hdn;have hszn:dl q.num.natAbs≤65:=Nat.le_trans (Nat.le_max_left _ _) hsz;have hszd:dl q.den≤65:=Nat.le_trans (Nat.le_max_right _ _) hsz;have HG2:=hid (HG.out.below HB2.out);go_wp2_with fail
 refine(ufv _ (w.heap.size+1) _ q.num.natAbs (HN.out.alloc _) (by omega) (HG2.out.alloc _)).mono ?_
 rintro e w3⟨rfl,hb3⟩;have cb0:w3.cell? ⟨w2.heap.size,0,none⟩=some (.bool (decide (q.num<0))):=(hb3.cell (p:=⟨w2.heap.size,0,none⟩) (by simp)).trans (by simp[go_sem])
 have cb2:w3.cell? ⟨w2.heap.size,2,none⟩=some (.slice A2 (dl q.den) c2):=(hb3.cell (p:=⟨w2.heap.size,2,none⟩) (by simp)).trans (by simp[go_sem])
 have HB3:=hid ((HB2.out.alloc HB2.out.size (.cells #[.bool (decide (q.num<0)),.slice A1 (dl q.num.natAbs) c1,.slice A2 (dl q.den) c2] 291)).trans (hb3.mono (by simp;omega)))
 have HD3:=hid ((HD.out.alloc (.cells #[.bool (decide (q.num<0)),.slice A1 (dl q.num.natAbs) c1,.slice A2 (dl q.den) c2] 291)).below hb3);have HG3:=hid (HG.out.below HB3.out);have hsz3:w2.heap.size<w3.heap.size:=by have:=hb3.size;simp at this;omega
 clear hb3;have hl1:(Lib.decDigits q.num.natAbs).length≤1000:=by have:=udi q.num.natAbs;omega
 have hl2:(Lib.decDigits q.den).length≤1000:=by have:=udi q.den;omega
 by_cases hneg:q.num<0
 ·have hdn:decide (q.num<0)=true:=by simpa using hneg
  by_cases hone:q.den=1
  ·go_wp2_with fail
   refine(ufa _ (w.heap.size+1) _ (by have:=HD3.out;rw[hone]at this;exact this)).mono ?_
   rintro e w4⟨rfl,rfl⟩;go_wp2;go_ret
   refine FmtPost.of ?_ HB3.out;simp[ues,hneg,hone]
  ·go_wp2_with fail
   refine(ugg _ (w.heap.size+1) _ q.den HD3.out hone).mono ?_;rintro e w4⟨rfl,rfl⟩;go_wp2_with fail
   refine(ufv _ (w.heap.size+1) _ q.den HD3.out (by omega) HG3.out).mono ?_
   rintro e w5⟨rfl,hb5⟩;go_wp2;go_ret
   refine FmtPost.of ?_ (HB3.out.trans (hb5.mono HB3.out.size));simp[ues,hneg,hone]
 ·have hdn:decide (q.num<0)=false:=by simpa using hneg
  by_cases hone:q.den=1
  ·go_wp2_with fail
   refine(ufa _ (w.heap.size+1) _ (by have:=HD3.out;rw[hone]at this;exact this)).mono ?_
   rintro e w4⟨rfl,rfl⟩;go_wp2;go_ret
   refine FmtPost.of ?_ HB3.out;simp[ues,hneg,hone]
  ·go_wp2_with fail
   refine(ugg _ (w.heap.size+1) _ q.den HD3.out hone).mono ?_;rintro e w4⟨rfl,rfl⟩;go_wp2_with fail
   refine(ufv _ (w.heap.size+1) _ q.den HD3.out (by omega) HG3.out).mono ?_
   rintro e w5⟨rfl,hb5⟩;go_wp2;go_ret
   refine FmtPost.of ?_ (HB3.out.trans (hb5.mono HB3.out.size));simp[ues,hneg,hone]
end Go.Proofs.YtellcholbkoakaaGreatDoor
