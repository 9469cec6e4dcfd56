/-
 The reference's reader: whole numbers,rational numbers,booleans.
-/
import Derived.Test.YtellcholbkoakaaGreatDoorHVd
import Derived.Test.YtellcholbkoakaaGreatDoorHVj
import Derived.Test.YtellcholbkoakaaGreatDoorHVi
import Derived.Test.YtellcholbkoakaaGreatDoorHCPd
namespace Go.Proofs.YtellcholbkoakaaGreatDoor
open Go.Lib (hid)
open Go.RowKit AC
set_option linter.unusedVariables false
set_option linter.unusedSimpArgs false
theorem VWPost.o{br:Nat}{str:ByteArray}{o:Option (List UInt8)}{w w':World}{e:Ending}(h:VWPost br str o w e w'):e = .returned (.string ⟨(wordO o).toArray⟩)∧Vst w' br str (o.map restOf)∧Fr (· = br) w w':=by
 obtain⟨h1,h2,h3⟩:=h;refine⟨?_,h2,h3⟩;rw[h1];cases o<;>rfl
theorem wordO_short{w:World}{br:Nat}{str:ByteArray}{o:Option (List UInt8)}(h:Vst w br str o):(wordO o).length≤262144:=by
 cases o with
 | none=>simp[wordO]
 | some r=>
  have h1:=h.short;have h2:=restOf_len r;show(wordOf r).length≤_
  omega
theorem VPost.word{s:Shape}{ok:List UInt8→Bool}{br:Nat}{str:ByteArray}{o:Option (List UInt8)}{w w':World}{v:List Value}(hrd:∀o,rd s 0 o=rdWord ok o)(h0:ok []=false){l:List UInt8}(hl:wordO o=l)(hok:ok l=true)(hty:Ty s v)(hst:Vst w' br str (o.map restOf))(hf:Fr (· = br) w w')
 (hrep:Rep w' (w.heap.size ≤ ·) s v [l]):VPost s br str o w (.returned (valOf s v)) w':=by
 subst hl;refine⟨v,rfl,hty,by rw[hrd,rdWord_yes h0 hok];exact hst,hf,fun r r' ho hr=>?_⟩
 rw[hrd,rdWord_yes h0 hok]at hr;exact⟨_,rdWord_text (ok:=ok) ho hr,hrep⟩
theorem VPost.bad{s:Shape}{ok:List UInt8→Bool}{br:Nat}{str:ByteArray}{o:Option (List UInt8)}{w w':World}{v:List Value}(hrd:∀o,rd s 0 o=rdWord ok o)(h0:ok []=false){l:List UInt8}(hl:wordO o=l)(hok:ok l=false)(hty:Ty s v)(hst:Vst w' br str none)(hf:Fr (· = br) w w'):VPost s br str o w (.returned (valOf s v)) w':=by
 subst hl;have hno:rd s 0 o=none:=by rw[hrd];exact rdWord_not h0 hok
 exact⟨v,rfl,hty,by rw[hno];exact hst,hf,fun r r' ho hr=>by rw[hno]at hr;cases hr⟩
theorem ratV_zero(w:World)(lo:Nat):RatV w lo (.agg #[.bool false,.slice none 0 0,.slice none 0 0]) 64 0:=
 ⟨false,0,0,fun _=>0,fun _=>0,_,_,rfl,⟨fun i hi=>absurd hi (by omega),none,0,rfl,by omega,by unfold maxLen;omega,fun h=>absurd h (by omega)⟩,⟨fun i hi=>absurd hi (by omega),none,0,rfl,by omega,by unfold maxLen;omega,fun h=>absurd h (by omega)⟩,by omega,by omega,by simp[vs,sg,Rat.mkRat_zero]⟩
theorem okInt_q{l:List UInt8}{q:Rat}(h:parseQ l=some q):okInt l=(fitsQ q&&(Lib.itoa q.num==l)):=by
 rw[←okRef_int];unfold okRef fitsQ;rw[h];by_cases h1:q.den=1<;>by_cases h2 : -9223372036854775808≤q.num<;>by_cases h3:q.num≤9223372036854775807<;>by_cases h4:Lib.itoa q.num=l<;>simp[h1,h2,h3,h4]
theorem okInt_no{l:List UInt8}(h:parseQ l=none):okInt l=false:=by
 rw[←okRef_int];unfold okRef;rw[h];rfl
set_option maxHeartbeats 4000000 in
theorem v_flag:VReads 13 .bool 262144:=by
 intro w br str o hr hl;have HR:=hid hr;clear hr hl;obtain⟨l,hl⟩:∃l,wordO o=l:=⟨_,rfl⟩;have HL:=hid hl;clear hl;go_enter Tryz.func13,Tryz.ntmps13
 go_wp2_with fail
 refine(vword_any _ br str o HR.out).mono ?_;intro e w1 hw;obtain⟨rfl,hst,hf⟩:=hw.o;rw[HL.out];have c2:=hst.cell;have f2:=hst.frozen 2;obtain⟨nb,hnb⟩:∃nb,(o.map restOf).isNone=nb:=⟨_,rfl⟩;rw[hnb]at c2;have HNB:=hid hnb;have HST:=hid hst;have HF:=hid hf;clear hst hf hw hnb;by_cases h0:l=[48]
 ·subst h0
  cases nb with
  | true=>
   have hno:o=none:=by have:=HNB.out;cases o<;>simp_all
   have:=HL.out;rw[hno]at this;cases this
  | false=>
   go_wp2;go_ret
   refine VPost.word (s:= .bool) (ok:=okBool) (v:=[.bool false]) (fun _=>rfl) rfl HL.out rfl ⟨_,rfl⟩ ?_ (HF.out.wr _ _) ⟨false,rfl,rfl⟩
   exact HST.out.same HNB.out
 ·by_cases h1:l=[49]
  ·subst h1
   cases nb with
   | true=>
    have hno:o=none:=by have:=HNB.out;cases o<;>simp_all
    have:=HL.out;rw[hno]at this;cases this
   | false=>
    go_wp2;go_ret
    refine VPost.word (s:= .bool) (ok:=okBool) (v:=[.bool true]) (fun _=>rfl) rfl HL.out rfl ⟨_,rfl⟩ ?_ (HF.out.wr _ _) ⟨true,rfl,rfl⟩
    exact HST.out.same HNB.out
  ·have e0:(l==[48])=false:=by simpa using h0
   have e1:(l==[49])=false:=by simpa using h1
   have e2:(l != [48])=true:=by simpa using h0
   have e3:(l != [49])=true:=by simpa using h1
   have hok:okBool l=false:=by unfold okBool;rw[e0,e1];rfl
   have HOK:=hid hok;clear h0 h1 hok;cases nb with
   | true=>
    go_wp2;go_ret
    exact VPost.bad (s:= .bool) (ok:=okBool) (v:=[.bool false]) (fun _=>rfl) rfl HL.out HOK.out ⟨_,rfl⟩ HST.out.spoil (HF.out.wr _ _)
   | false=>
    go_wp2;go_ret
    exact VPost.bad (s:= .bool) (ok:=okBool) (v:=[.bool false]) (fun _=>rfl) rfl HL.out HOK.out ⟨_,rfl⟩ HST.out.spoil (HF.out.wr _ _)
set_option maxHeartbeats 4000000 in
theorem v_long:VReads 49 .int 262144:=by
 intro w br str o hr hl;have HR:=hid hr;have hsz:=wordO_short hr;clear hr hl;obtain⟨l,hl⟩:∃l,wordO o=l:=⟨_,rfl⟩;rw[hl]at hsz;have HL:=hid hl;clear hl;go_enter Tryz.func49,Tryz.ntmps49
 go_wp2_with fail
 refine(vword_any _ br str o HR.out).mono ?_;intro e w1 hw;obtain⟨rfl,hst,hf⟩:=hw.o;rw[HL.out];have HST:=hid hst;have HF:=hid hf;clear hst hf hw;go_wp2_with fail
 refine(rParse_any _ _ (by rw[len_of];exact hsz)).mono ?_
 intro e w2 hp;have e3:(⟨l.toArray⟩:ByteArray).data.toList=l:=by simp
 rw[e3]at hp;clear e3;rcases hp with⟨v,q,hq,rfl,hv,hb⟩|⟨hq,rfl,hb⟩
 ·have HOK:=hid (okInt_q hq)
  have a2:=hid (HST.out.below hb);have HF2:=hid (HF.out.below hb);have HV:=hid hv;obtain⟨zb,zA,zk,zc,zD,zl,zd,rfl⟩:=hv.form;clear hq hv hb;go_wp2_with fail
  refine(rToInt_any _ w1.heap.size _ q (HV.out.below ((Below.refl _ _).alloc (Nat.le_refl _) _))).mono ?_;rintro e w3⟨rfl,hb⟩;have hbA:=((Below.refl w2.heap.size w2).alloc (Nat.le_refl _) (.cells #[.bool zb,.slice zA zk zc,.slice zD zl zd] 76)).trans (hb.mono (by simp))
  have a0:=hid (a2.out.below hbA);have HF3:=hid (HF2.out.below hbA);clear hb hbA;cases hfit:fitsQ q with
  | false=>
   have hok:okInt l=false:=by rw[HOK.out,hfit];rfl
   have HNO:=hid hok;have c2:=a0.out.cell;have f2:=a0.out.frozen 2;clear hok hfit;rw[if_neg (by decide)]
   go_wp2;go_ret
   exact VPost.bad (s:= .int) (ok:=okInt) (v:=[.int .i64 0]) (fun _=>rfl) okInt_nil HL.out HNO.out ⟨0,rfl,by omega,by omega⟩ a0.out.spoil (HF3.out.wr _ _)
  | true=>
   rw[if_pos rfl];have hb1 : -9223372036854775808≤q.num∧q.num≤9223372036854775807:=by
    unfold fitsQ at hfit;simp only[Bool.and_eq_true,decide_eq_true_eq]at hfit;exact⟨hfit.1.2,hfit.2⟩
   have HFT:=hid hfit;obtain⟨n,hn⟩:∃n,q.num=n:=⟨_,rfl⟩;rw[hn]at hb1 ⊢;have HN:=hid hn;obtain⟨hn1,hn2⟩:=hb1;clear hfit hn;go_wp2_with fail
   refine(decimal_any _ n hn1 hn2).mono ?_;rintro e w4⟨rfl,hb⟩;have a1:=hid (a0.out.below hb);have HF4:=hid (HF3.out.below hb);have c2:=a1.out.cell;have f2:=a1.out.frozen 2;clear hb;by_cases heq:Lib.itoa n=l
   ·have e0:(Lib.itoa n==l)=true:=by simp[heq]
    have hok:okInt l=true:=by rw[HOK.out,HFT.out,HN.out,heq];simp
    have HY:=hid hok;have HEQ:=hid heq;clear hok heq;go_wp2;go_ret
    exact VPost.word (s:= .int) (ok:=okInt) (v:=[.int .i64 n]) (fun _=>rfl) okInt_nil HL.out HY.out ⟨n,rfl,hn1,hn2⟩ a1.out HF4.out ⟨n,rfl,hn1,hn2,by rw[HEQ.out]⟩
   ·have e0:(Lib.itoa n==l)=false:=by simp[heq]
    have hok:okInt l=false:=by rw[HOK.out,HFT.out,HN.out];simp[heq]
    have HNO:=hid hok;clear hok heq;go_wp2;go_ret
    exact VPost.bad (s:= .int) (ok:=okInt) (v:=[.int .i64 0]) (fun _=>rfl) okInt_nil HL.out HNO.out ⟨0,rfl,by omega,by omega⟩ a1.out.spoil (HF4.out.wr _ _)
 ·have HNO:=hid (okInt_no hq)
  have a2:=hid (HST.out.below hb);have HF2:=hid (HF.out.below hb);clear hq hb;go_wp2_with fail
  refine(rToInt_any _ w1.heap.size _ 0 (ratV_zero _ _)).mono ?_;rintro e w3⟨rfl,hb⟩;have hbA:=((Below.refl w2.heap.size w2).alloc (Nat.le_refl _) (.cells #[.bool false,.slice none 0 0,.slice none 0 0] 76)).trans (hb.mono (by simp))
  have a0:=hid (a2.out.below hbA);have HF3:=hid (HF2.out.below hbA);have c2:=a0.out.cell;have f2:=a0.out.frozen 2;clear hb hbA;go_wp2;go_ret
  exact VPost.bad (s:= .int) (ok:=okInt) (v:=[.int .i64 0]) (fun _=>rfl) okInt_nil HL.out HNO.out ⟨0,rfl,by omega,by omega⟩ a0.out.spoil (HF3.out.wr _ _)
set_option maxHeartbeats 4000000 in
theorem v_num:VReads 20 .int 262144:=by
 intro w br str o hr hl;have HR:=hid hr;clear hr hl;go_enter Tryz.func20,Tryz.ntmps20
 go_wp2_with fail
 refine(v_long.go _ br str _ HR.out).mono ?_;rintro e w2⟨v,rfl,hp⟩;obtain⟨zn,rfl⟩:=ty_int hp.1;rw[val_int];have HP:=hid hp;clear hp;go_wp2;go_ret
 exact⟨_,rfl,HP.out⟩
set_option maxHeartbeats 4000000 in
theorem v_rat:VReads 132 .rat 262144:=by
 intro w br str o hr hl;have HR:=hid hr;have hbr:=hr.lt;have hsz:=wordO_short hr;clear hr hl;obtain⟨l,hl⟩:∃l,wordO o=l:=⟨_,rfl⟩;rw[hl]at hsz;have HL:=hid hl;clear hl;go_enter Tryz.func132,Tryz.ntmps132
 go_wp2_with fail
 refine(vword_any _ br str o (HR.out.alloc _)).mono ?_;intro e w1 hw;obtain⟨rfl,hst,hf⟩:=hw.o;rw[HL.out];have hk1:=(AC.Bk.new w 76 #[.bool false,.slice none 0 0,.slice none 0 0]).fr hf (by show ¬w.heap.size=br;omega)
 have HST:=hid hst;have HF:=hid (((Fr.refl (· = br) w).alloc (.cells #[.bool false,.slice none 0 0,.slice none 0 0] 76)).trans hf)
 have HK1:=hid hk1;have a3:w.heap.size+1≤w1.heap.size:=hk1.lt;clear hst hf hk1 hw;go_wp2_with fail
 refine(rParse_any _ _ (by rw[len_of];exact hsz)).mono ?_
 intro e w2 hp;have e3:(⟨l.toArray⟩:ByteArray).data.toList=l:=by simp
 rw[e3]at hp;clear e3;rcases hp with⟨v,q,hq,rfl,hv,hb⟩|⟨hq,rfl,hb⟩
 ·have HOK:=hid (okRat_of hq)
  have a0:=hid (HST.out.below hb);have HF2:=hid (HF.out.below hb);have HV:=hid hv;have HK2:=hid (HK1.out.below hb HK1.out.lt);have a2:w1.heap.size≤w2.heap.size:=hb.size;obtain⟨zb,zA,zk,zc,zD,zl,zd,rfl⟩:=hv.form;clear hq hv hb;go_wp2_with fail
  refine(rFormat_any _ w1.heap.size _ q (HV.out.below ((Below.refl _ _).alloc (Nat.le_refl _) _))).mono ?_;rintro e w3⟨rfl,hb⟩;have hbA:=((Below.refl w2.heap.size w2).alloc (Nat.le_refl _) (.cells #[.bool zb,.slice zA zk zc,.slice zD zl zd] 76)).trans (hb.mono (by simp))
  have hkn:=(AC.Bk.new w2 76 #[.bool zb,.slice zA zk zc,.slice zD zl zd]).below hb (by simp)
  have a1:=hid (a0.out.below hbA);have HF3:=hid (HF2.out.below hbA);have HV3:=hid (HV.out.below hbA);have HK3:=hid (HK2.out.below hbA HK2.out.lt);have n0:=hkn.cell 0;have n1:=hkn.cell 1;have n2:=hkn.cell 2;have c2:=a1.out.cell;have f2:=a1.out.frozen 2;have k0:=HK3.out.cell 0;have k1:=HK3.out.cell 1;have k2:=HK3.out.cell 2;have g0:=HK3.out.frozen 0;have g1:=HK3.out.frozen 1;have g2:=HK3.out.frozen 2;simp only[gq]at n0 n1 n2 k0 k1 k2;clear hb hbA hkn;by_cases hq:fmtQ q=l
  ·have e0:(fmtQ q==l)=true:=by simpa using hq
   have e1:(fmtQ q != l)=false:=by simp[hq]
   have HQ:=hid hq;clear hq;go_wp2;have hb3:=((HK3.out.set 0 (.bool zb)).set 1 (.slice zA zk zc)).set 2 (.slice zD zl zd);have r0:=hb3.cell 0;have r1:=hb3.cell 1;have r2:=hb3.cell 2;refine bodyPost_ret (v:= .agg #[.bool zb,.slice zA zk zc,.slice zD zl zd]) (by simp[results,Tryz.results132,go_sem,r0,r1,r2]) rfl ?_
   have hok:okRat l=true:=by rw[HOK.out];exact e0
   refine VPost.word (s:= .rat) (ok:=okRat) (v:=[.bool zb,.slice zA zk zc,.slice zD zl zd]) (fun _=>rfl) okRat_nil HL.out hok ⟨_,_,_,_,_,_,_,rfl⟩ (a1.out.stores (b:=w.heap.size) (by omega) 0 [_,_,_]) (HF3.out.then (((Fr.refl (· = w.heap.size) _).wr _ _).wr _ _ |>.wr _ _) (fun x hx=> .inr (by have hx':x=w.heap.size:=hx;omega))) ⟨q,?_,by rw[HQ.out]⟩
   obtain⟨ng,kn,kd,fn,fd,xn,xd,hx,l1,l2,l3,l4,l5⟩:=HV3.out;refine RatV.inD (lo:=w1.heap.size) ⟨ng,kn,kd,fn,fd,xn,xd,hx,limbs_set3 l1 (by omega) _ _ _,limbs_set3 l2 (by omega) _ _ _,l3,l4,l5⟩ (fun b hb _=>?_)
   show w.heap.size≤b
   omega
  ·have e0:(fmtQ q==l)=false:=by simpa using hq
   have e1:(fmtQ q != l)=true:=by simp[hq]
   clear hq;go_wp2;have hfb:Fr (· = br) w3 (w3.setCell ⟨br,2,none⟩ (.bool true)):=(Fr.refl _ _).wr _ _
   have hb3:=(((HK3.out.fr hfb (fun h=>by have h':w.heap.size=br:=h;omega)).set 0 (.bool false)).set 1 (.slice none 0 0)).set 2 (.slice none 0 0)
   have r0:=hb3.cell 0;have r1:=hb3.cell 1;have r2:=hb3.cell 2;refine bodyPost_ret (v:= .agg #[.bool false,.slice none 0 0,.slice none 0 0]) (by simp[results,Tryz.results132,go_sem,r0,r1,r2]) rfl ?_
   have hok:okRat l=false:=by rw[HOK.out];exact e0
   exact VPost.bad (s:= .rat) (ok:=okRat) (v:=[.bool false,.slice none 0 0,.slice none 0 0]) (fun _=>rfl) okRat_nil HL.out hok ⟨_,_,_,_,_,_,_,rfl⟩ (a1.out.spoil.stores (b:=w.heap.size) (by omega) 0 [_,_,_]) ((HF3.out.trans hfb).then (((Fr.refl (· = w.heap.size) _).wr _ _).wr _ _ |>.wr _ _) (fun x hx=> .inr (by have hx':x=w.heap.size:=hx;omega)))
 ·have HNO:=hid (okRat_not hq)
  have a0:=hid (HST.out.below hb);have HF2:=hid (HF.out.below hb);have HK2:=hid (HK1.out.below hb HK1.out.lt);have a2:w1.heap.size≤w2.heap.size:=hb.size;have HSTA:=hid (a0.out.alloc (.cells #[.bool false,.slice none 0 0,.slice none 0 0] 76));have c2:=a0.out.cell;have f2:=a0.out.frozen 2;have k0:=HK2.out.cell 0;have k1:=HK2.out.cell 1;have k2:=HK2.out.cell 2;have g0:=HK2.out.frozen 0;have g1:=HK2.out.frozen 1;have g2:=HK2.out.frozen 2;simp only[gq]at k0 k1 k2;have a4:br<w2.heap.size:=by omega
  have a5:w.heap.size<w2.heap.size:=by omega
  clear hq hb;go_wp2;have hfb:Fr (· = br) w2 (w2.setCell ⟨br,2,none⟩ (.bool true)):=(Fr.refl _ _).wr _ _
  have hb3:=((((HK2.out.fr hfb (fun h=>by have h':w.heap.size=br:=h;omega)).set 0 (.bool false)).set 1 (.slice none 0 0)).set 2 (.slice none 0 0)).alloc (.cells #[.bool false,.slice none 0 0,.slice none 0 0] 76)
  have r0:=hb3.cell 0;have r1:=hb3.cell 1;have r2:=hb3.cell 2;refine bodyPost_ret (v:= .agg #[.bool false,.slice none 0 0,.slice none 0 0]) (by simp[results,Tryz.results132,go_sem,r0,r1,r2]) rfl ?_
  refine VPost.bad (s:= .rat) (ok:=okRat) (v:=[.bool false,.slice none 0 0,.slice none 0 0]) (fun _=>rfl) okRat_nil HL.out HNO.out ⟨_,_,_,_,_,_,_,rfl⟩ ((a0.out.spoil.stores (b:=w.heap.size) (by omega) 0 [_,_,_]).alloc _) (((HF2.out.trans hfb).then (((Fr.refl (· = w.heap.size) _).wr _ _).wr _ _ |>.wr _ _) (fun x hx=> .inr (by have hx':x=w.heap.size:=hx;omega))).alloc _)
end Go.Proofs.YtellcholbkoakaaGreatDoor
