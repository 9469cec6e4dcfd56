/-
 The reference's reader: whole numbers,rational numbers,booleans.
-/
import Derived.Test.YtellcholbkoakaaGreatDoorHVd
import Derived.Test.YtellcholbkoakaaGreatDoorHVc
import Derived.Test.YtellcholbkoakaaGreatDoorHVi
import Derived.Test.YtellcholbkoakaaGreatDoorHCPd
namespace Go.Proofs.YtellcholbkoakaaGreatDoor
open Go.Lib (hid)
open Go.RowKit AC
set_option linter.unusedVariables false
set_option linter.unusedSimpArgs false
theorem VWPost.o{br:Nat}{str:ByteArray}{o:Option (List UInt8)}{w w':World}{e:Ending}(h:VWPost br str o w e w'):e = .returned (.string ⟨(ubm o).toArray⟩)∧Vst w' br str (o.map ubn)∧Fr (· = br) w w':=by
 obtain⟨h1,h2,h3⟩:=h;refine⟨?_,h2,h3⟩;rw[h1];cases o<;>rfl
theorem uhc{w:World}{br:Nat}{str:ByteArray}{o:Option (List UInt8)}(h:Vst w br str o):(ubm o).length≤262144:=by
 cases o with
 | none=>simp[ubm]
 | some r=>
  have h1:=h.short;have h2:=ucb r;show(uar r).length≤_
  omega
theorem VPost.word{s:Shape}{ok:List UInt8→Bool}{br:Nat}{str:ByteArray}{o:Option (List UInt8)}{w w':World}{v:List Value}(a1:∀o,rd s 0 o=ubh ok o)(h0:ok []=false){l:List UInt8}(hl:ubm o=l)(a0:ok l=true)(a4:Ty s v)(a3:Vst w' br str (o.map ubn))(hf:Fr (· = br) w w')
 (a2:Rep w' (w.heap.size ≤ ·) s v [l]):VPost s br str o w (.returned (uas s v)) w':=by
 subst hl;refine⟨v,rfl,a4,by rw[a1,ua4 h0 a0];exact a3,hf,fun r r' ho hr=>?_⟩
 rw[a1,ua4 h0 a0]at hr;exact⟨_,ucl (ok:=ok) ho hr,a2⟩
theorem VPost.bad{s:Shape}{ok:List UInt8→Bool}{br:Nat}{str:ByteArray}{o:Option (List UInt8)}{w w':World}{v:List Value}(a2:∀o,rd s 0 o=ubh ok o)(h0:ok []=false){l:List UInt8}(hl:ubm o=l)(a1:ok l=false)(a4:Ty s v)(a3:Vst w' br str none)(hf:Fr (· = br) w w'):VPost s br str o w (.returned (uas s v)) w':=by
 subst hl;have a0:rd s 0 o=none:=by rw[a2];exact uc3 h0 a1
 exact⟨v,rfl,a4,by rw[a0];exact a3,hf,fun r r' ho hr=>by rw[a0]at hr;cases hr⟩
theorem utj(w:World)(lo:Nat):RatV w lo (.agg #[.bool false,.slice none 0 0,.slice none 0 0]) 64 0:=
 ⟨false,0,0,fun _=>0,fun _=>0,_,_,rfl,⟨fun i hi=>absurd hi (by omega),none,0,rfl,by omega,by unfold maxLen;omega,fun h=>absurd h (by omega)⟩,⟨fun i hi=>absurd hi (by omega),none,0,rfl,by omega,by unfold maxLen;omega,fun h=>absurd h (by omega)⟩,by omega,by omega,by simp[vs,sg,Rat.mkRat_zero]⟩
theorem ux0{l:List UInt8}{q:Rat}(h:ubc l=some q):ubl l=(ucw q&&(Lib.itoa q.num==l)):=by
 rw[←ukf];unfold usp ucw;rw[h];by_cases h1:q.den=1<;>by_cases h2 : -9223372036854775808≤q.num<;>by_cases h3:q.num≤9223372036854775807<;>by_cases h4:Lib.itoa q.num=l<;>simp[h1,h2,h3,h4]
theorem uv6{l:List UInt8}(h:ubc l=none):ubl l=false:=by
 rw[←ukf];unfold usp;rw[h];rfl
set_option maxHeartbeats 4000000 in
theorem uxa:VReads 13 .bool 262144:=by
 intro w br str o hr hl;have HR:=hid hr;clear hr hl;obtain⟨l,hl⟩:∃l,ubm o=l:=⟨_,rfl⟩;have HL:=hid hl;clear hl;go_enter Tryz.func13,Tryz.ntmps13
 go_wp2_with fail
 refine(ug5 _ br str o HR.out).mono ?_;intro e w1 hw;obtain⟨rfl,a2,hf⟩:=hw.o;rw[HL.out];have c2:=a2.cell;have f2:=a2.frozen 2;obtain⟨nb,a3⟩:∃nb,(o.map ubn).isNone=nb:=⟨_,rfl⟩;rw[a3]at c2;have a0:=hid a3;have a1:=hid a2;have HF:=hid hf;clear a2 hf hw a3;by_cases h0:l=[48]
 ·subst h0
  cases nb with
  | true=>
   have a4:o=none:=by have:=a0.out;cases o<;>simp_all
   have:=HL.out;rw[a4]at this;cases this
  | false=>
   go_wp2;go_ret
   refine VPost.word (s:= .bool) (ok:=ubu) (v:=[.bool false]) (fun _=>rfl) rfl HL.out rfl ⟨_,rfl⟩ ?_ (HF.out.wr _ _) ⟨false,rfl,rfl⟩
   exact a1.out.same a0.out
 ·by_cases h1:l=[49]
  ·subst h1
   cases nb with
   | true=>
    have a4:o=none:=by have:=a0.out;cases o<;>simp_all
    have:=HL.out;rw[a4]at this;cases this
   | false=>
    go_wp2;go_ret
    refine VPost.word (s:= .bool) (ok:=ubu) (v:=[.bool true]) (fun _=>rfl) rfl HL.out rfl ⟨_,rfl⟩ ?_ (HF.out.wr _ _) ⟨true,rfl,rfl⟩
    exact a1.out.same a0.out
  ·have e0:(l==[48])=false:=by simpa using h0
   have e1:(l==[49])=false:=by simpa using h1
   have e2:(l != [48])=true:=by simpa using h0
   have e3:(l != [49])=true:=by simpa using h1
   have a6:ubu l=false:=by unfold ubu;rw[e0,e1];rfl
   have a5:=hid a6;clear h0 h1 a6;cases nb with
   | true=>
    go_wp2;go_ret
    exact VPost.bad (s:= .bool) (ok:=ubu) (v:=[.bool false]) (fun _=>rfl) rfl HL.out a5.out ⟨_,rfl⟩ a1.out.spoil (HF.out.wr _ _)
   | false=>
    go_wp2;go_ret
    exact VPost.bad (s:= .bool) (ok:=ubu) (v:=[.bool false]) (fun _=>rfl) rfl HL.out a5.out ⟨_,rfl⟩ a1.out.spoil (HF.out.wr _ _)
set_option maxHeartbeats 4000000 in
theorem uou:VReads 49 .int 262144:=by
 intro w br str o hr hl;have HR:=hid hr;have b7:=uhc hr;clear hr hl;obtain⟨l,hl⟩:∃l,ubm o=l:=⟨_,rfl⟩;rw[hl]at b7;have HL:=hid hl;clear hl;go_enter Tryz.func49,Tryz.ntmps49
 go_wp2_with fail
 refine(ug5 _ br str o HR.out).mono ?_;intro e w1 hw;obtain⟨rfl,b6,hf⟩:=hw.o;rw[HL.out];have b4:=hid b6;have HF:=hid hf;clear b6 hf hw;go_wp2_with fail
 refine(uir _ _ (by rw[udq];exact b7)).mono ?_
 intro e w2 hp;have e3:(⟨l.toArray⟩:ByteArray).data.toList=l:=by simp
 rw[e3]at hp;clear e3;rcases hp with⟨v,q,hq,rfl,hv,hb⟩|⟨hq,rfl,hb⟩
 ·have a8:=hid (ux0 hq)
  have a9:=hid (b4.out.below hb);have a7:=hid (HF.out.below hb);have HV:=hid hv;obtain⟨zb,zA,zk,zc,zD,zl,zd,rfl⟩:=hv.form;clear hq hv hb;go_wp2_with fail
  refine(uis _ w1.heap.size _ q (HV.out.below ((Below.refl _ _).alloc (Nat.le_refl _) _))).mono ?_;rintro e w3⟨rfl,hb⟩;have a2:=((Below.refl w2.heap.size w2).alloc (Nat.le_refl _) (.cells #[.bool zb,.slice zA zk zc,.slice zD zl zd] 76)).trans (hb.mono (by simp))
  have a0:=hid (a9.out.below a2);have a5:=hid (a7.out.below a2);clear hb a2;cases hfit:ucw q with
  | false=>
   have a1:ubl l=false:=by rw[a8.out,hfit];rfl
   have a4:=hid a1;have c2:=a0.out.cell;have f2:=a0.out.frozen 2;clear a1 hfit;rw[if_neg (by decide)]
   go_wp2;go_ret
   exact VPost.bad (s:= .int) (ok:=ubl) (v:=[.int .i64 0]) (fun _=>rfl) udt HL.out a4.out ⟨0,rfl,by omega,by omega⟩ a0.out.spoil (a5.out.wr _ _)
  | true=>
   rw[if_pos rfl];have b5 : -9223372036854775808≤q.num∧q.num≤9223372036854775807:=by
    unfold ucw at hfit;simp only[Bool.and_eq_true,decide_eq_true_eq]at hfit;exact⟨hfit.1.2,hfit.2⟩
   have b3:=hid hfit;obtain⟨n,hn⟩:∃n,q.num=n:=⟨_,rfl⟩;rw[hn]at b5 ⊢;have HN:=hid hn;obtain⟨b0,b1⟩:=b5;clear hfit hn;go_wp2_with fail
   refine(uha _ n b0 b1).mono ?_;rintro e w4⟨rfl,hb⟩;have a6:=hid (a0.out.below hb);have b2:=hid (a5.out.below hb);have c2:=a6.out.cell;have f2:=a6.out.frozen 2;clear hb;by_cases a3:Lib.itoa n=l
   ·have e0:(Lib.itoa n==l)=true:=by simp[a3]
    have a1:ubl l=true:=by rw[a8.out,b3.out,HN.out,a3];simp
    have HY:=hid a1;have b8:=hid a3;clear a1 a3;go_wp2;go_ret
    exact VPost.word (s:= .int) (ok:=ubl) (v:=[.int .i64 n]) (fun _=>rfl) udt HL.out HY.out ⟨n,rfl,b0,b1⟩ a6.out b2.out ⟨n,rfl,b0,b1,by rw[b8.out]⟩
   ·have e0:(Lib.itoa n==l)=false:=by simp[a3]
    have a1:ubl l=false:=by rw[a8.out,b3.out,HN.out];simp[a3]
    have a4:=hid a1;clear a1 a3;go_wp2;go_ret
    exact VPost.bad (s:= .int) (ok:=ubl) (v:=[.int .i64 0]) (fun _=>rfl) udt HL.out a4.out ⟨0,rfl,by omega,by omega⟩ a6.out.spoil (b2.out.wr _ _)
 ·have a4:=hid (uv6 hq)
  have a9:=hid (b4.out.below hb);have a7:=hid (HF.out.below hb);clear hq hb;go_wp2_with fail
  refine(uis _ w1.heap.size _ 0 (utj _ _)).mono ?_;rintro e w3⟨rfl,hb⟩;have a2:=((Below.refl w2.heap.size w2).alloc (Nat.le_refl _) (.cells #[.bool false,.slice none 0 0,.slice none 0 0] 76)).trans (hb.mono (by simp))
  have a0:=hid (a9.out.below a2);have a5:=hid (a7.out.below a2);have c2:=a0.out.cell;have f2:=a0.out.frozen 2;clear hb a2;go_wp2;go_ret
  exact VPost.bad (s:= .int) (ok:=ubl) (v:=[.int .i64 0]) (fun _=>rfl) udt HL.out a4.out ⟨0,rfl,by omega,by omega⟩ a0.out.spoil (a5.out.wr _ _)
set_option maxHeartbeats 4000000 in
theorem uej:VReads 20 .int 262144:=by
 intro w br str o hr hl;have HR:=hid hr;clear hr hl;go_enter Tryz.func20,Tryz.ntmps20
 go_wp2_with fail
 refine(uou.go _ br str _ HR.out).mono ?_;rintro e w2⟨v,rfl,hp⟩;obtain⟨zn,rfl⟩:=ug hp.1;rw[uo];have HP:=hid hp;clear hp;go_wp2;go_ret
 exact⟨_,rfl,HP.out⟩
set_option maxHeartbeats 4000000 in
theorem utk:VReads 132 .rat 262144:=by
 intro w br str o hr hl;have HR:=hid hr;have c3:=hr.lt;have b6:=uhc hr;clear hr hl;obtain⟨l,hl⟩:∃l,ubm o=l:=⟨_,rfl⟩;rw[hl]at b6;have HL:=hid hl;clear hl;go_enter Tryz.func132,Tryz.ntmps132
 go_wp2_with fail
 refine(ug5 _ br str o (HR.out.alloc _)).mono ?_;intro e w1 hw;obtain⟨rfl,b5,hf⟩:=hw.o;rw[HL.out];have b0:=(AC.Bk.new w 76 #[.bool false,.slice none 0 0,.slice none 0 0]).fr hf (by show ¬w.heap.size=br;omega)
 have b4:=hid b5;have HF:=hid (((Fr.refl (· = br) w).alloc (.cells #[.bool false,.slice none 0 0,.slice none 0 0] 76)).trans hf)
 have a6:=hid b0;have c6:w.heap.size+1≤w1.heap.size:=b0.lt;clear b5 hf b0 hw;go_wp2_with fail
 refine(uir _ _ (by rw[udq];exact b6)).mono ?_
 intro e w2 hp;have e3:(⟨l.toArray⟩:ByteArray).data.toList=l:=by simp
 rw[e3]at hp;clear e3;rcases hp with⟨v,q,hq,rfl,hv,hb⟩|⟨hq,rfl,hb⟩
 ·have b3:=hid (uos hq)
  have a3:=hid (b4.out.below hb);have a9:=hid (HF.out.below hb);have HV:=hid hv;have a1:=hid (a6.out.below hb a6.out.lt);have c0:w1.heap.size≤w2.heap.size:=hb.size;obtain⟨zb,zA,zk,zc,zD,zl,zd,rfl⟩:=hv.form;clear hq hv hb;go_wp2_with fail
  refine(ue5 _ w1.heap.size _ q (HV.out.below ((Below.refl _ _).alloc (Nat.le_refl _) _))).mono ?_;rintro e w3⟨rfl,hb⟩;have a4:=((Below.refl w2.heap.size w2).alloc (Nat.le_refl _) (.cells #[.bool zb,.slice zA zk zc,.slice zD zl zd] 76)).trans (hb.mono (by simp))
  have a8:=(AC.Bk.new w2 76 #[.bool zb,.slice zA zk zc,.slice zD zl zd]).below hb (by simp)
  have a7:=hid (a3.out.below a4);have b2:=hid (a9.out.below a4);have b9:=hid (HV.out.below a4);have a2:=hid (a1.out.below a4 a1.out.lt);have n0:=a8.cell 0;have n1:=a8.cell 1;have n2:=a8.cell 2;have c2:=a7.out.cell;have f2:=a7.out.frozen 2;have k0:=a2.out.cell 0;have k1:=a2.out.cell 1;have k2:=a2.out.cell 2;have g0:=a2.out.frozen 0;have g1:=a2.out.frozen 1;have g2:=a2.out.frozen 2;simp only[gq]at n0 n1 n2 k0 k1 k2;clear hb a4 a8;by_cases hq:ues q=l
  ·have e0:(ues q==l)=true:=by simpa using hq
   have e1:(ues q != l)=false:=by simp[hq]
   have HQ:=hid hq;clear hq;go_wp2;have a0:=((a2.out.set 0 (.bool zb)).set 1 (.slice zA zk zc)).set 2 (.slice zD zl zd);have r0:=a0.cell 0;have r1:=a0.cell 1;have r2:=a0.cell 2;refine bodyPost_ret (v:= .agg #[.bool zb,.slice zA zk zc,.slice zD zl zd]) (by simp[results,Tryz.results132,go_sem,r0,r1,r2]) rfl ?_
   have b1:udb l=true:=by rw[b3.out];exact e0
   refine VPost.word (s:= .rat) (ok:=udb) (v:=[.bool zb,.slice zA zk zc,.slice zD zl zd]) (fun _=>rfl) ucd HL.out b1 ⟨_,_,_,_,_,_,_,rfl⟩ (a7.out.stores (b:=w.heap.size) (by omega) 0 [_,_,_]) (b2.out.then (((Fr.refl (· = w.heap.size) _).wr _ _).wr _ _ |>.wr _ _) (fun x hx=> .inr (by have b7:x=w.heap.size:=hx;omega))) ⟨q,?_,by rw[HQ.out]⟩
   obtain⟨ng,kn,kd,fn,fd,xn,xd,hx,l1,l2,l3,l4,l5⟩:=b9.out;refine RatV.inD (lo:=w1.heap.size) ⟨ng,kn,kd,fn,fd,xn,xd,hx,uT l1 (by omega) _ _ _,uT l2 (by omega) _ _ _,l3,l4,l5⟩ (fun b hb _=>?_)
   show w.heap.size≤b
   omega
  ·have e0:(ues q==l)=false:=by simpa using hq
   have e1:(ues q != l)=true:=by simp[hq]
   clear hq;go_wp2;have a5:Fr (· = br) w3 (w3.setCell ⟨br,2,none⟩ (.bool true)):=(Fr.refl _ _).wr _ _
   have a0:=(((a2.out.fr a5 (fun h=>by have h':w.heap.size=br:=h;omega)).set 0 (.bool false)).set 1 (.slice none 0 0)).set 2 (.slice none 0 0)
   have r0:=a0.cell 0;have r1:=a0.cell 1;have r2:=a0.cell 2;refine bodyPost_ret (v:= .agg #[.bool false,.slice none 0 0,.slice none 0 0]) (by simp[results,Tryz.results132,go_sem,r0,r1,r2]) rfl ?_
   have b1:udb l=false:=by rw[b3.out];exact e0
   exact VPost.bad (s:= .rat) (ok:=udb) (v:=[.bool false,.slice none 0 0,.slice none 0 0]) (fun _=>rfl) ucd HL.out b1 ⟨_,_,_,_,_,_,_,rfl⟩ (a7.out.spoil.stores (b:=w.heap.size) (by omega) 0 [_,_,_]) ((b2.out.trans a5).then (((Fr.refl (· = w.heap.size) _).wr _ _).wr _ _ |>.wr _ _) (fun x hx=> .inr (by have b7:x=w.heap.size:=hx;omega)))
 ·have b8:=hid (ukv hq)
  have a3:=hid (b4.out.below hb);have a9:=hid (HF.out.below hb);have a1:=hid (a6.out.below hb a6.out.lt);have c0:w1.heap.size≤w2.heap.size:=hb.size;have c1:=hid (a3.out.alloc (.cells #[.bool false,.slice none 0 0,.slice none 0 0] 76));have c2:=a3.out.cell;have f2:=a3.out.frozen 2;have k0:=a1.out.cell 0;have k1:=a1.out.cell 1;have k2:=a1.out.cell 2;have g0:=a1.out.frozen 0;have g1:=a1.out.frozen 1;have g2:=a1.out.frozen 2;simp only[gq]at k0 k1 k2;have c4:br<w2.heap.size:=by omega
  have c5:w.heap.size<w2.heap.size:=by omega
  clear hq hb;go_wp2;have a5:Fr (· = br) w2 (w2.setCell ⟨br,2,none⟩ (.bool true)):=(Fr.refl _ _).wr _ _
  have a0:=((((a1.out.fr a5 (fun h=>by have h':w.heap.size=br:=h;omega)).set 0 (.bool false)).set 1 (.slice none 0 0)).set 2 (.slice none 0 0)).alloc (.cells #[.bool false,.slice none 0 0,.slice none 0 0] 76)
  have r0:=a0.cell 0;have r1:=a0.cell 1;have r2:=a0.cell 2;refine bodyPost_ret (v:= .agg #[.bool false,.slice none 0 0,.slice none 0 0]) (by simp[results,Tryz.results132,go_sem,r0,r1,r2]) rfl ?_
  refine VPost.bad (s:= .rat) (ok:=udb) (v:=[.bool false,.slice none 0 0,.slice none 0 0]) (fun _=>rfl) ucd HL.out b8.out ⟨_,_,_,_,_,_,_,rfl⟩ ((a3.out.spoil.stores (b:=w.heap.size) (by omega) 0 [_,_,_]).alloc _) (((a9.out.trans a5).then (((Fr.refl (· = w.heap.size) _).wr _ _).wr _ _ |>.wr _ _) (fun x hx=> .inr (by have b7:x=w.heap.size:=hx;omega))).alloc _)
end Go.Proofs.YtellcholbkoakaaGreatDoor
