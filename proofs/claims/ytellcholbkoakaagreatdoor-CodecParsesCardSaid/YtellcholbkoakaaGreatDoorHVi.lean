/-
 The reference's ToInt (printed by gen_toint.py).
-/
import Derived.Test.YtellcholbkoakaaGreatDoorHTa
import Derived.Test.YtellcholbkoakaaGreatDoorHVd
namespace AC
open Go Go.RowKit
section
variable {P:Program} {ops:Array Oper} {Q:Exit→Act→World→Prop}
theorem opOk_skippedU{i j:Nat}{want:Bool}{o:Oper}{I:Act→World→Prop}{a:Act}{w:World}(ho:ops[i]? = some o)(hg:o.guard=some (j,want))(t:Nat)(hd:(ops[j]?).bind (·.dst)=some t)(hv:a.tmps[t]? = some undef)
 (h:I (a.put o.dst undef) w):opOk P ops Q i I a w:=by
 refine opOk.of ?_;have hy:yielded ops a.tmps j=none:=by
  unfold yielded;rw[hd];show(match a.tmps[t]? with|some (.bool b)=>some b|_=>none)=none
  rw[hv];rfl
 unfold wpOp;rw[ho];have:((none:Option Bool)==some want)=false:=rfl;simp only[Region.wanted,hg,hy,this];exact h
end
theorem NatR.lower'{w:World}{lo lo':Nat}{v:Value}{n:Nat}(h:NatR w lo v n)(hl:lo'≤lo):NatR w lo' v n:=Limbs.lower h hl
def fitsQ(q:Rat):Bool:=decide (q.den=1)&&decide (-9223372036854775808≤q.num)&&decide (q.num≤9223372036854775807)
theorem fits_yes{q:Rat}(h1:q.den=1)(h2 : -9223372036854775808≤q.num)(h3:q.num≤9223372036854775807):fitsQ q=true:=by simp[fitsQ,h1,h2,h3]
theorem fits_den{q:Rat}(h:q.den≠1):fitsQ q=false:=by simp[fitsQ,h]
theorem fits_num{q:Rat}(h:¬(-9223372036854775808≤q.num∧q.num≤9223372036854775807)):fitsQ q=false:=by
 cases hf:fitsQ q with
 | false=>rfl
 | true=>
  simp only[fitsQ,Bool.and_eq_true,decide_eq_true_eq]at hf;exact absurd ⟨hf.1.2,hf.2⟩ h
end AC
namespace Go.Proofs.YtellcholbkoakaaGreatDoor
open Go.Lib (hid)
open Go.RowKit AC
set_option linter.unusedVariables false
set_option linter.unusedSimpArgs false
def TIPost(q:Rat)(w:World)(e:Ending)(w':World):Prop:=
 e = .returned (.tuple #[.int .i64 (if fitsQ q then q.num else 0),.bool (fitsQ q)])∧Below w.heap.size w w'
theorem TIPost.no{q:Rat}{w w':World}(h:fitsQ q=false)(hb:Below w.heap.size w w'):TIPost q w (.returned (.tuple #[.int .i64 0,.bool false])) w':=by
 unfold TIPost;rw[h];exact⟨rfl,hb⟩
theorem TIPost.yes{q:Rat}{w w':World}{n:Int}(h:fitsQ q=true)(hn:q.num=n)(hb:Below w.heap.size w w'):TIPost q w (.returned (.tuple #[.int .i64 n,.bool true])) w':=by
 unfold TIPost;rw[h,←hn];exact⟨rfl,hb⟩
set_option maxHeartbeats 8000000 in
set_option maxRecDepth 100000 in
theorem rToInt_any(w:World)(lo:Nat)(v:Value)(q:Rat)(hv:RatV w lo v 64 q):Calls Tryz.prog 130 #[v] w (TIPost q w):=by
 have hsz:=hv.size;have HV:=hid hv;obtain⟨s,A,k,c,A',k',c',rfl⟩:=hv.form;clear hv;go_enter Tryz.func130,Tryz.ntmps130
 go_wp2_with fail
 refine(rCanonical_any _ lo _ 64 q (HV.out.below (bel1 w _)) (by omega)).mono ?_
 rintro e w1⟨v1,rfl,hr1,hb1⟩;have a1:=(bel1 w _).trans (hb1.mono (by simp))
 have hR1:=(Bk.new _ 76 _).below hb1 (by simp)
 simp only[World.size_alloc]at hr1;obtain⟨A2,c2,A3,c3,rfl,_,_⟩:=FracR.form hr1;obtain⟨hcR,hfR,hz2⟩:=hR1.facts;have hk1:=((hR1.set 0 (.bool (decide (q.num<0)))).set 1 (.slice A2 (dl q.num.natAbs) c2)).set 2 (.slice A3 (dl q.den) c3);simp only[List.setIfInBounds_toArray,List.set_cons_succ,List.set_cons_zero]at hk1;have hr2:=rat_set3 (g:=w.heap.size) hr1 (by omega) (.bool (decide (q.num<0))) (.slice A2 (dl q.num.natAbs) c2) (.slice A3 (dl q.den) c3)
 have hb2:=below_set3 a1 (Nat.le_refl w.heap.size) (.bool (decide (q.num<0))) (.slice A2 (dl q.num.natAbs) c2) (.slice A3 (dl q.den) c3);have HK1:=hid hk1;have HR2:=hid hr2;have HB2:=hid hb2;clear hk1 hr2 hb2 hR1 hr1 hb1 a1;obtain⟨n,hn⟩:∃n,q.num.natAbs=n:=⟨_,rfl⟩;obtain⟨d,hd⟩:∃d,q.den=d:=⟨_,rfl⟩;obtain⟨neg,hng⟩:∃neg,decide (q.num<0)=neg:=⟨_,rfl⟩;have hNN:=(frac_two HR2.out).1;rw[hn,hd,hng]at hNN;have HNN:=hid hNN;clear hNN;rw[hn,hd,hng]at HK1 HB2;rw[hn,hd,hng];have hc1:=HK1.out.cell 0;go_wp2_with fail
 refine(rIntegral_any _ (w.heap.size+1) _ (64+1) q (by have:=RatR.toV HR2.out hsz;rwa [hn,hd,hng]at this) (by omega)).mono ?_
 rintro e w3⟨rfl,hb3⟩;rw[hd];have HK3:=hid (HK1.out.below hb3 HK1.out.lt);have HN3:=hid (HNN.out.below hb3);have HB3:=hid (HB2.out.trans (hb3.mono HB2.out.size));have a2:=HK3.out.lt;clear hb3 hc1;have hk0:=HK3.out.cell 0;have hk1:=HK3.out.cell 1;simp only[gq]at hk0 hk1;by_cases hd1:d=1
 ·have e1:decide (d=1)=true:=decide_eq_true hd1
  by_cases hl3:dl n≤3
  ·have e3:decide ((3:Int)<((dl n:Nat):Int))=false:=decide_eq_false (by omega)
   have hqd:q.den=1:=by rw[hd,hd1]
   have HQD:=hid hqd;obtain⟨c,hc⟩:∃c,cmpI n 9223372036854775808=c:=⟨_,rfl⟩;have HC:=hid hc;have HNE:=hid hng;have HNU:=hid hn;clear hqd hc hng hn;by_cases hpos:0<c
   ·have e4:decide (0<c)=true:=decide_eq_true hpos
    go_upto_region 4 with(fail)
    refine wp_region_facts (by kernel_rfl) (by kernel_rfl) [17,18,19,20,21,22,23,24,25,26,27,28,29,30,31,32,33] 40 (by kernel_rfl) (fun io v x=>match io with
     | 0=>v = .pointer (some ⟨w.heap.size,1,none⟩)
     | 1=>v = .slice A2 (dl n) c2
     | 2=>NatR x w.heap.size v 9223372036854775808
     | 3=>v = .int .i64 c
     | 4=>v = .bool true
     | 5=>v = .bool true
     | 6=>v=undef
     | 7=>v=undef
     | 8=>v=undef
     | 9=>v=undef
     | 10=>v=undef
     | 11=>v=undef
     | 12=>v=undef
     | 13=>v=undef
     | 14=>v=undef
     | 15=>v=undef
     | _=>v = .bool true) ?_ ?_ ?_
    ·intro io v x x' hio h hb
     rcases io with _|_|_|_|_|_|_|_|_|_|_|_|_|_|_|_|io
     ·exact h
     ·exact h
     ·exact NatR.below h hb
     ·exact h
     ·exact h
     ·exact h
     ·exact h
     ·exact h
     ·exact h
     ·exact h
     ·exact h
     ·exact h
     ·exact h
     ·exact h
     ·exact h
     ·exact h
     ·exact h
    ·intro io oo S x ho hio hbx hdep
     rcases io with _|_|_|_|_|_|_|_|_|_|_|_|_|_|_|_|_|io
     ·cases ho
      refine opOk_h rfl rfl fun KK HK=>?_
      clear hdep hio;simp only[nv,Nat.reduceAdd]at HK ⊢;go_wp2;exact HK.out _ _ ⟨_,rfl,rfl,Below.refl _ _⟩
     ·cases ho
      have h0:S 0 = .pointer (some ⟨w.heap.size,1,none⟩):=hdep 0 (by kernel_rfl) (by decide)
      have cc:=(HK3.out.below hbx HK3.out.lt).cell 1;simp only[gq]at cc;refine opOk_h rfl rfl fun KK HK=>?_
      clear hdep hio;simp only[nv,Nat.reduceAdd]at HK ⊢;generalize S 0=t0 at *;subst h0;go_wp2;exact HK.out _ _ ⟨_,rfl,rfl,Below.refl _ _⟩
     ·cases ho
      refine opOk_h rfl rfl fun KK HK=>?_
      clear hdep hio;simp only[nv,Nat.reduceAdd]at HK ⊢;go_wp2_with fail
      refine(limbs_any x 9223372036854775808 (by decide)).mono ?_
      rintro e xN⟨vN,rfl,hrN,hbN⟩;exact HK.out _ _ ⟨_,rfl,(hrN.lower' (Nat.le_trans HB3.out.size hbx.size)),hbN⟩
     ·cases ho
      have h1:S 1 = .slice A2 (dl n) c2:=hdep 1 (by kernel_rfl) (by decide)
      have h2:NatR x w.heap.size (S 2) 9223372036854775808:=hdep 2 (by kernel_rfl) (by decide)
      refine opOk_h rfl rfl fun KK HK=>?_
      clear hdep hio;simp only[nv,Nat.reduceAdd]at HK ⊢;generalize S 1=t1 at *;subst h1;go_wp2_with fail
      refine(natCmp_any x (w.heap.size+1) w.heap.size _ _ n 9223372036854775808 (HN3.out.below hbx) h2).mono ?_;rintro e xN⟨rfl,q,rfl⟩;rw[HC.out];exact HK.out _ _ ⟨_,rfl,rfl,(Below.refl _ _).drewN _⟩
     ·cases ho
      have h3:S 3 = .int .i64 c:=hdep 3 (by kernel_rfl) (by decide)
      refine opOk_h rfl rfl fun KK HK=>?_
      clear hdep hio;simp only[nv,Nat.reduceAdd]at HK ⊢;generalize S 3=t3 at *;subst h3;go_wp2;try rw[e4]
      exact HK.out _ _ ⟨_,rfl,rfl,Below.refl _ _⟩
     ·cases ho
      have h4:S 4 = .bool true:=hdep 4 (by kernel_rfl) (by decide)
      refine opOk_h rfl rfl fun KK HK=>?_
      clear hdep hio;simp only[nv,Nat.reduceAdd]at HK ⊢;generalize S 4=t4 at *;subst h4;go_wp2;exact HK.out _ _ ⟨_,rfl,rfl,Below.refl _ _⟩
     ·cases ho
      have h5:S 5 = .bool true:=hdep 5 (by kernel_rfl) (by decide)
      exact opOk_skipped rfl rfl 22 (by kernel_rfl) (by simp only[nv,Nat.reduceAdd,h5,List.getElem?_toArray,List.getElem?_cons_succ,List.getElem?_cons_zero];rfl) ⟨_,rfl,rfl,Below.refl _ _⟩
     ·cases ho
      have h5:S 5 = .bool true:=hdep 5 (by kernel_rfl) (by decide)
      exact opOk_skipped rfl rfl 22 (by kernel_rfl) (by simp only[nv,Nat.reduceAdd,h5,List.getElem?_toArray,List.getElem?_cons_succ,List.getElem?_cons_zero];rfl) ⟨_,rfl,rfl,Below.refl _ _⟩
     ·cases ho
      have h5:S 5 = .bool true:=hdep 5 (by kernel_rfl) (by decide)
      exact opOk_skipped rfl rfl 22 (by kernel_rfl) (by simp only[nv,Nat.reduceAdd,h5,List.getElem?_toArray,List.getElem?_cons_succ,List.getElem?_cons_zero];rfl) ⟨_,rfl,rfl,Below.refl _ _⟩
     ·cases ho
      have h5:S 5 = .bool true:=hdep 5 (by kernel_rfl) (by decide)
      exact opOk_skipped rfl rfl 22 (by kernel_rfl) (by simp only[nv,Nat.reduceAdd,h5,List.getElem?_toArray,List.getElem?_cons_succ,List.getElem?_cons_zero];rfl) ⟨_,rfl,rfl,Below.refl _ _⟩
     ·cases ho
      have h9:S 9=undef:=hdep 9 (by kernel_rfl) (by decide)
      exact opOk_skippedU rfl rfl 26 (by kernel_rfl) (by simp only[nv,Nat.reduceAdd,h9,List.getElem?_toArray,List.getElem?_cons_succ,List.getElem?_cons_zero]) ⟨_,rfl,rfl,Below.refl _ _⟩
     ·cases ho
      have h9:S 9=undef:=hdep 9 (by kernel_rfl) (by decide)
      exact opOk_skippedU rfl rfl 26 (by kernel_rfl) (by simp only[nv,Nat.reduceAdd,h9,List.getElem?_toArray,List.getElem?_cons_succ,List.getElem?_cons_zero]) ⟨_,rfl,rfl,Below.refl _ _⟩
     ·cases ho
      have h9:S 9=undef:=hdep 9 (by kernel_rfl) (by decide)
      exact opOk_skippedU rfl rfl 26 (by kernel_rfl) (by simp only[nv,Nat.reduceAdd,h9,List.getElem?_toArray,List.getElem?_cons_succ,List.getElem?_cons_zero]) ⟨_,rfl,rfl,Below.refl _ _⟩
     ·cases ho
      have h9:S 9=undef:=hdep 9 (by kernel_rfl) (by decide)
      exact opOk_skippedU rfl rfl 26 (by kernel_rfl) (by simp only[nv,Nat.reduceAdd,h9,List.getElem?_toArray,List.getElem?_cons_succ,List.getElem?_cons_zero]) ⟨_,rfl,rfl,Below.refl _ _⟩
     ·cases ho
      have h9:S 9=undef:=hdep 9 (by kernel_rfl) (by decide)
      exact opOk_skippedU rfl rfl 26 (by kernel_rfl) (by simp only[nv,Nat.reduceAdd,h9,List.getElem?_toArray,List.getElem?_cons_succ,List.getElem?_cons_zero]) ⟨_,rfl,rfl,Below.refl _ _⟩
     ·cases ho
      have h5:S 5 = .bool true:=hdep 5 (by kernel_rfl) (by decide)
      exact opOk_skipped rfl rfl 22 (by kernel_rfl) (by simp only[nv,Nat.reduceAdd,h5,List.getElem?_toArray,List.getElem?_cons_succ,List.getElem?_cons_zero];rfl) ⟨_,rfl,rfl,Below.refl _ _⟩
     ·cases ho
      have h5:S 5 = .bool true:=hdep 5 (by kernel_rfl) (by decide)
      have h15:S 15=undef:=hdep 15 (by kernel_rfl) (by decide)
      refine opOk_h rfl rfl fun KK HK=>?_
      clear hdep hio;simp only[nv,Nat.reduceAdd]at HK ⊢;generalize S 5=t5 at *;subst h5;generalize S 15=t15 at *;subst h15;go_wp2;exact HK.out _ _ ⟨_,rfl,rfl,Below.refl _ _⟩
     ·exact absurd hio (by simp)
    intro S x hbx hF;have g0:S 0 = .pointer (some ⟨w.heap.size,1,none⟩):=hF 0 (by decide)
    have g1:S 1 = .slice A2 (dl n) c2:=hF 1 (by decide)
    have g2:NatR x w.heap.size (S 2) 9223372036854775808:=hF 2 (by decide)
    have g3:S 3 = .int .i64 c:=hF 3 (by decide)
    have g4:S 4 = .bool true:=hF 4 (by decide)
    have g5:S 5 = .bool true:=hF 5 (by decide)
    have g6:S 6=undef:=hF 6 (by decide)
    have g7:S 7=undef:=hF 7 (by decide)
    have g8:S 8=undef:=hF 8 (by decide)
    have g9:S 9=undef:=hF 9 (by decide)
    have g10:S 10=undef:=hF 10 (by decide)
    have g11:S 11=undef:=hF 11 (by decide)
    have g12:S 12=undef:=hF 12 (by decide)
    have g13:S 13=undef:=hF 13 (by decide)
    have g14:S 14=undef:=hF 14 (by decide)
    have g15:S 15=undef:=hF 15 (by decide)
    have g16:S 16 = .bool true:=hF 16 (by decide)
    clear hF;simp only[nv,Nat.reduceAdd,List.length_cons,List.length_nil,List.drop_succ_cons,List.drop_zero];generalize S 0=t0 at *;subst g0;generalize S 1=t1 at *;subst g1;generalize S 2=t2 at *;generalize S 3=t3 at *;subst g3;generalize S 4=t4 at *;subst g4;generalize S 5=t5 at *;subst g5;generalize S 6=t6 at *;subst g6;generalize S 7=t7 at *;subst g7;generalize S 8=t8 at *;subst g8;generalize S 9=t9 at *;subst g9;generalize S 10=t10 at *;subst g10;generalize S 11=t11 at *;subst g11;generalize S 12=t12 at *;subst g12;generalize S 13=t13 at *;subst g13;generalize S 14=t14 at *;subst g14;generalize S 15=t15 at *;subst g15;generalize S 16=t16 at *;subst g16;have hno:fitsQ q=false:=fits_num (fun h=>by
     have h1:=HC.out;have h2:=HNU.out;have:9223372036854775808<n:=by
      rcases Nat.lt_trichotomy n 9223372036854775808 with h3|h3|h3
      ·rw[cmpI_lt h3]at h1;omega
      ·rw[cmpI_eq h3]at h1;omega
      ·exact h3
     omega)
    have HNO:=hid hno;clear hno;go_wp2;go_ret2
    exact .no HNO.out (HB3.out.trans (hbx.mono HB3.out.size))
   ·have e4:decide (0<c)=false:=decide_eq_false hpos
    have hle:n≤9223372036854775808:=by
     have h1:=HC.out;rcases Nat.lt_or_ge 9223372036854775808 n with h3|h3
     ·rw[cmpI_gt h3]at h1;omega
     ·exact h3
    cases neg with
    | true=>
     go_upto_region 4 with(fail)
     refine wp_region_facts (by kernel_rfl) (by kernel_rfl) [17,18,19,20,21,22,23,24,25,26,27,28,29,30,31,32,33] 40 (by kernel_rfl) (fun io v x=>match io with
      | 0=>v = .pointer (some ⟨w.heap.size,1,none⟩)
      | 1=>v = .slice A2 (dl n) c2
      | 2=>NatR x w.heap.size v 9223372036854775808
      | 3=>v = .int .i64 c
      | 4=>v = .bool false
      | 5=>v = .bool false
      | 6=>v = .pointer (some ⟨w.heap.size,0,none⟩)
      | 7=>v = .bool true
      | 8=>v = .bool false
      | 9=>v = .bool false
      | 10=>v=undef
      | 11=>v=undef
      | 12=>v=undef
      | 13=>v=undef
      | 14=>v=undef
      | 15=>v = .bool false
      | _=>v = .bool false) ?_ ?_ ?_
     ·intro io v x x' hio h hb
      rcases io with _|_|_|_|_|_|_|_|_|_|_|_|_|_|_|_|io
      ·exact h
      ·exact h
      ·exact NatR.below h hb
      ·exact h
      ·exact h
      ·exact h
      ·exact h
      ·exact h
      ·exact h
      ·exact h
      ·exact h
      ·exact h
      ·exact h
      ·exact h
      ·exact h
      ·exact h
      ·exact h
     ·intro io oo S x ho hio hbx hdep
      rcases io with _|_|_|_|_|_|_|_|_|_|_|_|_|_|_|_|_|io
      ·cases ho
       refine opOk_h rfl rfl fun KK HK=>?_
       clear hdep hio;simp only[nv,Nat.reduceAdd]at HK ⊢;go_wp2;exact HK.out _ _ ⟨_,rfl,rfl,Below.refl _ _⟩
      ·cases ho
       have h0:S 0 = .pointer (some ⟨w.heap.size,1,none⟩):=hdep 0 (by kernel_rfl) (by decide)
       have cc:=(HK3.out.below hbx HK3.out.lt).cell 1;simp only[gq]at cc;refine opOk_h rfl rfl fun KK HK=>?_
       clear hdep hio;simp only[nv,Nat.reduceAdd]at HK ⊢;generalize S 0=t0 at *;subst h0;go_wp2;exact HK.out _ _ ⟨_,rfl,rfl,Below.refl _ _⟩
      ·cases ho
       refine opOk_h rfl rfl fun KK HK=>?_
       clear hdep hio;simp only[nv,Nat.reduceAdd]at HK ⊢;go_wp2_with fail
       refine(limbs_any x 9223372036854775808 (by decide)).mono ?_
       rintro e xN⟨vN,rfl,hrN,hbN⟩;exact HK.out _ _ ⟨_,rfl,(hrN.lower' (Nat.le_trans HB3.out.size hbx.size)),hbN⟩
      ·cases ho
       have h1:S 1 = .slice A2 (dl n) c2:=hdep 1 (by kernel_rfl) (by decide)
       have h2:NatR x w.heap.size (S 2) 9223372036854775808:=hdep 2 (by kernel_rfl) (by decide)
       refine opOk_h rfl rfl fun KK HK=>?_
       clear hdep hio;simp only[nv,Nat.reduceAdd]at HK ⊢;generalize S 1=t1 at *;subst h1;go_wp2_with fail
       refine(natCmp_any x (w.heap.size+1) w.heap.size _ _ n 9223372036854775808 (HN3.out.below hbx) h2).mono ?_;rintro e xN⟨rfl,q,rfl⟩;rw[HC.out];exact HK.out _ _ ⟨_,rfl,rfl,(Below.refl _ _).drewN _⟩
      ·cases ho
       have h3:S 3 = .int .i64 c:=hdep 3 (by kernel_rfl) (by decide)
       refine opOk_h rfl rfl fun KK HK=>?_
       clear hdep hio;simp only[nv,Nat.reduceAdd]at HK ⊢;generalize S 3=t3 at *;subst h3;go_wp2;try rw[e4]
       exact HK.out _ _ ⟨_,rfl,rfl,Below.refl _ _⟩
      ·cases ho
       have h4:S 4 = .bool false:=hdep 4 (by kernel_rfl) (by decide)
       refine opOk_h rfl rfl fun KK HK=>?_
       clear hdep hio;simp only[nv,Nat.reduceAdd]at HK ⊢;generalize S 4=t4 at *;subst h4;go_wp2;exact HK.out _ _ ⟨_,rfl,rfl,Below.refl _ _⟩
      ·cases ho
       have h5:S 5 = .bool false:=hdep 5 (by kernel_rfl) (by decide)
       refine opOk_guarded rfl rfl 22 (by kernel_rfl) (by simp only[nv,Nat.reduceAdd,h5,List.getElem?_toArray,List.getElem?_cons_succ,List.getElem?_cons_zero]) fun KK hKK=>?_
       have HK:=hid hKK;clear hKK hdep hio;simp only[nv,Nat.reduceAdd]at HK ⊢;generalize S 5=t5 at *;subst h5;go_wp2;exact HK.out _ _ ⟨_,rfl,rfl,Below.refl _ _⟩
      ·cases ho
       have h5:S 5 = .bool false:=hdep 5 (by kernel_rfl) (by decide)
       have h6:S 6 = .pointer (some ⟨w.heap.size,0,none⟩):=hdep 6 (by kernel_rfl) (by decide)
       have cc:=(HK3.out.below hbx HK3.out.lt).cell 0;simp only[gq]at cc;refine opOk_guarded rfl rfl 22 (by kernel_rfl) (by simp only[nv,Nat.reduceAdd,h5,List.getElem?_toArray,List.getElem?_cons_succ,List.getElem?_cons_zero]) fun KK hKK=>?_
       have HK:=hid hKK;clear hKK hdep hio;simp only[nv,Nat.reduceAdd]at HK ⊢;generalize S 5=t5 at *;subst h5;generalize S 6=t6 at *;subst h6;go_wp2;exact HK.out _ _ ⟨_,rfl,rfl,Below.refl _ _⟩
      ·cases ho
       have h5:S 5 = .bool false:=hdep 5 (by kernel_rfl) (by decide)
       have h7:S 7 = .bool true:=hdep 7 (by kernel_rfl) (by decide)
       refine opOk_guarded rfl rfl 22 (by kernel_rfl) (by simp only[nv,Nat.reduceAdd,h5,List.getElem?_toArray,List.getElem?_cons_succ,List.getElem?_cons_zero]) fun KK hKK=>?_
       have HK:=hid hKK;clear hKK hdep hio;simp only[nv,Nat.reduceAdd]at HK ⊢;generalize S 5=t5 at *;subst h5;generalize S 7=t7 at *;subst h7;go_wp2;exact HK.out _ _ ⟨_,rfl,rfl,Below.refl _ _⟩
      ·cases ho
       have h5:S 5 = .bool false:=hdep 5 (by kernel_rfl) (by decide)
       have h8:S 8 = .bool false:=hdep 8 (by kernel_rfl) (by decide)
       refine opOk_guarded rfl rfl 22 (by kernel_rfl) (by simp only[nv,Nat.reduceAdd,h5,List.getElem?_toArray,List.getElem?_cons_succ,List.getElem?_cons_zero]) fun KK hKK=>?_
       have HK:=hid hKK;clear hKK hdep hio;simp only[nv,Nat.reduceAdd]at HK ⊢;generalize S 5=t5 at *;subst h5;generalize S 8=t8 at *;subst h8;go_wp2;exact HK.out _ _ ⟨_,rfl,rfl,Below.refl _ _⟩
      ·cases ho
       have h9:S 9 = .bool false:=hdep 9 (by kernel_rfl) (by decide)
       exact opOk_skipped rfl rfl 26 (by kernel_rfl) (by simp only[nv,Nat.reduceAdd,h9,List.getElem?_toArray,List.getElem?_cons_succ,List.getElem?_cons_zero];rfl) ⟨_,rfl,rfl,Below.refl _ _⟩
      ·cases ho
       have h9:S 9 = .bool false:=hdep 9 (by kernel_rfl) (by decide)
       exact opOk_skipped rfl rfl 26 (by kernel_rfl) (by simp only[nv,Nat.reduceAdd,h9,List.getElem?_toArray,List.getElem?_cons_succ,List.getElem?_cons_zero];rfl) ⟨_,rfl,rfl,Below.refl _ _⟩
      ·cases ho
       have h9:S 9 = .bool false:=hdep 9 (by kernel_rfl) (by decide)
       exact opOk_skipped rfl rfl 26 (by kernel_rfl) (by simp only[nv,Nat.reduceAdd,h9,List.getElem?_toArray,List.getElem?_cons_succ,List.getElem?_cons_zero];rfl) ⟨_,rfl,rfl,Below.refl _ _⟩
      ·cases ho
       have h9:S 9 = .bool false:=hdep 9 (by kernel_rfl) (by decide)
       exact opOk_skipped rfl rfl 26 (by kernel_rfl) (by simp only[nv,Nat.reduceAdd,h9,List.getElem?_toArray,List.getElem?_cons_succ,List.getElem?_cons_zero];rfl) ⟨_,rfl,rfl,Below.refl _ _⟩
      ·cases ho
       have h9:S 9 = .bool false:=hdep 9 (by kernel_rfl) (by decide)
       exact opOk_skipped rfl rfl 26 (by kernel_rfl) (by simp only[nv,Nat.reduceAdd,h9,List.getElem?_toArray,List.getElem?_cons_succ,List.getElem?_cons_zero];rfl) ⟨_,rfl,rfl,Below.refl _ _⟩
      ·cases ho
       have h5:S 5 = .bool false:=hdep 5 (by kernel_rfl) (by decide)
       have h9:S 9 = .bool false:=hdep 9 (by kernel_rfl) (by decide)
       have h14:S 14=undef:=hdep 14 (by kernel_rfl) (by decide)
       refine opOk_guarded rfl rfl 22 (by kernel_rfl) (by simp only[nv,Nat.reduceAdd,h5,List.getElem?_toArray,List.getElem?_cons_succ,List.getElem?_cons_zero]) fun KK hKK=>?_
       have HK:=hid hKK;clear hKK hdep hio;simp only[nv,Nat.reduceAdd]at HK ⊢;generalize S 5=t5 at *;subst h5;generalize S 9=t9 at *;subst h9;generalize S 14=t14 at *;subst h14;go_wp2;exact HK.out _ _ ⟨_,rfl,rfl,Below.refl _ _⟩
      ·cases ho
       have h5:S 5 = .bool false:=hdep 5 (by kernel_rfl) (by decide)
       have h15:S 15 = .bool false:=hdep 15 (by kernel_rfl) (by decide)
       refine opOk_h rfl rfl fun KK HK=>?_
       clear hdep hio;simp only[nv,Nat.reduceAdd]at HK ⊢;generalize S 5=t5 at *;subst h5;generalize S 15=t15 at *;subst h15;go_wp2;exact HK.out _ _ ⟨_,rfl,rfl,Below.refl _ _⟩
      ·exact absurd hio (by simp)
     intro S x hbx hF;have g0:S 0 = .pointer (some ⟨w.heap.size,1,none⟩):=hF 0 (by decide)
     have g1:S 1 = .slice A2 (dl n) c2:=hF 1 (by decide)
     have g2:NatR x w.heap.size (S 2) 9223372036854775808:=hF 2 (by decide)
     have g3:S 3 = .int .i64 c:=hF 3 (by decide)
     have g4:S 4 = .bool false:=hF 4 (by decide)
     have g5:S 5 = .bool false:=hF 5 (by decide)
     have g6:S 6 = .pointer (some ⟨w.heap.size,0,none⟩):=hF 6 (by decide)
     have g7:S 7 = .bool true:=hF 7 (by decide)
     have g8:S 8 = .bool false:=hF 8 (by decide)
     have g9:S 9 = .bool false:=hF 9 (by decide)
     have g10:S 10=undef:=hF 10 (by decide)
     have g11:S 11=undef:=hF 11 (by decide)
     have g12:S 12=undef:=hF 12 (by decide)
     have g13:S 13=undef:=hF 13 (by decide)
     have g14:S 14=undef:=hF 14 (by decide)
     have g15:S 15 = .bool false:=hF 15 (by decide)
     have g16:S 16 = .bool false:=hF 16 (by decide)
     clear hF;simp only[nv,Nat.reduceAdd,List.length_cons,List.length_nil,List.drop_succ_cons,List.drop_zero];generalize S 0=t0 at *;subst g0;generalize S 1=t1 at *;subst g1;generalize S 2=t2 at *;generalize S 3=t3 at *;subst g3;generalize S 4=t4 at *;subst g4;generalize S 5=t5 at *;subst g5;generalize S 6=t6 at *;subst g6;generalize S 7=t7 at *;subst g7;generalize S 8=t8 at *;subst g8;generalize S 9=t9 at *;subst g9;generalize S 10=t10 at *;subst g10;generalize S 11=t11 at *;subst g11;generalize S 12=t12 at *;subst g12;generalize S 13=t13 at *;subst g13;generalize S 14=t14 at *;subst g14;generalize S 15=t15 at *;subst g15;generalize S 16=t16 at *;subst g16;have HK4:=hid (HK3.out.below hbx HK3.out.lt);have HN4:=hid (HN3.out.below hbx);have HB4:=hid (HB3.out.trans (hbx.mono HB3.out.size));clear hbx hk0 hk1;have k0:=HK4.out.cell 0;have k1:=HK4.out.cell 1;simp only[gq]at k0 k1;go_wp2;go_loop [4,5] (fun vv iv=>∃j:Nat,j≤dl n∧vv = .int .u64 ((n/B^j:Nat):Int)∧iv = .int .i64 ((j:Int)-1)) (fun _ iv=>(intOf iv+1).toNat)
     case atStart=>exact⟨dl n,Nat.le_refl _,by rw[Nat.div_eq_of_lt (lt_dl n)];rfl,rfl⟩
     case round=>
      obtain⟨j,hj,rfl,rfl⟩:=hrel;rcases j with _|j
      ·have hn0:n/B^0=n:=by simp
       rw[hn0];have hn1:1≤n:=by have h1:=HNU.out;have h2:=of_decide_eq_true HNE.out;omega
       have hf:fitsQ q=true:=fits_yes HQD.out (by have h1:=HNU.out;have h2:=of_decide_eq_true HNE.out;omega) (by have h2:=of_decide_eq_true HNE.out;omega)
       have hqn:q.num = -(((n:Int)-1))-1:=by have h1:=HNU.out;have h2:=of_decide_eq_true HNE.out;omega
       have HF:=hid hf;have HQN:=hid hqn;clear hf hqn hn0;go_wp2;go_ret2
       exact .yes HF.out (by rw[HQN.out]) HB4.out
      ·obtain⟨_,Ax,cx,hAx,hkc,hcm,hcell⟩:=HN4.out
       injection hAx with e6 _ e7;subst e6;subst e7;unfold maxLen at hcm;obtain⟨b,off,rfl,hlb,hbb,hce⟩:=hcell (by omega)
       have hcl:=hce j (by omega)
       have hds:=div_split n j;have a0:n/B^j≤n:=Nat.div_le_self _ _;obtain⟨a,ha⟩:∃a,n/B^(j+1)=a:=⟨_,rfl⟩;obtain⟨r,hr⟩:∃r,n/B^j=r:=⟨_,rfl⟩;obtain⟨g,hg⟩:∃g,dg n j=g:=⟨_,rfl⟩;rw[ha,hr,hg]at hds;rw[hr]at a0;rw[hg]at hcl;rw[ha];have hds':r=a*1000000000+g:=hds;have HR:=hid hr;clear hce hcell hds ha hr hg;go_wp2;go_round
       case rel=>exact⟨j,by omega,by rw[HR.out,hds'];go_num,by go_num⟩
       case measure=>simp[intOf]
    | false=>
     by_cases hz:c=0
     ·have e5:(c==0)=true:=by rw[hz];rfl
      have hno:fitsQ q=false:=fits_num (fun h=>by
       have h1:=HC.out;have h2:=HNU.out;have h3:=of_decide_eq_false HNE.out;have:n=9223372036854775808:=by
        rcases Nat.lt_trichotomy n 9223372036854775808 with h3|h3|h3
        ·rw[cmpI_lt h3]at h1;omega
        ·exact h3
        ·omega
       omega)
      have HNO:=hid hno;clear hno hz;go_upto_region 4 with(fail)
      refine wp_region_facts (by kernel_rfl) (by kernel_rfl) [17,18,19,20,21,22,23,24,25,26,27,28,29,30,31,32,33] 40 (by kernel_rfl) (fun io v x=>match io with
       | 0=>v = .pointer (some ⟨w.heap.size,1,none⟩)
       | 1=>v = .slice A2 (dl n) c2
       | 2=>NatR x w.heap.size v 9223372036854775808
       | 3=>v = .int .i64 c
       | 4=>v = .bool false
       | 5=>v = .bool false
       | 6=>v = .pointer (some ⟨w.heap.size,0,none⟩)
       | 7=>v = .bool false
       | 8=>v = .bool true
       | 9=>v = .bool true
       | 10=>v = .pointer (some ⟨w.heap.size,1,none⟩)
       | 11=>v = .slice A2 (dl n) c2
       | 12=>NatR x w.heap.size v 9223372036854775808
       | 13=>v = .int .i64 c
       | 14=>v = .bool true
       | 15=>v = .bool true
       | _=>v = .bool true) ?_ ?_ ?_
      ·intro io v x x' hio h hb
       rcases io with _|_|_|_|_|_|_|_|_|_|_|_|_|_|_|_|io
       ·exact h
       ·exact h
       ·exact NatR.below h hb
       ·exact h
       ·exact h
       ·exact h
       ·exact h
       ·exact h
       ·exact h
       ·exact h
       ·exact h
       ·exact h
       ·exact NatR.below h hb
       ·exact h
       ·exact h
       ·exact h
       ·exact h
      ·intro io oo S x ho hio hbx hdep
       rcases io with _|_|_|_|_|_|_|_|_|_|_|_|_|_|_|_|_|io
       ·cases ho
        refine opOk_h rfl rfl fun KK HK=>?_
        clear hdep hio;simp only[nv,Nat.reduceAdd]at HK ⊢;go_wp2;exact HK.out _ _ ⟨_,rfl,rfl,Below.refl _ _⟩
       ·cases ho
        have h0:S 0 = .pointer (some ⟨w.heap.size,1,none⟩):=hdep 0 (by kernel_rfl) (by decide)
        have cc:=(HK3.out.below hbx HK3.out.lt).cell 1;simp only[gq]at cc;refine opOk_h rfl rfl fun KK HK=>?_
        clear hdep hio;simp only[nv,Nat.reduceAdd]at HK ⊢;generalize S 0=t0 at *;subst h0;go_wp2;exact HK.out _ _ ⟨_,rfl,rfl,Below.refl _ _⟩
       ·cases ho
        refine opOk_h rfl rfl fun KK HK=>?_
        clear hdep hio;simp only[nv,Nat.reduceAdd]at HK ⊢;go_wp2_with fail
        refine(limbs_any x 9223372036854775808 (by decide)).mono ?_
        rintro e xN⟨vN,rfl,hrN,hbN⟩;exact HK.out _ _ ⟨_,rfl,(hrN.lower' (Nat.le_trans HB3.out.size hbx.size)),hbN⟩
       ·cases ho
        have h1:S 1 = .slice A2 (dl n) c2:=hdep 1 (by kernel_rfl) (by decide)
        have h2:NatR x w.heap.size (S 2) 9223372036854775808:=hdep 2 (by kernel_rfl) (by decide)
        refine opOk_h rfl rfl fun KK HK=>?_
        clear hdep hio;simp only[nv,Nat.reduceAdd]at HK ⊢;generalize S 1=t1 at *;subst h1;go_wp2_with fail
        refine(natCmp_any x (w.heap.size+1) w.heap.size _ _ n 9223372036854775808 (HN3.out.below hbx) h2).mono ?_;rintro e xN⟨rfl,q,rfl⟩;rw[HC.out];exact HK.out _ _ ⟨_,rfl,rfl,(Below.refl _ _).drewN _⟩
       ·cases ho
        have h3:S 3 = .int .i64 c:=hdep 3 (by kernel_rfl) (by decide)
        refine opOk_h rfl rfl fun KK HK=>?_
        clear hdep hio;simp only[nv,Nat.reduceAdd]at HK ⊢;generalize S 3=t3 at *;subst h3;go_wp2;try rw[e4]
        exact HK.out _ _ ⟨_,rfl,rfl,Below.refl _ _⟩
       ·cases ho
        have h4:S 4 = .bool false:=hdep 4 (by kernel_rfl) (by decide)
        refine opOk_h rfl rfl fun KK HK=>?_
        clear hdep hio;simp only[nv,Nat.reduceAdd]at HK ⊢;generalize S 4=t4 at *;subst h4;go_wp2;exact HK.out _ _ ⟨_,rfl,rfl,Below.refl _ _⟩
       ·cases ho
        have h5:S 5 = .bool false:=hdep 5 (by kernel_rfl) (by decide)
        refine opOk_guarded rfl rfl 22 (by kernel_rfl) (by simp only[nv,Nat.reduceAdd,h5,List.getElem?_toArray,List.getElem?_cons_succ,List.getElem?_cons_zero]) fun KK hKK=>?_
        have HK:=hid hKK;clear hKK hdep hio;simp only[nv,Nat.reduceAdd]at HK ⊢;generalize S 5=t5 at *;subst h5;go_wp2;exact HK.out _ _ ⟨_,rfl,rfl,Below.refl _ _⟩
       ·cases ho
        have h5:S 5 = .bool false:=hdep 5 (by kernel_rfl) (by decide)
        have h6:S 6 = .pointer (some ⟨w.heap.size,0,none⟩):=hdep 6 (by kernel_rfl) (by decide)
        have cc:=(HK3.out.below hbx HK3.out.lt).cell 0;simp only[gq]at cc;refine opOk_guarded rfl rfl 22 (by kernel_rfl) (by simp only[nv,Nat.reduceAdd,h5,List.getElem?_toArray,List.getElem?_cons_succ,List.getElem?_cons_zero]) fun KK hKK=>?_
        have HK:=hid hKK;clear hKK hdep hio;simp only[nv,Nat.reduceAdd]at HK ⊢;generalize S 5=t5 at *;subst h5;generalize S 6=t6 at *;subst h6;go_wp2;exact HK.out _ _ ⟨_,rfl,rfl,Below.refl _ _⟩
       ·cases ho
        have h5:S 5 = .bool false:=hdep 5 (by kernel_rfl) (by decide)
        have h7:S 7 = .bool false:=hdep 7 (by kernel_rfl) (by decide)
        refine opOk_guarded rfl rfl 22 (by kernel_rfl) (by simp only[nv,Nat.reduceAdd,h5,List.getElem?_toArray,List.getElem?_cons_succ,List.getElem?_cons_zero]) fun KK hKK=>?_
        have HK:=hid hKK;clear hKK hdep hio;simp only[nv,Nat.reduceAdd]at HK ⊢;generalize S 5=t5 at *;subst h5;generalize S 7=t7 at *;subst h7;go_wp2;exact HK.out _ _ ⟨_,rfl,rfl,Below.refl _ _⟩
       ·cases ho
        have h5:S 5 = .bool false:=hdep 5 (by kernel_rfl) (by decide)
        have h8:S 8 = .bool true:=hdep 8 (by kernel_rfl) (by decide)
        refine opOk_guarded rfl rfl 22 (by kernel_rfl) (by simp only[nv,Nat.reduceAdd,h5,List.getElem?_toArray,List.getElem?_cons_succ,List.getElem?_cons_zero]) fun KK hKK=>?_
        have HK:=hid hKK;clear hKK hdep hio;simp only[nv,Nat.reduceAdd]at HK ⊢;generalize S 5=t5 at *;subst h5;generalize S 8=t8 at *;subst h8;go_wp2;exact HK.out _ _ ⟨_,rfl,rfl,Below.refl _ _⟩
       ·cases ho
        have h9:S 9 = .bool true:=hdep 9 (by kernel_rfl) (by decide)
        refine opOk_guarded rfl rfl 26 (by kernel_rfl) (by simp only[nv,Nat.reduceAdd,h9,List.getElem?_toArray,List.getElem?_cons_succ,List.getElem?_cons_zero]) fun KK hKK=>?_
        have HK:=hid hKK;clear hKK hdep hio;simp only[nv,Nat.reduceAdd]at HK ⊢;generalize S 9=t9 at *;subst h9;go_wp2;exact HK.out _ _ ⟨_,rfl,rfl,Below.refl _ _⟩
       ·cases ho
        have h9:S 9 = .bool true:=hdep 9 (by kernel_rfl) (by decide)
        have h10:S 10 = .pointer (some ⟨w.heap.size,1,none⟩):=hdep 10 (by kernel_rfl) (by decide)
        have cc:=(HK3.out.below hbx HK3.out.lt).cell 1;simp only[gq]at cc;refine opOk_guarded rfl rfl 26 (by kernel_rfl) (by simp only[nv,Nat.reduceAdd,h9,List.getElem?_toArray,List.getElem?_cons_succ,List.getElem?_cons_zero]) fun KK hKK=>?_
        have HK:=hid hKK;clear hKK hdep hio;simp only[nv,Nat.reduceAdd]at HK ⊢;generalize S 9=t9 at *;subst h9;generalize S 10=t10 at *;subst h10;go_wp2;exact HK.out _ _ ⟨_,rfl,rfl,Below.refl _ _⟩
       ·cases ho
        have h9:S 9 = .bool true:=hdep 9 (by kernel_rfl) (by decide)
        refine opOk_guarded rfl rfl 26 (by kernel_rfl) (by simp only[nv,Nat.reduceAdd,h9,List.getElem?_toArray,List.getElem?_cons_succ,List.getElem?_cons_zero]) fun KK hKK=>?_
        have HK:=hid hKK;clear hKK hdep hio;simp only[nv,Nat.reduceAdd]at HK ⊢;generalize S 9=t9 at *;subst h9;go_wp2_with fail
        refine(limbs_any x 9223372036854775808 (by decide)).mono ?_
        rintro e xN⟨vN,rfl,hrN,hbN⟩;exact HK.out _ _ ⟨_,rfl,(hrN.lower' (Nat.le_trans HB3.out.size hbx.size)),hbN⟩
       ·cases ho
        have h9:S 9 = .bool true:=hdep 9 (by kernel_rfl) (by decide)
        have h11:S 11 = .slice A2 (dl n) c2:=hdep 11 (by kernel_rfl) (by decide)
        have h12:NatR x w.heap.size (S 12) 9223372036854775808:=hdep 12 (by kernel_rfl) (by decide)
        refine opOk_guarded rfl rfl 26 (by kernel_rfl) (by simp only[nv,Nat.reduceAdd,h9,List.getElem?_toArray,List.getElem?_cons_succ,List.getElem?_cons_zero]) fun KK hKK=>?_
        have HK:=hid hKK;clear hKK hdep hio;simp only[nv,Nat.reduceAdd]at HK ⊢;generalize S 9=t9 at *;subst h9;generalize S 11=t11 at *;subst h11;go_wp2_with fail
        refine(natCmp_any x (w.heap.size+1) w.heap.size _ _ n 9223372036854775808 (HN3.out.below hbx) h12).mono ?_;rintro e xN⟨rfl,q,rfl⟩;rw[HC.out];exact HK.out _ _ ⟨_,rfl,rfl,(Below.refl _ _).drewN _⟩
       ·cases ho
        have h9:S 9 = .bool true:=hdep 9 (by kernel_rfl) (by decide)
        have h13:S 13 = .int .i64 c:=hdep 13 (by kernel_rfl) (by decide)
        refine opOk_guarded rfl rfl 26 (by kernel_rfl) (by simp only[nv,Nat.reduceAdd,h9,List.getElem?_toArray,List.getElem?_cons_succ,List.getElem?_cons_zero]) fun KK hKK=>?_
        have HK:=hid hKK;clear hKK hdep hio;simp only[nv,Nat.reduceAdd]at HK ⊢;generalize S 9=t9 at *;subst h9;generalize S 13=t13 at *;subst h13;go_wp2;try rw[e5]
        exact HK.out _ _ ⟨_,rfl,rfl,Below.refl _ _⟩
       ·cases ho
        have h5:S 5 = .bool false:=hdep 5 (by kernel_rfl) (by decide)
        have h9:S 9 = .bool true:=hdep 9 (by kernel_rfl) (by decide)
        have h14:S 14 = .bool true:=hdep 14 (by kernel_rfl) (by decide)
        refine opOk_guarded rfl rfl 22 (by kernel_rfl) (by simp only[nv,Nat.reduceAdd,h5,List.getElem?_toArray,List.getElem?_cons_succ,List.getElem?_cons_zero]) fun KK hKK=>?_
        have HK:=hid hKK;clear hKK hdep hio;simp only[nv,Nat.reduceAdd]at HK ⊢;generalize S 5=t5 at *;subst h5;generalize S 9=t9 at *;subst h9;generalize S 14=t14 at *;subst h14;go_wp2;exact HK.out _ _ ⟨_,rfl,rfl,Below.refl _ _⟩
       ·cases ho
        have h5:S 5 = .bool false:=hdep 5 (by kernel_rfl) (by decide)
        have h15:S 15 = .bool true:=hdep 15 (by kernel_rfl) (by decide)
        refine opOk_h rfl rfl fun KK HK=>?_
        clear hdep hio;simp only[nv,Nat.reduceAdd]at HK ⊢;generalize S 5=t5 at *;subst h5;generalize S 15=t15 at *;subst h15;go_wp2;exact HK.out _ _ ⟨_,rfl,rfl,Below.refl _ _⟩
       ·exact absurd hio (by simp)
      intro S x hbx hF;have g0:S 0 = .pointer (some ⟨w.heap.size,1,none⟩):=hF 0 (by decide)
      have g1:S 1 = .slice A2 (dl n) c2:=hF 1 (by decide)
      have g2:NatR x w.heap.size (S 2) 9223372036854775808:=hF 2 (by decide)
      have g3:S 3 = .int .i64 c:=hF 3 (by decide)
      have g4:S 4 = .bool false:=hF 4 (by decide)
      have g5:S 5 = .bool false:=hF 5 (by decide)
      have g6:S 6 = .pointer (some ⟨w.heap.size,0,none⟩):=hF 6 (by decide)
      have g7:S 7 = .bool false:=hF 7 (by decide)
      have g8:S 8 = .bool true:=hF 8 (by decide)
      have g9:S 9 = .bool true:=hF 9 (by decide)
      have g10:S 10 = .pointer (some ⟨w.heap.size,1,none⟩):=hF 10 (by decide)
      have g11:S 11 = .slice A2 (dl n) c2:=hF 11 (by decide)
      have g12:NatR x w.heap.size (S 12) 9223372036854775808:=hF 12 (by decide)
      have g13:S 13 = .int .i64 c:=hF 13 (by decide)
      have g14:S 14 = .bool true:=hF 14 (by decide)
      have g15:S 15 = .bool true:=hF 15 (by decide)
      have g16:S 16 = .bool true:=hF 16 (by decide)
      clear hF;simp only[nv,Nat.reduceAdd,List.length_cons,List.length_nil,List.drop_succ_cons,List.drop_zero];generalize S 0=t0 at *;subst g0;generalize S 1=t1 at *;subst g1;generalize S 2=t2 at *;generalize S 3=t3 at *;subst g3;generalize S 4=t4 at *;subst g4;generalize S 5=t5 at *;subst g5;generalize S 6=t6 at *;subst g6;generalize S 7=t7 at *;subst g7;generalize S 8=t8 at *;subst g8;generalize S 9=t9 at *;subst g9;generalize S 10=t10 at *;subst g10;generalize S 11=t11 at *;subst g11;generalize S 12=t12 at *;generalize S 13=t13 at *;subst g13;generalize S 14=t14 at *;subst g14;generalize S 15=t15 at *;subst g15;generalize S 16=t16 at *;subst g16;go_wp2;go_ret2
      exact .no HNO.out (HB3.out.trans (hbx.mono HB3.out.size))
     ·have e5:(c==0)=false:=beq_eq_false_iff_ne.2 hz
      have hlt:n<9223372036854775808:=by
       have h1:=HC.out;rcases Nat.lt_or_ge n 9223372036854775808 with h3|h3
       ·exact h3
       ·rw[cmpI_eq (by omega)]at h1;omega
      go_upto_region 4 with(fail)
      refine wp_region_facts (by kernel_rfl) (by kernel_rfl) [17,18,19,20,21,22,23,24,25,26,27,28,29,30,31,32,33] 40 (by kernel_rfl) (fun io v x=>match io with
       | 0=>v = .pointer (some ⟨w.heap.size,1,none⟩)
       | 1=>v = .slice A2 (dl n) c2
       | 2=>NatR x w.heap.size v 9223372036854775808
       | 3=>v = .int .i64 c
       | 4=>v = .bool false
       | 5=>v = .bool false
       | 6=>v = .pointer (some ⟨w.heap.size,0,none⟩)
       | 7=>v = .bool false
       | 8=>v = .bool true
       | 9=>v = .bool true
       | 10=>v = .pointer (some ⟨w.heap.size,1,none⟩)
       | 11=>v = .slice A2 (dl n) c2
       | 12=>NatR x w.heap.size v 9223372036854775808
       | 13=>v = .int .i64 c
       | 14=>v = .bool false
       | 15=>v = .bool false
       | _=>v = .bool false) ?_ ?_ ?_
      ·intro io v x x' hio h hb
       rcases io with _|_|_|_|_|_|_|_|_|_|_|_|_|_|_|_|io
       ·exact h
       ·exact h
       ·exact NatR.below h hb
       ·exact h
       ·exact h
       ·exact h
       ·exact h
       ·exact h
       ·exact h
       ·exact h
       ·exact h
       ·exact h
       ·exact NatR.below h hb
       ·exact h
       ·exact h
       ·exact h
       ·exact h
      ·intro io oo S x ho hio hbx hdep
       rcases io with _|_|_|_|_|_|_|_|_|_|_|_|_|_|_|_|_|io
       ·cases ho
        refine opOk_h rfl rfl fun KK HK=>?_
        clear hdep hio;simp only[nv,Nat.reduceAdd]at HK ⊢;go_wp2;exact HK.out _ _ ⟨_,rfl,rfl,Below.refl _ _⟩
       ·cases ho
        have h0:S 0 = .pointer (some ⟨w.heap.size,1,none⟩):=hdep 0 (by kernel_rfl) (by decide)
        have cc:=(HK3.out.below hbx HK3.out.lt).cell 1;simp only[gq]at cc;refine opOk_h rfl rfl fun KK HK=>?_
        clear hdep hio;simp only[nv,Nat.reduceAdd]at HK ⊢;generalize S 0=t0 at *;subst h0;go_wp2;exact HK.out _ _ ⟨_,rfl,rfl,Below.refl _ _⟩
       ·cases ho
        refine opOk_h rfl rfl fun KK HK=>?_
        clear hdep hio;simp only[nv,Nat.reduceAdd]at HK ⊢;go_wp2_with fail
        refine(limbs_any x 9223372036854775808 (by decide)).mono ?_
        rintro e xN⟨vN,rfl,hrN,hbN⟩;exact HK.out _ _ ⟨_,rfl,(hrN.lower' (Nat.le_trans HB3.out.size hbx.size)),hbN⟩
       ·cases ho
        have h1:S 1 = .slice A2 (dl n) c2:=hdep 1 (by kernel_rfl) (by decide)
        have h2:NatR x w.heap.size (S 2) 9223372036854775808:=hdep 2 (by kernel_rfl) (by decide)
        refine opOk_h rfl rfl fun KK HK=>?_
        clear hdep hio;simp only[nv,Nat.reduceAdd]at HK ⊢;generalize S 1=t1 at *;subst h1;go_wp2_with fail
        refine(natCmp_any x (w.heap.size+1) w.heap.size _ _ n 9223372036854775808 (HN3.out.below hbx) h2).mono ?_;rintro e xN⟨rfl,q,rfl⟩;rw[HC.out];exact HK.out _ _ ⟨_,rfl,rfl,(Below.refl _ _).drewN _⟩
       ·cases ho
        have h3:S 3 = .int .i64 c:=hdep 3 (by kernel_rfl) (by decide)
        refine opOk_h rfl rfl fun KK HK=>?_
        clear hdep hio;simp only[nv,Nat.reduceAdd]at HK ⊢;generalize S 3=t3 at *;subst h3;go_wp2;try rw[e4]
        exact HK.out _ _ ⟨_,rfl,rfl,Below.refl _ _⟩
       ·cases ho
        have h4:S 4 = .bool false:=hdep 4 (by kernel_rfl) (by decide)
        refine opOk_h rfl rfl fun KK HK=>?_
        clear hdep hio;simp only[nv,Nat.reduceAdd]at HK ⊢;generalize S 4=t4 at *;subst h4;go_wp2;exact HK.out _ _ ⟨_,rfl,rfl,Below.refl _ _⟩
       ·cases ho
        have h5:S 5 = .bool false:=hdep 5 (by kernel_rfl) (by decide)
        refine opOk_guarded rfl rfl 22 (by kernel_rfl) (by simp only[nv,Nat.reduceAdd,h5,List.getElem?_toArray,List.getElem?_cons_succ,List.getElem?_cons_zero]) fun KK hKK=>?_
        have HK:=hid hKK;clear hKK hdep hio;simp only[nv,Nat.reduceAdd]at HK ⊢;generalize S 5=t5 at *;subst h5;go_wp2;exact HK.out _ _ ⟨_,rfl,rfl,Below.refl _ _⟩
       ·cases ho
        have h5:S 5 = .bool false:=hdep 5 (by kernel_rfl) (by decide)
        have h6:S 6 = .pointer (some ⟨w.heap.size,0,none⟩):=hdep 6 (by kernel_rfl) (by decide)
        have cc:=(HK3.out.below hbx HK3.out.lt).cell 0;simp only[gq]at cc;refine opOk_guarded rfl rfl 22 (by kernel_rfl) (by simp only[nv,Nat.reduceAdd,h5,List.getElem?_toArray,List.getElem?_cons_succ,List.getElem?_cons_zero]) fun KK hKK=>?_
        have HK:=hid hKK;clear hKK hdep hio;simp only[nv,Nat.reduceAdd]at HK ⊢;generalize S 5=t5 at *;subst h5;generalize S 6=t6 at *;subst h6;go_wp2;exact HK.out _ _ ⟨_,rfl,rfl,Below.refl _ _⟩
       ·cases ho
        have h5:S 5 = .bool false:=hdep 5 (by kernel_rfl) (by decide)
        have h7:S 7 = .bool false:=hdep 7 (by kernel_rfl) (by decide)
        refine opOk_guarded rfl rfl 22 (by kernel_rfl) (by simp only[nv,Nat.reduceAdd,h5,List.getElem?_toArray,List.getElem?_cons_succ,List.getElem?_cons_zero]) fun KK hKK=>?_
        have HK:=hid hKK;clear hKK hdep hio;simp only[nv,Nat.reduceAdd]at HK ⊢;generalize S 5=t5 at *;subst h5;generalize S 7=t7 at *;subst h7;go_wp2;exact HK.out _ _ ⟨_,rfl,rfl,Below.refl _ _⟩
       ·cases ho
        have h5:S 5 = .bool false:=hdep 5 (by kernel_rfl) (by decide)
        have h8:S 8 = .bool true:=hdep 8 (by kernel_rfl) (by decide)
        refine opOk_guarded rfl rfl 22 (by kernel_rfl) (by simp only[nv,Nat.reduceAdd,h5,List.getElem?_toArray,List.getElem?_cons_succ,List.getElem?_cons_zero]) fun KK hKK=>?_
        have HK:=hid hKK;clear hKK hdep hio;simp only[nv,Nat.reduceAdd]at HK ⊢;generalize S 5=t5 at *;subst h5;generalize S 8=t8 at *;subst h8;go_wp2;exact HK.out _ _ ⟨_,rfl,rfl,Below.refl _ _⟩
       ·cases ho
        have h9:S 9 = .bool true:=hdep 9 (by kernel_rfl) (by decide)
        refine opOk_guarded rfl rfl 26 (by kernel_rfl) (by simp only[nv,Nat.reduceAdd,h9,List.getElem?_toArray,List.getElem?_cons_succ,List.getElem?_cons_zero]) fun KK hKK=>?_
        have HK:=hid hKK;clear hKK hdep hio;simp only[nv,Nat.reduceAdd]at HK ⊢;generalize S 9=t9 at *;subst h9;go_wp2;exact HK.out _ _ ⟨_,rfl,rfl,Below.refl _ _⟩
       ·cases ho
        have h9:S 9 = .bool true:=hdep 9 (by kernel_rfl) (by decide)
        have h10:S 10 = .pointer (some ⟨w.heap.size,1,none⟩):=hdep 10 (by kernel_rfl) (by decide)
        have cc:=(HK3.out.below hbx HK3.out.lt).cell 1;simp only[gq]at cc;refine opOk_guarded rfl rfl 26 (by kernel_rfl) (by simp only[nv,Nat.reduceAdd,h9,List.getElem?_toArray,List.getElem?_cons_succ,List.getElem?_cons_zero]) fun KK hKK=>?_
        have HK:=hid hKK;clear hKK hdep hio;simp only[nv,Nat.reduceAdd]at HK ⊢;generalize S 9=t9 at *;subst h9;generalize S 10=t10 at *;subst h10;go_wp2;exact HK.out _ _ ⟨_,rfl,rfl,Below.refl _ _⟩
       ·cases ho
        have h9:S 9 = .bool true:=hdep 9 (by kernel_rfl) (by decide)
        refine opOk_guarded rfl rfl 26 (by kernel_rfl) (by simp only[nv,Nat.reduceAdd,h9,List.getElem?_toArray,List.getElem?_cons_succ,List.getElem?_cons_zero]) fun KK hKK=>?_
        have HK:=hid hKK;clear hKK hdep hio;simp only[nv,Nat.reduceAdd]at HK ⊢;generalize S 9=t9 at *;subst h9;go_wp2_with fail
        refine(limbs_any x 9223372036854775808 (by decide)).mono ?_
        rintro e xN⟨vN,rfl,hrN,hbN⟩;exact HK.out _ _ ⟨_,rfl,(hrN.lower' (Nat.le_trans HB3.out.size hbx.size)),hbN⟩
       ·cases ho
        have h9:S 9 = .bool true:=hdep 9 (by kernel_rfl) (by decide)
        have h11:S 11 = .slice A2 (dl n) c2:=hdep 11 (by kernel_rfl) (by decide)
        have h12:NatR x w.heap.size (S 12) 9223372036854775808:=hdep 12 (by kernel_rfl) (by decide)
        refine opOk_guarded rfl rfl 26 (by kernel_rfl) (by simp only[nv,Nat.reduceAdd,h9,List.getElem?_toArray,List.getElem?_cons_succ,List.getElem?_cons_zero]) fun KK hKK=>?_
        have HK:=hid hKK;clear hKK hdep hio;simp only[nv,Nat.reduceAdd]at HK ⊢;generalize S 9=t9 at *;subst h9;generalize S 11=t11 at *;subst h11;go_wp2_with fail
        refine(natCmp_any x (w.heap.size+1) w.heap.size _ _ n 9223372036854775808 (HN3.out.below hbx) h12).mono ?_;rintro e xN⟨rfl,q,rfl⟩;rw[HC.out];exact HK.out _ _ ⟨_,rfl,rfl,(Below.refl _ _).drewN _⟩
       ·cases ho
        have h9:S 9 = .bool true:=hdep 9 (by kernel_rfl) (by decide)
        have h13:S 13 = .int .i64 c:=hdep 13 (by kernel_rfl) (by decide)
        refine opOk_guarded rfl rfl 26 (by kernel_rfl) (by simp only[nv,Nat.reduceAdd,h9,List.getElem?_toArray,List.getElem?_cons_succ,List.getElem?_cons_zero]) fun KK hKK=>?_
        have HK:=hid hKK;clear hKK hdep hio;simp only[nv,Nat.reduceAdd]at HK ⊢;generalize S 9=t9 at *;subst h9;generalize S 13=t13 at *;subst h13;go_wp2;try rw[e5]
        exact HK.out _ _ ⟨_,rfl,rfl,Below.refl _ _⟩
       ·cases ho
        have h5:S 5 = .bool false:=hdep 5 (by kernel_rfl) (by decide)
        have h9:S 9 = .bool true:=hdep 9 (by kernel_rfl) (by decide)
        have h14:S 14 = .bool false:=hdep 14 (by kernel_rfl) (by decide)
        refine opOk_guarded rfl rfl 22 (by kernel_rfl) (by simp only[nv,Nat.reduceAdd,h5,List.getElem?_toArray,List.getElem?_cons_succ,List.getElem?_cons_zero]) fun KK hKK=>?_
        have HK:=hid hKK;clear hKK hdep hio;simp only[nv,Nat.reduceAdd]at HK ⊢;generalize S 5=t5 at *;subst h5;generalize S 9=t9 at *;subst h9;generalize S 14=t14 at *;subst h14;go_wp2;exact HK.out _ _ ⟨_,rfl,rfl,Below.refl _ _⟩
       ·cases ho
        have h5:S 5 = .bool false:=hdep 5 (by kernel_rfl) (by decide)
        have h15:S 15 = .bool false:=hdep 15 (by kernel_rfl) (by decide)
        refine opOk_h rfl rfl fun KK HK=>?_
        clear hdep hio;simp only[nv,Nat.reduceAdd]at HK ⊢;generalize S 5=t5 at *;subst h5;generalize S 15=t15 at *;subst h15;go_wp2;exact HK.out _ _ ⟨_,rfl,rfl,Below.refl _ _⟩
       ·exact absurd hio (by simp)
      intro S x hbx hF;have g0:S 0 = .pointer (some ⟨w.heap.size,1,none⟩):=hF 0 (by decide)
      have g1:S 1 = .slice A2 (dl n) c2:=hF 1 (by decide)
      have g2:NatR x w.heap.size (S 2) 9223372036854775808:=hF 2 (by decide)
      have g3:S 3 = .int .i64 c:=hF 3 (by decide)
      have g4:S 4 = .bool false:=hF 4 (by decide)
      have g5:S 5 = .bool false:=hF 5 (by decide)
      have g6:S 6 = .pointer (some ⟨w.heap.size,0,none⟩):=hF 6 (by decide)
      have g7:S 7 = .bool false:=hF 7 (by decide)
      have g8:S 8 = .bool true:=hF 8 (by decide)
      have g9:S 9 = .bool true:=hF 9 (by decide)
      have g10:S 10 = .pointer (some ⟨w.heap.size,1,none⟩):=hF 10 (by decide)
      have g11:S 11 = .slice A2 (dl n) c2:=hF 11 (by decide)
      have g12:NatR x w.heap.size (S 12) 9223372036854775808:=hF 12 (by decide)
      have g13:S 13 = .int .i64 c:=hF 13 (by decide)
      have g14:S 14 = .bool false:=hF 14 (by decide)
      have g15:S 15 = .bool false:=hF 15 (by decide)
      have g16:S 16 = .bool false:=hF 16 (by decide)
      clear hF;simp only[nv,Nat.reduceAdd,List.length_cons,List.length_nil,List.drop_succ_cons,List.drop_zero];generalize S 0=t0 at *;subst g0;generalize S 1=t1 at *;subst g1;generalize S 2=t2 at *;generalize S 3=t3 at *;subst g3;generalize S 4=t4 at *;subst g4;generalize S 5=t5 at *;subst g5;generalize S 6=t6 at *;subst g6;generalize S 7=t7 at *;subst g7;generalize S 8=t8 at *;subst g8;generalize S 9=t9 at *;subst g9;generalize S 10=t10 at *;subst g10;generalize S 11=t11 at *;subst g11;generalize S 12=t12 at *;generalize S 13=t13 at *;subst g13;generalize S 14=t14 at *;subst g14;generalize S 15=t15 at *;subst g15;generalize S 16=t16 at *;subst g16;have HK4:=hid (HK3.out.below hbx HK3.out.lt);have HN4:=hid (HN3.out.below hbx);have HB4:=hid (HB3.out.trans (hbx.mono HB3.out.size));clear hbx hk0 hk1;have k0:=HK4.out.cell 0;have k1:=HK4.out.cell 1;simp only[gq]at k0 k1;go_wp2;go_loop [4,5] (fun vv iv=>∃j:Nat,j≤dl n∧vv = .int .u64 ((n/B^j:Nat):Int)∧iv = .int .i64 ((j:Int)-1)) (fun _ iv=>(intOf iv+1).toNat)
      case atStart=>exact⟨dl n,Nat.le_refl _,by rw[Nat.div_eq_of_lt (lt_dl n)];rfl,rfl⟩
      case round=>
       obtain⟨j,hj,rfl,rfl⟩:=hrel;rcases j with _|j
       ·have hn0:n/B^0=n:=by simp
        rw[hn0];have hf:fitsQ q=true:=fits_yes HQD.out (by have h2:=of_decide_eq_false HNE.out;omega) (by have h1:=HNU.out;have h2:=of_decide_eq_false HNE.out;omega)
        have hqn:q.num=(n:Int):=by have h1:=HNU.out;have h2:=of_decide_eq_false HNE.out;omega
        have HF:=hid hf;have HQN:=hid hqn;clear hf hqn hn0;go_wp2;go_ret2
        exact .yes HF.out (by rw[HQN.out]) HB4.out
       ·obtain⟨_,Ax,cx,hAx,hkc,hcm,hcell⟩:=HN4.out
        injection hAx with e6 _ e7;subst e6;subst e7;unfold maxLen at hcm;obtain⟨b,off,rfl,hlb,hbb,hce⟩:=hcell (by omega)
        have hcl:=hce j (by omega)
        have hds:=div_split n j;have a0:n/B^j≤n:=Nat.div_le_self _ _;obtain⟨a,ha⟩:∃a,n/B^(j+1)=a:=⟨_,rfl⟩;obtain⟨r,hr⟩:∃r,n/B^j=r:=⟨_,rfl⟩;obtain⟨g,hg⟩:∃g,dg n j=g:=⟨_,rfl⟩;rw[ha,hr,hg]at hds;rw[hr]at a0;rw[hg]at hcl;rw[ha];have hds':r=a*1000000000+g:=hds;have HR:=hid hr;clear hce hcell hds ha hr hg;go_wp2;go_round
        case rel=>exact⟨j,by omega,by rw[HR.out,hds'];go_num,by go_num⟩
        case measure=>simp[intOf]
  ·have e3:decide ((3:Int)<((dl n:Nat):Int))=true:=decide_eq_true (by omega)
   have hno:fitsQ q=false:=fits_num (fun h=>hl3 (dl_le (by
    have h9:n≤9223372036854775808:=by omega
    exact Nat.lt_of_le_of_lt h9 (by decide))))
   have HNO:=hid hno;clear hno;go_wp2;go_ret2
   exact .no HNO.out HB3.out
 ·have e1:decide (d=1)=false:=decide_eq_false hd1
  have hno:fitsQ q=false:=fits_den (by rw[hd];exact hd1)
  have HNO:=hid hno;clear hno;go_wp2;go_ret2
  exact .no HNO.out HB3.out
end Go.Proofs.YtellcholbkoakaaGreatDoor
