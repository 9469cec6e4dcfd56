/-
 The reference's ToInt (printed by gen_toint.py).
-/
import Derived.Test.YtellcholbkoakaaGreatDoorHTa
import Derived.Test.YtellcholbkoakaaGreatDoorHVd
namespace AC
open Go Go.RowKit
section
variable {P:Program} {ops:Array Oper} {Q:Exit→Act→World→Prop}
theorem ubs{i j:Nat}{want:Bool}{o:Oper}{I:Act→World→Prop}{a:Act}{w:World}(ho:ops[i]? = some o)(hg:o.guard=some (j,want))(t:Nat)(hd:(ops[j]?).bind (·.dst)=some t)(hv:a.tmps[t]? = some undef)
 (h:I (a.put o.dst undef) w):opOk P ops Q i I a w:=by
 refine opOk.of ?_;have hy:yielded ops a.tmps j=none:=by
  unfold yielded;rw[hd];show(match a.tmps[t]? with|some (.bool b)=>some b|_=>none)=none
  rw[hv];rfl
 unfold wpOp;rw[ho];have:((none:Option Bool)==some want)=false:=rfl;simp only[Region.wanted,hg,hy,this];exact h
end
theorem NatR.lower'{w:World}{lo lo':Nat}{v:Value}{n:Nat}(h:NatR w lo v n)(hl:lo'≤lo):NatR w lo' v n:=Limbs.lower h hl
def ucw(q:Rat):Bool:=decide (q.den=1)&&decide (-9223372036854775808≤q.num)&&decide (q.num≤9223372036854775807)
theorem uor{q:Rat}(h1:q.den=1)(h2 : -9223372036854775808≤q.num)(h3:q.num≤9223372036854775807):ucw q=true:=by simp[ucw,h1,h2,h3]
theorem uv5{q:Rat}(h:q.den≠1):ucw q=false:=by simp[ucw,h]
theorem uje{q:Rat}(h:¬(-9223372036854775808≤q.num∧q.num≤9223372036854775807)):ucw q=false:=by
 cases hf:ucw q with
 | false=>rfl
 | true=>
  simp only[ucw,Bool.and_eq_true,decide_eq_true_eq]at hf;exact absurd ⟨hf.1.2,hf.2⟩ h
end AC
namespace Go.Proofs.YtellcholbkoakaaGreatDoor
open Go.Lib (hid)
open Go.RowKit AC
set_option linter.unusedVariables false
set_option linter.unusedSimpArgs false
def TIPost(q:Rat)(w:World)(e:Ending)(w':World):Prop:=
 e = .returned (.tuple #[.int .i64 (if ucw q then q.num else 0),.bool (ucw q)])∧Below w.heap.size w w'
theorem TIPost.no{q:Rat}{w w':World}(h:ucw q=false)(hb:Below w.heap.size w w'):TIPost q w (.returned (.tuple #[.int .i64 0,.bool false])) w':=by
 unfold TIPost;rw[h];exact⟨rfl,hb⟩
theorem TIPost.yes{q:Rat}{w w':World}{n:Int}(h:ucw q=true)(hn:q.num=n)(hb:Below w.heap.size w w'):TIPost q w (.returned (.tuple #[.int .i64 n,.bool true])) w':=by
 unfold TIPost;rw[h,←hn];exact⟨rfl,hb⟩
set_option maxHeartbeats 8000000 in
set_option maxRecDepth 100000 in
theorem uis(w:World)(lo:Nat)(v:Value)(q:Rat)(hv:RatV w lo v 64 q):Calls Tryz.prog 130 #[v] w (TIPost q w):=by
 have k4:=hv.size;have HV:=hid hv;obtain⟨s,A,k,c,A',k',c',rfl⟩:=hv.form;clear hv;go_enter Tryz.func130,Tryz.ntmps130
 go_wp2_with fail
 refine(ucv _ lo _ 64 q (HV.out.below (ulk w _)) (by omega)).mono ?_
 rintro e w1⟨v1,rfl,d5,f3⟩;have j2:=(ulk w _).trans (f3.mono (by simp))
 have f2:=(Bk.new _ 76 _).below f3 (by simp)
 simp only[World.size_alloc]at d5;obtain⟨A2,c2,A3,c3,rfl,_,_⟩:=FracR.form d5;obtain⟨k6,k7,l2⟩:=f2.facts;have c1:=((f2.set 0 (.bool (decide (q.num<0)))).set 1 (.slice A2 (dl q.num.natAbs) c2)).set 2 (.slice A3 (dl q.den) c3);simp only[List.setIfInBounds_toArray,List.set_cons_succ,List.set_cons_zero]at c1;have j5:=ufk (g:=w.heap.size) d5 (by omega) (.bool (decide (q.num<0))) (.slice A2 (dl q.num.natAbs) c2) (.slice A3 (dl q.den) c3)
 have j1:=uK j2 (Nat.le_refl w.heap.size) (.bool (decide (q.num<0))) (.slice A2 (dl q.num.natAbs) c2) (.slice A3 (dl q.den) c3);have d2:=hid c1;have j0:=hid j5;have d6:=hid j1;clear c1 j5 j1 f2 d5 f3 j2;obtain⟨n,hn⟩:∃n,q.num.natAbs=n:=⟨_,rfl⟩;obtain⟨d,hd⟩:∃d,q.den=d:=⟨_,rfl⟩;obtain⟨neg,c4⟩:∃neg,decide (q.num<0)=neg:=⟨_,rfl⟩;have f1:=(uoq j0.out).1;rw[hn,hd,c4]at f1;have j6:=hid f1;clear f1;rw[hn,hd,c4]at d2 d6;rw[hn,hd,c4];have j8:=d2.out.cell 0;go_wp2_with fail
 refine(ubr _ (w.heap.size+1) _ (64+1) q (by have:=RatR.toV j0.out k4;rwa [hn,hd,c4]at this) (by omega)).mono ?_
 rintro e w3⟨rfl,d3⟩;rw[hd];have a4:=hid (d2.out.below d3 d2.out.lt);have a9:=hid (j6.out.below d3);have a5:=hid (d6.out.trans (d3.mono d6.out.size));have l0:=a4.out.lt;clear d3 j8;have f7:=a4.out.cell 0;have c1:=a4.out.cell 1;simp only[gq]at f7 c1;by_cases d4:d=1
 ·have e1:decide (d=1)=true:=decide_eq_true d4
  by_cases k2:dl n≤3
  ·have e3:decide ((3:Int)<((dl n:Nat):Int))=false:=decide_eq_false (by omega)
   have j4:q.den=1:=by rw[hd,d4]
   have f9:=hid j4;obtain⟨c,hc⟩:∃c,ugb n 9223372036854775808=c:=⟨_,rfl⟩;have HC:=hid hc;have b0:=hid c4;have b2:=hid hn;clear j4 hc c4 hn;by_cases j3:0<c
   ·have e4:decide (0<c)=true:=decide_eq_true j3
    go_upto_region 4 with(fail)
    refine uv (by kernel_rfl) (by kernel_rfl) [17,18,19,20,21,22,23,24,25,26,27,28,29,30,31,32,33] 40 (by kernel_rfl) (fun io v x=>match io with
     | 0=>v = .pointer (some ⟨w.heap.size,1,none⟩)
     | 1=>v = .slice A2 (dl n) c2
     | 2=>NatR x w.heap.size v 9223372036854775808
     | 3=>v = .int .i64 c
     | 4=>v = .bool true
     | 5=>v = .bool true
     | 6=>v=undef
     | 7=>v=undef
     | 8=>v=undef
     | 9=>v=undef
     | 10=>v=undef
     | 11=>v=undef
     | 12=>v=undef
     | 13=>v=undef
     | 14=>v=undef
     | 15=>v=undef
     | _=>v = .bool true) ?_ ?_ ?_
    ·intro io v x x' a2 h hb
     rcases io with _|_|_|_|_|_|_|_|_|_|_|_|_|_|_|_|io
     ·exact h
     ·exact h
     ·exact NatR.below h hb
     ·exact h
     ·exact h
     ·exact h
     ·exact h
     ·exact h
     ·exact h
     ·exact h
     ·exact h
     ·exact h
     ·exact h
     ·exact h
     ·exact h
     ·exact h
     ·exact h
    ·intro io oo S x ho a2 a3 a0
     rcases io with _|_|_|_|_|_|_|_|_|_|_|_|_|_|_|_|_|io
     ·cases ho
      refine ub rfl rfl fun KK HK=>?_
      clear a0 a2;simp only[nv,Nat.reduceAdd]at HK ⊢;go_wp2;exact HK.out _ _ ⟨_,rfl,rfl,Below.refl _ _⟩
     ·cases ho
      have h0:S 0 = .pointer (some ⟨w.heap.size,1,none⟩):=a0 0 (by kernel_rfl) (by decide)
      have cc:=(a4.out.below a3 a4.out.lt).cell 1;simp only[gq]at cc;refine ub rfl rfl fun KK HK=>?_
      clear a0 a2;simp only[nv,Nat.reduceAdd]at HK ⊢;generalize S 0=t0 at *;subst h0;go_wp2;exact HK.out _ _ ⟨_,rfl,rfl,Below.refl _ _⟩
     ·cases ho
      refine ub rfl rfl fun KK HK=>?_
      clear a0 a2;simp only[nv,Nat.reduceAdd]at HK ⊢;go_wp2_with fail
      refine(uba x 9223372036854775808 (by decide)).mono ?_
      rintro e xN⟨vN,rfl,a8,a6⟩;exact HK.out _ _ ⟨_,rfl,(a8.lower' (Nat.le_trans a5.out.size a3.size)),a6⟩
     ·cases ho
      have h1:S 1 = .slice A2 (dl n) c2:=a0 1 (by kernel_rfl) (by decide)
      have h2:NatR x w.heap.size (S 2) 9223372036854775808:=a0 2 (by kernel_rfl) (by decide)
      refine ub rfl rfl fun KK HK=>?_
      clear a0 a2;simp only[nv,Nat.reduceAdd]at HK ⊢;generalize S 1=t1 at *;subst h1;go_wp2_with fail
      refine(ua0 x (w.heap.size+1) w.heap.size _ _ n 9223372036854775808 (a9.out.below a3) h2).mono ?_;rintro e xN⟨rfl,q,rfl⟩;rw[HC.out];exact HK.out _ _ ⟨_,rfl,rfl,(Below.refl _ _).drewN _⟩
     ·cases ho
      have h3:S 3 = .int .i64 c:=a0 3 (by kernel_rfl) (by decide)
      refine ub rfl rfl fun KK HK=>?_
      clear a0 a2;simp only[nv,Nat.reduceAdd]at HK ⊢;generalize S 3=t3 at *;subst h3;go_wp2;try rw[e4]
      exact HK.out _ _ ⟨_,rfl,rfl,Below.refl _ _⟩
     ·cases ho
      have h4:S 4 = .bool true:=a0 4 (by kernel_rfl) (by decide)
      refine ub rfl rfl fun KK HK=>?_
      clear a0 a2;simp only[nv,Nat.reduceAdd]at HK ⊢;generalize S 4=t4 at *;subst h4;go_wp2;exact HK.out _ _ ⟨_,rfl,rfl,Below.refl _ _⟩
     ·cases ho
      have h5:S 5 = .bool true:=a0 5 (by kernel_rfl) (by decide)
      exact uao rfl rfl 22 (by kernel_rfl) (by simp only[nv,Nat.reduceAdd,h5,List.getElem?_toArray,List.getElem?_cons_succ,List.getElem?_cons_zero];rfl) ⟨_,rfl,rfl,Below.refl _ _⟩
     ·cases ho
      have h5:S 5 = .bool true:=a0 5 (by kernel_rfl) (by decide)
      exact uao rfl rfl 22 (by kernel_rfl) (by simp only[nv,Nat.reduceAdd,h5,List.getElem?_toArray,List.getElem?_cons_succ,List.getElem?_cons_zero];rfl) ⟨_,rfl,rfl,Below.refl _ _⟩
     ·cases ho
      have h5:S 5 = .bool true:=a0 5 (by kernel_rfl) (by decide)
      exact uao rfl rfl 22 (by kernel_rfl) (by simp only[nv,Nat.reduceAdd,h5,List.getElem?_toArray,List.getElem?_cons_succ,List.getElem?_cons_zero];rfl) ⟨_,rfl,rfl,Below.refl _ _⟩
     ·cases ho
      have h5:S 5 = .bool true:=a0 5 (by kernel_rfl) (by decide)
      exact uao rfl rfl 22 (by kernel_rfl) (by simp only[nv,Nat.reduceAdd,h5,List.getElem?_toArray,List.getElem?_cons_succ,List.getElem?_cons_zero];rfl) ⟨_,rfl,rfl,Below.refl _ _⟩
     ·cases ho
      have h9:S 9=undef:=a0 9 (by kernel_rfl) (by decide)
      exact ubs rfl rfl 26 (by kernel_rfl) (by simp only[nv,Nat.reduceAdd,h9,List.getElem?_toArray,List.getElem?_cons_succ,List.getElem?_cons_zero]) ⟨_,rfl,rfl,Below.refl _ _⟩
     ·cases ho
      have h9:S 9=undef:=a0 9 (by kernel_rfl) (by decide)
      exact ubs rfl rfl 26 (by kernel_rfl) (by simp only[nv,Nat.reduceAdd,h9,List.getElem?_toArray,List.getElem?_cons_succ,List.getElem?_cons_zero]) ⟨_,rfl,rfl,Below.refl _ _⟩
     ·cases ho
      have h9:S 9=undef:=a0 9 (by kernel_rfl) (by decide)
      exact ubs rfl rfl 26 (by kernel_rfl) (by simp only[nv,Nat.reduceAdd,h9,List.getElem?_toArray,List.getElem?_cons_succ,List.getElem?_cons_zero]) ⟨_,rfl,rfl,Below.refl _ _⟩
     ·cases ho
      have h9:S 9=undef:=a0 9 (by kernel_rfl) (by decide)
      exact ubs rfl rfl 26 (by kernel_rfl) (by simp only[nv,Nat.reduceAdd,h9,List.getElem?_toArray,List.getElem?_cons_succ,List.getElem?_cons_zero]) ⟨_,rfl,rfl,Below.refl _ _⟩
     ·cases ho
      have h9:S 9=undef:=a0 9 (by kernel_rfl) (by decide)
      exact ubs rfl rfl 26 (by kernel_rfl) (by simp only[nv,Nat.reduceAdd,h9,List.getElem?_toArray,List.getElem?_cons_succ,List.getElem?_cons_zero]) ⟨_,rfl,rfl,Below.refl _ _⟩
     ·cases ho
      have h5:S 5 = .bool true:=a0 5 (by kernel_rfl) (by decide)
      exact uao rfl rfl 22 (by kernel_rfl) (by simp only[nv,Nat.reduceAdd,h5,List.getElem?_toArray,List.getElem?_cons_succ,List.getElem?_cons_zero];rfl) ⟨_,rfl,rfl,Below.refl _ _⟩
     ·cases ho
      have h5:S 5 = .bool true:=a0 5 (by kernel_rfl) (by decide)
      have b9:S 15=undef:=a0 15 (by kernel_rfl) (by decide)
      refine ub rfl rfl fun KK HK=>?_
      clear a0 a2;simp only[nv,Nat.reduceAdd]at HK ⊢;generalize S 5=t5 at *;subst h5;generalize S 15=t15 at *;subst b9;go_wp2;exact HK.out _ _ ⟨_,rfl,rfl,Below.refl _ _⟩
     ·exact absurd a2 (by simp)
    intro S x a3 hF;have g0:S 0 = .pointer (some ⟨w.heap.size,1,none⟩):=hF 0 (by decide)
    have g1:S 1 = .slice A2 (dl n) c2:=hF 1 (by decide)
    have g2:NatR x w.heap.size (S 2) 9223372036854775808:=hF 2 (by decide)
    have g3:S 3 = .int .i64 c:=hF 3 (by decide)
    have g4:S 4 = .bool true:=hF 4 (by decide)
    have g5:S 5 = .bool true:=hF 5 (by decide)
    have g6:S 6=undef:=hF 6 (by decide)
    have g7:S 7=undef:=hF 7 (by decide)
    have g8:S 8=undef:=hF 8 (by decide)
    have g9:S 9=undef:=hF 9 (by decide)
    have b3:S 10=undef:=hF 10 (by decide)
    have b4:S 11=undef:=hF 11 (by decide)
    have c6:S 12=undef:=hF 12 (by decide)
    have b5:S 13=undef:=hF 13 (by decide)
    have b6:S 14=undef:=hF 14 (by decide)
    have b7:S 15=undef:=hF 15 (by decide)
    have b8:S 16 = .bool true:=hF 16 (by decide)
    clear hF;simp only[nv,Nat.reduceAdd,List.length_cons,List.length_nil,List.drop_succ_cons,List.drop_zero];generalize S 0=t0 at *;subst g0;generalize S 1=t1 at *;subst g1;generalize S 2=t2 at *;generalize S 3=t3 at *;subst g3;generalize S 4=t4 at *;subst g4;generalize S 5=t5 at *;subst g5;generalize S 6=t6 at *;subst g6;generalize S 7=t7 at *;subst g7;generalize S 8=t8 at *;subst g8;generalize S 9=t9 at *;subst g9;generalize S 10=t10 at *;subst b3;generalize S 11=t11 at *;subst b4;generalize S 12=t12 at *;subst c6;generalize S 13=t13 at *;subst b5;generalize S 14=t14 at *;subst b6;generalize S 15=t15 at *;subst b7;generalize S 16=t16 at *;subst b8;have a7:ucw q=false:=uje (fun h=>by
     have h1:=HC.out;have h2:=b2.out;have:9223372036854775808<n:=by
      rcases Nat.lt_trichotomy n 9223372036854775808 with h3|h3|h3
      ·rw[uct h3]at h1;omega
      ·rw[ucu h3]at h1;omega
      ·exact h3
     omega)
    have b1:=hid a7;clear a7;go_wp2;go_ret2
    exact .no b1.out (a5.out.trans (a3.mono a5.out.size))
   ·have e4:decide (0<c)=false:=decide_eq_false j3
    have k8:n≤9223372036854775808:=by
     have h1:=HC.out;rcases Nat.lt_or_ge 9223372036854775808 n with h3|h3
     ·rw[ucf h3]at h1;omega
     ·exact h3
    cases neg with
    | true=>
     go_upto_region 4 with(fail)
     refine uv (by kernel_rfl) (by kernel_rfl) [17,18,19,20,21,22,23,24,25,26,27,28,29,30,31,32,33] 40 (by kernel_rfl) (fun io v x=>match io with
      | 0=>v = .pointer (some ⟨w.heap.size,1,none⟩)
      | 1=>v = .slice A2 (dl n) c2
      | 2=>NatR x w.heap.size v 9223372036854775808
      | 3=>v = .int .i64 c
      | 4=>v = .bool false
      | 5=>v = .bool false
      | 6=>v = .pointer (some ⟨w.heap.size,0,none⟩)
      | 7=>v = .bool true
      | 8=>v = .bool false
      | 9=>v = .bool false
      | 10=>v=undef
      | 11=>v=undef
      | 12=>v=undef
      | 13=>v=undef
      | 14=>v=undef
      | 15=>v = .bool false
      | _=>v = .bool false) ?_ ?_ ?_
     ·intro io v x x' a2 h hb
      rcases io with _|_|_|_|_|_|_|_|_|_|_|_|_|_|_|_|io
      ·exact h
      ·exact h
      ·exact NatR.below h hb
      ·exact h
      ·exact h
      ·exact h
      ·exact h
      ·exact h
      ·exact h
      ·exact h
      ·exact h
      ·exact h
      ·exact h
      ·exact h
      ·exact h
      ·exact h
      ·exact h
     ·intro io oo S x ho a2 a3 a0
      rcases io with _|_|_|_|_|_|_|_|_|_|_|_|_|_|_|_|_|io
      ·cases ho
       refine ub rfl rfl fun KK HK=>?_
       clear a0 a2;simp only[nv,Nat.reduceAdd]at HK ⊢;go_wp2;exact HK.out _ _ ⟨_,rfl,rfl,Below.refl _ _⟩
      ·cases ho
       have h0:S 0 = .pointer (some ⟨w.heap.size,1,none⟩):=a0 0 (by kernel_rfl) (by decide)
       have cc:=(a4.out.below a3 a4.out.lt).cell 1;simp only[gq]at cc;refine ub rfl rfl fun KK HK=>?_
       clear a0 a2;simp only[nv,Nat.reduceAdd]at HK ⊢;generalize S 0=t0 at *;subst h0;go_wp2;exact HK.out _ _ ⟨_,rfl,rfl,Below.refl _ _⟩
      ·cases ho
       refine ub rfl rfl fun KK HK=>?_
       clear a0 a2;simp only[nv,Nat.reduceAdd]at HK ⊢;go_wp2_with fail
       refine(uba x 9223372036854775808 (by decide)).mono ?_
       rintro e xN⟨vN,rfl,a8,a6⟩;exact HK.out _ _ ⟨_,rfl,(a8.lower' (Nat.le_trans a5.out.size a3.size)),a6⟩
      ·cases ho
       have h1:S 1 = .slice A2 (dl n) c2:=a0 1 (by kernel_rfl) (by decide)
       have h2:NatR x w.heap.size (S 2) 9223372036854775808:=a0 2 (by kernel_rfl) (by decide)
       refine ub rfl rfl fun KK HK=>?_
       clear a0 a2;simp only[nv,Nat.reduceAdd]at HK ⊢;generalize S 1=t1 at *;subst h1;go_wp2_with fail
       refine(ua0 x (w.heap.size+1) w.heap.size _ _ n 9223372036854775808 (a9.out.below a3) h2).mono ?_;rintro e xN⟨rfl,q,rfl⟩;rw[HC.out];exact HK.out _ _ ⟨_,rfl,rfl,(Below.refl _ _).drewN _⟩
      ·cases ho
       have h3:S 3 = .int .i64 c:=a0 3 (by kernel_rfl) (by decide)
       refine ub rfl rfl fun KK HK=>?_
       clear a0 a2;simp only[nv,Nat.reduceAdd]at HK ⊢;generalize S 3=t3 at *;subst h3;go_wp2;try rw[e4]
       exact HK.out _ _ ⟨_,rfl,rfl,Below.refl _ _⟩
      ·cases ho
       have h4:S 4 = .bool false:=a0 4 (by kernel_rfl) (by decide)
       refine ub rfl rfl fun KK HK=>?_
       clear a0 a2;simp only[nv,Nat.reduceAdd]at HK ⊢;generalize S 4=t4 at *;subst h4;go_wp2;exact HK.out _ _ ⟨_,rfl,rfl,Below.refl _ _⟩
      ·cases ho
       have h5:S 5 = .bool false:=a0 5 (by kernel_rfl) (by decide)
       refine uz rfl rfl 22 (by kernel_rfl) (by simp only[nv,Nat.reduceAdd,h5,List.getElem?_toArray,List.getElem?_cons_succ,List.getElem?_cons_zero]) fun KK a1=>?_
       have HK:=hid a1;clear a1 a0 a2;simp only[nv,Nat.reduceAdd]at HK ⊢;generalize S 5=t5 at *;subst h5;go_wp2;exact HK.out _ _ ⟨_,rfl,rfl,Below.refl _ _⟩
      ·cases ho
       have h5:S 5 = .bool false:=a0 5 (by kernel_rfl) (by decide)
       have h6:S 6 = .pointer (some ⟨w.heap.size,0,none⟩):=a0 6 (by kernel_rfl) (by decide)
       have cc:=(a4.out.below a3 a4.out.lt).cell 0;simp only[gq]at cc;refine uz rfl rfl 22 (by kernel_rfl) (by simp only[nv,Nat.reduceAdd,h5,List.getElem?_toArray,List.getElem?_cons_succ,List.getElem?_cons_zero]) fun KK a1=>?_
       have HK:=hid a1;clear a1 a0 a2;simp only[nv,Nat.reduceAdd]at HK ⊢;generalize S 5=t5 at *;subst h5;generalize S 6=t6 at *;subst h6;go_wp2;exact HK.out _ _ ⟨_,rfl,rfl,Below.refl _ _⟩
      ·cases ho
       have h5:S 5 = .bool false:=a0 5 (by kernel_rfl) (by decide)
       have h7:S 7 = .bool true:=a0 7 (by kernel_rfl) (by decide)
       refine uz rfl rfl 22 (by kernel_rfl) (by simp only[nv,Nat.reduceAdd,h5,List.getElem?_toArray,List.getElem?_cons_succ,List.getElem?_cons_zero]) fun KK a1=>?_
       have HK:=hid a1;clear a1 a0 a2;simp only[nv,Nat.reduceAdd]at HK ⊢;generalize S 5=t5 at *;subst h5;generalize S 7=t7 at *;subst h7;go_wp2;exact HK.out _ _ ⟨_,rfl,rfl,Below.refl _ _⟩
      ·cases ho
       have h5:S 5 = .bool false:=a0 5 (by kernel_rfl) (by decide)
       have h8:S 8 = .bool false:=a0 8 (by kernel_rfl) (by decide)
       refine uz rfl rfl 22 (by kernel_rfl) (by simp only[nv,Nat.reduceAdd,h5,List.getElem?_toArray,List.getElem?_cons_succ,List.getElem?_cons_zero]) fun KK a1=>?_
       have HK:=hid a1;clear a1 a0 a2;simp only[nv,Nat.reduceAdd]at HK ⊢;generalize S 5=t5 at *;subst h5;generalize S 8=t8 at *;subst h8;go_wp2;exact HK.out _ _ ⟨_,rfl,rfl,Below.refl _ _⟩
      ·cases ho
       have h9:S 9 = .bool false:=a0 9 (by kernel_rfl) (by decide)
       exact uao rfl rfl 26 (by kernel_rfl) (by simp only[nv,Nat.reduceAdd,h9,List.getElem?_toArray,List.getElem?_cons_succ,List.getElem?_cons_zero];rfl) ⟨_,rfl,rfl,Below.refl _ _⟩
      ·cases ho
       have h9:S 9 = .bool false:=a0 9 (by kernel_rfl) (by decide)
       exact uao rfl rfl 26 (by kernel_rfl) (by simp only[nv,Nat.reduceAdd,h9,List.getElem?_toArray,List.getElem?_cons_succ,List.getElem?_cons_zero];rfl) ⟨_,rfl,rfl,Below.refl _ _⟩
      ·cases ho
       have h9:S 9 = .bool false:=a0 9 (by kernel_rfl) (by decide)
       exact uao rfl rfl 26 (by kernel_rfl) (by simp only[nv,Nat.reduceAdd,h9,List.getElem?_toArray,List.getElem?_cons_succ,List.getElem?_cons_zero];rfl) ⟨_,rfl,rfl,Below.refl _ _⟩
      ·cases ho
       have h9:S 9 = .bool false:=a0 9 (by kernel_rfl) (by decide)
       exact uao rfl rfl 26 (by kernel_rfl) (by simp only[nv,Nat.reduceAdd,h9,List.getElem?_toArray,List.getElem?_cons_succ,List.getElem?_cons_zero];rfl) ⟨_,rfl,rfl,Below.refl _ _⟩
      ·cases ho
       have h9:S 9 = .bool false:=a0 9 (by kernel_rfl) (by decide)
       exact uao rfl rfl 26 (by kernel_rfl) (by simp only[nv,Nat.reduceAdd,h9,List.getElem?_toArray,List.getElem?_cons_succ,List.getElem?_cons_zero];rfl) ⟨_,rfl,rfl,Below.refl _ _⟩
      ·cases ho
       have h5:S 5 = .bool false:=a0 5 (by kernel_rfl) (by decide)
       have h9:S 9 = .bool false:=a0 9 (by kernel_rfl) (by decide)
       have c7:S 14=undef:=a0 14 (by kernel_rfl) (by decide)
       refine uz rfl rfl 22 (by kernel_rfl) (by simp only[nv,Nat.reduceAdd,h5,List.getElem?_toArray,List.getElem?_cons_succ,List.getElem?_cons_zero]) fun KK a1=>?_
       have HK:=hid a1;clear a1 a0 a2;simp only[nv,Nat.reduceAdd]at HK ⊢;generalize S 5=t5 at *;subst h5;generalize S 9=t9 at *;subst h9;generalize S 14=t14 at *;subst c7;go_wp2;exact HK.out _ _ ⟨_,rfl,rfl,Below.refl _ _⟩
      ·cases ho
       have h5:S 5 = .bool false:=a0 5 (by kernel_rfl) (by decide)
       have b9:S 15 = .bool false:=a0 15 (by kernel_rfl) (by decide)
       refine ub rfl rfl fun KK HK=>?_
       clear a0 a2;simp only[nv,Nat.reduceAdd]at HK ⊢;generalize S 5=t5 at *;subst h5;generalize S 15=t15 at *;subst b9;go_wp2;exact HK.out _ _ ⟨_,rfl,rfl,Below.refl _ _⟩
      ·exact absurd a2 (by simp)
     intro S x a3 hF;have g0:S 0 = .pointer (some ⟨w.heap.size,1,none⟩):=hF 0 (by decide)
     have g1:S 1 = .slice A2 (dl n) c2:=hF 1 (by decide)
     have g2:NatR x w.heap.size (S 2) 9223372036854775808:=hF 2 (by decide)
     have g3:S 3 = .int .i64 c:=hF 3 (by decide)
     have g4:S 4 = .bool false:=hF 4 (by decide)
     have g5:S 5 = .bool false:=hF 5 (by decide)
     have g6:S 6 = .pointer (some ⟨w.heap.size,0,none⟩):=hF 6 (by decide)
     have g7:S 7 = .bool true:=hF 7 (by decide)
     have g8:S 8 = .bool false:=hF 8 (by decide)
     have g9:S 9 = .bool false:=hF 9 (by decide)
     have b3:S 10=undef:=hF 10 (by decide)
     have b4:S 11=undef:=hF 11 (by decide)
     have c6:S 12=undef:=hF 12 (by decide)
     have b5:S 13=undef:=hF 13 (by decide)
     have b6:S 14=undef:=hF 14 (by decide)
     have b7:S 15 = .bool false:=hF 15 (by decide)
     have b8:S 16 = .bool false:=hF 16 (by decide)
     clear hF;simp only[nv,Nat.reduceAdd,List.length_cons,List.length_nil,List.drop_succ_cons,List.drop_zero];generalize S 0=t0 at *;subst g0;generalize S 1=t1 at *;subst g1;generalize S 2=t2 at *;generalize S 3=t3 at *;subst g3;generalize S 4=t4 at *;subst g4;generalize S 5=t5 at *;subst g5;generalize S 6=t6 at *;subst g6;generalize S 7=t7 at *;subst g7;generalize S 8=t8 at *;subst g8;generalize S 9=t9 at *;subst g9;generalize S 10=t10 at *;subst b3;generalize S 11=t11 at *;subst b4;generalize S 12=t12 at *;subst c6;generalize S 13=t13 at *;subst b5;generalize S 14=t14 at *;subst b6;generalize S 15=t15 at *;subst b7;generalize S 16=t16 at *;subst b8;have c5:=hid (a4.out.below a3 a4.out.lt);have d8:=hid (a9.out.below a3);have d7:=hid (a5.out.trans (a3.mono a5.out.size));clear a3 f7 c1;have k0:=c5.out.cell 0;have k1:=c5.out.cell 1;simp only[gq]at k0 k1;go_wp2;go_loop [4,5] (fun vv iv=>∃j:Nat,j≤dl n∧vv = .int .u64 ((n/B^j:Nat):Int)∧iv = .int .i64 ((j:Int)-1)) (fun _ iv=>(intOf iv+1).toNat)
     case atStart=>exact⟨dl n,Nat.le_refl _,by rw[Nat.div_eq_of_lt (uav n)];rfl,rfl⟩
     case round=>
      obtain⟨j,hj,rfl,rfl⟩:=hrel;rcases j with _|j
      ·have d0:n/B^0=n:=by simp
       rw[d0];have l1:1≤n:=by have h1:=b2.out;have h2:=of_decide_eq_true b0.out;omega
       have hf:ucw q=true:=uor f9.out (by have h1:=b2.out;have h2:=of_decide_eq_true b0.out;omega) (by have h2:=of_decide_eq_true b0.out;omega)
       have d1:q.num = -(((n:Int)-1))-1:=by have h1:=b2.out;have h2:=of_decide_eq_true b0.out;omega
       have HF:=hid hf;have d9:=hid d1;clear hf d1 d0;go_wp2;go_ret2
       exact .yes HF.out (by rw[d9.out]) d7.out
      ·obtain⟨_,Ax,cx,f0,j9,f5,c9⟩:=d8.out
       injection f0 with e6 _ e7;subst e6;subst e7;unfold maxLen at f5;obtain⟨b,k5,rfl,k3,j7,c8⟩:=c9 (by omega)
       have f4:=c8 j (by omega)
       have c0:=uc0 n j;have f8:n/B^j≤n:=Nat.div_le_self _ _;obtain⟨a,ha⟩:∃a,n/B^(j+1)=a:=⟨_,rfl⟩;obtain⟨r,hr⟩:∃r,n/B^j=r:=⟨_,rfl⟩;obtain⟨g,hg⟩:∃g,dg n j=g:=⟨_,rfl⟩;rw[ha,hr,hg]at c0;rw[hr]at f8;rw[hg]at f4;rw[ha];have f6:r=a*1000000000+g:=c0;have HR:=hid hr;clear c8 c9 c0 ha hr hg;go_wp2;go_round
       case rel=>exact⟨j,by omega,by rw[HR.out,f6];go_num,by go_num⟩
       case measure=>simp[intOf]
    | false=>
     by_cases hz:c=0
     ·have e5:(c==0)=true:=by rw[hz];rfl
      have a7:ucw q=false:=uje (fun h=>by
       have h1:=HC.out;have h2:=b2.out;have h3:=of_decide_eq_false b0.out;have:n=9223372036854775808:=by
        rcases Nat.lt_trichotomy n 9223372036854775808 with h3|h3|h3
        ·rw[uct h3]at h1;omega
        ·exact h3
        ·omega
       omega)
      have b1:=hid a7;clear a7 hz;go_upto_region 4 with(fail)
      refine uv (by kernel_rfl) (by kernel_rfl) [17,18,19,20,21,22,23,24,25,26,27,28,29,30,31,32,33] 40 (by kernel_rfl) (fun io v x=>match io with
       | 0=>v = .pointer (some ⟨w.heap.size,1,none⟩)
       | 1=>v = .slice A2 (dl n) c2
       | 2=>NatR x w.heap.size v 9223372036854775808
       | 3=>v = .int .i64 c
       | 4=>v = .bool false
       | 5=>v = .bool false
       | 6=>v = .pointer (some ⟨w.heap.size,0,none⟩)
       | 7=>v = .bool false
       | 8=>v = .bool true
       | 9=>v = .bool true
       | 10=>v = .pointer (some ⟨w.heap.size,1,none⟩)
       | 11=>v = .slice A2 (dl n) c2
       | 12=>NatR x w.heap.size v 9223372036854775808
       | 13=>v = .int .i64 c
       | 14=>v = .bool true
       | 15=>v = .bool true
       | _=>v = .bool true) ?_ ?_ ?_
      ·intro io v x x' a2 h hb
       rcases io with _|_|_|_|_|_|_|_|_|_|_|_|_|_|_|_|io
       ·exact h
       ·exact h
       ·exact NatR.below h hb
       ·exact h
       ·exact h
       ·exact h
       ·exact h
       ·exact h
       ·exact h
       ·exact h
       ·exact h
       ·exact h
       ·exact NatR.below h hb
       ·exact h
       ·exact h
       ·exact h
       ·exact h
      ·intro io oo S x ho a2 a3 a0
       rcases io with _|_|_|_|_|_|_|_|_|_|_|_|_|_|_|_|_|io
       ·cases ho
        refine ub rfl rfl fun KK HK=>?_
        clear a0 a2;simp only[nv,Nat.reduceAdd]at HK ⊢;go_wp2;exact HK.out _ _ ⟨_,rfl,rfl,Below.refl _ _⟩
       ·cases ho
        have h0:S 0 = .pointer (some ⟨w.heap.size,1,none⟩):=a0 0 (by kernel_rfl) (by decide)
        have cc:=(a4.out.below a3 a4.out.lt).cell 1;simp only[gq]at cc;refine ub rfl rfl fun KK HK=>?_
        clear a0 a2;simp only[nv,Nat.reduceAdd]at HK ⊢;generalize S 0=t0 at *;subst h0;go_wp2;exact HK.out _ _ ⟨_,rfl,rfl,Below.refl _ _⟩
       ·cases ho
        refine ub rfl rfl fun KK HK=>?_
        clear a0 a2;simp only[nv,Nat.reduceAdd]at HK ⊢;go_wp2_with fail
        refine(uba x 9223372036854775808 (by decide)).mono ?_
        rintro e xN⟨vN,rfl,a8,a6⟩;exact HK.out _ _ ⟨_,rfl,(a8.lower' (Nat.le_trans a5.out.size a3.size)),a6⟩
       ·cases ho
        have h1:S 1 = .slice A2 (dl n) c2:=a0 1 (by kernel_rfl) (by decide)
        have h2:NatR x w.heap.size (S 2) 9223372036854775808:=a0 2 (by kernel_rfl) (by decide)
        refine ub rfl rfl fun KK HK=>?_
        clear a0 a2;simp only[nv,Nat.reduceAdd]at HK ⊢;generalize S 1=t1 at *;subst h1;go_wp2_with fail
        refine(ua0 x (w.heap.size+1) w.heap.size _ _ n 9223372036854775808 (a9.out.below a3) h2).mono ?_;rintro e xN⟨rfl,q,rfl⟩;rw[HC.out];exact HK.out _ _ ⟨_,rfl,rfl,(Below.refl _ _).drewN _⟩
       ·cases ho
        have h3:S 3 = .int .i64 c:=a0 3 (by kernel_rfl) (by decide)
        refine ub rfl rfl fun KK HK=>?_
        clear a0 a2;simp only[nv,Nat.reduceAdd]at HK ⊢;generalize S 3=t3 at *;subst h3;go_wp2;try rw[e4]
        exact HK.out _ _ ⟨_,rfl,rfl,Below.refl _ _⟩
       ·cases ho
        have h4:S 4 = .bool false:=a0 4 (by kernel_rfl) (by decide)
        refine ub rfl rfl fun KK HK=>?_
        clear a0 a2;simp only[nv,Nat.reduceAdd]at HK ⊢;generalize S 4=t4 at *;subst h4;go_wp2;exact HK.out _ _ ⟨_,rfl,rfl,Below.refl _ _⟩
       ·cases ho
        have h5:S 5 = .bool false:=a0 5 (by kernel_rfl) (by decide)
        refine uz rfl rfl 22 (by kernel_rfl) (by simp only[nv,Nat.reduceAdd,h5,List.getElem?_toArray,List.getElem?_cons_succ,List.getElem?_cons_zero]) fun KK a1=>?_
        have HK:=hid a1;clear a1 a0 a2;simp only[nv,Nat.reduceAdd]at HK ⊢;generalize S 5=t5 at *;subst h5;go_wp2;exact HK.out _ _ ⟨_,rfl,rfl,Below.refl _ _⟩
       ·cases ho
        have h5:S 5 = .bool false:=a0 5 (by kernel_rfl) (by decide)
        have h6:S 6 = .pointer (some ⟨w.heap.size,0,none⟩):=a0 6 (by kernel_rfl) (by decide)
        have cc:=(a4.out.below a3 a4.out.lt).cell 0;simp only[gq]at cc;refine uz rfl rfl 22 (by kernel_rfl) (by simp only[nv,Nat.reduceAdd,h5,List.getElem?_toArray,List.getElem?_cons_succ,List.getElem?_cons_zero]) fun KK a1=>?_
        have HK:=hid a1;clear a1 a0 a2;simp only[nv,Nat.reduceAdd]at HK ⊢;generalize S 5=t5 at *;subst h5;generalize S 6=t6 at *;subst h6;go_wp2;exact HK.out _ _ ⟨_,rfl,rfl,Below.refl _ _⟩
       ·cases ho
        have h5:S 5 = .bool false:=a0 5 (by kernel_rfl) (by decide)
        have h7:S 7 = .bool false:=a0 7 (by kernel_rfl) (by decide)
        refine uz rfl rfl 22 (by kernel_rfl) (by simp only[nv,Nat.reduceAdd,h5,List.getElem?_toArray,List.getElem?_cons_succ,List.getElem?_cons_zero]) fun KK a1=>?_
        have HK:=hid a1;clear a1 a0 a2;simp only[nv,Nat.reduceAdd]at HK ⊢;generalize S 5=t5 at *;subst h5;generalize S 7=t7 at *;subst h7;go_wp2;exact HK.out _ _ ⟨_,rfl,rfl,Below.refl _ _⟩
       ·cases ho
        have h5:S 5 = .bool false:=a0 5 (by kernel_rfl) (by decide)
        have h8:S 8 = .bool true:=a0 8 (by kernel_rfl) (by decide)
        refine uz rfl rfl 22 (by kernel_rfl) (by simp only[nv,Nat.reduceAdd,h5,List.getElem?_toArray,List.getElem?_cons_succ,List.getElem?_cons_zero]) fun KK a1=>?_
        have HK:=hid a1;clear a1 a0 a2;simp only[nv,Nat.reduceAdd]at HK ⊢;generalize S 5=t5 at *;subst h5;generalize S 8=t8 at *;subst h8;go_wp2;exact HK.out _ _ ⟨_,rfl,rfl,Below.refl _ _⟩
       ·cases ho
        have h9:S 9 = .bool true:=a0 9 (by kernel_rfl) (by decide)
        refine uz rfl rfl 26 (by kernel_rfl) (by simp only[nv,Nat.reduceAdd,h9,List.getElem?_toArray,List.getElem?_cons_succ,List.getElem?_cons_zero]) fun KK a1=>?_
        have HK:=hid a1;clear a1 a0 a2;simp only[nv,Nat.reduceAdd]at HK ⊢;generalize S 9=t9 at *;subst h9;go_wp2;exact HK.out _ _ ⟨_,rfl,rfl,Below.refl _ _⟩
       ·cases ho
        have h9:S 9 = .bool true:=a0 9 (by kernel_rfl) (by decide)
        have e0:S 10 = .pointer (some ⟨w.heap.size,1,none⟩):=a0 10 (by kernel_rfl) (by decide)
        have cc:=(a4.out.below a3 a4.out.lt).cell 1;simp only[gq]at cc;refine uz rfl rfl 26 (by kernel_rfl) (by simp only[nv,Nat.reduceAdd,h9,List.getElem?_toArray,List.getElem?_cons_succ,List.getElem?_cons_zero]) fun KK a1=>?_
        have HK:=hid a1;clear a1 a0 a2;simp only[nv,Nat.reduceAdd]at HK ⊢;generalize S 9=t9 at *;subst h9;generalize S 10=t10 at *;subst e0;go_wp2;exact HK.out _ _ ⟨_,rfl,rfl,Below.refl _ _⟩
       ·cases ho
        have h9:S 9 = .bool true:=a0 9 (by kernel_rfl) (by decide)
        refine uz rfl rfl 26 (by kernel_rfl) (by simp only[nv,Nat.reduceAdd,h9,List.getElem?_toArray,List.getElem?_cons_succ,List.getElem?_cons_zero]) fun KK a1=>?_
        have HK:=hid a1;clear a1 a0 a2;simp only[nv,Nat.reduceAdd]at HK ⊢;generalize S 9=t9 at *;subst h9;go_wp2_with fail
        refine(uba x 9223372036854775808 (by decide)).mono ?_
        rintro e xN⟨vN,rfl,a8,a6⟩;exact HK.out _ _ ⟨_,rfl,(a8.lower' (Nat.le_trans a5.out.size a3.size)),a6⟩
       ·cases ho
        have h9:S 9 = .bool true:=a0 9 (by kernel_rfl) (by decide)
        have e2:S 11 = .slice A2 (dl n) c2:=a0 11 (by kernel_rfl) (by decide)
        have e8:NatR x w.heap.size (S 12) 9223372036854775808:=a0 12 (by kernel_rfl) (by decide)
        refine uz rfl rfl 26 (by kernel_rfl) (by simp only[nv,Nat.reduceAdd,h9,List.getElem?_toArray,List.getElem?_cons_succ,List.getElem?_cons_zero]) fun KK a1=>?_
        have HK:=hid a1;clear a1 a0 a2;simp only[nv,Nat.reduceAdd]at HK ⊢;generalize S 9=t9 at *;subst h9;generalize S 11=t11 at *;subst e2;go_wp2_with fail
        refine(ua0 x (w.heap.size+1) w.heap.size _ _ n 9223372036854775808 (a9.out.below a3) e8).mono ?_;rintro e xN⟨rfl,q,rfl⟩;rw[HC.out];exact HK.out _ _ ⟨_,rfl,rfl,(Below.refl _ _).drewN _⟩
       ·cases ho
        have h9:S 9 = .bool true:=a0 9 (by kernel_rfl) (by decide)
        have e9:S 13 = .int .i64 c:=a0 13 (by kernel_rfl) (by decide)
        refine uz rfl rfl 26 (by kernel_rfl) (by simp only[nv,Nat.reduceAdd,h9,List.getElem?_toArray,List.getElem?_cons_succ,List.getElem?_cons_zero]) fun KK a1=>?_
        have HK:=hid a1;clear a1 a0 a2;simp only[nv,Nat.reduceAdd]at HK ⊢;generalize S 9=t9 at *;subst h9;generalize S 13=t13 at *;subst e9;go_wp2;try rw[e5]
        exact HK.out _ _ ⟨_,rfl,rfl,Below.refl _ _⟩
       ·cases ho
        have h5:S 5 = .bool false:=a0 5 (by kernel_rfl) (by decide)
        have h9:S 9 = .bool true:=a0 9 (by kernel_rfl) (by decide)
        have c7:S 14 = .bool true:=a0 14 (by kernel_rfl) (by decide)
        refine uz rfl rfl 22 (by kernel_rfl) (by simp only[nv,Nat.reduceAdd,h5,List.getElem?_toArray,List.getElem?_cons_succ,List.getElem?_cons_zero]) fun KK a1=>?_
        have HK:=hid a1;clear a1 a0 a2;simp only[nv,Nat.reduceAdd]at HK ⊢;generalize S 5=t5 at *;subst h5;generalize S 9=t9 at *;subst h9;generalize S 14=t14 at *;subst c7;go_wp2;exact HK.out _ _ ⟨_,rfl,rfl,Below.refl _ _⟩
       ·cases ho
        have h5:S 5 = .bool false:=a0 5 (by kernel_rfl) (by decide)
        have b9:S 15 = .bool true:=a0 15 (by kernel_rfl) (by decide)
        refine ub rfl rfl fun KK HK=>?_
        clear a0 a2;simp only[nv,Nat.reduceAdd]at HK ⊢;generalize S 5=t5 at *;subst h5;generalize S 15=t15 at *;subst b9;go_wp2;exact HK.out _ _ ⟨_,rfl,rfl,Below.refl _ _⟩
       ·exact absurd a2 (by simp)
      intro S x a3 hF;have g0:S 0 = .pointer (some ⟨w.heap.size,1,none⟩):=hF 0 (by decide)
      have g1:S 1 = .slice A2 (dl n) c2:=hF 1 (by decide)
      have g2:NatR x w.heap.size (S 2) 9223372036854775808:=hF 2 (by decide)
      have g3:S 3 = .int .i64 c:=hF 3 (by decide)
      have g4:S 4 = .bool false:=hF 4 (by decide)
      have g5:S 5 = .bool false:=hF 5 (by decide)
      have g6:S 6 = .pointer (some ⟨w.heap.size,0,none⟩):=hF 6 (by decide)
      have g7:S 7 = .bool false:=hF 7 (by decide)
      have g8:S 8 = .bool true:=hF 8 (by decide)
      have g9:S 9 = .bool true:=hF 9 (by decide)
      have b3:S 10 = .pointer (some ⟨w.heap.size,1,none⟩):=hF 10 (by decide)
      have b4:S 11 = .slice A2 (dl n) c2:=hF 11 (by decide)
      have c6:NatR x w.heap.size (S 12) 9223372036854775808:=hF 12 (by decide)
      have b5:S 13 = .int .i64 c:=hF 13 (by decide)
      have b6:S 14 = .bool true:=hF 14 (by decide)
      have b7:S 15 = .bool true:=hF 15 (by decide)
      have b8:S 16 = .bool true:=hF 16 (by decide)
      clear hF;simp only[nv,Nat.reduceAdd,List.length_cons,List.length_nil,List.drop_succ_cons,List.drop_zero];generalize S 0=t0 at *;subst g0;generalize S 1=t1 at *;subst g1;generalize S 2=t2 at *;generalize S 3=t3 at *;subst g3;generalize S 4=t4 at *;subst g4;generalize S 5=t5 at *;subst g5;generalize S 6=t6 at *;subst g6;generalize S 7=t7 at *;subst g7;generalize S 8=t8 at *;subst g8;generalize S 9=t9 at *;subst g9;generalize S 10=t10 at *;subst b3;generalize S 11=t11 at *;subst b4;generalize S 12=t12 at *;generalize S 13=t13 at *;subst b5;generalize S 14=t14 at *;subst b6;generalize S 15=t15 at *;subst b7;generalize S 16=t16 at *;subst b8;go_wp2;go_ret2
      exact .no b1.out (a5.out.trans (a3.mono a5.out.size))
     ·have e5:(c==0)=false:=beq_eq_false_iff_ne.2 hz
      have k9:n<9223372036854775808:=by
       have h1:=HC.out;rcases Nat.lt_or_ge n 9223372036854775808 with h3|h3
       ·exact h3
       ·rw[ucu (by omega)]at h1;omega
      go_upto_region 4 with(fail)
      refine uv (by kernel_rfl) (by kernel_rfl) [17,18,19,20,21,22,23,24,25,26,27,28,29,30,31,32,33] 40 (by kernel_rfl) (fun io v x=>match io with
       | 0=>v = .pointer (some ⟨w.heap.size,1,none⟩)
       | 1=>v = .slice A2 (dl n) c2
       | 2=>NatR x w.heap.size v 9223372036854775808
       | 3=>v = .int .i64 c
       | 4=>v = .bool false
       | 5=>v = .bool false
       | 6=>v = .pointer (some ⟨w.heap.size,0,none⟩)
       | 7=>v = .bool false
       | 8=>v = .bool true
       | 9=>v = .bool true
       | 10=>v = .pointer (some ⟨w.heap.size,1,none⟩)
       | 11=>v = .slice A2 (dl n) c2
       | 12=>NatR x w.heap.size v 9223372036854775808
       | 13=>v = .int .i64 c
       | 14=>v = .bool false
       | 15=>v = .bool false
       | _=>v = .bool false) ?_ ?_ ?_
      ·intro io v x x' a2 h hb
       rcases io with _|_|_|_|_|_|_|_|_|_|_|_|_|_|_|_|io
       ·exact h
       ·exact h
       ·exact NatR.below h hb
       ·exact h
       ·exact h
       ·exact h
       ·exact h
       ·exact h
       ·exact h
       ·exact h
       ·exact h
       ·exact h
       ·exact NatR.below h hb
       ·exact h
       ·exact h
       ·exact h
       ·exact h
      ·intro io oo S x ho a2 a3 a0
       rcases io with _|_|_|_|_|_|_|_|_|_|_|_|_|_|_|_|_|io
       ·cases ho
        refine ub rfl rfl fun KK HK=>?_
        clear a0 a2;simp only[nv,Nat.reduceAdd]at HK ⊢;go_wp2;exact HK.out _ _ ⟨_,rfl,rfl,Below.refl _ _⟩
       ·cases ho
        have h0:S 0 = .pointer (some ⟨w.heap.size,1,none⟩):=a0 0 (by kernel_rfl) (by decide)
        have cc:=(a4.out.below a3 a4.out.lt).cell 1;simp only[gq]at cc;refine ub rfl rfl fun KK HK=>?_
        clear a0 a2;simp only[nv,Nat.reduceAdd]at HK ⊢;generalize S 0=t0 at *;subst h0;go_wp2;exact HK.out _ _ ⟨_,rfl,rfl,Below.refl _ _⟩
       ·cases ho
        refine ub rfl rfl fun KK HK=>?_
        clear a0 a2;simp only[nv,Nat.reduceAdd]at HK ⊢;go_wp2_with fail
        refine(uba x 9223372036854775808 (by decide)).mono ?_
        rintro e xN⟨vN,rfl,a8,a6⟩;exact HK.out _ _ ⟨_,rfl,(a8.lower' (Nat.le_trans a5.out.size a3.size)),a6⟩
       ·cases ho
        have h1:S 1 = .slice A2 (dl n) c2:=a0 1 (by kernel_rfl) (by decide)
        have h2:NatR x w.heap.size (S 2) 9223372036854775808:=a0 2 (by kernel_rfl) (by decide)
        refine ub rfl rfl fun KK HK=>?_
        clear a0 a2;simp only[nv,Nat.reduceAdd]at HK ⊢;generalize S 1=t1 at *;subst h1;go_wp2_with fail
        refine(ua0 x (w.heap.size+1) w.heap.size _ _ n 9223372036854775808 (a9.out.below a3) h2).mono ?_;rintro e xN⟨rfl,q,rfl⟩;rw[HC.out];exact HK.out _ _ ⟨_,rfl,rfl,(Below.refl _ _).drewN _⟩
       ·cases ho
        have h3:S 3 = .int .i64 c:=a0 3 (by kernel_rfl) (by decide)
        refine ub rfl rfl fun KK HK=>?_
        clear a0 a2;simp only[nv,Nat.reduceAdd]at HK ⊢;generalize S 3=t3 at *;subst h3;go_wp2;try rw[e4]
        exact HK.out _ _ ⟨_,rfl,rfl,Below.refl _ _⟩
       ·cases ho
        have h4:S 4 = .bool false:=a0 4 (by kernel_rfl) (by decide)
        refine ub rfl rfl fun KK HK=>?_
        clear a0 a2;simp only[nv,Nat.reduceAdd]at HK ⊢;generalize S 4=t4 at *;subst h4;go_wp2;exact HK.out _ _ ⟨_,rfl,rfl,Below.refl _ _⟩
       ·cases ho
        have h5:S 5 = .bool false:=a0 5 (by kernel_rfl) (by decide)
        refine uz rfl rfl 22 (by kernel_rfl) (by simp only[nv,Nat.reduceAdd,h5,List.getElem?_toArray,List.getElem?_cons_succ,List.getElem?_cons_zero]) fun KK a1=>?_
        have HK:=hid a1;clear a1 a0 a2;simp only[nv,Nat.reduceAdd]at HK ⊢;generalize S 5=t5 at *;subst h5;go_wp2;exact HK.out _ _ ⟨_,rfl,rfl,Below.refl _ _⟩
       ·cases ho
        have h5:S 5 = .bool false:=a0 5 (by kernel_rfl) (by decide)
        have h6:S 6 = .pointer (some ⟨w.heap.size,0,none⟩):=a0 6 (by kernel_rfl) (by decide)
        have cc:=(a4.out.below a3 a4.out.lt).cell 0;simp only[gq]at cc;refine uz rfl rfl 22 (by kernel_rfl) (by simp only[nv,Nat.reduceAdd,h5,List.getElem?_toArray,List.getElem?_cons_succ,List.getElem?_cons_zero]) fun KK a1=>?_
        have HK:=hid a1;clear a1 a0 a2;simp only[nv,Nat.reduceAdd]at HK ⊢;generalize S 5=t5 at *;subst h5;generalize S 6=t6 at *;subst h6;go_wp2;exact HK.out _ _ ⟨_,rfl,rfl,Below.refl _ _⟩
       ·cases ho
        have h5:S 5 = .bool false:=a0 5 (by kernel_rfl) (by decide)
        have h7:S 7 = .bool false:=a0 7 (by kernel_rfl) (by decide)
        refine uz rfl rfl 22 (by kernel_rfl) (by simp only[nv,Nat.reduceAdd,h5,List.getElem?_toArray,List.getElem?_cons_succ,List.getElem?_cons_zero]) fun KK a1=>?_
        have HK:=hid a1;clear a1 a0 a2;simp only[nv,Nat.reduceAdd]at HK ⊢;generalize S 5=t5 at *;subst h5;generalize S 7=t7 at *;subst h7;go_wp2;exact HK.out _ _ ⟨_,rfl,rfl,Below.refl _ _⟩
       ·cases ho
        have h5:S 5 = .bool false:=a0 5 (by kernel_rfl) (by decide)
        have h8:S 8 = .bool true:=a0 8 (by kernel_rfl) (by decide)
        refine uz rfl rfl 22 (by kernel_rfl) (by simp only[nv,Nat.reduceAdd,h5,List.getElem?_toArray,List.getElem?_cons_succ,List.getElem?_cons_zero]) fun KK a1=>?_
        have HK:=hid a1;clear a1 a0 a2;simp only[nv,Nat.reduceAdd]at HK ⊢;generalize S 5=t5 at *;subst h5;generalize S 8=t8 at *;subst h8;go_wp2;exact HK.out _ _ ⟨_,rfl,rfl,Below.refl _ _⟩
       ·cases ho
        have h9:S 9 = .bool true:=a0 9 (by kernel_rfl) (by decide)
        refine uz rfl rfl 26 (by kernel_rfl) (by simp only[nv,Nat.reduceAdd,h9,List.getElem?_toArray,List.getElem?_cons_succ,List.getElem?_cons_zero]) fun KK a1=>?_
        have HK:=hid a1;clear a1 a0 a2;simp only[nv,Nat.reduceAdd]at HK ⊢;generalize S 9=t9 at *;subst h9;go_wp2;exact HK.out _ _ ⟨_,rfl,rfl,Below.refl _ _⟩
       ·cases ho
        have h9:S 9 = .bool true:=a0 9 (by kernel_rfl) (by decide)
        have e0:S 10 = .pointer (some ⟨w.heap.size,1,none⟩):=a0 10 (by kernel_rfl) (by decide)
        have cc:=(a4.out.below a3 a4.out.lt).cell 1;simp only[gq]at cc;refine uz rfl rfl 26 (by kernel_rfl) (by simp only[nv,Nat.reduceAdd,h9,List.getElem?_toArray,List.getElem?_cons_succ,List.getElem?_cons_zero]) fun KK a1=>?_
        have HK:=hid a1;clear a1 a0 a2;simp only[nv,Nat.reduceAdd]at HK ⊢;generalize S 9=t9 at *;subst h9;generalize S 10=t10 at *;subst e0;go_wp2;exact HK.out _ _ ⟨_,rfl,rfl,Below.refl _ _⟩
       ·cases ho
        have h9:S 9 = .bool true:=a0 9 (by kernel_rfl) (by decide)
        refine uz rfl rfl 26 (by kernel_rfl) (by simp only[nv,Nat.reduceAdd,h9,List.getElem?_toArray,List.getElem?_cons_succ,List.getElem?_cons_zero]) fun KK a1=>?_
        have HK:=hid a1;clear a1 a0 a2;simp only[nv,Nat.reduceAdd]at HK ⊢;generalize S 9=t9 at *;subst h9;go_wp2_with fail
        refine(uba x 9223372036854775808 (by decide)).mono ?_
        rintro e xN⟨vN,rfl,a8,a6⟩;exact HK.out _ _ ⟨_,rfl,(a8.lower' (Nat.le_trans a5.out.size a3.size)),a6⟩
       ·cases ho
        have h9:S 9 = .bool true:=a0 9 (by kernel_rfl) (by decide)
        have e2:S 11 = .slice A2 (dl n) c2:=a0 11 (by kernel_rfl) (by decide)
        have e8:NatR x w.heap.size (S 12) 9223372036854775808:=a0 12 (by kernel_rfl) (by decide)
        refine uz rfl rfl 26 (by kernel_rfl) (by simp only[nv,Nat.reduceAdd,h9,List.getElem?_toArray,List.getElem?_cons_succ,List.getElem?_cons_zero]) fun KK a1=>?_
        have HK:=hid a1;clear a1 a0 a2;simp only[nv,Nat.reduceAdd]at HK ⊢;generalize S 9=t9 at *;subst h9;generalize S 11=t11 at *;subst e2;go_wp2_with fail
        refine(ua0 x (w.heap.size+1) w.heap.size _ _ n 9223372036854775808 (a9.out.below a3) e8).mono ?_;rintro e xN⟨rfl,q,rfl⟩;rw[HC.out];exact HK.out _ _ ⟨_,rfl,rfl,(Below.refl _ _).drewN _⟩
       ·cases ho
        have h9:S 9 = .bool true:=a0 9 (by kernel_rfl) (by decide)
        have e9:S 13 = .int .i64 c:=a0 13 (by kernel_rfl) (by decide)
        refine uz rfl rfl 26 (by kernel_rfl) (by simp only[nv,Nat.reduceAdd,h9,List.getElem?_toArray,List.getElem?_cons_succ,List.getElem?_cons_zero]) fun KK a1=>?_
        have HK:=hid a1;clear a1 a0 a2;simp only[nv,Nat.reduceAdd]at HK ⊢;generalize S 9=t9 at *;subst h9;generalize S 13=t13 at *;subst e9;go_wp2;try rw[e5]
        exact HK.out _ _ ⟨_,rfl,rfl,Below.refl _ _⟩
       ·cases ho
        have h5:S 5 = .bool false:=a0 5 (by kernel_rfl) (by decide)
        have h9:S 9 = .bool true:=a0 9 (by kernel_rfl) (by decide)
        have c7:S 14 = .bool false:=a0 14 (by kernel_rfl) (by decide)
        refine uz rfl rfl 22 (by kernel_rfl) (by simp only[nv,Nat.reduceAdd,h5,List.getElem?_toArray,List.getElem?_cons_succ,List.getElem?_cons_zero]) fun KK a1=>?_
        have HK:=hid a1;clear a1 a0 a2;simp only[nv,Nat.reduceAdd]at HK ⊢;generalize S 5=t5 at *;subst h5;generalize S 9=t9 at *;subst h9;generalize S 14=t14 at *;subst c7;go_wp2;exact HK.out _ _ ⟨_,rfl,rfl,Below.refl _ _⟩
       ·cases ho
        have h5:S 5 = .bool false:=a0 5 (by kernel_rfl) (by decide)
        have b9:S 15 = .bool false:=a0 15 (by kernel_rfl) (by decide)
        refine ub rfl rfl fun KK HK=>?_
        clear a0 a2;simp only[nv,Nat.reduceAdd]at HK ⊢;generalize S 5=t5 at *;subst h5;generalize S 15=t15 at *;subst b9;go_wp2;exact HK.out _ _ ⟨_,rfl,rfl,Below.refl _ _⟩
       ·exact absurd a2 (by simp)
      intro S x a3 hF;have g0:S 0 = .pointer (some ⟨w.heap.size,1,none⟩):=hF 0 (by decide)
      have g1:S 1 = .slice A2 (dl n) c2:=hF 1 (by decide)
      have g2:NatR x w.heap.size (S 2) 9223372036854775808:=hF 2 (by decide)
      have g3:S 3 = .int .i64 c:=hF 3 (by decide)
      have g4:S 4 = .bool false:=hF 4 (by decide)
      have g5:S 5 = .bool false:=hF 5 (by decide)
      have g6:S 6 = .pointer (some ⟨w.heap.size,0,none⟩):=hF 6 (by decide)
      have g7:S 7 = .bool false:=hF 7 (by decide)
      have g8:S 8 = .bool true:=hF 8 (by decide)
      have g9:S 9 = .bool true:=hF 9 (by decide)
      have b3:S 10 = .pointer (some ⟨w.heap.size,1,none⟩):=hF 10 (by decide)
      have b4:S 11 = .slice A2 (dl n) c2:=hF 11 (by decide)
      have c6:NatR x w.heap.size (S 12) 9223372036854775808:=hF 12 (by decide)
      have b5:S 13 = .int .i64 c:=hF 13 (by decide)
      have b6:S 14 = .bool false:=hF 14 (by decide)
      have b7:S 15 = .bool false:=hF 15 (by decide)
      have b8:S 16 = .bool false:=hF 16 (by decide)
      clear hF;simp only[nv,Nat.reduceAdd,List.length_cons,List.length_nil,List.drop_succ_cons,List.drop_zero];generalize S 0=t0 at *;subst g0;generalize S 1=t1 at *;subst g1;generalize S 2=t2 at *;generalize S 3=t3 at *;subst g3;generalize S 4=t4 at *;subst g4;generalize S 5=t5 at *;subst g5;generalize S 6=t6 at *;subst g6;generalize S 7=t7 at *;subst g7;generalize S 8=t8 at *;subst g8;generalize S 9=t9 at *;subst g9;generalize S 10=t10 at *;subst b3;generalize S 11=t11 at *;subst b4;generalize S 12=t12 at *;generalize S 13=t13 at *;subst b5;generalize S 14=t14 at *;subst b6;generalize S 15=t15 at *;subst b7;generalize S 16=t16 at *;subst b8;have c5:=hid (a4.out.below a3 a4.out.lt);have d8:=hid (a9.out.below a3);have d7:=hid (a5.out.trans (a3.mono a5.out.size));clear a3 f7 c1;have k0:=c5.out.cell 0;have k1:=c5.out.cell 1;simp only[gq]at k0 k1;go_wp2;go_loop [4,5] (fun vv iv=>∃j:Nat,j≤dl n∧vv = .int .u64 ((n/B^j:Nat):Int)∧iv = .int .i64 ((j:Int)-1)) (fun _ iv=>(intOf iv+1).toNat)
      case atStart=>exact⟨dl n,Nat.le_refl _,by rw[Nat.div_eq_of_lt (uav n)];rfl,rfl⟩
      case round=>
       obtain⟨j,hj,rfl,rfl⟩:=hrel;rcases j with _|j
       ·have d0:n/B^0=n:=by simp
        rw[d0];have hf:ucw q=true:=uor f9.out (by have h2:=of_decide_eq_false b0.out;omega) (by have h1:=b2.out;have h2:=of_decide_eq_false b0.out;omega)
        have d1:q.num=(n:Int):=by have h1:=b2.out;have h2:=of_decide_eq_false b0.out;omega
        have HF:=hid hf;have d9:=hid d1;clear hf d1 d0;go_wp2;go_ret2
        exact .yes HF.out (by rw[d9.out]) d7.out
       ·obtain⟨_,Ax,cx,f0,j9,f5,c9⟩:=d8.out
        injection f0 with e6 _ e7;subst e6;subst e7;unfold maxLen at f5;obtain⟨b,k5,rfl,k3,j7,c8⟩:=c9 (by omega)
        have f4:=c8 j (by omega)
        have c0:=uc0 n j;have f8:n/B^j≤n:=Nat.div_le_self _ _;obtain⟨a,ha⟩:∃a,n/B^(j+1)=a:=⟨_,rfl⟩;obtain⟨r,hr⟩:∃r,n/B^j=r:=⟨_,rfl⟩;obtain⟨g,hg⟩:∃g,dg n j=g:=⟨_,rfl⟩;rw[ha,hr,hg]at c0;rw[hr]at f8;rw[hg]at f4;rw[ha];have f6:r=a*1000000000+g:=c0;have HR:=hid hr;clear c8 c9 c0 ha hr hg;go_wp2;go_round
        case rel=>exact⟨j,by omega,by rw[HR.out,f6];go_num,by go_num⟩
        case measure=>simp[intOf]
  ·have e3:decide ((3:Int)<((dl n:Nat):Int))=true:=decide_eq_true (by omega)
   have a7:ucw q=false:=uje (fun h=>k2 (ucp (by
    have h9:n≤9223372036854775808:=by omega
    exact Nat.lt_of_le_of_lt h9 (by decide))))
   have b1:=hid a7;clear a7;go_wp2;go_ret2
   exact .no b1.out a5.out
 ·have e1:decide (d=1)=false:=decide_eq_false d4
  have a7:ucw q=false:=uv5 (by rw[hd];exact d4)
  have b1:=hid a7;clear a7;go_wp2;go_ret2
  exact .no b1.out a5.out
end Go.Proofs.YtellcholbkoakaaGreatDoor
