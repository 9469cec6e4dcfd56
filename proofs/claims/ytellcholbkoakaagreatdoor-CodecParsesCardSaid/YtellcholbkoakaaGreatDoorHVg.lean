/-
 The reference's reader: ints,longs,rats,lin,lins,lists (printed by vgen.py).
-/
import Derived.Test.YtellcholbkoakaaGreatDoorHVn
namespace Go.Proofs.YtellcholbkoakaaGreatDoor
open Go.Lib (hid)
open Go.RowKit AC
set_option linter.unusedVariables false
set_option linter.unusedSimpArgs false
set_option maxHeartbeats 16000000 in
set_option maxRecDepth 100000 in
theorem v_ints:VReads 53 (.list .int) 262144:=by
 intro w br str o hr hl;have b7:=hr.lt;have HR:=hid hr;have HL:=hid hl;clear hr hl;go_enter Tryz.func53,Tryz.ntmps53
 have a7:=(HR.out).lt;have hS2:=eq_lt a7;go_wp2_with fail
 refine(vwant_any _ br str _ 40 40 rfl HR.out).mono ?_;rintro e w3⟨rfl,hs4,hf5⟩;obtain⟨o6,HI7⟩:=LI.start' (S:=(· = br)) (s:= .int) (e:=3) (HR.out) hs4 hf5
 clear hs4 hf5;go_wp2;go_loopw [3,4] (fun lv fv wr=>∃(nn:Nat) (oo:Option (List UInt8)),fv = .bool (decide (nn=0))∧Hid (LI (· = br) .int 3 br str o w lv nn oo wr)) (fun lv _ _=>262146-lenOf lv)
 case atStart=>exact⟨0,_,rfl,HI7⟩
 case round=>
  clear HI7;obtain⟨n8,o9,rfl,a3⟩:=hrel;obtain⟨b8,hwr⟩:∃w:World,w=wr:=⟨_,rfl⟩;subst hwr;obtain⟨A13,c14,rfl,b9,b3⟩:=a3.out.form;have c0:=a3.out.small;unfold maxLen at b3;go_wp2_with fail
  refine(vmore_any _ br str _ (decide (n8=0)) a3.out.st).mono ?_;intro e w18 a4;rcases LI.more' hS2 (rfl:br=br) a3.out a4 with⟨rfl,o20,a0⟩|⟨rfl,b4⟩
  ·clear a4
   go_wp2_with fail
   refine(v_num.go _ br str _ a0.out.st).mono ?_;rintro e w24⟨v,rfl,a5⟩;obtain⟨b5,rfl⟩:=ty_int a5.1;rw[val_int];have a1:=hid a5;clear a5;obtain⟨xs,a2⟩:=a0.out.own hS2 a1.out.fr;have b6:=Nat.le_trans a0.out.size a1.out.fr.size;have a8:Shape.sz .int=1:=rfl;rw[a8]at a2;go_wp2_with (at_builtin;refine wpList_pushS w24 rfl _ _ 61 3 rfl Tryz.underlying61 1 8 vinfo_int (by decide) (by decide) _ _ n8 xs [.int .i64 b5] (by rfl) a2 (by rfl) rfl a1.out.1.one (by omega) b6 ?_)
   intro g cap w30 a6 a9 b0 b1;rw[←a8]at a2 a6;obtain⟨o35,b2⟩:=LM.next' rfl hS2 a7 a0.out a1.out a2 a6 a9 b0 b1;clear a2 a6 a9 b0 b1 a0 a1;have c1:=b2.out.small;go_wp2;go_roundw
   case rel=>exact⟨_,_,by simp,b2⟩
   case measure=>simp[lenOf];omega
  clear a4;go_wp2;go_ret
  exact⟨_,rfl,b4.out⟩
set_option maxHeartbeats 16000000 in
set_option maxRecDepth 100000 in
theorem v_longs:VReads 15 (.list .int) 262144:=by
 intro w br str o hr hl;have c1:=hr.lt;have HR:=hid hr;have HL:=hid hl;clear hr hl;go_enter Tryz.func15,Tryz.ntmps15
 have a8:=(HR.out).lt;have a4:=eq_lt a8;go_wp2_with fail
 refine(vwant_any _ br str _ 40 40 rfl HR.out).mono ?_;rintro e w40⟨rfl,a9,b0⟩;obtain⟨o43,b1⟩:=LI.start' (S:=(· = br)) (s:= .int) (e:=2) (HR.out) a9 b0
 clear a9 b0;go_wp2;go_loopw [3,4] (fun lv fv wr=>∃(nn:Nat) (oo:Option (List UInt8)),fv = .bool (decide (nn=0))∧Hid (LI (· = br) .int 2 br str o w lv nn oo wr)) (fun lv _ _=>262146-lenOf lv)
 case atStart=>exact⟨0,_,rfl,b1⟩
 case round=>
  clear b1;obtain⟨n45,o46,rfl,a3⟩:=hrel;obtain⟨c2,hwr⟩:∃w:World,w=wr:=⟨_,rfl⟩;subst hwr;obtain⟨A50,c51,rfl,c3,b7⟩:=a3.out.form;have c4:=a3.out.small;unfold maxLen at b7;go_wp2_with fail
  refine(vmore_any _ br str _ (decide (n45=0)) a3.out.st).mono ?_;intro e w55 a5;rcases LI.more' a4 (rfl:br=br) a3.out a5 with⟨rfl,o57,a0⟩|⟨rfl,b8⟩
  ·clear a5
   go_wp2_with fail
   refine(v_long.go _ br str _ a0.out.st).mono ?_;rintro e w61⟨v,rfl,a6⟩;obtain⟨b9,rfl⟩:=ty_int a6.1;rw[val_int];have a1:=hid a6;clear a6;obtain⟨xs,a2⟩:=a0.out.own a4 a1.out.fr;have c0:=Nat.le_trans a0.out.size a1.out.fr.size;have b2:Shape.sz .int=1:=rfl;rw[b2]at a2;go_wp2_with (at_builtin;refine wpList_pushS w61 rfl _ _ 23 2 rfl Tryz.underlying23 1 8 vinfo_int64 (by decide) (by decide) _ _ n45 xs [.int .i64 b9] (by rfl) a2 (by rfl) rfl a1.out.1.one (by omega) c0 ?_)
   intro g cap w67 a7 b3 b4 b5;rw[←b2]at a2 a7;obtain⟨o72,b6⟩:=LM.next' rfl a4 a8 a0.out a1.out a2 a7 b3 b4 b5;clear a2 a7 b3 b4 b5 a0 a1;have c5:=b6.out.small;go_wp2;go_roundw
   case rel=>exact⟨_,_,by simp,b6⟩
   case measure=>simp[lenOf];omega
  clear a5;go_wp2;go_ret
  exact⟨_,rfl,b8.out⟩
set_option maxHeartbeats 16000000 in
set_option maxRecDepth 100000 in
theorem v_rats:VReads 57 (.list .rat) 262144:=by
 intro w br str o hr hl;have c7:=hr.lt;have HR:=hid hr;have HL:=hid hl;clear hr hl;go_enter Tryz.func57,Tryz.ntmps57
 have a8:=(HR.out).lt;have a4:=eq_lt a8;go_wp2_with fail
 refine(vwant_any _ br str _ 40 40 rfl HR.out).mono ?_;rintro e w77⟨rfl,a9,b0⟩;obtain⟨o80,b1⟩:=LI.start' (S:=(· = br)) (s:= .rat) (e:=76) (HR.out) a9 b0
 clear a9 b0;go_wp2;go_loopw [3,4] (fun lv fv wr=>∃(nn:Nat) (oo:Option (List UInt8)),fv = .bool (decide (nn=0))∧Hid (LI (· = br) .rat 76 br str o w lv nn oo wr)) (fun lv _ _=>262146-lenOf lv)
 case atStart=>exact⟨0,_,rfl,b1⟩
 case round=>
  clear b1;obtain⟨n82,o83,rfl,a3⟩:=hrel;obtain⟨c8,hwr⟩:∃w:World,w=wr:=⟨_,rfl⟩;subst hwr;obtain⟨A87,c88,rfl,c9,b7⟩:=a3.out.form;have d0:=a3.out.small;unfold maxLen at b7;go_wp2_with fail
  refine(vmore_any _ br str _ (decide (n82=0)) a3.out.st).mono ?_;intro e w92 a5;rcases LI.more' a4 (rfl:br=br) a3.out a5 with⟨rfl,o94,a0⟩|⟨rfl,b8⟩
  ·clear a5
   go_wp2_with fail
   refine(v_rat.go _ br str _ a0.out.st).mono ?_;rintro e w98⟨v,rfl,a6⟩;obtain⟨b9,c0,c1,c2,c3,c4,c5,rfl⟩:=ty_rat a6.1;rw[val_rat];have a1:=hid a6;clear a6;obtain⟨xs,a2⟩:=a0.out.own a4 a1.out.fr;have c6:=Nat.le_trans a0.out.size a1.out.fr.size;have b2:Shape.sz .rat=3:=rfl;rw[b2]at a2;go_wp2_with (at_builtin;refine wpList_pushS w98 rfl _ _ 62 76 rfl Tryz.underlying62 3 56 vinfo_Rat (by decide) (by decide) _ _ n82 xs [.bool b9,.slice c0 c1 c2,.slice c3 c4 c5] (by rfl) a2 (by rfl) rfl a1.out.1.one (by omega) c6 ?_)
   intro g cap d1 a7 b3 b4 b5;rw[←b2]at a2 a7;obtain⟨d2,b6⟩:=LM.next' rfl a4 a8 a0.out a1.out a2 a7 b3 b4 b5;clear a2 a7 b3 b4 b5 a0 a1;have d3:=b6.out.small;go_wp2;go_roundw
   case rel=>exact⟨_,_,by simp,b6⟩
   case measure=>simp[lenOf];omega
  clear a5;go_wp2;go_ret
  exact⟨_,rfl,b8.out⟩
set_option maxHeartbeats 16000000 in
set_option maxRecDepth 100000 in
theorem v_lin:VReads 131 linS 262144:=by
 intro w br str o hr hl;have f9:=hr.lt;have HR:=hid hr;have HL:=hid hl;clear hr hl;go_enter Tryz.func131,Tryz.ntmps131
 have a1:w.heap.size≠br:=(Nat.ne_of_lt f9).symm;have a0:w.heap.size+1≠br:=by omega
 have hd0:w.heap.size≠w.heap.size+1:=by omega
 have hS0:=Sb.two f9 (.cells #[.int .i64 0,.slice none 0 0] 148) (.cells #[.int .i64 0,.slice none 0 0] 148);have hb0:=Bk.two w 148 #[.int .i64 0,.slice none 0 0] (.cells #[.int .i64 0,.slice none 0 0] 148);go_wp2_with fail
 refine(vwant_any _ br str _ 40 40 rfl ((HR.out.alloc (.cells #[.int .i64 0,.slice none 0 0] 148)).alloc (.cells #[.int .i64 0,.slice none 0 0] 148))).mono ?_;rintro e o6⟨rfl,g0,c0⟩;obtain⟨o7,d6⟩:=QM.start' (b:=(w.heap.size+1)) (ss:=[.int,(.list linTermS)]) g0 c0;have g1:=hid (Bk.fr (Bk.alloc (Bk.new w 148 #[.int .i64 0,.slice none 0 0]) (.cells #[.int .i64 0,.slice none 0 0] 148)) c0 a1);have g2:=hid (Bk.fr (hb0) c0 a0);clear g0 c0;go_wp2_with fail
 refine(v_long.go _ br str _ d6.out.st).mono ?_;rintro e o8⟨v,rfl,b0⟩;obtain⟨a3,rfl⟩:=ty_int b0.1;rw[val_int];have g3:=hid (Bk.fr (g1.out) b0.fr a1);have c1:=hid (Bk.fr (g2.out) b0.fr a0);clear g1 g2;have g4:=(c1.out).cell 0;have m6:=(c1.out).frozen 0;simp only[gq]at g4;obtain⟨o9,d7⟩:=QM.got' rfl d6.out b0 hS0 a0 0 [.int .i64 a3];simp only[stores,Nat.reduceAdd]at d7;have d8:=hid d7;have d9:=Bk.storesFar g3.out hd0 0 [.int .i64 a3];simp only[stores,Nat.reduceAdd]at d9;have g5:=hid d9;clear d9 g3;have e0:=Bk.stores (cs:=[.int .i64 0,.slice none 0 0]) 0 [.int .i64 a3] c1.out;simp only[stores,spl,List.set_cons_zero,List.set_cons_succ,Nat.reduceAdd]at e0;have g6:=hid e0;clear e0 c1;clear b0 d7 d6;go_wp2_with fail
 refine(vspace_any _ br str _ d8.out.st).mono ?_;rintro e m7⟨rfl,g7,c2⟩;obtain⟨m8,b1⟩:=QInv.space' d8.out g7 c2;have e1:=hid (Bk.fr (g5.out) c2 a1);have c3:=hid (Bk.fr (g6.out) c2 a0);clear g4 m6 g5 g6;clear g7 c2 d8;have g8:=(b1.out.st).lt;have c4:=Sb.lt (b:=(w.heap.size+1)) g8 (c3.out).lt;have m9:=(e1.out).lt;have n0:=(c3.out).lt;go_wp2_with fail
 refine(vwant_any _ br str _ 40 40 rfl b1.out.st).mono ?_;rintro e p0⟨rfl,g9,c5⟩;obtain⟨p1,h0⟩:=LI.start' (S:=(Sb br (w.heap.size+1))) (s:=linTermS) (e:=219) (b1.out.st) g9 (frb c5);have h1:=hid (Bk.fr (e1.out) c5 a1);have h2:=hid (Bk.fr (c3.out) c5 a0);clear e1 c3;clear g9 c5;go_wp2;go_loopw [4] (fun fv wr=>∃(nn:Nat) (oo:Option (List UInt8)) (lv:Value),fv = .bool (decide (nn=0))∧Hid (LI (Sb br (w.heap.size+1)) linTermS 219 br str m8 m7 lv nn oo wr)∧Hid (Bk wr w.heap.size 148 #[.int .i64 0,.slice none 0 0])∧Hid (Bk wr (w.heap.size+1) 148 #[.int .i64 a3,lv])) (fun _ wr=>262146-lenAt wr (w.heap.size+1) 1)
 case atStart=>exact⟨0,_,_,rfl,h0,h1,h2⟩
 case round=>
  clear h0 h1 h2;obtain⟨a2,p2,p3,rfl,c6,h3,h4⟩:=hrel;obtain⟨p4,hwr⟩:∃w:World,w=wr:=⟨_,rfl⟩;subst hwr;obtain⟨c7,c8,rfl,p5,n1⟩:=c6.out.form;have p6:=c6.out.small;unfold maxLen at n1;go_wp2_with fail
  refine(vmore_any _ br str _ (decide (a2=0)) c6.out.st).mono ?_;intro e b2 b3;have c9:=hid (Bk.fr (h3.out) b3.fr a1);clear h3;have d0:=hid (Bk.fr (h4.out) b3.fr a0);rcases LI.more' c4 Sb.br c6.out b3 with⟨rfl,p7,a4⟩|⟨rfl,h5⟩
  ·clear b3
   have d1:=a4.out.st.lt;have a5:b2.heap.size≠br:=(Nat.ne_of_lt d1).symm;have h6:w.heap.size≠b2.heap.size:=Nat.ne_of_lt (c9.out).lt;have h7:(w.heap.size+1)≠b2.heap.size:=Nat.ne_of_lt (d0.out).lt;go_wp2_with fail
   refine(vwant_any _ br str _ 40 40 rfl (a4.out.st.alloc _)).mono ?_;rintro e p8⟨rfl,h8,b4⟩;obtain⟨p9,e2⟩:=QM.start' (b:=b2.heap.size) (ss:=[.int,.int]) h8 b4;have h9:=hid (Bk.fr (c9.out.alloc _) b4 a1);have j0:=hid (Bk.fr (d0.out.alloc _) b4 a0);have j1:=hid (Bk.fr (Bk.new b2 219 #[.int .i64 0,.int .i64 0]) b4 a5);clear h8 b4;go_wp2_with fail
   refine(v_num.go _ br str _ e2.out.st).mono ?_;rintro e q0⟨v,rfl,a7⟩;obtain⟨a6,rfl⟩:=ty_int a7.1;rw[val_int];have j2:=hid (Bk.fr (h9.out) a7.fr a1);have j3:=hid (Bk.fr (j0.out) a7.fr a0);have d2:=hid (Bk.fr (j1.out) a7.fr a5);clear h9 j0 j1;have j4:=(d2.out).cell 0;have n2:=(d2.out).frozen 0;simp only[gq]at j4;obtain⟨q1,e3⟩:=QM.got' rfl e2.out a7 (Sb.box d1 _) a5 0 [.int .i64 a6];simp only[stores,Nat.reduceAdd]at e3;have e4:=hid e3;have e5:=Bk.storesFar j2.out h6 0 [.int .i64 a6];simp only[stores,Nat.reduceAdd]at e5;have j5:=hid e5;clear e5 j2;have e6:=Bk.storesFar j3.out h7 0 [.int .i64 a6];simp only[stores,Nat.reduceAdd]at e6;have j6:=hid e6;clear e6 j3;have e7:=Bk.stores (cs:=[.int .i64 0,.int .i64 0]) 0 [.int .i64 a6] d2.out;simp only[stores,spl,List.set_cons_zero,List.set_cons_succ,Nat.reduceAdd]at e7;have j7:=hid e7;clear e7 d2;clear a7 e3 e2;go_wp2_with fail
   refine(vspace_any _ br str _ e4.out.st).mono ?_;rintro e q2⟨rfl,j8,b5⟩;obtain⟨q3,e8⟩:=QInv.space' e4.out j8 b5;have j9:=hid (Bk.fr (j5.out) b5 a1);have k0:=hid (Bk.fr (j6.out) b5 a0);have k1:=hid (Bk.fr (j7.out) b5 a5);clear j4 n2 j5 j6 j7;clear j8 b5 e4;go_wp2_with fail
   refine(v_long.go _ br str _ e8.out.st).mono ?_;rintro e q4⟨v,rfl,a8⟩;obtain⟨a9,rfl⟩:=ty_int a8.1;rw[val_int];have k2:=hid (Bk.fr (j9.out) a8.fr a1);have k3:=hid (Bk.fr (k0.out) a8.fr a0);have d3:=hid (Bk.fr (k1.out) a8.fr a5);clear j9 k0 k1;have k4:=(d3.out).cell 1;have n3:=(d3.out).frozen 1;simp only[gq]at k4;obtain⟨q5,e9⟩:=QM.got' rfl e8.out a8 (Sb.box d1 _) a5 1 [.int .i64 a9];simp only[stores,Nat.reduceAdd]at e9;have f0:=hid e9;have f1:=Bk.storesFar k2.out h6 1 [.int .i64 a9];simp only[stores,Nat.reduceAdd]at f1;have k5:=hid f1;clear f1 k2;have f2:=Bk.storesFar k3.out h7 1 [.int .i64 a9];simp only[stores,Nat.reduceAdd]at f2;have k6:=hid f2;clear f2 k3;have f3:=Bk.stores (cs:=[.int .i64 a6,.int .i64 0]) 1 [.int .i64 a9] d3.out;simp only[stores,spl,List.set_cons_zero,List.set_cons_succ,Nat.reduceAdd]at f3;have k7:=hid f3;clear f3 d3;clear a8 e9 e8;go_wp2_with fail
   refine(vwant_any _ br str _ 41 41 rfl f0.out.st).mono ?_;rintro e n4⟨rfl,k8,b6⟩;have k9:=QInv.last' (v:=[.int .i64 a6,.int .i64 a9]) rfl f0.out k8 b6 (Sb.box d1 _) rfl;have n5:=hid (Bk.fr (k5.out) b6 a1);have l0:=hid (Bk.fr (k6.out) b6 a0);have l1:=hid (Bk.fr (k7.out) b6 a5);clear k4 n3 k5 k6 k7;clear k8 b6 f0;have b7:=hid (RP.inner (c:=(w.heap.size+1)) k9.out ((Fr.refl _ _).alloc _) (Nat.le_refl _));clear k9;have l2:=(l1.out).cell 0;have l3:=(l1.out).cell 1;simp only[gq]at l2 l3;obtain⟨xs,b8⟩:=a4.out.own c4 b7.out.fr;have n6:=Nat.le_trans a4.out.size b7.out.fr.size;have l4:Shape.sz linTermS=2:=sz_linTerm;rw[l4]at b8;have l5:=(l0.out).cell 1;simp only[gq]at l5;go_wp2_with (at_builtin;refine wpList_pushS n4 rfl _ _ 146 219 rfl Tryz.underlying146 2 16 vinfo_LinTerm (by decide) (by decide) _ _ a2 xs [.int .i64 a6,.int .i64 a9] (by rfl) b8 (by rfl) rfl b7.out.1.one (by omega) n6 ?_)
   intro g cap q6 f4 d4 l6 l7;rw[←l4]at b8 f4;obtain⟨q7,n7⟩:=LM.next' one_linTerm c4 g8 a4.out b7.out b8 f4 d4 l6 l7;have n8:=hid (LM.box a4.out n5.out m9 _ d4);have f5:=hid (LM.box a4.out l0.out n0 _ d4);clear b8 f4 d4 l6 l7 a4 b7 l2 l3 l5;have n9:=(f5.out).cell 1;have q8:=(f5.out).frozen 1;simp only[gq]at n9;have l8:=hid (LI.put n7.out a0 c4 1 (.slice (some ⟨g,0,none⟩) (a2+1) cap));have l9:=(n8.out).far (p:=⟨(w.heap.size+1),1,none⟩) hd0 (.slice (some ⟨g,0,none⟩) (a2+1) cap);have o0:=hid l9;clear l9;have f6:=(f5.out).set 1 (.slice (some ⟨g,0,none⟩) (a2+1) cap);simp only[List.setIfInBounds_toArray,List.set_cons_succ,List.set_cons_zero]at f6;have m0:=hid f6;clear f6;have q9:=l8.out.small;go_wp2;go_roundw
   case rel=>exact⟨_,_,_,by simp,l8,o0,m0⟩
   case measure=>rw[lenAt_of (n:=a2) h4.out rfl,lenAt_of (n:=a2+1) m0.out rfl];omega
  clear b3;obtain⟨r0,f7⟩:=QM.next' rfl b1.out h5.out hS0;clear b1 h5;go_wp2_with fail
  refine(vwant_any _ br str _ 41 41 rfl f7.out.st).mono ?_;rintro e r1⟨rfl,m1,d5⟩;have o1:=QInv.last' (v:=[.int .i64 a3,.slice c7 a2 c8]) rfl f7.out m1 d5 hS0 rfl;have b9:=hid (Bk.fr (c9.out) d5 a1);have m2:=hid (Bk.fr (d0.out) d5 a0);clear c9 d0;clear m1 d5 f7;have o2:=(m2.out).cell 0;have o3:=(m2.out).cell 1;simp only[gq]at o2 o3;have o4:=(b9.out).cell 0;have r2:=(b9.out).frozen 0;have o5:=(b9.out).cell 1;have r3:=(b9.out).frozen 1;simp only[gq]at o4 o5;have m3:=RP.retB o1.out (((Fr.refl _ _).alloc _).alloc _) (by omega) (Nat.le_refl _) (hS0 br Sb.br) (hS0 _ Sb.b) (by simp;omega) a1 [.int .i64 a3,.slice c7 a2 c8]
  have f8:=Bk.stores (cs:=[.int .i64 0,.slice none 0 0]) 0 [.int .i64 a3,.slice c7 a2 c8] (b9.out);simp only[stores,spl,List.set_cons_zero,List.set_cons_succ,Nat.reduceAdd]at m3 f8;go_wp2;have m4:=f8.cell 0;have m5:=f8.cell 1;simp only[gq]at m4 m5;refine bodyPost_ret (v:= .agg #[.int .i64 a3,.slice c7 a2 c8]) (by simp[results,Tryz.results131,go_sem,m4,m5]) rfl ?_
  exact m3
set_option maxHeartbeats 16000000 in
set_option maxRecDepth 100000 in
theorem v_lins:VReads 50 (.list linS) 262144:=by
 intro w br str o hr hl;have c6:=hr.lt;have HR:=hid hr;have HL:=hid hl;clear hr hl;go_enter Tryz.func50,Tryz.ntmps50
 have a8:=(HR.out).lt;have a4:=eq_lt a8;go_wp2_with fail
 refine(vwant_any _ br str _ 40 40 rfl HR.out).mono ?_;rintro e c7⟨rfl,a9,b0⟩;obtain⟨c8,b1⟩:=LI.start' (S:=(· = br)) (s:=linS) (e:=148) (HR.out) a9 b0
 clear a9 b0;go_wp2;go_loopw [3,4] (fun lv fv wr=>∃(nn:Nat) (oo:Option (List UInt8)),fv = .bool (decide (nn=0))∧Hid (LI (· = br) linS 148 br str o w lv nn oo wr)) (fun lv _ _=>262146-lenOf lv)
 case atStart=>exact⟨0,_,rfl,b1⟩
 case round=>
  clear b1;obtain⟨b2,c9,rfl,a3⟩:=hrel;obtain⟨d0,hwr⟩:∃w:World,w=wr:=⟨_,rfl⟩;subst hwr;obtain⟨d1,d2,rfl,d3,b8⟩:=a3.out.form;have d4:=a3.out.small;unfold maxLen at b8;go_wp2_with fail
  refine(vmore_any _ br str _ (decide (b2=0)) a3.out.st).mono ?_;intro e d5 a5;rcases LI.more' a4 (rfl:br=br) a3.out a5 with⟨rfl,d6,a0⟩|⟨rfl,b9⟩
  ·clear a5
   go_wp2_with fail
   refine(v_lin.go _ br str _ a0.out.st).mono ?_;rintro e c0⟨v,rfl,a6⟩;obtain⟨c1,c2,c3,c4,rfl⟩:=ty_lin a6.1;rw[val_lin];have a1:=hid a6;clear a6;obtain⟨xs,a2⟩:=a0.out.own a4 a1.out.fr;have c5:=Nat.le_trans a0.out.size a1.out.fr.size;have b3:Shape.sz linS=2:=sz_lin;rw[b3]at a2;go_wp2_with (at_builtin;refine wpList_pushS c0 rfl _ _ 103 148 rfl Tryz.underlying103 2 32 vinfo_Lin (by decide) (by decide) _ _ b2 xs [.int .i64 c1,.slice c2 c3 c4] (by rfl) a2 (by rfl) rfl a1.out.1.one (by omega) c5 ?_)
   intro g cap d7 a7 b4 b5 b6;rw[←b3]at a2 a7;obtain⟨d8,b7⟩:=LM.next' one_lin a4 a8 a0.out a1.out a2 a7 b4 b5 b6;clear a2 a7 b4 b5 b6 a0 a1;have d9:=b7.out.small;go_wp2;go_roundw
   case rel=>exact⟨_,_,by simp,b7⟩
   case measure=>simp[lenOf];omega
  clear a5;go_wp2;go_ret
  exact⟨_,rfl,b9.out⟩
set_option maxHeartbeats 16000000 in
set_option maxRecDepth 100000 in
theorem v_lists:VReads 51 (.list (.list .int)) 262144:=by
 intro w br str o hr hl;have c5:=hr.lt;have HR:=hid hr;have HL:=hid hl;clear hr hl;go_enter Tryz.func51,Tryz.ntmps51
 have a8:=(HR.out).lt;have a4:=eq_lt a8;go_wp2_with fail
 refine(vwant_any _ br str _ 40 40 rfl HR.out).mono ?_;rintro e c6⟨rfl,a9,b0⟩;obtain⟨c7,b1⟩:=LI.start' (S:=(· = br)) (s:=(.list .int)) (e:=61) (HR.out) a9 b0
 clear a9 b0;go_wp2;go_loopw [3,4] (fun lv fv wr=>∃(nn:Nat) (oo:Option (List UInt8)),fv = .bool (decide (nn=0))∧Hid (LI (· = br) (.list .int) 61 br str o w lv nn oo wr)) (fun lv _ _=>262146-lenOf lv)
 case atStart=>exact⟨0,_,rfl,b1⟩
 case round=>
  clear b1;obtain⟨b2,c8,rfl,a3⟩:=hrel;obtain⟨c9,hwr⟩:∃w:World,w=wr:=⟨_,rfl⟩;subst hwr;obtain⟨d0,d1,rfl,d2,b8⟩:=a3.out.form;have d3:=a3.out.small;unfold maxLen at b8;go_wp2_with fail
  refine(vmore_any _ br str _ (decide (b2=0)) a3.out.st).mono ?_;intro e d4 a5;rcases LI.more' a4 (rfl:br=br) a3.out a5 with⟨rfl,d5,a0⟩|⟨rfl,b9⟩
  ·clear a5
   go_wp2_with fail
   refine(v_ints.go _ br str _ a0.out.st).mono ?_;rintro e c0⟨v,rfl,a6⟩;obtain⟨c1,c2,c3,rfl⟩:=ty_list a6.1;rw[val_list];have a1:=hid a6;clear a6;obtain⟨xs,a2⟩:=a0.out.own a4 a1.out.fr;have c4:=Nat.le_trans a0.out.size a1.out.fr.size;have b3:Shape.sz (.list .int)=1:=rfl;rw[b3]at a2;go_wp2_with (at_builtin;refine wpList_pushS c0 rfl _ _ 27 61 rfl Tryz.underlying27 1 24 vinfo_lint (by decide) (by decide) _ _ b2 xs [.slice c1 c2 c3] (by rfl) a2 (by rfl) rfl a1.out.1.one (by omega) c4 ?_)
   intro g cap d6 a7 b4 b5 b6;rw[←b3]at a2 a7;obtain⟨d7,b7⟩:=LM.next' rfl a4 a8 a0.out a1.out a2 a7 b4 b5 b6;clear a2 a7 b4 b5 b6 a0 a1;have d8:=b7.out.small;go_wp2;go_roundw
   case rel=>exact⟨_,_,by simp,b7⟩
   case measure=>simp[lenOf];omega
  clear a5;go_wp2;go_ret
  exact⟨_,rfl,b9.out⟩
end Go.Proofs.YtellcholbkoakaaGreatDoor
