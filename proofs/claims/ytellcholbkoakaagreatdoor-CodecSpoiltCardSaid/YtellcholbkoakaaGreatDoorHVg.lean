/-
 The reference's reader: ints,longs,rats,lin,lins,lists (printed by vgen.py).
-/
import Derived.Test.YtellcholbkoakaaGreatDoorHVn
namespace Go.Proofs.YtellcholbkoakaaGreatDoor
open Go.Lib (hid)
open Go.RowKit AC
set_option linter.unusedVariables false
set_option linter.unusedSimpArgs false
set_option maxHeartbeats 16000000 in
set_option maxRecDepth 100000 in
theorem utl:VReads 53 (.list .int) 262144:=by
 intro w br str o hr hl;have c6:=hr.lt;have HR:=hid hr;have HL:=hid hl;clear hr hl;go_enter Tryz.func53,Tryz.ntmps53
 have b0:=(HR.out).lt;have a4:=ug6 b0;go_wp2_with fail
 refine(ui _ br str _ 40 40 rfl HR.out).mono ?_;rintro e w3⟨rfl,b5,b1⟩;obtain⟨o6,a9⟩:=LI.start' (S:=(· = br)) (s:= .int) (e:=3) (HR.out) b5 b1
 clear b5 b1;go_wp2;go_loopw [3,4] (fun lv fv wr=>∃(nn:Nat) (oo:Option (List UInt8)),fv = .bool (decide (nn=0))∧Hid (LI (· = br) .int 3 br str o w lv nn oo wr)) (fun lv _ _=>262146-ub1 lv)
 case atStart=>exact⟨0,_,rfl,a9⟩
 case round=>
  clear a9;obtain⟨n8,o9,rfl,a3⟩:=hrel;obtain⟨d3,c0⟩:∃w:World,w=wr:=⟨_,rfl⟩;subst c0;obtain⟨c3,c4,rfl,c7,b8⟩:=a3.out.form;have c8:=a3.out.small;unfold maxLen at b8;go_wp2_with fail
  refine(uad _ br str _ (decide (n8=0)) a3.out.st).mono ?_;intro e d1 a5;rcases LI.more' a4 (rfl:br=br) a3.out a5 with⟨rfl,o20,a0⟩|⟨rfl,b7⟩
  ·clear a5
   go_wp2_with fail
   refine(uej.go _ br str _ a0.out.st).mono ?_;rintro e c1⟨v,rfl,a7⟩;obtain⟨c2,rfl⟩:=ug a7.1;rw[uo];have a1:=hid a7;clear a7;obtain⟨xs,a2⟩:=a0.out.own a4 a1.out.fr;have b9:=Nat.le_trans a0.out.size a1.out.fr.size;have b6:Shape.sz .int=1:=rfl;rw[b6]at a2;go_wp2_with (at_builtin;refine uJ c1 rfl _ _ 61 3 rfl Tryz.underlying61 1 8 uta (by decide) (by decide) _ _ n8 xs [.int .i64 c2] (by rfl) a2 (by rfl) rfl a1.out.1.one (by omega) b9 ?_)
   intro g c5 d2 a6 b2 b3 b4;rw[←b6]at a2 a6;obtain⟨d0,a8⟩:=LM.next' rfl a4 b0 a0.out a1.out a2 a6 b2 b3 b4;clear a2 a6 b2 b3 b4 a0 a1;have c9:=a8.out.small;go_wp2;go_roundw
   case rel=>exact⟨_,_,by simp,a8⟩
   case measure=>simp[ub1];omega
  clear a5;go_wp2;go_ret
  exact⟨_,rfl,b7.out⟩
set_option maxHeartbeats 16000000 in
set_option maxRecDepth 100000 in
theorem utm:VReads 15 (.list .int) 262144:=by
 intro w br str o hr hl;have c7:=hr.lt;have HR:=hid hr;have HL:=hid hl;clear hr hl;go_enter Tryz.func15,Tryz.ntmps15
 have b0:=(HR.out).lt;have a4:=ug6 b0;go_wp2_with fail
 refine(ui _ br str _ 40 40 rfl HR.out).mono ?_;rintro e d4⟨rfl,b5,b1⟩;obtain⟨d1,a8⟩:=LI.start' (S:=(· = br)) (s:= .int) (e:=2) (HR.out) b5 b1
 clear b5 b1;go_wp2;go_loopw [3,4] (fun lv fv wr=>∃(nn:Nat) (oo:Option (List UInt8)),fv = .bool (decide (nn=0))∧Hid (LI (· = br) .int 2 br str o w lv nn oo wr)) (fun lv _ _=>262146-ub1 lv)
 case atStart=>exact⟨0,_,rfl,a8⟩
 case round=>
  clear a8;obtain⟨b7,d2,rfl,a3⟩:=hrel;obtain⟨d7,c1⟩:∃w:World,w=wr:=⟨_,rfl⟩;subst c1;obtain⟨c4,c5,rfl,c8,b9⟩:=a3.out.form;have c9:=a3.out.small;unfold maxLen at b9;go_wp2_with fail
  refine(uad _ br str _ (decide (b7=0)) a3.out.st).mono ?_;intro e d5 a5;rcases LI.more' a4 (rfl:br=br) a3.out a5 with⟨rfl,o57,a0⟩|⟨rfl,b8⟩
  ·clear a5
   go_wp2_with fail
   refine(uou.go _ br str _ a0.out.st).mono ?_;rintro e c2⟨v,rfl,a7⟩;obtain⟨c3,rfl⟩:=ug a7.1;rw[uo];have a1:=hid a7;clear a7;obtain⟨xs,a2⟩:=a0.out.own a4 a1.out.fr;have c0:=Nat.le_trans a0.out.size a1.out.fr.size;have b6:Shape.sz .int=1:=rfl;rw[b6]at a2;go_wp2_with (at_builtin;refine uJ c2 rfl _ _ 23 2 rfl Tryz.underlying23 1 8 umr (by decide) (by decide) _ _ b7 xs [.int .i64 c3] (by rfl) a2 (by rfl) rfl a1.out.1.one (by omega) c0 ?_)
   intro g c6 d6 a6 b2 b3 b4;rw[←b6]at a2 a6;obtain⟨d3,a9⟩:=LM.next' rfl a4 b0 a0.out a1.out a2 a6 b2 b3 b4;clear a2 a6 b2 b3 b4 a0 a1;have d0:=a9.out.small;go_wp2;go_roundw
   case rel=>exact⟨_,_,by simp,a9⟩
   case measure=>simp[ub1];omega
  clear a5;go_wp2;go_ret
  exact⟨_,rfl,b8.out⟩
set_option maxHeartbeats 16000000 in
set_option maxRecDepth 100000 in
theorem utn:VReads 57 (.list .rat) 262144:=by
 intro w br str o hr hl;have d3:=hr.lt;have HR:=hid hr;have HL:=hid hl;clear hr hl;go_enter Tryz.func57,Tryz.ntmps57
 have b0:=(HR.out).lt;have a4:=ug6 b0;go_wp2_with fail
 refine(ui _ br str _ 40 40 rfl HR.out).mono ?_;rintro e e1⟨rfl,b5,b1⟩;obtain⟨d8,a9⟩:=LI.start' (S:=(· = br)) (s:= .rat) (e:=76) (HR.out) b5 b1
 clear b5 b1;go_wp2;go_loopw [3,4] (fun lv fv wr=>∃(nn:Nat) (oo:Option (List UInt8)),fv = .bool (decide (nn=0))∧Hid (LI (· = br) .rat 76 br str o w lv nn oo wr)) (fun lv _ _=>262146-ub1 lv)
 case atStart=>exact⟨0,_,rfl,a9⟩
 case round=>
  clear a9;obtain⟨b7,d9,rfl,a3⟩:=hrel;obtain⟨e3,c1⟩:∃w:World,w=wr:=⟨_,rfl⟩;subst c1;obtain⟨d0,d1,rfl,d4,b9⟩:=a3.out.form;have d6:=a3.out.small;unfold maxLen at b9;go_wp2_with fail
  refine(uad _ br str _ (decide (b7=0)) a3.out.st).mono ?_;intro e e2 a5;rcases LI.more' a4 (rfl:br=br) a3.out a5 with⟨rfl,o94,a0⟩|⟨rfl,b8⟩
  ·clear a5
   go_wp2_with fail
   refine(utk.go _ br str _ a0.out.st).mono ?_;rintro e c2⟨v,rfl,a7⟩;obtain⟨c5,c3,c8,c6,c4,c9,c7,rfl⟩:=uay a7.1;rw[uaz];have a1:=hid a7;clear a7;obtain⟨xs,a2⟩:=a0.out.own a4 a1.out.fr;have c0:=Nat.le_trans a0.out.size a1.out.fr.size;have b6:Shape.sz .rat=3:=rfl;rw[b6]at a2;go_wp2_with (at_builtin;refine uJ c2 rfl _ _ 62 76 rfl Tryz.underlying62 3 56 utb (by decide) (by decide) _ _ b7 xs [.bool c5,.slice c3 c8 c6,.slice c4 c9 c7] (by rfl) a2 (by rfl) rfl a1.out.1.one (by omega) c0 ?_)
   intro g d2 e0 a6 b2 b3 b4;rw[←b6]at a2 a6;obtain⟨d7,a8⟩:=LM.next' rfl a4 b0 a0.out a1.out a2 a6 b2 b3 b4;clear a2 a6 b2 b3 b4 a0 a1;have d5:=a8.out.small;go_wp2;go_roundw
   case rel=>exact⟨_,_,by simp,a8⟩
   case measure=>simp[ub1];omega
  clear a5;go_wp2;go_ret
  exact⟨_,rfl,b8.out⟩
set_option maxHeartbeats 16000000 in
set_option maxRecDepth 100000 in
theorem uv7:VReads 131 uX 262144:=by
 intro w br str o hr hl;have l7:=hr.lt;have HR:=hid hr;have HL:=hid hl;clear hr hl;go_enter Tryz.func131,Tryz.ntmps131
 have a1:w.heap.size≠br:=(Nat.ne_of_lt l7).symm;have a0:w.heap.size+1≠br:=by omega
 have l2:w.heap.size≠w.heap.size+1:=by omega
 have b3:=Sb.two l7 (.cells #[.int .i64 0,.slice none 0 0] 148) (.cells #[.int .i64 0,.slice none 0 0] 148);have o2:=Bk.two w 148 #[.int .i64 0,.slice none 0 0] (.cells #[.int .i64 0,.slice none 0 0] 148);go_wp2_with fail
 refine(ui _ br str _ 40 40 rfl ((HR.out.alloc (.cells #[.int .i64 0,.slice none 0 0] 148)).alloc (.cells #[.int .i64 0,.slice none 0 0] 148))).mono ?_;rintro e q9⟨rfl,l8,d1⟩;obtain⟨p8,d9⟩:=QM.start' (b:=(w.heap.size+1)) (ss:=[.int,(.list uH)]) l8 d1;have g1:=hid (Bk.fr (Bk.alloc (Bk.new w 148 #[.int .i64 0,.slice none 0 0]) (.cells #[.int .i64 0,.slice none 0 0] 148)) d1 a1);have g2:=hid (Bk.fr (o2) d1 a0);clear l8 d1;go_wp2_with fail
 refine(uou.go _ br str _ d9.out.st).mono ?_;rintro e r0⟨v,rfl,b9⟩;obtain⟨a4,rfl⟩:=ug b9.1;rw[uo];have g3:=hid (Bk.fr (g1.out) b9.fr a1);have c2:=hid (Bk.fr (g2.out) b9.fr a0);clear g1 g2;have k4:=(c2.out).cell 0;have n9:=(c2.out).frozen 0;simp only[gq]at k4;obtain⟨p9,f8⟩:=QM.got' rfl d9.out b9 b3 a0 0 [.int .i64 a4];simp only[stores,Nat.reduceAdd]at f8;have e0:=hid f8;have e7:=Bk.storesFar g3.out l2 0 [.int .i64 a4];simp only[stores,Nat.reduceAdd]at e7;have g4:=hid e7;clear e7 g3;have e8:=Bk.stores (cs:=[.int .i64 0,.slice none 0 0]) 0 [.int .i64 a4] c2.out;simp only[stores,spl,List.set_cons_zero,List.set_cons_succ,Nat.reduceAdd]at e8;have g5:=hid e8;clear e8 c2;clear b9 f8 d9;go_wp2_with fail
 refine(ur _ br str _ e0.out.st).mono ?_;rintro e o9⟨rfl,l9,d2⟩;obtain⟨o8,b2⟩:=QInv.space' e0.out l9 d2;have d7:=hid (Bk.fr (g4.out) d2 a1);have c3:=hid (Bk.fr (g5.out) d2 a0);clear k4 n9 g4 g5;clear l9 d2 e0;have l1:=(b2.out.st).lt;have d0:=Sb.lt (b:=(w.heap.size+1)) l1 (c3.out).lt;have o4:=(d7.out).lt;have o5:=(c3.out).lt;go_wp2_with fail
 refine(ui _ br str _ 40 40 rfl b2.out.st).mono ?_;rintro e r1⟨rfl,m0,d3⟩;obtain⟨q0,k0⟩:=LI.start' (S:=(Sb br (w.heap.size+1))) (s:=uH) (e:=219) (b2.out.st) m0 (frb d3);have g6:=hid (Bk.fr (d7.out) d3 a1);have g7:=hid (Bk.fr (c3.out) d3 a0);clear d7 c3;clear m0 d3;go_wp2;go_loopw [4] (fun fv wr=>∃(nn:Nat) (oo:Option (List UInt8)) (lv:Value),fv = .bool (decide (nn=0))∧Hid (LI (Sb br (w.heap.size+1)) uH 219 br str o8 o9 lv nn oo wr)∧Hid (Bk wr w.heap.size 148 #[.int .i64 0,.slice none 0 0])∧Hid (Bk wr (w.heap.size+1) 148 #[.int .i64 a4,lv])) (fun _ wr=>262146-ug7 wr (w.heap.size+1) 1)
 case atStart=>exact⟨0,_,_,rfl,k0,g6,g7⟩
 case round=>
  clear k0 g6 g7;obtain⟨a2,q1,p7,rfl,c8,g8,g9⟩:=hrel;obtain⟨r8,o7⟩:∃w:World,w=wr:=⟨_,rfl⟩;subst o7;obtain⟨c1,c9,rfl,p4,o3⟩:=c8.out.form;have p5:=c8.out.small;unfold maxLen at o3;go_wp2_with fail
  refine(uad _ br str _ (decide (a2=0)) c8.out.st).mono ?_;intro e c0 b7;have c4:=hid (Bk.fr (g8.out) b7.fr a1);clear g8;have c5:=hid (Bk.fr (g9.out) b7.fr a0);rcases LI.more' d0 Sb.br c8.out b7 with⟨rfl,q2,a3⟩|⟨rfl,k2⟩
  ·clear b7
   have d6:=a3.out.st.lt;have a5:c0.heap.size≠br:=(Nat.ne_of_lt d6).symm;have l3:w.heap.size≠c0.heap.size:=Nat.ne_of_lt (c4.out).lt;have l4:(w.heap.size+1)≠c0.heap.size:=Nat.ne_of_lt (c5.out).lt;go_wp2_with fail
   refine(ui _ br str _ 40 40 rfl (a3.out.st.alloc _)).mono ?_;rintro e r2⟨rfl,m1,b4⟩;obtain⟨q3,e1⟩:=QM.start' (b:=c0.heap.size) (ss:=[.int,.int]) m1 b4;have h0:=hid (Bk.fr (c4.out.alloc _) b4 a1);have h1:=hid (Bk.fr (c5.out.alloc _) b4 a0);have h2:=hid (Bk.fr (Bk.new c0 219 #[.int .i64 0,.int .i64 0]) b4 a5);clear m1 b4;go_wp2_with fail
   refine(uej.go _ br str _ e1.out.st).mono ?_;rintro e r3⟨v,rfl,a7⟩;obtain⟨a6,rfl⟩:=ug a7.1;rw[uo];have h3:=hid (Bk.fr (h0.out) a7.fr a1);have h4:=hid (Bk.fr (h1.out) a7.fr a0);have c6:=hid (Bk.fr (h2.out) a7.fr a5);clear h0 h1 h2;have k5:=(c6.out).cell 0;have o0:=(c6.out).frozen 0;simp only[gq]at k5;obtain⟨q4,f9⟩:=QM.got' rfl e1.out a7 (Sb.box d6 _) a5 0 [.int .i64 a6];simp only[stores,Nat.reduceAdd]at f9;have e2:=hid f9;have e9:=Bk.storesFar h3.out l3 0 [.int .i64 a6];simp only[stores,Nat.reduceAdd]at e9;have h5:=hid e9;clear e9 h3;have f0:=Bk.storesFar h4.out l4 0 [.int .i64 a6];simp only[stores,Nat.reduceAdd]at f0;have h6:=hid f0;clear f0 h4;have f1:=Bk.stores (cs:=[.int .i64 0,.int .i64 0]) 0 [.int .i64 a6] c6.out;simp only[stores,spl,List.set_cons_zero,List.set_cons_succ,Nat.reduceAdd]at f1;have h7:=hid f1;clear f1 c6;clear a7 f9 e1;go_wp2_with fail
   refine(ur _ br str _ e2.out.st).mono ?_;rintro e r4⟨rfl,m2,b5⟩;obtain⟨q5,e3⟩:=QInv.space' e2.out m2 b5;have h8:=hid (Bk.fr (h5.out) b5 a1);have h9:=hid (Bk.fr (h6.out) b5 a0);have j0:=hid (Bk.fr (h7.out) b5 a5);clear k5 o0 h5 h6 h7;clear m2 b5 e2;go_wp2_with fail
   refine(uou.go _ br str _ e3.out.st).mono ?_;rintro e r5⟨v,rfl,a8⟩;obtain⟨a9,rfl⟩:=ug a8.1;rw[uo];have j1:=hid (Bk.fr (h8.out) a8.fr a1);have j2:=hid (Bk.fr (h9.out) a8.fr a0);have c7:=hid (Bk.fr (j0.out) a8.fr a5);clear h8 h9 j0;have k6:=(c7.out).cell 1;have o1:=(c7.out).frozen 1;simp only[gq]at k6;obtain⟨q6,g0⟩:=QM.got' rfl e3.out a8 (Sb.box d6 _) a5 1 [.int .i64 a9];simp only[stores,Nat.reduceAdd]at g0;have e4:=hid g0;have f2:=Bk.storesFar j1.out l3 1 [.int .i64 a9];simp only[stores,Nat.reduceAdd]at f2;have j3:=hid f2;clear f2 j1;have f3:=Bk.storesFar j2.out l4 1 [.int .i64 a9];simp only[stores,Nat.reduceAdd]at f3;have j4:=hid f3;clear f3 j2;have f4:=Bk.stores (cs:=[.int .i64 a6,.int .i64 0]) 1 [.int .i64 a9] c7.out;simp only[stores,spl,List.set_cons_zero,List.set_cons_succ,Nat.reduceAdd]at f4;have j5:=hid f4;clear f4 c7;clear a8 g0 e3;go_wp2_with fail
   refine(ui _ br str _ 41 41 rfl e4.out.st).mono ?_;rintro e p0⟨rfl,m3,b6⟩;have k3:=QInv.last' (v:=[.int .i64 a6,.int .i64 a9]) rfl e4.out m3 b6 (Sb.box d6 _) rfl;have m9:=hid (Bk.fr (j3.out) b6 a1);have j6:=hid (Bk.fr (j4.out) b6 a0);have j7:=hid (Bk.fr (j5.out) b6 a5);clear k6 o1 j3 j4 j5;clear m3 b6 e4;have b1:=hid (RP.inner (c:=(w.heap.size+1)) k3.out ((Fr.refl _ _).alloc _) (Nat.le_refl _));clear k3;have k7:=(j7.out).cell 0;have k8:=(j7.out).cell 1;simp only[gq]at k7 k8;obtain⟨xs,b8⟩:=a3.out.own d0 b1.out.fr;have o6:=Nat.le_trans a3.out.size b1.out.fr.size;have m5:Shape.sz uH=2:=ubw;rw[m5]at b8;have k9:=(j6.out).cell 1;simp only[gq]at k9;go_wp2_with (at_builtin;refine uJ p0 rfl _ _ 146 219 rfl Tryz.underlying146 2 16 ujc (by decide) (by decide) _ _ a2 xs [.int .i64 a6,.int .i64 a9] (by rfl) b8 (by rfl) rfl b1.out.1.one (by omega) o6 ?_)
   intro g e6 r6 f7 d5 l5 l6;rw[←m5]at b8 f7;obtain⟨q7,n2⟩:=LM.next' uly d0 l1 a3.out b1.out b8 f7 d5 l5 l6;have n0:=hid (LM.box a3.out m9.out o4 _ d5);have d8:=hid (LM.box a3.out j6.out o5 _ d5);clear b8 f7 d5 l5 l6 a3 b1 k7 k8 k9;have n4:=(d8.out).cell 1;have p1:=(d8.out).frozen 1;simp only[gq]at n4;have k1:=hid (LI.put n2.out a0 d0 1 (.slice (some ⟨g,0,none⟩) (a2+1) e6));have l0:=(n0.out).far (p:=⟨(w.heap.size+1),1,none⟩) l2 (.slice (some ⟨g,0,none⟩) (a2+1) e6);have n1:=hid l0;clear l0;have f5:=(d8.out).set 1 (.slice (some ⟨g,0,none⟩) (a2+1) e6);simp only[List.setIfInBounds_toArray,List.set_cons_succ,List.set_cons_zero]at f5;have j8:=hid f5;clear f5;have p6:=k1.out.small;go_wp2;go_roundw
   case rel=>exact⟨_,_,_,by simp,k1,n1,j8⟩
   case measure=>rw[uaq (n:=a2) g9.out rfl,uaq (n:=a2+1) j8.out rfl];omega
  clear b7;obtain⟨q8,e5⟩:=QM.next' rfl b2.out k2.out b3;clear b2 k2;go_wp2_with fail
  refine(ui _ br str _ 41 41 rfl e5.out.st).mono ?_;rintro e r7⟨rfl,m4,d4⟩;have n3:=QInv.last' (v:=[.int .i64 a4,.slice c1 a2 c9]) rfl e5.out m4 d4 b3 rfl;have b0:=hid (Bk.fr (c4.out) d4 a1);have j9:=hid (Bk.fr (c5.out) d4 a0);clear c4 c5;clear m4 d4 e5;have n5:=(j9.out).cell 0;have n6:=(j9.out).cell 1;simp only[gq]at n5 n6;have n7:=(b0.out).cell 0;have p2:=(b0.out).frozen 0;have n8:=(b0.out).cell 1;have p3:=(b0.out).frozen 1;simp only[gq]at n7 n8;have m6:=RP.retB n3.out (((Fr.refl _ _).alloc _).alloc _) (by omega) (Nat.le_refl _) (b3 br Sb.br) (b3 _ Sb.b) (by simp;omega) a1 [.int .i64 a4,.slice c1 a2 c9]
  have f6:=Bk.stores (cs:=[.int .i64 0,.slice none 0 0]) 0 [.int .i64 a4,.slice c1 a2 c9] (b0.out);simp only[stores,spl,List.set_cons_zero,List.set_cons_succ,Nat.reduceAdd]at m6 f6;go_wp2;have m7:=f6.cell 0;have m8:=f6.cell 1;simp only[gq]at m7 m8;refine bodyPost_ret (v:= .agg #[.int .i64 a4,.slice c1 a2 c9]) (by simp[results,Tryz.results131,go_sem,m7,m8]) rfl ?_
  exact m6
set_option maxHeartbeats 16000000 in
set_option maxRecDepth 100000 in
theorem uxb:VReads 50 (.list uX) 262144:=by
 intro w br str o hr hl;have d0:=hr.lt;have HR:=hid hr;have HL:=hid hl;clear hr hl;go_enter Tryz.func50,Tryz.ntmps50
 have b0:=(HR.out).lt;have a4:=ug6 b0;go_wp2_with fail
 refine(ui _ br str _ 40 40 rfl HR.out).mono ?_;rintro e d8⟨rfl,b5,b1⟩;obtain⟨d4,a8⟩:=LI.start' (S:=(· = br)) (s:=uX) (e:=148) (HR.out) b5 b1
 clear b5 b1;go_wp2;go_loopw [3,4] (fun lv fv wr=>∃(nn:Nat) (oo:Option (List UInt8)),fv = .bool (decide (nn=0))∧Hid (LI (· = br) uX 148 br str o w lv nn oo wr)) (fun lv _ _=>262146-ub1 lv)
 case atStart=>exact⟨0,_,rfl,a8⟩
 case round=>
  clear a8;obtain⟨b7,d5,rfl,a3⟩:=hrel;obtain⟨e1,c1⟩:∃w:World,w=wr:=⟨_,rfl⟩;subst c1;obtain⟨c7,c8,rfl,d1,b9⟩:=a3.out.form;have d2:=a3.out.small;unfold maxLen at b9;go_wp2_with fail
  refine(uad _ br str _ (decide (b7=0)) a3.out.st).mono ?_;intro e d9 a5;rcases LI.more' a4 (rfl:br=br) a3.out a5 with⟨rfl,d6,a0⟩|⟨rfl,b8⟩
  ·clear a5
   go_wp2_with fail
   refine(uv7.go _ br str _ a0.out.st).mono ?_;rintro e c2⟨v,rfl,a7⟩;obtain⟨c3,c4,c6,c5,rfl⟩:=ua2 a7.1;rw[ubg];have a1:=hid a7;clear a7;obtain⟨xs,a2⟩:=a0.out.own a4 a1.out.fr;have c0:=Nat.le_trans a0.out.size a1.out.fr.size;have b6:Shape.sz uX=2:=uw;rw[b6]at a2;go_wp2_with (at_builtin;refine uJ c2 rfl _ _ 103 148 rfl Tryz.underlying103 2 32 utc (by decide) (by decide) _ _ b7 xs [.int .i64 c3,.slice c4 c6 c5] (by rfl) a2 (by rfl) rfl a1.out.1.one (by omega) c0 ?_)
   intro g c9 e0 a6 b2 b3 b4;rw[←b6]at a2 a6;obtain⟨d7,a9⟩:=LM.next' uxs a4 b0 a0.out a1.out a2 a6 b2 b3 b4;clear a2 a6 b2 b3 b4 a0 a1;have d3:=a9.out.small;go_wp2;go_roundw
   case rel=>exact⟨_,_,by simp,a9⟩
   case measure=>simp[ub1];omega
  clear a5;go_wp2;go_ret
  exact⟨_,rfl,b8.out⟩
set_option maxHeartbeats 16000000 in
set_option maxRecDepth 100000 in
theorem uto:VReads 51 (.list (.list .int)) 262144:=by
 intro w br str o hr hl;have c9:=hr.lt;have HR:=hid hr;have HL:=hid hl;clear hr hl;go_enter Tryz.func51,Tryz.ntmps51
 have b0:=(HR.out).lt;have a4:=ug6 b0;go_wp2_with fail
 refine(ui _ br str _ 40 40 rfl HR.out).mono ?_;rintro e d7⟨rfl,b5,b1⟩;obtain⟨d3,a8⟩:=LI.start' (S:=(· = br)) (s:=(.list .int)) (e:=61) (HR.out) b5 b1
 clear b5 b1;go_wp2;go_loopw [3,4] (fun lv fv wr=>∃(nn:Nat) (oo:Option (List UInt8)),fv = .bool (decide (nn=0))∧Hid (LI (· = br) (.list .int) 61 br str o w lv nn oo wr)) (fun lv _ _=>262146-ub1 lv)
 case atStart=>exact⟨0,_,rfl,a8⟩
 case round=>
  clear a8;obtain⟨b7,d4,rfl,a3⟩:=hrel;obtain⟨e0,c1⟩:∃w:World,w=wr:=⟨_,rfl⟩;subst c1;obtain⟨c6,c7,rfl,d0,b9⟩:=a3.out.form;have d1:=a3.out.small;unfold maxLen at b9;go_wp2_with fail
  refine(uad _ br str _ (decide (b7=0)) a3.out.st).mono ?_;intro e d8 a5;rcases LI.more' a4 (rfl:br=br) a3.out a5 with⟨rfl,d5,a0⟩|⟨rfl,b8⟩
  ·clear a5
   go_wp2_with fail
   refine(utl.go _ br str _ a0.out.st).mono ?_;rintro e c2⟨v,rfl,a7⟩;obtain⟨c3,c5,c4,rfl⟩:=ua a7.1;rw[ue];have a1:=hid a7;clear a7;obtain⟨xs,a2⟩:=a0.out.own a4 a1.out.fr;have c0:=Nat.le_trans a0.out.size a1.out.fr.size;have b6:Shape.sz (.list .int)=1:=rfl;rw[b6]at a2;go_wp2_with (at_builtin;refine uJ c2 rfl _ _ 27 61 rfl Tryz.underlying27 1 24 up7 (by decide) (by decide) _ _ b7 xs [.slice c3 c5 c4] (by rfl) a2 (by rfl) rfl a1.out.1.one (by omega) c0 ?_)
   intro g c8 d9 a6 b2 b3 b4;rw[←b6]at a2 a6;obtain⟨d6,a9⟩:=LM.next' rfl a4 b0 a0.out a1.out a2 a6 b2 b3 b4;clear a2 a6 b2 b3 b4 a0 a1;have d2:=a9.out.small;go_wp2;go_roundw
   case rel=>exact⟨_,_,by simp,a9⟩
   case measure=>simp[ub1];omega
  clear a5;go_wp2;go_ret
  exact⟨_,rfl,b8.out⟩
end Go.Proofs.YtellcholbkoakaaGreatDoor
