/-
 The reference's reader: typ,index,mono,poly,targets,parts (printed by vgen.py).
-/
import Derived.Test.YtellcholbkoakaaGreatDoorHVg
namespace Go.Proofs.YtellcholbkoakaaGreatDoor
open Go.Lib (hid)
open Go.RowKit AC
set_option linter.unusedVariables false
set_option linter.unusedSimpArgs false
set_option maxHeartbeats 16000000 in
set_option maxRecDepth 100000 in
theorem uxc(N L:Nat)(j3:0<L→VReads 52 (ua1 N) (L-1)):VReads 52 (.st (ubd [.int,.int,(.list (ua1 N))])) L:=by
 have l0:=hid j3;clear j3;intro w br str o hr hl;have j5:=hr.lt;have HR:=hid hr;have HL:=hid hl;clear hr hl;go_enter Tryz.func52,Tryz.ntmps52
 have a2:w.heap.size≠br:=(Nat.ne_of_lt j5).symm;have a0:w.heap.size+1≠br:=by omega
 have e8:w.heap.size≠w.heap.size+1:=by omega
 have b3:=Sb.two j5 (.cells #[.int .i64 0,.int .i64 0,.slice none 0 0] 116) (.cells #[.int .i64 0,.int .i64 0,.slice none 0 0] 116);have m1:=Bk.two w 116 #[.int .i64 0,.int .i64 0,.slice none 0 0] (.cells #[.int .i64 0,.int .i64 0,.slice none 0 0] 116);go_wp2_with fail
 refine(ui _ br str _ 40 40 rfl ((HR.out.alloc (.cells #[.int .i64 0,.int .i64 0,.slice none 0 0] 116)).alloc (.cells #[.int .i64 0,.int .i64 0,.slice none 0 0] 116))).mono ?_;rintro e w1⟨rfl,j7,c9⟩;obtain⟨o4,e1⟩:=QM.start' (b:=(w.heap.size+1)) (ss:=[.int,.int,(.list (ua1 N))]) j7 c9;have g5:=hid (Bk.fr (Bk.alloc (Bk.new w 116 #[.int .i64 0,.int .i64 0,.slice none 0 0]) (.cells #[.int .i64 0,.int .i64 0,.slice none 0 0] 116)) c9 a2);have g9:=hid (Bk.fr (m1) c9 a0);clear j7 c9;go_wp2_with fail
 refine(uej.go _ br str _ e1.out.st).mono ?_;rintro e w8⟨v,rfl,b9⟩;obtain⟨a5,rfl⟩:=ug b9.1;rw[uo];have f4:=hid (Bk.fr (g5.out) b9.fr a2);have c0:=hid (Bk.fr (g9.out) b9.fr a0);clear g5 g9;have c13:=(c0.out).cell 0;have l9:=(c0.out).frozen 0;simp only[gq]at c13;obtain⟨o2,f0⟩:=QM.got' rfl e1.out b9 b3 a0 0 [.int .i64 a5];simp only[stores,Nat.reduceAdd]at f0;have d8:=hid f0;have e4:=Bk.storesFar f4.out e8 0 [.int .i64 a5];simp only[stores,Nat.reduceAdd]at e4;have f5:=hid e4;clear e4 f4;have e5:=Bk.stores (cs:=[.int .i64 0,.int .i64 0,.slice none 0 0]) 0 [.int .i64 a5] c0.out;simp only[stores,spl,List.set_cons_zero,List.set_cons_succ,Nat.reduceAdd]at e5;have f6:=hid e5;clear e5 c0;clear b9 f0 e1;go_wp2_with fail
 refine(ur _ br str _ d8.out.st).mono ?_;rintro e p0⟨rfl,j8,c8⟩;obtain⟨o3,d9⟩:=QInv.space' d8.out j8 c8;have f7:=hid (Bk.fr (f5.out) c8 a2);have f8:=hid (Bk.fr (f6.out) c8 a0);clear c13 l9 f5 f6;clear j8 c8 d8;go_wp2_with fail
 refine(uej.go _ br str _ d9.out.st).mono ?_;rintro e p1⟨v,rfl,b8⟩;obtain⟨a8,rfl⟩:=ug b8.1;rw[uo];have f9:=hid (Bk.fr (f7.out) b8.fr a2);have c1:=hid (Bk.fr (f8.out) b8.fr a0);clear f7 f8;have h8:=(c1.out).cell 1;have m0:=(c1.out).frozen 1;simp only[gq]at h8;obtain⟨o5,f1⟩:=QM.got' rfl d9.out b8 b3 a0 1 [.int .i64 a8];simp only[stores,Nat.reduceAdd]at f1;have e0:=hid f1;have e6:=Bk.storesFar f9.out e8 1 [.int .i64 a8];simp only[stores,Nat.reduceAdd]at e6;have g0:=hid e6;clear e6 f9;have e7:=Bk.stores (cs:=[.int .i64 a5,.int .i64 0,.slice none 0 0]) 1 [.int .i64 a8] c1.out;simp only[stores,spl,List.set_cons_zero,List.set_cons_succ,Nat.reduceAdd]at e7;have g2:=hid e7;clear e7 c1;clear b8 f1 d9;go_wp2_with fail
 refine(ur _ br str _ e0.out.st).mono ?_;rintro e n1⟨rfl,j9,d0⟩;obtain⟨n0,b1⟩:=QInv.space' e0.out j9 d0;have d4:=hid (Bk.fr (g0.out) d0 a2);have c2:=hid (Bk.fr (g2.out) d0 a0);clear h8 m0 g0 g2;clear j9 d0 e0;have j0:=(b1.out.st).lt;have c5:=Sb.lt (b:=(w.heap.size+1)) j0 (c2.out).lt;have m6:=(d4.out).lt;have m7:=(c2.out).lt;go_wp2_with fail
 refine(ui _ br str _ 40 40 rfl b1.out.st).mono ?_;rintro e p2⟨rfl,k0,d1⟩;obtain⟨o6,h5⟩:=LI.start' (S:=(Sb br (w.heap.size+1))) (s:=(ua1 N)) (e:=116) (b1.out.st) k0 (frb d1);have g3:=hid (Bk.fr (d4.out) d1 a2);have g6:=hid (Bk.fr (c2.out) d1 a0);clear d4 c2;clear k0 d1;go_wp2;go_loopw [4] (fun fv wr=>∃(nn:Nat) (oo:Option (List UInt8)) (lv:Value),fv = .bool (decide (nn=0))∧Hid (LI (Sb br (w.heap.size+1)) (ua1 N) 116 br str n0 n1 lv nn oo wr)∧Hid (Bk wr w.heap.size 116 #[.int .i64 0,.int .i64 0,.slice none 0 0])∧Hid (Bk wr (w.heap.size+1) 116 #[.int .i64 a5,.int .i64 a8,lv])) (fun _ wr=>262146-ug7 wr (w.heap.size+1) 2)
 case atStart=>exact⟨0,_,_,rfl,h5,g3,g6⟩
 case round=>
  clear h5 g3 g6;obtain⟨a1,o7,o0,rfl,c4,g7,g8⟩:=hrel;obtain⟨p4,m9⟩:∃w:World,w=wr:=⟨_,rfl⟩;subst m9;obtain⟨b0,b2,rfl,n7,m3⟩:=c4.out.form;have n9:=c4.out.small;unfold maxLen at m3;go_wp2_with fail
  refine(uad _ br str _ (decide (a1=0)) c4.out.st).mono ?_;intro e a4 b6;have c3:=hid (Bk.fr (g7.out) b6.fr a2);clear g7;have b5:=hid (Bk.fr (g8.out) b6.fr a0);rcases LI.more' c5 Sb.br c4.out b6 with⟨rfl,o77,a6⟩|⟨rfl,h7⟩
  ·clear b6
   have j4:=a6.out.lim (b1.out.lim HL.out);go_upto_region 11 with(fail)
   refine udm (by kernel_rfl) (by kernel_rfl) [22,23,24,25,26] 40 (by kernel_rfl) (fun d x=>Fr (· = br) a4 x∧(d 3=false→Below a4.heap.size a4 x)) (fun j x x'=>match j with
    | 3=>Fr (· = br) x x'
    | _=>Below x.heap.size x x') (fun io v x=>match io with
    | 0=>v = .pointer (some ⟨(w.heap.size+1),2,none⟩)
    | 1=>v = .slice b0 a1 b2
    | 2=>v = .pointer (some ⟨br,0,none⟩)
    | 3=>∃u,v=uas (ua1 N) u∧RP (· = br) (ua1 N) br str o77 a4 u x
    | _=>∃u g,v = .slice (some ⟨g,0,none⟩) 1 1∧RP (· = br) (ua1 N) br str o77 a4 u x∧Bk x g 116 u.toArray∧a4.heap.size≤g) ⟨(Fr.refl _ _).drew,fun _=>(Below.refl _ _).drew⟩ ?_ ?_ ?_ ?_
   ·rintro d j x x' ⟨h,hb⟩ hd hg
    rcases j with _|_|_|_|j
    ·exact⟨h.below hg,fun e=>(hb (Bool.or_eq_false_iff.1 e).1).trans (hg.mono h.size)⟩
    ·exact⟨h.below hg,fun e=>(hb (Bool.or_eq_false_iff.1 e).1).trans (hg.mono h.size)⟩
    ·exact⟨h.below hg,fun e=>(hb (Bool.or_eq_false_iff.1 e).1).trans (hg.mono h.size)⟩
    ·exact⟨h.trans hg,fun e=>by simp at e⟩
    ·exact⟨h.below hg,fun e=>(hb (Bool.or_eq_false_iff.1 e).1).trans (hg.mono h.size)⟩
   ·intro io jo v x x' hi hj m4 ha h hg
    rcases io with _|_|_|_|_|io
    ·exact h
    ·exact h
    ·exact h
    ·obtain⟨u,h1,h2⟩:=h
     rcases jo with _|_|_|_|jo
     ·exact⟨u,h1,h2.bel hg⟩
     ·exact⟨u,h1,h2.bel hg⟩
     ·exact⟨u,h1,h2.bel hg⟩
     ·exact absurd rfl m4
     ·exact⟨u,h1,h2.bel hg⟩
    ·obtain⟨u,g,h1,h2,h3,h4⟩:=h
     rcases jo with _|_|_|_|jo
     ·exact⟨u,g,h1,h2.bel hg,h3.below hg h3.lt,h4⟩
     ·exact⟨u,g,h1,h2.bel hg,h3.below hg h3.lt,h4⟩
     ·exact⟨u,g,h1,h2.bel hg,h3.below hg h3.lt,h4⟩
     ·exact absurd (ha.symm.trans (by kernel_rfl:AC.ucm _ 40 4 3=true)) (by decide)
     ·exact⟨u,g,h1,h2.bel hg,h3.below hg h3.lt,h4⟩
    ·exact absurd hi (by simp)
   ·intro io oo S d x ho b4 hd a3 a7
    rcases io with _|_|_|_|_|io
    ·cases ho
     refine ub rfl rfl fun KK HK=>?_
     clear a7 b4;simp only[nv,Nat.reduceAdd]at HK ⊢;go_wp2;exact HK.out _ _ ⟨_,rfl,rfl,Below.refl _ _⟩
    ·cases ho
     have h0:S 0 = .pointer (some ⟨(w.heap.size+1),2,none⟩):=a7 0 (by kernel_rfl) (by decide)
     have cc:=(Bk.fr (b5.out) a3.1 a0).cell 2;simp only[gq]at cc;refine ub rfl rfl fun KK HK=>?_
     clear a7 b4;simp only[nv,Nat.reduceAdd]at HK ⊢;generalize S 0=t0 at *;subst h0;go_wp2;exact HK.out _ _ ⟨_,rfl,rfl,Below.refl _ _⟩
    ·cases ho
     refine ub rfl rfl fun KK HK=>?_
     clear a7 b4;simp only[nv,Nat.reduceAdd]at HK ⊢;go_wp2;exact HK.out _ _ ⟨_,rfl,rfl,Below.refl _ _⟩
    ·cases ho
     have h2:S 2 = .pointer (some ⟨br,0,none⟩):=a7 2 (by kernel_rfl) (by decide)
     refine ub rfl rfl fun KK HK=>?_
     clear a7 b4;simp only[nv,Nat.reduceAdd]at HK ⊢;generalize S 2=t2 at *;subst h2;go_wp2_with fail
     refine(l0.out (by have:=j4.2;omega) _ br str _ (a6.out.st.below (a3.2 hd)) (fun r hr=>Nat.le_trans (j4.1 r hr) (Nat.sub_le _ _))).mono ?_
     rintro e xN⟨u,rfl,hp⟩;exact HK.out _ _ ⟨_,rfl,⟨u,rfl,hp.from a3.1 fun _ h=> .inl h⟩,hp.2.2.1⟩
    ·cases ho
     have h3:∃u,S 3=uas (ua1 N) u∧RP (· = br) (ua1 N) br str o77 a4 u x:=a7 3 (by kernel_rfl) (by decide)
     refine ub rfl rfl fun KK HK=>?_
     clear a7 b4;simp only[nv,Nat.reduceAdd]at HK ⊢;obtain⟨u,h3,hp⟩:=h3;obtain⟨p5,p6,p7,p9,p8,rfl⟩:=uek hp.1;rw[udg]at h3;generalize S 3=t3 at *;subst h3;go_wp2;exact HK.out _ _ ⟨_,rfl,⟨_,_,rfl,hp.bel ((Below.refl _ _).alloc (Nat.le_refl _) _),Bk.new _ _ _,a3.1.size⟩,(Below.refl _ _).alloc (Nat.le_refl _) _⟩
    ·exact absurd b4 (by simp)
   intro S d x a3 hF;have g1:S 1 = .slice b0 a1 b2:=hF 1 (by decide)
   have g4:∃u g,S 4 = .slice (some ⟨g,0,none⟩) 1 1∧RP (· = br) (ua1 N) br str o77 a4 u x∧Bk x g 116 u.toArray∧a4.heap.size≤g:=hF 4 (by decide)
   clear hF;simp only[nv,Nat.reduceAdd,List.length_cons,List.length_nil,List.drop_succ_cons,List.drop_zero];obtain⟨u,gb,g4,hp,m2,n6⟩:=g4;generalize S 0=t0 at *;generalize S 1=t1 at *;generalize S 2=t2 at *;generalize S 3=t3 at *;generalize S 4=t4 at *;subst g1;subst g4;obtain⟨xs,b7⟩:=a6.out.own c5 (frb a3.1);have m8:=Nat.le_trans a6.out.size a3.1.size;have f2:Shape.sz (ua1 N)=3:=uA;rw[f2]at b7;have m5:u.length=3:=by rw[hp.1.len,f2]
   have d6:=hid (hp.mono (S':=Sb br (w.heap.size+1)) fun x hx=> .inl hx)
   clear hp;have k6:=hid (Bk.fr (c3.out) a3.1 a2);have k7:=hid (Bk.fr (b5.out) a3.1 a0);clear c3 b5;refine ud6 x rfl _ _ 114 116 rfl Tryz.underlying114 3 40 up8 (by decide) (by decide) _ _ a1 xs u (by rfl) b7 gb _ m2 (by rfl) m5 d6.out.1.one (by omega) m8 ?_
   intro g e2 p3 e9 d2 j1 j2;rw[←f2]at b7 e9;obtain⟨o8,k9⟩:=LM.nextW ul1 c5 j0 a6.out d6.out b7 e9 d2 j1 j2;have k8:=hid (LM.boxW a6.out k6.out m6 d2);have d5:=hid (LM.boxW a6.out k7.out m7 d2);clear b7 e9 d2 j1 j2 a6 d6;have l8:=(d5.out).cell 2;have n5:=(d5.out).frozen 2;simp only[gq]at l8;have h6:=hid (LI.put k9.out a0 c5 2 (.slice (some ⟨g,0,none⟩) (a1+1) e2));have h9:=(k8.out).far (p:=⟨(w.heap.size+1),2,none⟩) e8 (.slice (some ⟨g,0,none⟩) (a1+1) e2);have k5:=hid h9;clear h9;have e3:=(d5.out).set 2 (.slice (some ⟨g,0,none⟩) (a1+1) e2);simp only[List.setIfInBounds_toArray,List.set_cons_succ,List.set_cons_zero]at e3;have f3:=hid e3;clear e3;have n8:=h6.out.small;go_wp2;go_roundw
   case rel=>exact⟨_,_,_,by simp,h6,k5,f3⟩
   case measure=>rw[uaq (n:=a1) g8.out rfl,uaq (n:=a1+1) f3.out rfl];omega
  clear b6;obtain⟨o1,d7⟩:=QM.next' rfl b1.out h7.out b3;clear b1 h7;go_wp2_with fail
  refine(ui _ br str _ 41 41 rfl d7.out.st).mono ?_;rintro e o9⟨rfl,j6,c7⟩;have l1:=QInv.last' (v:=[.int .i64 a5,.int .i64 a8,.slice b0 a1 b2]) rfl d7.out j6 c7 b3 rfl;have a9:=hid (Bk.fr (c3.out) c7 a2);have d3:=hid (Bk.fr (b5.out) c7 a0);clear c3 b5;clear j6 c7 d7;have l2:=(d3.out).cell 0;have l3:=(d3.out).cell 1;have l4:=(d3.out).cell 2;simp only[gq]at l2 l3 l4;have l5:=(a9.out).cell 0;have n2:=(a9.out).frozen 0;have l6:=(a9.out).cell 1;have n3:=(a9.out).frozen 1;have l7:=(a9.out).cell 2;have n4:=(a9.out).frozen 2;simp only[gq]at l5 l6 l7;have k1:=RP.retB l1.out (((Fr.refl _ _).alloc _).alloc _) (by omega) (Nat.le_refl _) (b3 br Sb.br) (b3 _ Sb.b) (by simp;omega) a2 [.int .i64 a5,.int .i64 a8,.slice b0 a1 b2]
  have c6:=Bk.stores (cs:=[.int .i64 0,.int .i64 0,.slice none 0 0]) 0 [.int .i64 a5,.int .i64 a8,.slice b0 a1 b2] (a9.out);simp only[stores,spl,List.set_cons_zero,List.set_cons_succ,Nat.reduceAdd]at k1 c6;go_wp2;have k2:=c6.cell 0;have k3:=c6.cell 1;have k4:=c6.cell 2;simp only[gq]at k2 k3 k4;refine bodyPost_ret (v:= .agg #[.int .i64 a5,.int .i64 a8,.slice b0 a1 b2]) (by simp[results,Tryz.results52,go_sem,k2,k3,k4]) rfl ?_
  exact k1
theorem ukw:∀n:Nat,VReads 52 (ua1 n) n
 | 0=>VReads.zero (uxc 0 0 (fun h=>absurd h (by decide))) (fun v h=>h)
 | n+1=>uxc n (n+1) (fun _=>ukw n)
theorem uz7(N:Nat)(hN:262144≤N):VReads 52 (ua1 N) 262144:=(ukw N).mono hN
set_option maxHeartbeats 16000000 in
set_option maxRecDepth 100000 in
theorem uov(N L:Nat)(g5:0<L→VReads 218 (uy N) (L-1)):VReads 218 (.st (ubd [.int,(.list (uy N))])) L:=by
 have j5:=hid g5;clear g5;intro w br str o hr hl;have g7:=hr.lt;have HR:=hid hr;have HL:=hid hl;clear hr hl;go_enter Tryz.func218,Tryz.ntmps218
 have a6:w.heap.size≠br:=(Nat.ne_of_lt g7).symm;have a1:w.heap.size+1≠br:=by omega
 have g0:w.heap.size≠w.heap.size+1:=by omega
 have b4:=Sb.two g7 (.cells #[.int .i64 0,.slice none 0 0] 143) (.cells #[.int .i64 0,.slice none 0 0] 143);have k3:=Bk.two w 143 #[.int .i64 0,.slice none 0 0] (.cells #[.int .i64 0,.slice none 0 0] 143);go_wp2_with fail
 refine(ui _ br str _ 40 40 rfl ((HR.out.alloc (.cells #[.int .i64 0,.slice none 0 0] 143)).alloc (.cells #[.int .i64 0,.slice none 0 0] 143))).mono ?_;rintro e m8⟨rfl,g8,c3⟩;obtain⟨m2,d2⟩:=QM.start' (b:=(w.heap.size+1)) (ss:=[.int,(.list (uy N))]) g8 c3;have e3:=hid (Bk.fr (Bk.alloc (Bk.new w 143 #[.int .i64 0,.slice none 0 0]) (.cells #[.int .i64 0,.slice none 0 0] 143)) c3 a6);have e4:=hid (Bk.fr (k3) c3 a1);clear g8 c3;go_wp2_with fail
 refine(uej.go _ br str _ d2.out.st).mono ?_;rintro e m9⟨v,rfl,b7⟩;obtain⟨a7,rfl⟩:=ug b7.1;rw[uo];have e5:=hid (Bk.fr (e3.out) b7.fr a6);have b8:=hid (Bk.fr (e4.out) b7.fr a1);clear e3 e4;have f7:=(b8.out).cell 0;have k2:=(b8.out).frozen 0;simp only[gq]at f7;obtain⟨m3,e1⟩:=QM.got' rfl d2.out b7 b4 a1 0 [.int .i64 a7];simp only[stores,Nat.reduceAdd]at e1;have d3:=hid e1;have d6:=Bk.storesFar e5.out g0 0 [.int .i64 a7];simp only[stores,Nat.reduceAdd]at d6;have e6:=hid d6;clear d6 e5;have d7:=Bk.stores (cs:=[.int .i64 0,.slice none 0 0]) 0 [.int .i64 a7] b8.out;simp only[stores,spl,List.set_cons_zero,List.set_cons_succ,Nat.reduceAdd]at d7;have e7:=hid d7;clear d7 b8;clear b7 e1 d2;go_wp2_with fail
 refine(ur _ br str _ d3.out.st).mono ?_;rintro e l3⟨rfl,g9,c4⟩;obtain⟨l2,a9⟩:=QInv.space' d3.out g9 c4;have c9:=hid (Bk.fr (e6.out) c4 a6);have b9:=hid (Bk.fr (e7.out) c4 a1);clear f7 k2 e6 e7;clear g9 c4 d3;have f9:=(a9.out.st).lt;have c2:=Sb.lt (b:=(w.heap.size+1)) f9 (b9.out).lt;have k8:=(c9.out).lt;have k9:=(b9.out).lt;go_wp2_with fail
 refine(ui _ br str _ 40 40 rfl a9.out.st).mono ?_;rintro e n0⟨rfl,h5,c5⟩;obtain⟨m4,f4⟩:=LI.start' (S:=(Sb br (w.heap.size+1))) (s:=(uy N)) (e:=143) (a9.out.st) h5 (frb c5);have e8:=hid (Bk.fr (c9.out) c5 a6);have e9:=hid (Bk.fr (b9.out) c5 a1);clear c9 b9;clear h5 c5;go_wp2;go_loopw [4] (fun fv wr=>∃(nn:Nat) (oo:Option (List UInt8)) (lv:Value),fv = .bool (decide (nn=0))∧Hid (LI (Sb br (w.heap.size+1)) (uy N) 143 br str l2 l3 lv nn oo wr)∧Hid (Bk wr w.heap.size 143 #[.int .i64 0,.slice none 0 0])∧Hid (Bk wr (w.heap.size+1) 143 #[.int .i64 a7,lv])) (fun _ wr=>262146-ug7 wr (w.heap.size+1) 1)
 case atStart=>exact⟨0,_,_,rfl,f4,e8,e9⟩
 case round=>
  clear f4 e8 e9;obtain⟨a0,m5,m1,rfl,c1,f0,f1⟩:=hrel;obtain⟨n3,l1⟩:∃w:World,w=wr:=⟨_,rfl⟩;subst l1;obtain⟨a8,b0,rfl,l8,k5⟩:=c1.out.form;have l9:=c1.out.small;unfold maxLen at k5;go_wp2_with fail
  refine(uad _ br str _ (decide (a0=0)) c1.out.st).mono ?_;intro e a3 b5;have c0:=hid (Bk.fr (f0.out) b5.fr a6);clear f0;have b2:=hid (Bk.fr (f1.out) b5.fr a1);rcases LI.more' c2 Sb.br c1.out b5 with⟨rfl,c8,a4⟩|⟨rfl,f6⟩
  ·clear b5
   have g6:=a4.out.lim (a9.out.lim HL.out);go_upto_region 9 with(fail)
   refine udm (by kernel_rfl) (by kernel_rfl) [17,18,19,20,21] 40 (by kernel_rfl) (fun d x=>Fr (· = br) a3 x∧(d 3=false→Below a3.heap.size a3 x)) (fun j x x'=>match j with
    | 3=>Fr (· = br) x x'
    | _=>Below x.heap.size x x') (fun io v x=>match io with
    | 0=>v = .pointer (some ⟨(w.heap.size+1),1,none⟩)
    | 1=>v = .slice a8 a0 b0
    | 2=>v = .pointer (some ⟨br,0,none⟩)
    | 3=>∃u,v=uas (uy N) u∧RP (· = br) (uy N) br str c8 a3 u x
    | _=>∃u g,v = .slice (some ⟨g,0,none⟩) 1 1∧RP (· = br) (uy N) br str c8 a3 u x∧Bk x g 143 u.toArray∧a3.heap.size≤g) ⟨(Fr.refl _ _).drew,fun _=>(Below.refl _ _).drew⟩ ?_ ?_ ?_ ?_
   ·rintro d j x x' ⟨h,hb⟩ hd hg
    rcases j with _|_|_|_|j
    ·exact⟨h.below hg,fun e=>(hb (Bool.or_eq_false_iff.1 e).1).trans (hg.mono h.size)⟩
    ·exact⟨h.below hg,fun e=>(hb (Bool.or_eq_false_iff.1 e).1).trans (hg.mono h.size)⟩
    ·exact⟨h.below hg,fun e=>(hb (Bool.or_eq_false_iff.1 e).1).trans (hg.mono h.size)⟩
    ·exact⟨h.trans hg,fun e=>by simp at e⟩
    ·exact⟨h.below hg,fun e=>(hb (Bool.or_eq_false_iff.1 e).1).trans (hg.mono h.size)⟩
   ·intro io jo v x x' hi hj k6 ha h hg
    rcases io with _|_|_|_|_|io
    ·exact h
    ·exact h
    ·exact h
    ·obtain⟨u,h1,h2⟩:=h
     rcases jo with _|_|_|_|jo
     ·exact⟨u,h1,h2.bel hg⟩
     ·exact⟨u,h1,h2.bel hg⟩
     ·exact⟨u,h1,h2.bel hg⟩
     ·exact absurd rfl k6
     ·exact⟨u,h1,h2.bel hg⟩
    ·obtain⟨u,g,h1,h2,h3,h4⟩:=h
     rcases jo with _|_|_|_|jo
     ·exact⟨u,g,h1,h2.bel hg,h3.below hg h3.lt,h4⟩
     ·exact⟨u,g,h1,h2.bel hg,h3.below hg h3.lt,h4⟩
     ·exact⟨u,g,h1,h2.bel hg,h3.below hg h3.lt,h4⟩
     ·exact absurd (ha.symm.trans (by kernel_rfl:AC.ucm _ 40 4 3=true)) (by decide)
     ·exact⟨u,g,h1,h2.bel hg,h3.below hg h3.lt,h4⟩
    ·exact absurd hi (by simp)
   ·intro io oo S d x ho b1 hd a2 a5
    rcases io with _|_|_|_|_|io
    ·cases ho
     refine ub rfl rfl fun KK HK=>?_
     clear a5 b1;simp only[nv,Nat.reduceAdd]at HK ⊢;go_wp2;exact HK.out _ _ ⟨_,rfl,rfl,Below.refl _ _⟩
    ·cases ho
     have h0:S 0 = .pointer (some ⟨(w.heap.size+1),1,none⟩):=a5 0 (by kernel_rfl) (by decide)
     have cc:=(Bk.fr (b2.out) a2.1 a1).cell 1;simp only[gq]at cc;refine ub rfl rfl fun KK HK=>?_
     clear a5 b1;simp only[nv,Nat.reduceAdd]at HK ⊢;generalize S 0=t0 at *;subst h0;go_wp2;exact HK.out _ _ ⟨_,rfl,rfl,Below.refl _ _⟩
    ·cases ho
     refine ub rfl rfl fun KK HK=>?_
     clear a5 b1;simp only[nv,Nat.reduceAdd]at HK ⊢;go_wp2;exact HK.out _ _ ⟨_,rfl,rfl,Below.refl _ _⟩
    ·cases ho
     have h2:S 2 = .pointer (some ⟨br,0,none⟩):=a5 2 (by kernel_rfl) (by decide)
     refine ub rfl rfl fun KK HK=>?_
     clear a5 b1;simp only[nv,Nat.reduceAdd]at HK ⊢;generalize S 2=t2 at *;subst h2;go_wp2_with fail
     refine(j5.out (by have:=g6.2;omega) _ br str _ (a4.out.st.below (a2.2 hd)) (fun r hr=>Nat.le_trans (g6.1 r hr) (Nat.sub_le _ _))).mono ?_
     rintro e xN⟨u,rfl,hp⟩;exact HK.out _ _ ⟨_,rfl,⟨u,rfl,hp.from a2.1 fun _ h=> .inl h⟩,hp.2.2.1⟩
    ·cases ho
     have h3:∃u,S 3=uas (uy N) u∧RP (· = br) (uy N) br str c8 a3 u x:=a5 3 (by kernel_rfl) (by decide)
     refine ub rfl rfl fun KK HK=>?_
     clear a5 b1;simp only[nv,Nat.reduceAdd]at HK ⊢;obtain⟨u,h3,hp⟩:=h3;obtain⟨n4,n5,n7,n6,rfl⟩:=ubz hp.1;rw[ubp]at h3;generalize S 3=t3 at *;subst h3;go_wp2;exact HK.out _ _ ⟨_,rfl,⟨_,_,rfl,hp.bel ((Below.refl _ _).alloc (Nat.le_refl _) _),Bk.new _ _ _,a2.1.size⟩,(Below.refl _ _).alloc (Nat.le_refl _) _⟩
    ·exact absurd b1 (by simp)
   intro S d x a2 hF;have g1:S 1 = .slice a8 a0 b0:=hF 1 (by decide)
   have g4:∃u g,S 4 = .slice (some ⟨g,0,none⟩) 1 1∧RP (· = br) (uy N) br str c8 a3 u x∧Bk x g 143 u.toArray∧a3.heap.size≤g:=hF 4 (by decide)
   clear hF;simp only[nv,Nat.reduceAdd,List.length_cons,List.length_nil,List.drop_succ_cons,List.drop_zero];obtain⟨u,gb,g4,hp,k4,l7⟩:=g4;generalize S 0=t0 at *;generalize S 1=t1 at *;generalize S 2=t2 at *;generalize S 3=t3 at *;generalize S 4=t4 at *;subst g1;subst g4;obtain⟨xs,b6⟩:=a4.out.own c2 (frb a2.1);have l0:=Nat.le_trans a4.out.size a2.1.size;have e2:Shape.sz (uy N)=2:=uj;rw[e2]at b6;have k7:u.length=2:=by rw[hp.1.len,e2]
   have d1:=hid (hp.mono (S':=Sb br (w.heap.size+1)) fun x hx=> .inl hx)
   clear hp;have j0:=hid (Bk.fr (c0.out) a2.1 a6);have j1:=hid (Bk.fr (b2.out) a2.1 a1);clear c0 b2;refine ud6 x rfl _ _ 141 143 rfl Tryz.underlying141 2 32 ums (by decide) (by decide) _ _ a0 xs u (by rfl) b6 gb _ k4 (by rfl) k7 d1.out.1.one (by omega) l0 ?_
   intro g d5 n1 e0 c7 g2 g3;rw[←e2]at b6 e0;obtain⟨m6,j4⟩:=LM.nextW ugq c2 f9 a4.out d1.out b6 e0 c7 g2 g3;have j2:=hid (LM.boxW a4.out j0.out k8 c7);have d0:=hid (LM.boxW a4.out j1.out k9 c7);clear b6 e0 c7 g2 g3 a4 d1;have j7:=(d0.out).cell 1;have l4:=(d0.out).frozen 1;simp only[gq]at j7;have f5:=hid (LI.put j4.out a1 c2 1 (.slice (some ⟨g,0,none⟩) (a0+1) d5));have f8:=(j2.out).far (p:=⟨(w.heap.size+1),1,none⟩) g0 (.slice (some ⟨g,0,none⟩) (a0+1) d5);have j3:=hid f8;clear f8;have d8:=(d0.out).set 1 (.slice (some ⟨g,0,none⟩) (a0+1) d5);simp only[List.setIfInBounds_toArray,List.set_cons_succ,List.set_cons_zero]at d8;have f2:=hid d8;clear d8;have m0:=f5.out.small;go_wp2;go_roundw
   case rel=>exact⟨_,_,_,by simp,f5,j3,f2⟩
   case measure=>rw[uaq (n:=a0) f1.out rfl,uaq (n:=a0+1) f2.out rfl];omega
  clear b5;obtain⟨m7,d4⟩:=QM.next' rfl a9.out f6.out b4;clear a9 f6;go_wp2_with fail
  refine(ui _ br str _ 41 41 rfl d4.out.st).mono ?_;rintro e n2⟨rfl,h6,c6⟩;have j6:=QInv.last' (v:=[.int .i64 a7,.slice a8 a0 b0]) rfl d4.out h6 c6 b4 rfl;have b3:=hid (Bk.fr (c0.out) c6 a6);have f3:=hid (Bk.fr (b2.out) c6 a1);clear c0 b2;clear h6 c6 d4;have j8:=(f3.out).cell 0;have j9:=(f3.out).cell 1;simp only[gq]at j8 j9;have k0:=(b3.out).cell 0;have l5:=(b3.out).frozen 0;have k1:=(b3.out).cell 1;have l6:=(b3.out).frozen 1;simp only[gq]at k0 k1;have h7:=RP.retB j6.out (((Fr.refl _ _).alloc _).alloc _) (by omega) (Nat.le_refl _) (b4 br Sb.br) (b4 _ Sb.b) (by simp;omega) a6 [.int .i64 a7,.slice a8 a0 b0]
  have d9:=Bk.stores (cs:=[.int .i64 0,.slice none 0 0]) 0 [.int .i64 a7,.slice a8 a0 b0] (b3.out);simp only[stores,spl,List.set_cons_zero,List.set_cons_succ,Nat.reduceAdd]at h7 d9;go_wp2;have h8:=d9.cell 0;have h9:=d9.cell 1;simp only[gq]at h8 h9;refine bodyPost_ret (v:= .agg #[.int .i64 a7,.slice a8 a0 b0]) (by simp[results,Tryz.results218,go_sem,h8,h9]) rfl ?_
  exact h7
theorem uhd:∀n:Nat,VReads 218 (uy n) n
 | 0=>VReads.zero (uov 0 0 (fun h=>absurd h (by decide))) (fun v h=>h)
 | n+1=>uov n (n+1) (fun _=>uhd n)
theorem ux1(N:Nat)(hN:262144≤N):VReads 218 (uy N) 262144:=(uhd N).mono hN
set_option maxHeartbeats 16000000 in
set_option maxRecDepth 100000 in
theorem uow(N:Nat)(hN:262144≤N):VReads 133 (uC N) 262144:=by
 intro w br str o hr hl;have t6:=hr.lt;have HR:=hid hr;have HL:=hid hl;clear hr hl;go_enter Tryz.func133,Tryz.ntmps133
 have a1:w.heap.size≠br:=(Nat.ne_of_lt t6).symm;have a0:w.heap.size+1≠br:=by omega
 have s7:w.heap.size≠w.heap.size+1:=by omega
 have d2:=Sb.two t6 (.cells #[.slice none 0 0,.slice none 0 0] 80) (.cells #[.slice none 0 0,.slice none 0 0] 80);have y4:=Bk.two w 80 #[.slice none 0 0,.slice none 0 0] (.cells #[.slice none 0 0,.slice none 0 0] 80);go_wp2_with fail
 refine(ui _ br str _ 40 40 rfl ((HR.out.alloc (.cells #[.slice none 0 0,.slice none 0 0] 80)).alloc (.cells #[.slice none 0 0,.slice none 0 0] 80))).mono ?_;rintro e z5⟨rfl,t7,f9⟩;obtain⟨z3,c9⟩:=QM.start' (b:=(w.heap.size+1)) (ss:=[(.list (uO N)),(.list ua5)]) t7 f9;have g8:=hid (Bk.fr (Bk.alloc (Bk.new w 80 #[.slice none 0 0,.slice none 0 0]) (.cells #[.slice none 0 0,.slice none 0 0] 80)) f9 a1);have e6:=hid (Bk.fr (y4) f9 a0);clear t7 f9;have s5:=(c9.out.st).lt;have f7:=Sb.lt (b:=(w.heap.size+1)) s5 (e6.out).lt;have y7:=(g8.out).lt;have y8:=(e6.out).lt;go_wp2_with fail
 refine(ui _ br str _ 40 40 rfl c9.out.st).mono ?_;rintro e C9⟨rfl,t8,g0⟩;obtain⟨B1,q1⟩:=LI.start' (S:=(Sb br (w.heap.size+1))) (s:=(uO N)) (e:=145) (c9.out.st) t8 (frb g0);have l6:=hid (Bk.fr (g8.out) g0 a1);have l7:=hid (Bk.fr (e6.out) g0 a0);clear g8 e6;clear t8 g0;go_wp2;go_loopw [4] (fun fv wr=>∃(nn:Nat) (oo:Option (List UInt8)) (lv:Value),fv = .bool (decide (nn=0))∧Hid (LI (Sb br (w.heap.size+1)) (uO N) 145 br str z3 z5 lv nn oo wr)∧Hid (Bk wr w.heap.size 80 #[.slice none 0 0,.slice none 0 0])∧Hid (Bk wr (w.heap.size+1) 80 #[lv,.slice none 0 0])) (fun _ wr=>262146-ug7 wr (w.heap.size+1) 0)
 case atStart=>exact⟨0,_,_,rfl,q1,l6,l7⟩
 case round=>
  clear q1 l6 l7;obtain⟨a2,B2,A9,rfl,f4,l8,l9⟩:=hrel;obtain⟨E2,l5⟩:∃w:World,w=wr:=⟨_,rfl⟩;subst l5;obtain⟨c5,d1,rfl,A3,y5⟩:=f4.out.form;have A5:=f4.out.small;unfold maxLen at y5;go_wp2_with fail
  refine(uad _ br str _ (decide (a2=0)) f4.out.st).mono ?_;intro e e3 d9;have e7:=hid (Bk.fr (l8.out) d9.fr a1);clear l8;have e8:=hid (Bk.fr (l9.out) d9.fr a0);rcases LI.more' f7 Sb.br f4.out d9 with⟨rfl,B3,a4⟩|⟨rfl,q5⟩
  ·clear d9
   have g6:=a4.out.st.lt;have a7:e3.heap.size≠br:=(Nat.ne_of_lt g6).symm;have s8:w.heap.size≠e3.heap.size:=Nat.ne_of_lt (e7.out).lt;have s9:(w.heap.size+1)≠e3.heap.size:=Nat.ne_of_lt (e8.out).lt;go_wp2_with fail
   refine(ui _ br str _ 40 40 rfl (a4.out.st.alloc _)).mono ?_;rintro e D0⟨rfl,t9,d3⟩;obtain⟨B4,h4⟩:=QM.start' (b:=e3.heap.size) (ss:=[.int,(uy N)]) t9 d3;have m0:=hid (Bk.fr (e7.out.alloc _) d3 a1);have m1:=hid (Bk.fr (e8.out.alloc _) d3 a0);have m2:=hid (Bk.fr (Bk.new e3 145 #[.int .i64 0,.int .i64 0,.slice none 0 0]) d3 a7);clear t9 d3;go_wp2_with fail
   refine(uej.go _ br str _ h4.out.st).mono ?_;rintro e D1⟨v,rfl,b6⟩;obtain⟨a9,rfl⟩:=ug b6.1;rw[uo];have m3:=hid (Bk.fr (m0.out) b6.fr a1);have m4:=hid (Bk.fr (m1.out) b6.fr a0);have e9:=hid (Bk.fr (m2.out) b6.fr a7);clear m0 m1 m2;have q9:=(e9.out).cell 0;have x8:=(e9.out).frozen 0;simp only[gq]at q9;obtain⟨B5,l1⟩:=QM.got' rfl h4.out b6 (Sb.box g6 _) a7 0 [.int .i64 a9];simp only[stores,Nat.reduceAdd]at l1;have h5:=hid l1;have j4:=Bk.storesFar m3.out s8 0 [.int .i64 a9];simp only[stores,Nat.reduceAdd]at j4;have m5:=hid j4;clear j4 m3;have j5:=Bk.storesFar m4.out s9 0 [.int .i64 a9];simp only[stores,Nat.reduceAdd]at j5;have m6:=hid j5;clear j5 m4;have j6:=Bk.stores (cs:=[.int .i64 0,.int .i64 0,.slice none 0 0]) 0 [.int .i64 a9] e9.out;simp only[stores,spl,List.set_cons_zero,List.set_cons_succ,Nat.reduceAdd]at j6;have m7:=hid j6;clear j6 e9;clear b6 l1 h4;go_wp2_with fail
   refine(ur _ br str _ h5.out.st).mono ?_;rintro e D2⟨rfl,v0,d4⟩;obtain⟨B6,h6⟩:=QInv.space' h5.out v0 d4;have m8:=hid (Bk.fr (m5.out) d4 a1);have m9:=hid (Bk.fr (m6.out) d4 a0);have n0:=hid (Bk.fr (m7.out) d4 a7);clear q9 x8 m5 m6 m7;clear v0 d4 h5;go_wp2_with fail
   refine((ux1 N hN).go _ br str _ h6.out.st).mono ?_;rintro e D3⟨v,rfl,b7⟩;obtain⟨c0,c1,c3,c2,rfl⟩:=ubz b7.1;rw[ubp];have n1:=hid (Bk.fr (m8.out) b7.fr a1);have n2:=hid (Bk.fr (m9.out) b7.fr a0);have b4:=hid (Bk.fr (n0.out) b7.fr a7);clear m8 m9 n0;have r0:=(b4.out).cell 1;have x9:=(b4.out).frozen 1;have r1:=(b4.out).cell 2;have y0:=(b4.out).frozen 2;simp only[gq]at r0 r1;obtain⟨B7,l2⟩:=QM.got' rfl h6.out b7 (Sb.box g6 _) a7 1 [.int .i64 c0,.slice c1 c3 c2];simp only[stores,Nat.reduceAdd]at l2;have h7:=hid l2;have j7:=Bk.storesFar n1.out s8 1 [.int .i64 c0,.slice c1 c3 c2];simp only[stores,Nat.reduceAdd]at j7;have n3:=hid j7;clear j7 n1;have j8:=Bk.storesFar n2.out s9 1 [.int .i64 c0,.slice c1 c3 c2];simp only[stores,Nat.reduceAdd]at j8;have n4:=hid j8;clear j8 n2;have j9:=Bk.stores (cs:=[.int .i64 a9,.int .i64 0,.slice none 0 0]) 1 [.int .i64 c0,.slice c1 c3 c2] b4.out;simp only[stores,spl,List.set_cons_zero,List.set_cons_succ,Nat.reduceAdd]at j9;have n5:=hid j9;clear j9 b4;clear b7 l2 h6;go_wp2_with fail
   refine(ui _ br str _ 41 41 rfl h7.out.st).mono ?_;rintro e z6⟨rfl,v1,d5⟩;have q6:=QInv.last' (v:=[.int .i64 a9,.int .i64 c0,.slice c1 c3 c2]) rfl h7.out v1 d5 (Sb.box g6 _) rfl;have w3:=hid (Bk.fr (n3.out) d5 a1);have n6:=hid (Bk.fr (n4.out) d5 a0);have g9:=hid (Bk.fr (n5.out) d5 a7);clear r0 x9 r1 y0 n3 n4 n5;clear v1 d5 h7;have c7:=hid (RP.inner (c:=(w.heap.size+1)) q6.out ((Fr.refl _ _).alloc _) (Nat.le_refl _));clear q6;have r2:=(g9.out).cell 0;have r3:=(g9.out).cell 1;have r4:=(g9.out).cell 2;simp only[gq]at r2 r3 r4;obtain⟨xs,e1⟩:=a4.out.own f7 c7.out.fr;have z1:=Nat.le_trans a4.out.size c7.out.fr.size;have v8:Shape.sz (uO N)=3:=ub2;rw[v8]at e1;have r5:=(n6.out).cell 0;simp only[gq]at r5;go_wp2_with (at_builtin;refine uJ z6 rfl _ _ 77 145 rfl Tryz.underlying77 3 40 ukt (by decide) (by decide) _ _ a2 xs [.int .i64 a9,.int .i64 c0,.slice c1 c3 c2] (by rfl) e1 (by rfl) rfl c7.out.1.one (by omega) z1 ?_)
   intro g a6 D4 k9 g4 t2 t4;rw[←v8]at e1 k9;obtain⟨B8,w9⟩:=LM.next' upl f7 s5 a4.out c7.out e1 k9 g4 t2 t4;have w4:=hid (LM.box a4.out w3.out y7 _ g4);have h0:=hid (LM.box a4.out n6.out y8 _ g4);clear e1 k9 g4 t2 t4 a4 c7 r2 r3 r4 r5;have x2:=(h0.out).cell 0;have z9:=(h0.out).frozen 0;simp only[gq]at x2;have q2:=hid (LI.put w9.out a0 f7 0 (.slice (some ⟨g,0,none⟩) (a2+1) a6));have s3:=(w4.out).far (p:=⟨(w.heap.size+1),0,none⟩) s7 (.slice (some ⟨g,0,none⟩) (a2+1) a6);have w5:=hid s3;clear s3;have k0:=(h0.out).set 0 (.slice (some ⟨g,0,none⟩) (a2+1) a6);simp only[List.setIfInBounds_toArray,List.set_cons_succ,List.set_cons_zero]at k0;have n7:=hid k0;clear k0;have A6:=q2.out.small;go_wp2;go_roundw
   case rel=>exact⟨_,_,_,by simp,q2,w5,n7⟩
   case measure=>rw[uaq (n:=a2) l9.out rfl,uaq (n:=a2+1) n7.out rfl];omega
  clear d9;obtain⟨B9,h8⟩:=QM.next' rfl c9.out q5.out d2;clear c9 q5;go_wp2_with fail
  refine(ur _ br str _ h8.out.st).mono ?_;rintro e z7⟨rfl,v2,g1⟩;obtain⟨z4,d0⟩:=QInv.space' h8.out v2 g1;have h1:=hid (Bk.fr (e7.out) g1 a1);have f0:=hid (Bk.fr (e8.out) g1 a0);clear e7 e8;clear v2 g1 h8;have s6:=(d0.out.st).lt;have f8:=Sb.lt (b:=(w.heap.size+1)) s6 (f0.out).lt;have y9:=(h1.out).lt;have z0:=(f0.out).lt;go_wp2_with fail
  refine(ui _ br str _ 40 40 rfl d0.out.st).mono ?_;rintro e D5⟨rfl,v3,g2⟩;obtain⟨C0,q3⟩:=LI.start' (S:=(Sb br (w.heap.size+1))) (s:=ua5) (e:=150) (d0.out.st) v3 (frb g2);have n8:=hid (Bk.fr (h1.out) g2 a1);have n9:=hid (Bk.fr (f0.out) g2 a0);clear h1 f0;clear v3 g2;go_wp2;go_loopw [6] (fun fv wr=>∃(nn:Nat) (oo:Option (List UInt8)) (lv:Value),fv = .bool (decide (nn=0))∧Hid (LI (Sb br (w.heap.size+1)) ua5 150 br str z4 z7 lv nn oo wr)∧Hid (Bk wr w.heap.size 80 #[.slice none 0 0,.slice none 0 0])∧Hid (Bk wr (w.heap.size+1) 80 #[.slice c5 a2 d1,lv])) (fun _ wr=>262146-ug7 wr (w.heap.size+1) 1)
  case atStart=>exact⟨0,_,_,rfl,q3,n8,n9⟩
  case round=>
   clear q3 n8 n9;obtain⟨a3,C1,B0,rfl,f5,o0,o1⟩:=hrel;obtain⟨E3,l5⟩:∃w:World,w=wr:=⟨_,rfl⟩;subst l5;obtain⟨e5,f6,rfl,A4,y6⟩:=f5.out.form;have A7:=f5.out.small;unfold maxLen at y6;go_wp2_with fail
   refine(uad _ br str _ (decide (a3=0)) f5.out.st).mono ?_;intro e e4 e0;have f1:=hid (Bk.fr (o0.out) e0.fr a1);clear o0;have f2:=hid (Bk.fr (o1.out) e0.fr a0);rcases LI.more' f8 Sb.br f5.out e0 with⟨rfl,C2,a5⟩|⟨rfl,q7⟩
   ·clear e0
    have g7:=a5.out.st.lt;have a8:e4.heap.size≠br:=(Nat.ne_of_lt g7).symm;have t0:w.heap.size≠e4.heap.size:=Nat.ne_of_lt (f1.out).lt;have t1:(w.heap.size+1)≠e4.heap.size:=Nat.ne_of_lt (f2.out).lt;go_wp2_with fail
    refine(ui _ br str _ 40 40 rfl (a5.out.st.alloc _)).mono ?_;rintro e D6⟨rfl,v4,d6⟩;obtain⟨C3,h9⟩:=QM.start' (b:=e4.heap.size) (ss:=[uX,.int]) v4 d6;have o2:=hid (Bk.fr (f1.out.alloc _) d6 a1);have o3:=hid (Bk.fr (f2.out.alloc _) d6 a0);have o4:=hid (Bk.fr (Bk.new e4 150 #[.int .i64 0,.slice none 0 0,.int .i64 0]) d6 a8);clear v4 d6;go_wp2_with fail
    refine(uv7.go _ br str _ h9.out.st).mono ?_;rintro e D7⟨v,rfl,b8⟩;obtain⟨b0,b1,b3,b2,rfl⟩:=ua2 b8.1;rw[ubg];have o5:=hid (Bk.fr (o2.out) b8.fr a1);have o6:=hid (Bk.fr (o3.out) b8.fr a0);have b5:=hid (Bk.fr (o4.out) b8.fr a8);clear o2 o3 o4;have r6:=(b5.out).cell 0;have y1:=(b5.out).frozen 0;have r7:=(b5.out).cell 1;have y2:=(b5.out).frozen 1;simp only[gq]at r6 r7;obtain⟨C4,l3⟩:=QM.got' rfl h9.out b8 (Sb.box g7 _) a8 0 [.int .i64 b0,.slice b1 b3 b2];simp only[stores,Nat.reduceAdd]at l3;have j0:=hid l3;have k1:=Bk.storesFar o5.out t0 0 [.int .i64 b0,.slice b1 b3 b2];simp only[stores,Nat.reduceAdd]at k1;have o7:=hid k1;clear k1 o5;have k2:=Bk.storesFar o6.out t1 0 [.int .i64 b0,.slice b1 b3 b2];simp only[stores,Nat.reduceAdd]at k2;have o8:=hid k2;clear k2 o6;have k3:=Bk.stores (cs:=[.int .i64 0,.slice none 0 0,.int .i64 0]) 0 [.int .i64 b0,.slice b1 b3 b2] b5.out;simp only[stores,spl,List.set_cons_zero,List.set_cons_succ,Nat.reduceAdd]at k3;have o9:=hid k3;clear k3 b5;clear b8 l3 h9;go_wp2_with fail
    refine(ur _ br str _ j0.out.st).mono ?_;rintro e D8⟨rfl,v5,d7⟩;obtain⟨C5,j1⟩:=QInv.space' j0.out v5 d7;have p0:=hid (Bk.fr (o7.out) d7 a1);have p1:=hid (Bk.fr (o8.out) d7 a0);have p2:=hid (Bk.fr (o9.out) d7 a8);clear r6 y1 r7 y2 o7 o8 o9;clear v5 d7 j0;go_wp2_with fail
    refine(uej.go _ br str _ j1.out.st).mono ?_;rintro e D9⟨v,rfl,b9⟩;obtain⟨c4,rfl⟩:=ug b9.1;rw[uo];have p3:=hid (Bk.fr (p0.out) b9.fr a1);have p4:=hid (Bk.fr (p1.out) b9.fr a0);have f3:=hid (Bk.fr (p2.out) b9.fr a8);clear p0 p1 p2;have r8:=(f3.out).cell 2;have y3:=(f3.out).frozen 2;simp only[gq]at r8;obtain⟨C6,l4⟩:=QM.got' rfl j1.out b9 (Sb.box g7 _) a8 2 [.int .i64 c4];simp only[stores,Nat.reduceAdd]at l4;have j2:=hid l4;have k4:=Bk.storesFar p3.out t0 2 [.int .i64 c4];simp only[stores,Nat.reduceAdd]at k4;have p5:=hid k4;clear k4 p3;have k5:=Bk.storesFar p4.out t1 2 [.int .i64 c4];simp only[stores,Nat.reduceAdd]at k5;have p6:=hid k5;clear k5 p4;have k6:=Bk.stores (cs:=[.int .i64 b0,.slice b1 b3 b2,.int .i64 0]) 2 [.int .i64 c4] f3.out;simp only[stores,spl,List.set_cons_zero,List.set_cons_succ,Nat.reduceAdd]at k6;have p7:=hid k6;clear k6 f3;clear b9 l4 j1;go_wp2_with fail
    refine(ui _ br str _ 41 41 rfl j2.out.st).mono ?_;rintro e z8⟨rfl,v6,d8⟩;have q8:=QInv.last' (v:=[.int .i64 b0,.slice b1 b3 b2,.int .i64 c4]) rfl j2.out v6 d8 (Sb.box g7 _) rfl;have w6:=hid (Bk.fr (p5.out) d8 a1);have p8:=hid (Bk.fr (p6.out) d8 a0);have h2:=hid (Bk.fr (p7.out) d8 a8);clear r8 y3 p5 p6 p7;clear v6 d8 j2;have c8:=hid (RP.inner (c:=(w.heap.size+1)) q8.out ((Fr.refl _ _).alloc _) (Nat.le_refl _));clear q8;have r9:=(h2.out).cell 0;have s0:=(h2.out).cell 1;have s1:=(h2.out).cell 2;simp only[gq]at r9 s0 s1;obtain⟨xs,e2⟩:=a5.out.own f8 c8.out.fr;have z2:=Nat.le_trans a5.out.size c8.out.fr.size;have v9:Shape.sz ua5=3:=udz;rw[v9]at e2;have s2:=(p8.out).cell 1;simp only[gq]at s2;go_wp2_with (at_builtin;refine uJ z8 rfl _ _ 78 150 rfl Tryz.underlying78 3 40 up9 (by decide) (by decide) _ _ a3 xs [.int .i64 b0,.slice b1 b3 b2,.int .i64 c4] (by rfl) e2 (by rfl) rfl c8.out.1.one (by omega) z2 ?_)
    intro g a6 E0 l0 g5 t3 t5;rw[←v9]at e2 l0;obtain⟨C7,x0⟩:=LM.next' uu5 f8 s6 a5.out c8.out e2 l0 g5 t3 t5;have w7:=hid (LM.box a5.out w6.out y9 _ g5);have h3:=hid (LM.box a5.out p8.out z0 _ g5);clear e2 l0 g5 t3 t5 a5 c8 r9 s0 s1 s2;have x3:=(h3.out).cell 1;have A0:=(h3.out).frozen 1;simp only[gq]at x3;have q4:=hid (LI.put x0.out a0 f8 1 (.slice (some ⟨g,0,none⟩) (a3+1) a6));have s4:=(w7.out).far (p:=⟨(w.heap.size+1),1,none⟩) s7 (.slice (some ⟨g,0,none⟩) (a3+1) a6);have w8:=hid s4;clear s4;have k7:=(h3.out).set 1 (.slice (some ⟨g,0,none⟩) (a3+1) a6);simp only[List.setIfInBounds_toArray,List.set_cons_succ,List.set_cons_zero]at k7;have p9:=hid k7;clear k7;have A8:=q4.out.small;go_wp2;go_roundw
    case rel=>exact⟨_,_,_,by simp,q4,w8,p9⟩
    case measure=>rw[uaq (n:=a3) o1.out rfl,uaq (n:=a3+1) p9.out rfl];omega
   clear e0;obtain⟨C8,j3⟩:=QM.next' rfl d0.out q7.out d2;clear d0 q7;go_wp2_with fail
   refine(ui _ br str _ 41 41 rfl j3.out.st).mono ?_;rintro e E1⟨rfl,v7,g3⟩;have x1:=QInv.last' (v:=[.slice c5 a2 d1,.slice e5 a3 f6]) rfl j3.out v7 g3 d2 rfl;have c6:=hid (Bk.fr (f1.out) g3 a1);have q0:=hid (Bk.fr (f2.out) g3 a0);clear f1 f2;clear v7 g3 j3;have x4:=(q0.out).cell 0;have x5:=(q0.out).cell 1;simp only[gq]at x4 x5;have x6:=(c6.out).cell 0;have A1:=(c6.out).frozen 0;have x7:=(c6.out).cell 1;have A2:=(c6.out).frozen 1;simp only[gq]at x6 x7;have w0:=RP.retB x1.out (((Fr.refl _ _).alloc _).alloc _) (by omega) (Nat.le_refl _) (d2 br Sb.br) (d2 _ Sb.b) (by simp;omega) a1 [.slice c5 a2 d1,.slice e5 a3 f6]
   have k8:=Bk.stores (cs:=[.slice none 0 0,.slice none 0 0]) 0 [.slice c5 a2 d1,.slice e5 a3 f6] (c6.out);simp only[stores,spl,List.set_cons_zero,List.set_cons_succ,Nat.reduceAdd]at w0 k8;go_wp2;have w1:=k8.cell 0;have w2:=k8.cell 1;simp only[gq]at w1 w2;refine bodyPost_ret (v:= .agg #[.slice c5 a2 d1,.slice e5 a3 f6]) (by simp[results,Tryz.results133,go_sem,w1,w2]) rfl ?_
   exact w0
set_option maxHeartbeats 16000000 in
set_option maxRecDepth 100000 in
theorem uox(N:Nat)(hN:262144≤N):VReads 54 (.list (un N)) 262144:=by
 intro w br str o hr hl;have j0:=hr.lt;have HR:=hid hr;have HL:=hid hl;clear hr hl;go_enter Tryz.func54,Tryz.ntmps54
 have f6:=(HR.out).lt;have c8:=ug6 f6;go_wp2_with fail
 refine(ui _ br str _ 40 40 rfl HR.out).mono ?_;rintro e k2⟨rfl,g1,f7⟩;obtain⟨j4,e3⟩:=LI.start' (S:=(· = br)) (s:=(un N)) (e:=139) (HR.out) g1 f7
 clear g1 f7;go_wp2;go_loopw [3,4] (fun lv fv wr=>∃(nn:Nat) (oo:Option (List UInt8)),fv = .bool (decide (nn=0))∧Hid (LI (· = br) (un N) 139 br str o w lv nn oo wr)) (fun lv _ _=>262146-ub1 lv)
 case atStart=>exact⟨0,_,rfl,e3⟩
 case round=>
  clear e3;obtain⟨g6,j5,rfl,b4⟩:=hrel;obtain⟨k8,h5⟩:∃w:World,w=wr:=⟨_,rfl⟩;subst h5;obtain⟨h7,h8,rfl,j1,h3⟩:=b4.out.form;have j2:=b4.out.small;unfold maxLen at h3;go_wp2_with fail
  refine(uad _ br str _ (decide (g6=0)) b4.out.st).mono ?_;intro e d8 d4;rcases LI.more' c8 (rfl:br=br) b4.out d4 with⟨rfl,j6,a3⟩|⟨rfl,g7⟩
  ·clear d4
   have b5:=a3.out.st.lt;have a1:d8.heap.size≠br:=(Nat.ne_of_lt b5).symm;go_wp2_with fail
   refine(ui _ br str _ 40 40 rfl (a3.out.st.alloc _)).mono ?_;rintro e k3⟨rfl,g2,d1⟩;obtain⟨j7,c4⟩:=QM.start' (b:=d8.heap.size) (ss:=[.rat,(uC N)]) g2 d1;have d9:=hid (Bk.fr (Bk.new d8 139 #[.bool false,.slice none 0 0,.slice none 0 0,.slice none 0 0,.slice none 0 0]) d1 a1);clear g2 d1;go_wp2_with fail
   refine(utk.go _ br str _ c4.out.st).mono ?_;rintro e k4⟨v,rfl,b6⟩;obtain⟨a9,a7,b2,b0,a8,b3,b1,rfl⟩:=uay b6.1;rw[uaz];have a0:=hid (Bk.fr (d9.out) b6.fr a1);clear d9;have e6:=(a0.out).cell 0;have g8:=(a0.out).frozen 0;have e7:=(a0.out).cell 1;have g9:=(a0.out).frozen 1;have e8:=(a0.out).cell 2;have h0:=(a0.out).frozen 2;simp only[gq]at e6 e7 e8;obtain⟨j8,d6⟩:=QM.got' rfl c4.out b6 (Sb.box b5 _) a1 0 [.bool a9,.slice a7 b2 b0,.slice a8 b3 b1];simp only[stores,Nat.reduceAdd]at d6;have c5:=hid d6;have c9:=Bk.stores (cs:=[.bool false,.slice none 0 0,.slice none 0 0,.slice none 0 0,.slice none 0 0]) 0 [.bool a9,.slice a7 b2 b0,.slice a8 b3 b1] a0.out;simp only[stores,spl,List.set_cons_zero,List.set_cons_succ,Nat.reduceAdd]at c9;have e0:=hid c9;clear c9 a0;clear b6 d6 c4;go_wp2_with fail
   refine(ur _ br str _ c5.out.st).mono ?_;rintro e k5⟨rfl,g3,d2⟩;obtain⟨j9,c6⟩:=QInv.space' c5.out g3 d2;have e1:=hid (Bk.fr (e0.out) d2 a1);clear e6 g8 e7 g9 e8 h0 e0;clear g3 d2 c5;go_wp2_with fail
   refine((uow N hN).go _ br str _ c6.out.st).mono ?_;rintro e k6⟨v,rfl,b7⟩;obtain⟨b8,c0,b9,c1,c3,c2,rfl⟩:=uaj b7.1;rw[uau];have a2:=hid (Bk.fr (e1.out) b7.fr a1);clear e1;have e9:=(a2.out).cell 3;have h1:=(a2.out).frozen 3;have f0:=(a2.out).cell 4;have h2:=(a2.out).frozen 4;simp only[gq]at e9 f0;obtain⟨k0,d7⟩:=QM.got' rfl c6.out b7 (Sb.box b5 _) a1 3 [.slice b8 c0 b9,.slice c1 c3 c2];simp only[stores,Nat.reduceAdd]at d7;have c7:=hid d7;have d0:=Bk.stores (cs:=[.bool a9,.slice a7 b2 b0,.slice a8 b3 b1,.slice none 0 0,.slice none 0 0]) 3 [.slice b8 c0 b9,.slice c1 c3 c2] a2.out;simp only[stores,spl,List.set_cons_zero,List.set_cons_succ,Nat.reduceAdd]at d0;have e2:=hid d0;clear d0 a2;clear b7 d7 c6;go_wp2_with fail
   refine(ui _ br str _ 41 41 rfl c7.out.st).mono ?_;rintro e h6⟨rfl,g4,d3⟩;have e5:=QInv.last' (v:=[.bool a9,.slice a7 b2 b0,.slice a8 b3 b1,.slice b8 c0 b9,.slice c1 c3 c2]) rfl c7.out g4 d3 (Sb.box b5 _) rfl;have a4:=hid (Bk.fr (e2.out) d3 a1);clear e9 h1 f0 h2 e2;clear g4 d3 c7;have a5:=hid (RP.inner0 e5.out ((Fr.refl _ _).alloc _) (Nat.le_refl _));clear e5;have f1:=(a4.out).cell 0;have f2:=(a4.out).cell 1;have f3:=(a4.out).cell 2;have f4:=(a4.out).cell 3;have f5:=(a4.out).cell 4;simp only[gq]at f1 f2 f3 f4 f5;obtain⟨xs,a6⟩:=a3.out.own c8 a5.out.fr;have h4:=Nat.le_trans a3.out.size a5.out.fr.size;have g5:Shape.sz (un N)=5:=ugr;rw[g5]at a6;go_wp2_with (at_builtin;refine uJ h6 rfl _ _ 58 139 rfl Tryz.underlying58 5 104 uqa (by decide) (by decide) _ _ g6 xs [.bool a9,.slice a7 b2 b0,.slice a8 b3 b1,.slice b8 c0 b9,.slice c1 c3 c2] (by rfl) a6 (by rfl) rfl a5.out.1.one (by omega) h4 ?_)
   intro g h9 k7 d5 f8 f9 g0;rw[←g5]at a6 d5;obtain⟨k1,e4⟩:=LM.next' uu7 c8 f6 a3.out a5.out a6 d5 f8 f9 g0;clear a6 d5 f8 f9 g0 a3 a5 f1 f2 f3 f4 f5;have j3:=e4.out.small;go_wp2;go_roundw
   case rel=>exact⟨_,_,by simp,e4⟩
   case measure=>simp[ub1];omega
  clear d4;go_wp2;go_ret
  exact⟨_,rfl,g7.out⟩
set_option maxHeartbeats 16000000 in
set_option maxRecDepth 100000 in
theorem utp(N:Nat)(hN:262144≤N):VReads 55 (.list (uD N)) 262144:=by
 intro w br str o hr hl;have t7:=hr.lt;have HR:=hid hr;have HL:=hid hl;clear hr hl;go_enter Tryz.func55,Tryz.ntmps55
 have p3:=(HR.out).lt;have g9:=ug6 p3;go_wp2_with fail
 refine(ui _ br str _ 40 40 rfl HR.out).mono ?_;rintro e x4⟨rfl,q1,p5⟩;obtain⟨v5,m8⟩:=LI.start' (S:=(· = br)) (s:=(uD N)) (e:=87) (HR.out) q1 p5
 clear q1 p5;go_wp2;go_loopw [3,4] (fun lv fv wr=>∃(nn:Nat) (oo:Option (List UInt8)),fv = .bool (decide (nn=0))∧Hid (LI (· = br) (uD N) 87 br str o w lv nn oo wr)) (fun lv _ _=>262146-ub1 lv)
 case atStart=>exact⟨0,_,rfl,m8⟩
 case round=>
  clear m8;obtain⟨r3,v6,rfl,d9⟩:=hrel;obtain⟨y8,k4⟩:∃w:World,w=wr:=⟨_,rfl⟩;subst k4;obtain⟨t4,t5,rfl,t8,s5⟩:=d9.out.form;have v0:=d9.out.small;unfold maxLen at s5;go_wp2_with fail
  refine(uad _ br str _ (decide (r3=0)) d9.out.st).mono ?_;intro e a2 j6;rcases LI.more' g9 (rfl:br=br) d9.out j6 with⟨rfl,v7,a9⟩|⟨rfl,r5⟩
  ·clear j6
   have c1:=a9.out.st.lt;have a0:a2.heap.size≠br:=(Nat.ne_of_lt c1).symm;go_wp2_with fail
   refine(ui _ br str _ 40 40 rfl (a9.out.st.alloc _)).mono ?_;rintro e x5⟨rfl,q2,j0⟩;obtain⟨v8,f6⟩:=QM.start' (b:=a2.heap.size) (ss:=[.int,(.list (uan N)),(.list (un N))]) q2 j0;have k5:=hid (Bk.fr (Bk.new a2 87 #[.int .i64 0,.slice none 0 0,.slice none 0 0]) j0 a0);clear q2 j0;go_wp2_with fail
   refine(uej.go _ br str _ f6.out.st).mono ?_;rintro e x6⟨v,rfl,e7⟩;obtain⟨b0,rfl⟩:=ug e7.1;rw[uo];have d4:=hid (Bk.fr (k5.out) e7.fr a0);clear k5;have n5:=(d4.out).cell 0;have r7:=(d4.out).frozen 0;simp only[gq]at n5;obtain⟨v9,j9⟩:=QM.got' rfl f6.out e7 (Sb.box c1 _) a0 0 [.int .i64 b0];simp only[stores,Nat.reduceAdd]at j9;have f7:=hid j9;have h0:=Bk.stores (cs:=[.int .i64 0,.slice none 0 0,.slice none 0 0]) 0 [.int .i64 b0] d4.out;simp only[stores,spl,List.set_cons_zero,List.set_cons_succ,Nat.reduceAdd]at h0;have k6:=hid h0;clear h0 d4;clear e7 j9 f6;go_wp2_with fail
   refine(ur _ br str _ f7.out.st).mono ?_;rintro e t1⟨rfl,q3,j1⟩;obtain⟨t0,c0⟩:=QInv.space' f7.out q3 j1;have d5:=hid (Bk.fr (k6.out) j1 a0);clear n5 r7 k6;clear q3 j1 f7;have p4:=(c0.out.st).lt;have e1:=Sb.lt (b:=a2.heap.size) p4 (d5.out).lt;have s7:=(d5.out).lt;go_wp2_with fail
   refine(ui _ br str _ 40 40 rfl c0.out.st).mono ?_;rintro e x7⟨rfl,q4,j2⟩;obtain⟨w0,m9⟩:=LI.start' (S:=(Sb br a2.heap.size)) (s:=(uan N)) (e:=89) (c0.out.st) q4 (frb j2);have k7:=hid (Bk.fr (d5.out) j2 a0);clear d5;clear q4 j2;go_wp2;go_loopw [6] (fun fv wr=>∃(nn:Nat) (oo:Option (List UInt8)) (lv:Value),fv = .bool (decide (nn=0))∧Hid (LI (Sb br a2.heap.size) (uan N) 89 br str t0 t1 lv nn oo wr)∧Hid (Bk wr a2.heap.size 87 #[.int .i64 b0,lv,.slice none 0 0])) (fun _ wr=>262146-ug7 wr a2.heap.size 1)
   case atStart=>exact⟨0,_,_,rfl,m9,k7⟩
   case round=>
    clear m9 k7;obtain⟨a3,w1,v4,rfl,e0,k8⟩:=hrel;obtain⟨y9,k4⟩:∃w:World,w=wr:=⟨_,rfl⟩;subst k4;obtain⟨f3,g7,rfl,t9,s6⟩:=e0.out.form;have v1:=e0.out.small;unfold maxLen at s6;go_wp2_with fail
    refine(uad _ br str _ (decide (a3=0)) e0.out.st).mono ?_;intro e e9 e6;have d6:=hid (Bk.fr (k8.out) e6.fr a0);rcases LI.more' e1 Sb.br e0.out e6 with⟨rfl,w2,a5⟩|⟨rfl,n2⟩
    ·clear e6
     have c2:=a5.out.st.lt;have a1:e9.heap.size≠br:=(Nat.ne_of_lt c2).symm;have h9:a2.heap.size≠e9.heap.size:=Nat.ne_of_lt (d6.out).lt;go_wp2_with fail
     refine(ui _ br str _ 40 40 rfl (a5.out.st.alloc _)).mono ?_;rintro e x8⟨rfl,q5,e2⟩;obtain⟨w3,f8⟩:=QM.start' (b:=e9.heap.size) (ss:=[.int,.rat,(uC N)]) q5 e2;have k9:=hid (Bk.fr (d6.out.alloc _) e2 a0);have l0:=hid (Bk.fr (Bk.new e9 89 #[.int .i64 0,.bool false,.slice none 0 0,.slice none 0 0,.slice none 0 0,.slice none 0 0]) e2 a1);clear q5 e2;go_wp2_with fail
     refine(uej.go _ br str _ f8.out.st).mono ?_;rintro e x9⟨v,rfl,c5⟩;obtain⟨a6,rfl⟩:=ug c5.1;rw[uo];have l1:=hid (Bk.fr (k9.out) c5.fr a0);have d7:=hid (Bk.fr (l0.out) c5.fr a1);clear k9 l0;have n6:=(d7.out).cell 0;have r8:=(d7.out).frozen 0;simp only[gq]at n6;obtain⟨w4,k0⟩:=QM.got' rfl f8.out c5 (Sb.box c2 _) a1 0 [.int .i64 a6];simp only[stores,Nat.reduceAdd]at k0;have f9:=hid k0;have h1:=Bk.storesFar l1.out h9 0 [.int .i64 a6];simp only[stores,Nat.reduceAdd]at h1;have l2:=hid h1;clear h1 l1;have h2:=Bk.stores (cs:=[.int .i64 0,.bool false,.slice none 0 0,.slice none 0 0,.slice none 0 0,.slice none 0 0]) 0 [.int .i64 a6] d7.out;simp only[stores,spl,List.set_cons_zero,List.set_cons_succ,Nat.reduceAdd]at h2;have l3:=hid h2;clear h2 d7;clear c5 k0 f8;go_wp2_with fail
     refine(ur _ br str _ f9.out.st).mono ?_;rintro e y0⟨rfl,q6,e3⟩;obtain⟨w5,g0⟩:=QInv.space' f9.out q6 e3;have l4:=hid (Bk.fr (l2.out) e3 a0);have l5:=hid (Bk.fr (l3.out) e3 a1);clear n6 r8 l2 l3;clear q6 e3 f9;go_wp2_with fail
     refine(utk.go _ br str _ g0.out.st).mono ?_;rintro e y1⟨v,rfl,c6⟩;obtain⟨b3,b1,b6,b4,b2,b7,b5,rfl⟩:=uay c6.1;rw[uaz];have l6:=hid (Bk.fr (l4.out) c6.fr a0);have a4:=hid (Bk.fr (l5.out) c6.fr a1);clear l4 l5;have n7:=(a4.out).cell 1;have r9:=(a4.out).frozen 1;have n8:=(a4.out).cell 2;have s0:=(a4.out).frozen 2;have n9:=(a4.out).cell 3;have s1:=(a4.out).frozen 3;simp only[gq]at n7 n8 n9;obtain⟨w6,k1⟩:=QM.got' rfl g0.out c6 (Sb.box c2 _) a1 1 [.bool b3,.slice b1 b6 b4,.slice b2 b7 b5];simp only[stores,Nat.reduceAdd]at k1;have g1:=hid k1;have h3:=Bk.storesFar l6.out h9 1 [.bool b3,.slice b1 b6 b4,.slice b2 b7 b5];simp only[stores,Nat.reduceAdd]at h3;have l7:=hid h3;clear h3 l6;have h4:=Bk.stores (cs:=[.int .i64 a6,.bool false,.slice none 0 0,.slice none 0 0,.slice none 0 0,.slice none 0 0]) 1 [.bool b3,.slice b1 b6 b4,.slice b2 b7 b5] a4.out;simp only[stores,spl,List.set_cons_zero,List.set_cons_succ,Nat.reduceAdd]at h4;have l8:=hid h4;clear h4 a4;clear c6 k1 g0;go_wp2_with fail
     refine(ur _ br str _ g1.out.st).mono ?_;rintro e y2⟨rfl,q7,e4⟩;obtain⟨w7,g2⟩:=QInv.space' g1.out q7 e4;have l9:=hid (Bk.fr (l7.out) e4 a0);have m0:=hid (Bk.fr (l8.out) e4 a1);clear n7 r9 n8 s0 n9 s1 l7 l8;clear q7 e4 g1;go_wp2_with fail
     refine((uow N hN).go _ br str _ g2.out.st).mono ?_;rintro e y3⟨v,rfl,c7⟩;obtain⟨c8,d0,c9,d1,d3,d2,rfl⟩:=uaj c7.1;rw[uau];have m1:=hid (Bk.fr (l9.out) c7.fr a0);have a7:=hid (Bk.fr (m0.out) c7.fr a1);clear l9 m0;have o0:=(a7.out).cell 4;have s2:=(a7.out).frozen 4;have o1:=(a7.out).cell 5;have s3:=(a7.out).frozen 5;simp only[gq]at o0 o1;obtain⟨w8,k2⟩:=QM.got' rfl g2.out c7 (Sb.box c2 _) a1 4 [.slice c8 d0 c9,.slice d1 d3 d2];simp only[stores,Nat.reduceAdd]at k2;have g3:=hid k2;have h5:=Bk.storesFar m1.out h9 4 [.slice c8 d0 c9,.slice d1 d3 d2];simp only[stores,Nat.reduceAdd]at h5;have m2:=hid h5;clear h5 m1;have h6:=Bk.stores (cs:=[.int .i64 a6,.bool b3,.slice b1 b6 b4,.slice b2 b7 b5,.slice none 0 0,.slice none 0 0]) 4 [.slice c8 d0 c9,.slice d1 d3 d2] a7.out;simp only[stores,spl,List.set_cons_zero,List.set_cons_succ,Nat.reduceAdd]at h6;have m3:=hid h6;clear h6 a7;clear c7 k2 g2;go_wp2_with fail
     refine(ui _ br str _ 41 41 rfl g3.out.st).mono ?_;rintro e t2⟨rfl,q8,e5⟩;have n3:=QInv.last' (v:=[.int .i64 a6,.bool b3,.slice b1 b6 b4,.slice b2 b7 b5,.slice c8 d0 c9,.slice d1 d3 d2]) rfl g3.out q8 e5 (Sb.box c2 _) rfl;have m4:=hid (Bk.fr (m2.out) e5 a0);have a8:=hid (Bk.fr (m3.out) e5 a1);clear o0 s2 o1 s3 m2 m3;clear q8 e5 g3;have b8:=hid (RP.inner (c:=a2.heap.size) n3.out ((Fr.refl _ _).alloc _) (Nat.le_refl _));clear n3;have o2:=(a8.out).cell 0;have o3:=(a8.out).cell 1;have o4:=(a8.out).cell 2;have o5:=(a8.out).cell 3;have o6:=(a8.out).cell 4;have o7:=(a8.out).cell 5;simp only[gq]at o2 o3 o4 o5 o6 o7;obtain⟨xs,c3⟩:=a5.out.own e1 b8.out.fr;have s8:=Nat.le_trans a5.out.size b8.out.fr.size;have r2:Shape.sz (uan N)=6:=uel;rw[r2]at c3;have o8:=(m4.out).cell 1;simp only[gq]at o8;go_wp2_with (at_builtin;refine uJ t2 rfl _ _ 85 89 rfl Tryz.underlying85 6 112 utd (by decide) (by decide) _ _ a3 xs [.int .i64 a6,.bool b3,.slice b1 b6 b4,.slice b2 b7 b5,.slice c8 d0 c9,.slice d1 d3 d2] (by rfl) c3 (by rfl) rfl b8.out.1.one (by omega) s8 ?_)
     intro g g8 y4 j7 j5 p7 p9;rw[←r2]at c3 j7;obtain⟨w9,r4⟩:=LM.next' ur7 e1 p4 a5.out b8.out c3 j7 j5 p7 p9;have f4:=hid (LM.box a5.out m4.out s7 _ j5);clear c3 j7 j5 p7 p9 a5 b8 o2 o3 o4 o5 o6 o7 o8;have r6:=(f4.out).cell 1;have t6:=(f4.out).frozen 1;simp only[gq]at r6;have n0:=hid (LI.put r4.out a0 e1 1 (.slice (some ⟨g,0,none⟩) (a3+1) g8));have h7:=(f4.out).set 1 (.slice (some ⟨g,0,none⟩) (a3+1) g8);simp only[List.setIfInBounds_toArray,List.set_cons_succ,List.set_cons_zero]at h7;have m5:=hid h7;clear h7;have v2:=n0.out.small;go_wp2;go_roundw
     case rel=>exact⟨_,_,_,by simp,n0,m5⟩
     case measure=>rw[uaq (n:=a3) k8.out rfl,uaq (n:=a3+1) m5.out rfl];omega
    clear e6;obtain⟨x0,g4⟩:=QM.next' rfl c0.out n2.out (Sb.box c1 _);clear c0 n2;go_wp2_with fail
    refine(ur _ br str _ g4.out.st).mono ?_;rintro e y5⟨rfl,q9,j3⟩;obtain⟨x1,g5⟩:=QInv.space' g4.out q9 j3;have m6:=hid (Bk.fr (d6.out) j3 a0);clear d6;clear q9 j3 g4;go_wp2_with fail
    refine((uox N hN).go _ br str _ g5.out.st).mono ?_;rintro e y6⟨v,rfl,e8⟩;obtain⟨f0,f2,f1,rfl⟩:=ua e8.1;rw[ue];have d8:=hid (Bk.fr (m6.out) e8.fr a0);clear m6;have o9:=(d8.out).cell 2;have s4:=(d8.out).frozen 2;simp only[gq]at o9;obtain⟨x2,k3⟩:=QM.got' rfl g5.out e8 (Sb.box c1 _) a0 2 [.slice f0 f2 f1];simp only[stores,Nat.reduceAdd]at k3;have g6:=hid k3;have h8:=Bk.stores (cs:=[.int .i64 b0,.slice f3 a3 g7,.slice none 0 0]) 2 [.slice f0 f2 f1] d8.out;simp only[stores,spl,List.set_cons_zero,List.set_cons_succ,Nat.reduceAdd]at h8;have m7:=hid h8;clear h8 d8;clear e8 k3 g5;go_wp2_with fail
    refine(ui _ br str _ 41 41 rfl g6.out.st).mono ?_;rintro e t3⟨rfl,r0,j4⟩;have n4:=QInv.last' (v:=[.int .i64 b0,.slice f3 a3 g7,.slice f0 f2 f1]) rfl g6.out r0 j4 (Sb.box c1 _) rfl;have f5:=hid (Bk.fr (m7.out) j4 a0);clear o9 s4 m7;clear r0 j4 g6;have b9:=hid (RP.inner0 n4.out ((Fr.refl _ _).alloc _) (Nat.le_refl _));clear n4;have p0:=(f5.out).cell 0;have p1:=(f5.out).cell 1;have p2:=(f5.out).cell 2;simp only[gq]at p0 p1 p2;obtain⟨xs,c4⟩:=a9.out.own g9 b9.out.fr;have s9:=Nat.le_trans a9.out.size b9.out.fr.size;have r1:Shape.sz (uD N)=3:=ud0;rw[r1]at c4;go_wp2_with (at_builtin;refine uJ t3 rfl _ _ 59 87 rfl Tryz.underlying59 3 56 uku (by decide) (by decide) _ _ r3 xs [.int .i64 b0,.slice f3 a3 g7,.slice f0 f2 f1] (by rfl) c4 (by rfl) rfl b9.out.1.one (by omega) s9 ?_)
    intro g g8 y7 j8 p6 p8 q0;rw[←r1]at c4 j8;obtain⟨x3,n1⟩:=LM.next' upn g9 p3 a9.out b9.out c4 j8 p6 p8 q0;clear c4 j8 p6 p8 q0 a9 b9 p0 p1 p2;have v3:=n1.out.small;go_wp2;go_roundw
    case rel=>exact⟨_,_,by simp,n1⟩
    case measure=>simp[ub1];omega
  clear j6;go_wp2;go_ret
  exact⟨_,rfl,r5.out⟩
set_option maxHeartbeats 16000000 in
set_option maxRecDepth 100000 in
theorem ux2(N:Nat)(hN:262144≤N):VReads 56 (.list (uan N)) 262144:=by
 intro w br str o hr hl;have k4:=hr.lt;have HR:=hid hr;have HL:=hid hl;clear hr hl;go_enter Tryz.func56,Tryz.ntmps56
 have g8:=(HR.out).lt;have d3:=ug6 g8;go_wp2_with fail
 refine(ui _ br str _ 40 40 rfl HR.out).mono ?_;rintro e l8⟨rfl,h3,g9⟩;obtain⟨k8,f3⟩:=LI.start' (S:=(· = br)) (s:=(uan N)) (e:=82) (HR.out) h3 g9
 clear h3 g9;go_wp2;go_loopw [3,4] (fun lv fv wr=>∃(nn:Nat) (oo:Option (List UInt8)),fv = .bool (decide (nn=0))∧Hid (LI (· = br) (uan N) 82 br str o w lv nn oo wr)) (fun lv _ _=>262146-ub1 lv)
 case atStart=>exact⟨0,_,rfl,f3⟩
 case round=>
  clear f3;obtain⟨h9,k9,rfl,b7⟩:=hrel;obtain⟨m6,j9⟩:∃w:World,w=wr:=⟨_,rfl⟩;subst j9;obtain⟨k1,k2,rfl,k5,j7⟩:=b7.out.form;have k6:=b7.out.small;unfold maxLen at j7;go_wp2_with fail
  refine(uad _ br str _ (decide (h9=0)) b7.out.st).mono ?_;intro e e6 e1;rcases LI.more' d3 (rfl:br=br) b7.out e1 with⟨rfl,l0,a4⟩|⟨rfl,j0⟩
  ·clear e1
   have a7:=a4.out.st.lt;have a0:e6.heap.size≠br:=(Nat.ne_of_lt a7).symm;go_wp2_with fail
   refine(ui _ br str _ 40 40 rfl (a4.out.st.alloc _)).mono ?_;rintro e l9⟨rfl,h4,d7⟩;obtain⟨l1,c7⟩:=QM.start' (b:=e6.heap.size) (ss:=[.int,.rat,(uC N)]) h4 d7;have e7:=hid (Bk.fr (Bk.new e6 82 #[.int .i64 0,.bool false,.slice none 0 0,.slice none 0 0,.slice none 0 0,.slice none 0 0]) d7 a0);clear h4 d7;go_wp2_with fail
   refine(uej.go _ br str _ c7.out.st).mono ?_;rintro e m0⟨v,rfl,b8⟩;obtain⟨a5,rfl⟩:=ug b8.1;rw[uo];have b6:=hid (Bk.fr (e7.out) b8.fr a0);clear e7;have f6:=(b6.out).cell 0;have j1:=(b6.out).frozen 0;simp only[gq]at f6;obtain⟨l2,e3⟩:=QM.got' rfl c7.out b8 (Sb.box a7 _) a0 0 [.int .i64 a5];simp only[stores,Nat.reduceAdd]at e3;have c8:=hid e3;have d4:=Bk.stores (cs:=[.int .i64 0,.bool false,.slice none 0 0,.slice none 0 0,.slice none 0 0,.slice none 0 0]) 0 [.int .i64 a5] b6.out;simp only[stores,spl,List.set_cons_zero,List.set_cons_succ,Nat.reduceAdd]at d4;have e8:=hid d4;clear d4 b6;clear b8 e3 c7;go_wp2_with fail
   refine(ur _ br str _ c8.out.st).mono ?_;rintro e m1⟨rfl,h5,d8⟩;obtain⟨l3,c9⟩:=QInv.space' c8.out h5 d8;have e9:=hid (Bk.fr (e8.out) d8 a0);clear f6 j1 e8;clear h5 d8 c8;go_wp2_with fail
   refine(utk.go _ br str _ c9.out.st).mono ?_;rintro e m2⟨v,rfl,b9⟩;obtain⟨b1,a9,b4,b2,b0,b5,b3,rfl⟩:=uay b9.1;rw[uaz];have a1:=hid (Bk.fr (e9.out) b9.fr a0);clear e9;have f7:=(a1.out).cell 1;have j2:=(a1.out).frozen 1;have f8:=(a1.out).cell 2;have j3:=(a1.out).frozen 2;have f9:=(a1.out).cell 3;have j4:=(a1.out).frozen 3;simp only[gq]at f7 f8 f9;obtain⟨l4,e4⟩:=QM.got' rfl c9.out b9 (Sb.box a7 _) a0 1 [.bool b1,.slice a9 b4 b2,.slice b0 b5 b3];simp only[stores,Nat.reduceAdd]at e4;have d0:=hid e4;have d5:=Bk.stores (cs:=[.int .i64 a5,.bool false,.slice none 0 0,.slice none 0 0,.slice none 0 0,.slice none 0 0]) 1 [.bool b1,.slice a9 b4 b2,.slice b0 b5 b3] a1.out;simp only[stores,spl,List.set_cons_zero,List.set_cons_succ,Nat.reduceAdd]at d5;have f0:=hid d5;clear d5 a1;clear b9 e4 c9;go_wp2_with fail
   refine(ur _ br str _ d0.out.st).mono ?_;rintro e m3⟨rfl,h6,d9⟩;obtain⟨l5,d1⟩:=QInv.space' d0.out h6 d9;have f1:=hid (Bk.fr (f0.out) d9 a0);clear f7 j2 f8 j3 f9 j4 f0;clear h6 d9 d0;go_wp2_with fail
   refine((uow N hN).go _ br str _ d1.out.st).mono ?_;rintro e m4⟨v,rfl,c0⟩;obtain⟨c1,c3,c2,c4,c6,c5,rfl⟩:=uaj c0.1;rw[uau];have a2:=hid (Bk.fr (f1.out) c0.fr a0);clear f1;have g0:=(a2.out).cell 4;have j5:=(a2.out).frozen 4;have g1:=(a2.out).cell 5;have j6:=(a2.out).frozen 5;simp only[gq]at g0 g1;obtain⟨l6,e5⟩:=QM.got' rfl d1.out c0 (Sb.box a7 _) a0 4 [.slice c1 c3 c2,.slice c4 c6 c5];simp only[stores,Nat.reduceAdd]at e5;have d2:=hid e5;have d6:=Bk.stores (cs:=[.int .i64 a5,.bool b1,.slice a9 b4 b2,.slice b0 b5 b3,.slice none 0 0,.slice none 0 0]) 4 [.slice c1 c3 c2,.slice c4 c6 c5] a2.out;simp only[stores,spl,List.set_cons_zero,List.set_cons_succ,Nat.reduceAdd]at d6;have f2:=hid d6;clear d6 a2;clear c0 e5 d1;go_wp2_with fail
   refine(ui _ br str _ 41 41 rfl d2.out.st).mono ?_;rintro e k0⟨rfl,h7,e0⟩;have f5:=QInv.last' (v:=[.int .i64 a5,.bool b1,.slice a9 b4 b2,.slice b0 b5 b3,.slice c1 c3 c2,.slice c4 c6 c5]) rfl d2.out h7 e0 (Sb.box a7 _) rfl;have a3:=hid (Bk.fr (f2.out) e0 a0);clear g0 j5 g1 j6 f2;clear h7 e0 d2;have a6:=hid (RP.inner0 f5.out ((Fr.refl _ _).alloc _) (Nat.le_refl _));clear f5;have g2:=(a3.out).cell 0;have g3:=(a3.out).cell 1;have g4:=(a3.out).cell 2;have g5:=(a3.out).cell 3;have g6:=(a3.out).cell 4;have g7:=(a3.out).cell 5;simp only[gq]at g2 g3 g4 g5 g6 g7;obtain⟨xs,a8⟩:=a4.out.own d3 a6.out.fr;have j8:=Nat.le_trans a4.out.size a6.out.fr.size;have h8:Shape.sz (uan N)=6:=uel;rw[h8]at a8;go_wp2_with (at_builtin;refine uJ k0 rfl _ _ 60 82 rfl Tryz.underlying60 6 112 uqb (by decide) (by decide) _ _ h9 xs [.int .i64 a5,.bool b1,.slice a9 b4 b2,.slice b0 b5 b3,.slice c1 c3 c2,.slice c4 c6 c5] (by rfl) a8 (by rfl) rfl a6.out.1.one (by omega) j8 ?_)
   intro g k3 m5 e2 h0 h1 h2;rw[←h8]at a8 e2;obtain⟨l7,f4⟩:=LM.next' ur7 d3 g8 a4.out a6.out a8 e2 h0 h1 h2;clear a8 e2 h0 h1 h2 a4 a6 g2 g3 g4 g5 g6 g7;have k7:=f4.out.small;go_wp2;go_roundw
   case rel=>exact⟨_,_,by simp,f4⟩
   case measure=>simp[ub1];omega
  clear e1;go_wp2;go_ret
  exact⟨_,rfl,j0.out⟩
end Go.Proofs.YtellcholbkoakaaGreatDoor
