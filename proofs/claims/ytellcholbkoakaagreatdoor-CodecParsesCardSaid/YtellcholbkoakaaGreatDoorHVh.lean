/-
 The reference's reader: typ,index,mono,poly,targets,parts (printed by vgen.py).
-/
import Derived.Test.YtellcholbkoakaaGreatDoorHVg
namespace Go.Proofs.YtellcholbkoakaaGreatDoor
open Go.Lib (hid)
open Go.RowKit AC
set_option linter.unusedVariables false
set_option linter.unusedSimpArgs false
set_option maxHeartbeats 16000000 in
set_option maxRecDepth 100000 in
theorem v_typS(N L:Nat)(hih:0<L→VReads 52 (typS N) (L-1)):VReads 52 (.st (ands [.int,.int,(.list (typS N))])) L:=by
 have HIH:=hid hih;clear hih;intro w br str o hr hl;have e0:=hr.lt;have HR:=hid hr;have HL:=hid hl;clear hr hl;go_enter Tryz.func52,Tryz.ntmps52
 have a1:w.heap.size≠br:=(Nat.ne_of_lt e0).symm;have a0:w.heap.size+1≠br:=by omega
 have hd0:w.heap.size≠w.heap.size+1:=by omega
 have hS0:=Sb.two e0 (.cells #[.int .i64 0,.int .i64 0,.slice none 0 0] 116) (.cells #[.int .i64 0,.int .i64 0,.slice none 0 0] 116);have hb0:=Bk.two w 116 #[.int .i64 0,.int .i64 0,.slice none 0 0] (.cells #[.int .i64 0,.int .i64 0,.slice none 0 0] 116);go_wp2_with fail
 refine(vwant_any _ br str _ 40 40 rfl ((HR.out.alloc (.cells #[.int .i64 0,.int .i64 0,.slice none 0 0] 116)).alloc (.cells #[.int .i64 0,.int .i64 0,.slice none 0 0] 116))).mono ?_;rintro e w1⟨rfl,hs2,hf3⟩;obtain⟨o4,HQ5⟩:=QM.start' (b:=(w.heap.size+1)) (ss:=[.int,.int,(.list (typS N))]) hs2 hf3;have HB6:=hid (Bk.fr (Bk.alloc (Bk.new w 116 #[.int .i64 0,.int .i64 0,.slice none 0 0]) (.cells #[.int .i64 0,.int .i64 0,.slice none 0 0] 116)) hf3 a1);have HB7:=hid (Bk.fr (hb0) hf3 a0);clear hs2 hf3;go_wp2_with fail
 refine(v_num.go _ br str _ HQ5.out.st).mono ?_;rintro e w8⟨v,rfl,hp9⟩;obtain⟨a2,rfl⟩:=ty_int hp9.1;rw[val_int];have e1:=hid (Bk.fr (HB6.out) hp9.fr a1);have b1:=hid (Bk.fr (HB7.out) hp9.fr a0);clear HB6 HB7;have c13:=(b1.out).cell 0;have f14:=(b1.out).frozen 0;simp only[gq]at c13;obtain⟨o15,c3⟩:=QM.got' rfl HQ5.out hp9 hS0 a0 0 [.int .i64 a2];simp only[stores,Nat.reduceAdd]at c3;have c4:=hid c3;have c5:=Bk.storesFar e1.out hd0 0 [.int .i64 a2];simp only[stores,Nat.reduceAdd]at c5;have e2:=hid c5;clear c5 e1;have c6:=Bk.stores (cs:=[.int .i64 0,.int .i64 0,.slice none 0 0]) 0 [.int .i64 a2] b1.out;simp only[stores,spl,List.set_cons_zero,List.set_cons_succ,Nat.reduceAdd]at c6;have e3:=hid c6;clear c6 b1;clear hp9 c3 HQ5;go_wp2_with fail
 refine(vspace_any _ br str _ c4.out.st).mono ?_;rintro e w22⟨rfl,e4,b2⟩;obtain⟨o25,c7⟩:=QInv.space' c4.out e4 b2;have e5:=hid (Bk.fr (e2.out) b2 a1);have e6:=hid (Bk.fr (e3.out) b2 a0);clear c13 f14 e2 e3;clear e4 b2 c4;go_wp2_with fail
 refine(v_num.go _ br str _ c7.out.st).mono ?_;rintro e w29⟨v,rfl,a7⟩;obtain⟨a3,rfl⟩:=ty_int a7.1;rw[val_int];have e7:=hid (Bk.fr (e5.out) a7.fr a1);have b3:=hid (Bk.fr (e6.out) a7.fr a0);clear e5 e6;have c34:=(b3.out).cell 1;have f35:=(b3.out).frozen 1;simp only[gq]at c34;obtain⟨o36,c8⟩:=QM.got' rfl c7.out a7 hS0 a0 1 [.int .i64 a3];simp only[stores,Nat.reduceAdd]at c8;have c9:=hid c8;have d0:=Bk.storesFar e7.out hd0 1 [.int .i64 a3];simp only[stores,Nat.reduceAdd]at d0;have e8:=hid d0;clear d0 e7;have d1:=Bk.stores (cs:=[.int .i64 a2,.int .i64 0,.slice none 0 0]) 1 [.int .i64 a3] b3.out;simp only[stores,spl,List.set_cons_zero,List.set_cons_succ,Nat.reduceAdd]at d1;have e9:=hid d1;clear d1 b3;clear a7 c8 c7;go_wp2_with fail
 refine(vspace_any _ br str _ c9.out.st).mono ?_;rintro e w43⟨rfl,f0,b4⟩;obtain⟨o46,a6⟩:=QInv.space' c9.out f0 b4;have d2:=hid (Bk.fr (e8.out) b4 a1);have b5:=hid (Bk.fr (e9.out) b4 a0);clear c34 f35 e8 e9;clear f0 b4 c9;have f1:=(a6.out.st).lt;have b6:=Sb.lt (b:=(w.heap.size+1)) f1 (b5.out).lt;have h7:=(d2.out).lt;have h8:=(b5.out).lt;go_wp2_with fail
 refine(vwant_any _ br str _ 40 40 rfl a6.out.st).mono ?_;rintro e w54⟨rfl,f2,b7⟩;obtain⟨o57,f3⟩:=LI.start' (S:=(Sb br (w.heap.size+1))) (s:=(typS N)) (e:=116) (a6.out.st) f2 (frb b7);have f4:=hid (Bk.fr (d2.out) b7 a1);have f5:=hid (Bk.fr (b5.out) b7 a0);clear d2 b5;clear f2 b7;go_wp2;go_loopw [4] (fun fv wr=>∃(nn:Nat) (oo:Option (List UInt8)) (lv:Value),fv = .bool (decide (nn=0))∧Hid (LI (Sb br (w.heap.size+1)) (typS N) 116 br str o46 w43 lv nn oo wr)∧Hid (Bk wr w.heap.size 116 #[.int .i64 0,.int .i64 0,.slice none 0 0])∧Hid (Bk wr (w.heap.size+1) 116 #[.int .i64 a2,.int .i64 a3,lv])) (fun _ wr=>262146-lenAt wr (w.heap.size+1) 2)
 case atStart=>exact⟨0,_,_,rfl,f3,f4,f5⟩
 case round=>
  clear f3 f4 f5;obtain⟨n61,o62,k3,rfl,b8,f6,f7⟩:=hrel;obtain⟨k4,hwr⟩:∃w:World,w=wr:=⟨_,rfl⟩;subst hwr;obtain⟨A68,c69,rfl,k5,h9⟩:=b8.out.form;have k6:=b8.out.small;unfold maxLen at h9;go_wp2_with fail
  refine(vmore_any _ br str _ (decide (n61=0)) b8.out.st).mono ?_;intro e w73 a8;have b9:=hid (Bk.fr (f6.out) a8.fr a1);clear f6;have a9:=hid (Bk.fr (f7.out) a8.fr a0);rcases LI.more' b6 Sb.br b8.out a8 with⟨rfl,o77,a4⟩|⟨rfl,f8⟩
  ·clear a8
   have f9:=a4.out.lim (a6.out.lim HL.out);go_upto_region 11 with(fail)
   refine wp_region_rel (by kernel_rfl) (by kernel_rfl) [22,23,24,25,26] 40 (by kernel_rfl) (fun d x=>Fr (· = br) w73 x∧(d 3=false→Below w73.heap.size w73 x)) (fun j x x'=>match j with
    | 3=>Fr (· = br) x x'
    | _=>Below x.heap.size x x') (fun io v x=>match io with
    | 0=>v = .pointer (some ⟨(w.heap.size+1),2,none⟩)
    | 1=>v = .slice A68 n61 c69
    | 2=>v = .pointer (some ⟨br,0,none⟩)
    | 3=>∃u,v=valOf (typS N) u∧RP (· = br) (typS N) br str o77 w73 u x
    | _=>∃u g,v = .slice (some ⟨g,0,none⟩) 1 1∧RP (· = br) (typS N) br str o77 w73 u x∧Bk x g 116 u.toArray∧w73.heap.size≤g) ⟨(Fr.refl _ _).drew,fun _=>(Below.refl _ _).drew⟩ ?_ ?_ ?_ ?_
   ·rintro d j x x' ⟨h,hb⟩ hd hg
    rcases j with _|_|_|_|j
    ·exact⟨h.below hg,fun e=>(hb (Bool.or_eq_false_iff.1 e).1).trans (hg.mono h.size)⟩
    ·exact⟨h.below hg,fun e=>(hb (Bool.or_eq_false_iff.1 e).1).trans (hg.mono h.size)⟩
    ·exact⟨h.below hg,fun e=>(hb (Bool.or_eq_false_iff.1 e).1).trans (hg.mono h.size)⟩
    ·exact⟨h.trans hg,fun e=>by simp at e⟩
    ·exact⟨h.below hg,fun e=>(hb (Bool.or_eq_false_iff.1 e).1).trans (hg.mono h.size)⟩
   ·intro io jo v x x' hi hj hij ha h hg
    rcases io with _|_|_|_|_|io
    ·exact h
    ·exact h
    ·exact h
    ·obtain⟨u,h1,h2⟩:=h
     rcases jo with _|_|_|_|jo
     ·exact⟨u,h1,h2.bel hg⟩
     ·exact⟨u,h1,h2.bel hg⟩
     ·exact⟨u,h1,h2.bel hg⟩
     ·exact absurd rfl hij
     ·exact⟨u,h1,h2.bel hg⟩
    ·obtain⟨u,g,h1,h2,h3,h4⟩:=h
     rcases jo with _|_|_|_|jo
     ·exact⟨u,g,h1,h2.bel hg,h3.below hg h3.lt,h4⟩
     ·exact⟨u,g,h1,h2.bel hg,h3.below hg h3.lt,h4⟩
     ·exact⟨u,g,h1,h2.bel hg,h3.below hg h3.lt,h4⟩
     ·exact absurd (ha.symm.trans (by kernel_rfl:AC.ahead _ 40 4 3=true)) (by decide)
     ·exact⟨u,g,h1,h2.bel hg,h3.below hg h3.lt,h4⟩
    ·exact absurd hi (by simp)
   ·intro io oo S d x ho hio hd hbx hdep
    rcases io with _|_|_|_|_|io
    ·cases ho
     refine opOk_h rfl rfl fun KK HK=>?_
     clear hdep hio;simp only[nv,Nat.reduceAdd]at HK ⊢;go_wp2;exact HK.out _ _ ⟨_,rfl,rfl,Below.refl _ _⟩
    ·cases ho
     have h0:S 0 = .pointer (some ⟨(w.heap.size+1),2,none⟩):=hdep 0 (by kernel_rfl) (by decide)
     have cc:=(Bk.fr (a9.out) hbx.1 a0).cell 2;simp only[gq]at cc;refine opOk_h rfl rfl fun KK HK=>?_
     clear hdep hio;simp only[nv,Nat.reduceAdd]at HK ⊢;generalize S 0=t0 at *;subst h0;go_wp2;exact HK.out _ _ ⟨_,rfl,rfl,Below.refl _ _⟩
    ·cases ho
     refine opOk_h rfl rfl fun KK HK=>?_
     clear hdep hio;simp only[nv,Nat.reduceAdd]at HK ⊢;go_wp2;exact HK.out _ _ ⟨_,rfl,rfl,Below.refl _ _⟩
    ·cases ho
     have h2:S 2 = .pointer (some ⟨br,0,none⟩):=hdep 2 (by kernel_rfl) (by decide)
     refine opOk_h rfl rfl fun KK HK=>?_
     clear hdep hio;simp only[nv,Nat.reduceAdd]at HK ⊢;generalize S 2=t2 at *;subst h2;go_wp2_with fail
     refine(HIH.out (by have:=f9.2;omega) _ br str _ (a4.out.st.below (hbx.2 hd)) (fun r hr=>Nat.le_trans (f9.1 r hr) (Nat.sub_le _ _))).mono ?_
     rintro e xN⟨u,rfl,hp⟩;exact HK.out _ _ ⟨_,rfl,⟨u,rfl,hp.from hbx.1 fun _ h=> .inl h⟩,hp.2.2.1⟩
    ·cases ho
     have h3:∃u,S 3=valOf (typS N) u∧RP (· = br) (typS N) br str o77 w73 u x:=hdep 3 (by kernel_rfl) (by decide)
     refine opOk_h rfl rfl fun KK HK=>?_
     clear hdep hio;simp only[nv,Nat.reduceAdd]at HK ⊢;obtain⟨u,h3,hp⟩:=h3;obtain⟨k7,k8,k9,l0,l1,rfl⟩:=ty_typ hp.1;rw[val_typ]at h3;generalize S 3=t3 at *;subst h3;go_wp2;exact HK.out _ _ ⟨_,rfl,⟨_,_,rfl,hp.bel ((Below.refl _ _).alloc (Nat.le_refl _) _),Bk.new _ _ _,hbx.1.size⟩,(Below.refl _ _).alloc (Nat.le_refl _) _⟩
    ·exact absurd hio (by simp)
   intro S d x hbx hF;have g1:S 1 = .slice A68 n61 c69:=hF 1 (by decide)
   have g4:∃u g,S 4 = .slice (some ⟨g,0,none⟩) 1 1∧RP (· = br) (typS N) br str o77 w73 u x∧Bk x g 116 u.toArray∧w73.heap.size≤g:=hF 4 (by decide)
   clear hF;simp only[nv,Nat.reduceAdd,List.length_cons,List.length_nil,List.drop_succ_cons,List.drop_zero];obtain⟨u,gb,g4,hp,hbk,hg0⟩:=g4;generalize S 0=t0 at *;generalize S 1=t1 at *;generalize S 2=t2 at *;generalize S 3=t3 at *;generalize S 4=t4 at *;subst g1;subst g4;obtain⟨xs,b0⟩:=a4.out.own b6 (frb hbx.1);have j0:=Nat.le_trans a4.out.size hbx.1.size;have d3:Shape.sz (typS N)=3:=sz_typ;rw[d3]at b0;have hlen:u.length=3:=by rw[hp.1.len,d3]
   have d4:=hid (hp.mono (S':=Sb br (w.heap.size+1)) fun x hx=> .inl hx)
   clear hp;have j1:=hid (Bk.fr (b9.out) hbx.1 a1);have j2:=hid (Bk.fr (a9.out) hbx.1 a0);clear b9 a9;refine wpList_pushW x rfl _ _ 114 116 rfl Tryz.underlying114 3 40 vinfo_Type (by decide) (by decide) _ _ n61 xs u (by rfl) b0 gb _ hbk (by rfl) hlen d4.out.1.one (by omega) j0 ?_
   intro g cap w88 d5 c0 g0 g2;rw[←d3]at b0 d5;obtain⟨o93,j3⟩:=LM.nextW one_typ b6 f1 a4.out d4.out b0 d5 c0 g0 g2;have j4:=hid (LM.boxW a4.out j1.out h7 c0);have d6:=hid (LM.boxW a4.out j2.out h8 c0);clear b0 d5 c0 g0 g2 a4 d4;have c97:=(d6.out).cell 2;have f98:=(d6.out).frozen 2;simp only[gq]at c97;have g3:=hid (LI.put j3.out a0 b6 2 (.slice (some ⟨g,0,none⟩) (n61+1) cap));have g5:=(j4.out).far (p:=⟨(w.heap.size+1),2,none⟩) hd0 (.slice (some ⟨g,0,none⟩) (n61+1) cap);have j5:=hid g5;clear g5;have d7:=(d6.out).set 2 (.slice (some ⟨g,0,none⟩) (n61+1) cap);simp only[List.setIfInBounds_toArray,List.set_cons_succ,List.set_cons_zero]at d7;have g6:=hid d7;clear d7;have l2:=g3.out.small;go_wp2;go_roundw
   case rel=>exact⟨_,_,_,by simp,g3,j5,g6⟩
   case measure=>rw[lenAt_of (n:=n61) f7.out rfl,lenAt_of (n:=n61+1) g6.out rfl];omega
  clear a8;obtain⟨l3,d8⟩:=QM.next' rfl a6.out f8.out hS0;clear a6 f8;go_wp2_with fail
  refine(vwant_any _ br str _ 41 41 rfl d8.out.st).mono ?_;rintro e l4⟨rfl,g7,c1⟩;have j6:=QInv.last' (v:=[.int .i64 a2,.int .i64 a3,.slice A68 n61 c69]) rfl d8.out g7 c1 hS0 rfl;have a5:=hid (Bk.fr (b9.out) c1 a1);have d9:=hid (Bk.fr (a9.out) c1 a0);clear b9 a9;clear g7 c1 d8;have j7:=(d9.out).cell 0;have j8:=(d9.out).cell 1;have j9:=(d9.out).cell 2;simp only[gq]at j7 j8 j9;have k0:=(a5.out).cell 0;have l5:=(a5.out).frozen 0;have k1:=(a5.out).cell 1;have l6:=(a5.out).frozen 1;have k2:=(a5.out).cell 2;have l7:=(a5.out).frozen 2;simp only[gq]at k0 k1 k2;have g8:=RP.retB j6.out (((Fr.refl _ _).alloc _).alloc _) (by omega) (Nat.le_refl _) (hS0 br Sb.br) (hS0 _ Sb.b) (by simp;omega) a1 [.int .i64 a2,.int .i64 a3,.slice A68 n61 c69]
  have c2:=Bk.stores (cs:=[.int .i64 0,.int .i64 0,.slice none 0 0]) 0 [.int .i64 a2,.int .i64 a3,.slice A68 n61 c69] (a5.out);simp only[stores,spl,List.set_cons_zero,List.set_cons_succ,Nat.reduceAdd]at g8 c2;go_wp2;have g9:=c2.cell 0;have h5:=c2.cell 1;have h6:=c2.cell 2;simp only[gq]at g9 h5 h6;refine bodyPost_ret (v:= .agg #[.int .i64 a2,.int .i64 a3,.slice A68 n61 c69]) (by simp[results,Tryz.results52,go_sem,g9,h5,h6]) rfl ?_
  exact g8
theorem v_typ_all:∀n:Nat,VReads 52 (typS n) n
 | 0=>VReads.zero (v_typS 0 0 (fun h=>absurd h (by decide))) (fun v h=>h)
 | n+1=>v_typS n (n+1) (fun _=>v_typ_all n)
theorem v_typ(N:Nat)(hN:262144≤N):VReads 52 (typS N) 262144:=(v_typ_all N).mono hN
set_option maxHeartbeats 16000000 in
set_option maxRecDepth 100000 in
theorem v_indexS(N L:Nat)(hih:0<L→VReads 218 (indexS N) (L-1)):VReads 218 (.st (ands [.int,(.list (indexS N))])) L:=by
 have HIH:=hid hih;clear hih;intro w br str o hr hl;have d8:=hr.lt;have HR:=hid hr;have HL:=hid hl;clear hr hl;go_enter Tryz.func218,Tryz.ntmps218
 have a3:w.heap.size≠br:=(Nat.ne_of_lt d8).symm;have a1:w.heap.size+1≠br:=by omega
 have hd0:w.heap.size≠w.heap.size+1:=by omega
 have hS0:=Sb.two d8 (.cells #[.int .i64 0,.slice none 0 0] 143) (.cells #[.int .i64 0,.slice none 0 0] 143);have hb0:=Bk.two w 143 #[.int .i64 0,.slice none 0 0] (.cells #[.int .i64 0,.slice none 0 0] 143);go_wp2_with fail
 refine(vwant_any _ br str _ 40 40 rfl ((HR.out.alloc (.cells #[.int .i64 0,.slice none 0 0] 143)).alloc (.cells #[.int .i64 0,.slice none 0 0] 143))).mono ?_;rintro e k1⟨rfl,d9,b4⟩;obtain⟨k2,c5⟩:=QM.start' (b:=(w.heap.size+1)) (ss:=[.int,(.list (indexS N))]) d9 b4;have e0:=hid (Bk.fr (Bk.alloc (Bk.new w 143 #[.int .i64 0,.slice none 0 0]) (.cells #[.int .i64 0,.slice none 0 0] 143)) b4 a3);have e1:=hid (Bk.fr (hb0) b4 a1);clear d9 b4;go_wp2_with fail
 refine(v_num.go _ br str _ c5.out.st).mono ?_;rintro e k3⟨v,rfl,a9⟩;obtain⟨a4,rfl⟩:=ty_int a9.1;rw[val_int];have e2:=hid (Bk.fr (e0.out) a9.fr a3);have b5:=hid (Bk.fr (e1.out) a9.fr a1);clear e0 e1;have e3:=(b5.out).cell 0;have g8:=(b5.out).frozen 0;simp only[gq]at e3;obtain⟨k4,c6⟩:=QM.got' rfl c5.out a9 hS0 a1 0 [.int .i64 a4];simp only[stores,Nat.reduceAdd]at c6;have c7:=hid c6;have c8:=Bk.storesFar e2.out hd0 0 [.int .i64 a4];simp only[stores,Nat.reduceAdd]at c8;have e4:=hid c8;clear c8 e2;have c9:=Bk.stores (cs:=[.int .i64 0,.slice none 0 0]) 0 [.int .i64 a4] b5.out;simp only[stores,spl,List.set_cons_zero,List.set_cons_succ,Nat.reduceAdd]at c9;have e5:=hid c9;clear c9 b5;clear a9 c6 c5;go_wp2_with fail
 refine(vspace_any _ br str _ c7.out.st).mono ?_;rintro e g9⟨rfl,e6,b6⟩;obtain⟨h5,a6⟩:=QInv.space' c7.out e6 b6;have d0:=hid (Bk.fr (e4.out) b6 a3);have b7:=hid (Bk.fr (e5.out) b6 a1);clear e3 g8 e4 e5;clear e6 b6 c7;have e7:=(a6.out.st).lt;have b8:=Sb.lt (b:=(w.heap.size+1)) e7 (b7.out).lt;have h6:=(d0.out).lt;have h7:=(b7.out).lt;go_wp2_with fail
 refine(vwant_any _ br str _ 40 40 rfl a6.out.st).mono ?_;rintro e k5⟨rfl,e8,b9⟩;obtain⟨k6,e9⟩:=LI.start' (S:=(Sb br (w.heap.size+1))) (s:=(indexS N)) (e:=143) (a6.out.st) e8 (frb b9);have f0:=hid (Bk.fr (d0.out) b9 a3);have f1:=hid (Bk.fr (b7.out) b9 a1);clear d0 b7;clear e8 b9;go_wp2;go_loopw [4] (fun fv wr=>∃(nn:Nat) (oo:Option (List UInt8)) (lv:Value),fv = .bool (decide (nn=0))∧Hid (LI (Sb br (w.heap.size+1)) (indexS N) 143 br str h5 g9 lv nn oo wr)∧Hid (Bk wr w.heap.size 143 #[.int .i64 0,.slice none 0 0])∧Hid (Bk wr (w.heap.size+1) 143 #[.int .i64 a4,lv])) (fun _ wr=>262146-lenAt wr (w.heap.size+1) 1)
 case atStart=>exact⟨0,_,_,rfl,e9,f0,f1⟩
 case round=>
  clear e9 f0 f1;obtain⟨a0,k7,k8,rfl,c0,f2,f3⟩:=hrel;obtain⟨k9,hwr⟩:∃w:World,w=wr:=⟨_,rfl⟩;subst hwr;obtain⟨a7,a8,rfl,l0,h8⟩:=c0.out.form;have l1:=c0.out.small;unfold maxLen at h8;go_wp2_with fail
  refine(vmore_any _ br str _ (decide (a0=0)) c0.out.st).mono ?_;intro e a2 b0;have c1:=hid (Bk.fr (f2.out) b0.fr a3);clear f2;have b1:=hid (Bk.fr (f3.out) b0.fr a1);rcases LI.more' b8 Sb.br c0.out b0 with⟨rfl,c2,a5⟩|⟨rfl,f4⟩
  ·clear b0
   have f5:=a5.out.lim (a6.out.lim HL.out);go_upto_region 9 with(fail)
   refine wp_region_rel (by kernel_rfl) (by kernel_rfl) [17,18,19,20,21] 40 (by kernel_rfl) (fun d x=>Fr (· = br) a2 x∧(d 3=false→Below a2.heap.size a2 x)) (fun j x x'=>match j with
    | 3=>Fr (· = br) x x'
    | _=>Below x.heap.size x x') (fun io v x=>match io with
    | 0=>v = .pointer (some ⟨(w.heap.size+1),1,none⟩)
    | 1=>v = .slice a7 a0 a8
    | 2=>v = .pointer (some ⟨br,0,none⟩)
    | 3=>∃u,v=valOf (indexS N) u∧RP (· = br) (indexS N) br str c2 a2 u x
    | _=>∃u g,v = .slice (some ⟨g,0,none⟩) 1 1∧RP (· = br) (indexS N) br str c2 a2 u x∧Bk x g 143 u.toArray∧a2.heap.size≤g) ⟨(Fr.refl _ _).drew,fun _=>(Below.refl _ _).drew⟩ ?_ ?_ ?_ ?_
   ·rintro d j x x' ⟨h,hb⟩ hd hg
    rcases j with _|_|_|_|j
    ·exact⟨h.below hg,fun e=>(hb (Bool.or_eq_false_iff.1 e).1).trans (hg.mono h.size)⟩
    ·exact⟨h.below hg,fun e=>(hb (Bool.or_eq_false_iff.1 e).1).trans (hg.mono h.size)⟩
    ·exact⟨h.below hg,fun e=>(hb (Bool.or_eq_false_iff.1 e).1).trans (hg.mono h.size)⟩
    ·exact⟨h.trans hg,fun e=>by simp at e⟩
    ·exact⟨h.below hg,fun e=>(hb (Bool.or_eq_false_iff.1 e).1).trans (hg.mono h.size)⟩
   ·intro io jo v x x' hi hj hij ha h hg
    rcases io with _|_|_|_|_|io
    ·exact h
    ·exact h
    ·exact h
    ·obtain⟨u,h1,h2⟩:=h
     rcases jo with _|_|_|_|jo
     ·exact⟨u,h1,h2.bel hg⟩
     ·exact⟨u,h1,h2.bel hg⟩
     ·exact⟨u,h1,h2.bel hg⟩
     ·exact absurd rfl hij
     ·exact⟨u,h1,h2.bel hg⟩
    ·obtain⟨u,g,h1,h2,h3,h4⟩:=h
     rcases jo with _|_|_|_|jo
     ·exact⟨u,g,h1,h2.bel hg,h3.below hg h3.lt,h4⟩
     ·exact⟨u,g,h1,h2.bel hg,h3.below hg h3.lt,h4⟩
     ·exact⟨u,g,h1,h2.bel hg,h3.below hg h3.lt,h4⟩
     ·exact absurd (ha.symm.trans (by kernel_rfl:AC.ahead _ 40 4 3=true)) (by decide)
     ·exact⟨u,g,h1,h2.bel hg,h3.below hg h3.lt,h4⟩
    ·exact absurd hi (by simp)
   ·intro io oo S d x ho hio hd hbx hdep
    rcases io with _|_|_|_|_|io
    ·cases ho
     refine opOk_h rfl rfl fun KK HK=>?_
     clear hdep hio;simp only[nv,Nat.reduceAdd]at HK ⊢;go_wp2;exact HK.out _ _ ⟨_,rfl,rfl,Below.refl _ _⟩
    ·cases ho
     have h0:S 0 = .pointer (some ⟨(w.heap.size+1),1,none⟩):=hdep 0 (by kernel_rfl) (by decide)
     have cc:=(Bk.fr (b1.out) hbx.1 a1).cell 1;simp only[gq]at cc;refine opOk_h rfl rfl fun KK HK=>?_
     clear hdep hio;simp only[nv,Nat.reduceAdd]at HK ⊢;generalize S 0=t0 at *;subst h0;go_wp2;exact HK.out _ _ ⟨_,rfl,rfl,Below.refl _ _⟩
    ·cases ho
     refine opOk_h rfl rfl fun KK HK=>?_
     clear hdep hio;simp only[nv,Nat.reduceAdd]at HK ⊢;go_wp2;exact HK.out _ _ ⟨_,rfl,rfl,Below.refl _ _⟩
    ·cases ho
     have h2:S 2 = .pointer (some ⟨br,0,none⟩):=hdep 2 (by kernel_rfl) (by decide)
     refine opOk_h rfl rfl fun KK HK=>?_
     clear hdep hio;simp only[nv,Nat.reduceAdd]at HK ⊢;generalize S 2=t2 at *;subst h2;go_wp2_with fail
     refine(HIH.out (by have:=f5.2;omega) _ br str _ (a5.out.st.below (hbx.2 hd)) (fun r hr=>Nat.le_trans (f5.1 r hr) (Nat.sub_le _ _))).mono ?_
     rintro e xN⟨u,rfl,hp⟩;exact HK.out _ _ ⟨_,rfl,⟨u,rfl,hp.from hbx.1 fun _ h=> .inl h⟩,hp.2.2.1⟩
    ·cases ho
     have h3:∃u,S 3=valOf (indexS N) u∧RP (· = br) (indexS N) br str c2 a2 u x:=hdep 3 (by kernel_rfl) (by decide)
     refine opOk_h rfl rfl fun KK HK=>?_
     clear hdep hio;simp only[nv,Nat.reduceAdd]at HK ⊢;obtain⟨u,h3,hp⟩:=h3;obtain⟨l2,l3,l4,l5,rfl⟩:=ty_index hp.1;rw[val_index]at h3;generalize S 3=t3 at *;subst h3;go_wp2;exact HK.out _ _ ⟨_,rfl,⟨_,_,rfl,hp.bel ((Below.refl _ _).alloc (Nat.le_refl _) _),Bk.new _ _ _,hbx.1.size⟩,(Below.refl _ _).alloc (Nat.le_refl _) _⟩
    ·exact absurd hio (by simp)
   intro S d x hbx hF;have g1:S 1 = .slice a7 a0 a8:=hF 1 (by decide)
   have g4:∃u g,S 4 = .slice (some ⟨g,0,none⟩) 1 1∧RP (· = br) (indexS N) br str c2 a2 u x∧Bk x g 143 u.toArray∧a2.heap.size≤g:=hF 4 (by decide)
   clear hF;simp only[nv,Nat.reduceAdd,List.length_cons,List.length_nil,List.drop_succ_cons,List.drop_zero];obtain⟨u,gb,g4,hp,hbk,hg0⟩:=g4;generalize S 0=t0 at *;generalize S 1=t1 at *;generalize S 2=t2 at *;generalize S 3=t3 at *;generalize S 4=t4 at *;subst g1;subst g4;obtain⟨xs,b2⟩:=a5.out.own b8 (frb hbx.1);have h9:=Nat.le_trans a5.out.size hbx.1.size;have d1:Shape.sz (indexS N)=2:=sz_index;rw[d1]at b2;have hlen:u.length=2:=by rw[hp.1.len,d1]
   have d2:=hid (hp.mono (S':=Sb br (w.heap.size+1)) fun x hx=> .inl hx)
   clear hp;have j0:=hid (Bk.fr (c1.out) hbx.1 a3);have j1:=hid (Bk.fr (b1.out) hbx.1 a1);clear c1 b1;refine wpList_pushW x rfl _ _ 141 143 rfl Tryz.underlying141 2 32 vinfo_Index (by decide) (by decide) _ _ a0 xs u (by rfl) b2 gb _ hbk (by rfl) hlen d2.out.1.one (by omega) h9 ?_
   intro g cap l6 d3 c3 f6 f7;rw[←d1]at b2 d3;obtain⟨l7,j2⟩:=LM.nextW one_index b8 e7 a5.out d2.out b2 d3 c3 f6 f7;have j3:=hid (LM.boxW a5.out j0.out h6 c3);have d4:=hid (LM.boxW a5.out j1.out h7 c3);clear b2 d3 c3 f6 f7 a5 d2;have j4:=(d4.out).cell 1;have l8:=(d4.out).frozen 1;simp only[gq]at j4;have f8:=hid (LI.put j2.out a1 b8 1 (.slice (some ⟨g,0,none⟩) (a0+1) cap));have f9:=(j3.out).far (p:=⟨(w.heap.size+1),1,none⟩) hd0 (.slice (some ⟨g,0,none⟩) (a0+1) cap);have j5:=hid f9;clear f9;have d5:=(d4.out).set 1 (.slice (some ⟨g,0,none⟩) (a0+1) cap);simp only[List.setIfInBounds_toArray,List.set_cons_succ,List.set_cons_zero]at d5;have g0:=hid d5;clear d5;have l9:=f8.out.small;go_wp2;go_roundw
   case rel=>exact⟨_,_,_,by simp,f8,j5,g0⟩
   case measure=>rw[lenAt_of (n:=a0) f3.out rfl,lenAt_of (n:=a0+1) g0.out rfl];omega
  clear b0;obtain⟨m0,d6⟩:=QM.next' rfl a6.out f4.out hS0;clear a6 f4;go_wp2_with fail
  refine(vwant_any _ br str _ 41 41 rfl d6.out.st).mono ?_;rintro e m1⟨rfl,g2,c4⟩;have j6:=QInv.last' (v:=[.int .i64 a4,.slice a7 a0 a8]) rfl d6.out g2 c4 hS0 rfl;have b3:=hid (Bk.fr (c1.out) c4 a3);have g3:=hid (Bk.fr (b1.out) c4 a1);clear c1 b1;clear g2 c4 d6;have j7:=(g3.out).cell 0;have j8:=(g3.out).cell 1;simp only[gq]at j7 j8;have j9:=(b3.out).cell 0;have m2:=(b3.out).frozen 0;have k0:=(b3.out).cell 1;have m3:=(b3.out).frozen 1;simp only[gq]at j9 k0;have g5:=RP.retB j6.out (((Fr.refl _ _).alloc _).alloc _) (by omega) (Nat.le_refl _) (hS0 br Sb.br) (hS0 _ Sb.b) (by simp;omega) a3 [.int .i64 a4,.slice a7 a0 a8]
  have d7:=Bk.stores (cs:=[.int .i64 0,.slice none 0 0]) 0 [.int .i64 a4,.slice a7 a0 a8] (b3.out);simp only[stores,spl,List.set_cons_zero,List.set_cons_succ,Nat.reduceAdd]at g5 d7;go_wp2;have g6:=d7.cell 0;have g7:=d7.cell 1;simp only[gq]at g6 g7;refine bodyPost_ret (v:= .agg #[.int .i64 a4,.slice a7 a0 a8]) (by simp[results,Tryz.results218,go_sem,g6,g7]) rfl ?_
  exact g5
theorem v_index_all:∀n:Nat,VReads 218 (indexS n) n
 | 0=>VReads.zero (v_indexS 0 0 (fun h=>absurd h (by decide))) (fun v h=>h)
 | n+1=>v_indexS n (n+1) (fun _=>v_index_all n)
theorem v_index(N:Nat)(hN:262144≤N):VReads 218 (indexS N) 262144:=(v_index_all N).mono hN
set_option maxHeartbeats 16000000 in
set_option maxRecDepth 100000 in
theorem v_mono(N:Nat)(hN:262144≤N):VReads 133 (monoS N) 262144:=by
 intro w br str o hr hl;have l3:=hr.lt;have HR:=hid hr;have HL:=hid hl;clear hr hl;go_enter Tryz.func133,Tryz.ntmps133
 have a1:w.heap.size≠br:=(Nat.ne_of_lt l3).symm;have a0:w.heap.size+1≠br:=by omega
 have hd0:w.heap.size≠w.heap.size+1:=by omega
 have hS0:=Sb.two l3 (.cells #[.slice none 0 0,.slice none 0 0] 80) (.cells #[.slice none 0 0,.slice none 0 0] 80);have hb0:=Bk.two w 80 #[.slice none 0 0,.slice none 0 0] (.cells #[.slice none 0 0,.slice none 0 0] 80);go_wp2_with fail
 refine(vwant_any _ br str _ 40 40 rfl ((HR.out.alloc (.cells #[.slice none 0 0,.slice none 0 0] 80)).alloc (.cells #[.slice none 0 0,.slice none 0 0] 80))).mono ?_;rintro e v9⟨rfl,l4,e3⟩;obtain⟨w0,c4⟩:=QM.start' (b:=(w.heap.size+1)) (ss:=[(.list (factorS N)),(.list atomS)]) l4 e3;have g6:=hid (Bk.fr (Bk.alloc (Bk.new w 80 #[.slice none 0 0,.slice none 0 0]) (.cells #[.slice none 0 0,.slice none 0 0] 80)) e3 a1);have e4:=hid (Bk.fr (hb0) e3 a0);clear l4 e3;have l5:=(c4.out.st).lt;have e5:=Sb.lt (b:=(w.heap.size+1)) l5 (e4.out).lt;have w1:=(g6.out).lt;have w2:=(e4.out).lt;go_wp2_with fail
 refine(vwant_any _ br str _ 40 40 rfl c4.out.st).mono ?_;rintro e z4⟨rfl,l6,e6⟩;obtain⟨z5,l7⟩:=LI.start' (S:=(Sb br (w.heap.size+1))) (s:=(factorS N)) (e:=145) (c4.out.st) l6 (frb e6);have l8:=hid (Bk.fr (g6.out) e6 a1);have l9:=hid (Bk.fr (e4.out) e6 a0);clear g6 e4;clear l6 e6;go_wp2;go_loopw [4] (fun fv wr=>∃(nn:Nat) (oo:Option (List UInt8)) (lv:Value),fv = .bool (decide (nn=0))∧Hid (LI (Sb br (w.heap.size+1)) (factorS N) 145 br str w0 v9 lv nn oo wr)∧Hid (Bk wr w.heap.size 80 #[.slice none 0 0,.slice none 0 0])∧Hid (Bk wr (w.heap.size+1) 80 #[lv,.slice none 0 0])) (fun _ wr=>262146-lenAt wr (w.heap.size+1) 0)
 case atStart=>exact⟨0,_,_,rfl,l7,l8,l9⟩
 case round=>
  clear l7 l8 l9;obtain⟨a2,z6,z7,rfl,e7,m0,m1⟩:=hrel;obtain⟨z8,hwr⟩:∃w:World,w=wr:=⟨_,rfl⟩;subst hwr;obtain⟨c5,c6,rfl,z9,w3⟩:=e7.out.form;have A0:=e7.out.small;unfold maxLen at w3;go_wp2_with fail
  refine(vmore_any _ br str _ (decide (a2=0)) e7.out.st).mono ?_;intro e c7 c8;have e8:=hid (Bk.fr (m0.out) c8.fr a1);clear m0;have e9:=hid (Bk.fr (m1.out) c8.fr a0);rcases LI.more' e5 Sb.br e7.out c8 with⟨rfl,A1,a4⟩|⟨rfl,m2⟩
  ·clear c8
   have f0:=a4.out.st.lt;have a6:c7.heap.size≠br:=(Nat.ne_of_lt f0).symm;have m3:w.heap.size≠c7.heap.size:=Nat.ne_of_lt (e8.out).lt;have m4:(w.heap.size+1)≠c7.heap.size:=Nat.ne_of_lt (e9.out).lt;go_wp2_with fail
   refine(vwant_any _ br str _ 40 40 rfl (a4.out.st.alloc _)).mono ?_;rintro e A2⟨rfl,m5,c9⟩;obtain⟨A3,g7⟩:=QM.start' (b:=c7.heap.size) (ss:=[.int,(indexS N)]) m5 c9;have m6:=hid (Bk.fr (e8.out.alloc _) c9 a1);have m7:=hid (Bk.fr (e9.out.alloc _) c9 a0);have m8:=hid (Bk.fr (Bk.new c7 145 #[.int .i64 0,.int .i64 0,.slice none 0 0]) c9 a6);clear m5 c9;go_wp2_with fail
   refine(v_num.go _ br str _ g7.out.st).mono ?_;rintro e A4⟨v,rfl,b3⟩;obtain⟨a7,rfl⟩:=ty_int b3.1;rw[val_int];have m9:=hid (Bk.fr (m6.out) b3.fr a1);have n0:=hid (Bk.fr (m7.out) b3.fr a0);have f1:=hid (Bk.fr (m8.out) b3.fr a6);clear m6 m7 m8;have n1:=(f1.out).cell 0;have w4:=(f1.out).frozen 0;simp only[gq]at n1;obtain⟨A5,g8⟩:=QM.got' rfl g7.out b3 (Sb.box f0 _) a6 0 [.int .i64 a7];simp only[stores,Nat.reduceAdd]at g8;have g9:=hid g8;have h0:=Bk.storesFar m9.out m3 0 [.int .i64 a7];simp only[stores,Nat.reduceAdd]at h0;have n2:=hid h0;clear h0 m9;have h1:=Bk.storesFar n0.out m4 0 [.int .i64 a7];simp only[stores,Nat.reduceAdd]at h1;have n3:=hid h1;clear h1 n0;have h2:=Bk.stores (cs:=[.int .i64 0,.int .i64 0,.slice none 0 0]) 0 [.int .i64 a7] f1.out;simp only[stores,spl,List.set_cons_zero,List.set_cons_succ,Nat.reduceAdd]at h2;have n4:=hid h2;clear h2 f1;clear b3 g8 g7;go_wp2_with fail
   refine(vspace_any _ br str _ g9.out.st).mono ?_;rintro e A6⟨rfl,n5,d0⟩;obtain⟨A7,h3⟩:=QInv.space' g9.out n5 d0;have n6:=hid (Bk.fr (n2.out) d0 a1);have n7:=hid (Bk.fr (n3.out) d0 a0);have n8:=hid (Bk.fr (n4.out) d0 a6);clear n1 w4 n2 n3 n4;clear n5 d0 g9;go_wp2_with fail
   refine((v_index N hN).go _ br str _ h3.out.st).mono ?_;rintro e A8⟨v,rfl,b4⟩;obtain⟨b5,b6,b7,b8,rfl⟩:=ty_index b4.1;rw[val_index];have n9:=hid (Bk.fr (n6.out) b4.fr a1);have o0:=hid (Bk.fr (n7.out) b4.fr a0);have b9:=hid (Bk.fr (n8.out) b4.fr a6);clear n6 n7 n8;have o1:=(b9.out).cell 1;have w5:=(b9.out).frozen 1;have o2:=(b9.out).cell 2;have w6:=(b9.out).frozen 2;simp only[gq]at o1 o2;obtain⟨A9,h4⟩:=QM.got' rfl h3.out b4 (Sb.box f0 _) a6 1 [.int .i64 b5,.slice b6 b7 b8];simp only[stores,Nat.reduceAdd]at h4;have h5:=hid h4;have h6:=Bk.storesFar n9.out m3 1 [.int .i64 b5,.slice b6 b7 b8];simp only[stores,Nat.reduceAdd]at h6;have o3:=hid h6;clear h6 n9;have h7:=Bk.storesFar o0.out m4 1 [.int .i64 b5,.slice b6 b7 b8];simp only[stores,Nat.reduceAdd]at h7;have o4:=hid h7;clear h7 o0;have h8:=Bk.stores (cs:=[.int .i64 a7,.int .i64 0,.slice none 0 0]) 1 [.int .i64 b5,.slice b6 b7 b8] b9.out;simp only[stores,spl,List.set_cons_zero,List.set_cons_succ,Nat.reduceAdd]at h8;have o5:=hid h8;clear h8 b9;clear b4 h4 h3;go_wp2_with fail
   refine(vwant_any _ br str _ 41 41 rfl h5.out.st).mono ?_;rintro e w7⟨rfl,o6,d1⟩;have o7:=QInv.last' (v:=[.int .i64 a7,.int .i64 b5,.slice b6 b7 b8]) rfl h5.out o6 d1 (Sb.box f0 _) rfl;have w8:=hid (Bk.fr (o3.out) d1 a1);have o8:=hid (Bk.fr (o4.out) d1 a0);have h9:=hid (Bk.fr (o5.out) d1 a6);clear o1 w5 o2 w6 o3 o4 o5;clear o6 d1 h5;have d2:=hid (RP.inner (c:=(w.heap.size+1)) o7.out ((Fr.refl _ _).alloc _) (Nat.le_refl _));clear o7;have o9:=(h9.out).cell 0;have p0:=(h9.out).cell 1;have p1:=(h9.out).cell 2;simp only[gq]at o9 p0 p1;obtain⟨xs,d3⟩:=a4.out.own e5 d2.out.fr;have w9:=Nat.le_trans a4.out.size d2.out.fr.size;have p2:Shape.sz (factorS N)=3:=sz_factor;rw[p2]at d3;have p3:=(o8.out).cell 0;simp only[gq]at p3;go_wp2_with (at_builtin;refine wpList_pushS w7 rfl _ _ 77 145 rfl Tryz.underlying77 3 40 vinfo_Factor (by decide) (by decide) _ _ a2 xs [.int .i64 a7,.int .i64 b5,.slice b6 b7 b8] (by rfl) d3 (by rfl) rfl d2.out.1.one (by omega) w9 ?_)
   intro g cap B0 j0 f2 p4 p5;rw[←p2]at d3 j0;obtain⟨B1,x0⟩:=LM.next' one_factor e5 l5 a4.out d2.out d3 j0 f2 p4 p5;have x1:=hid (LM.box a4.out w8.out w1 _ f2);have j1:=hid (LM.box a4.out o8.out w2 _ f2);clear d3 j0 f2 p4 p5 a4 d2 o9 p0 p1 p3;have x2:=(j1.out).cell 0;have B2:=(j1.out).frozen 0;simp only[gq]at x2;have p6:=hid (LI.put x0.out a0 e5 0 (.slice (some ⟨g,0,none⟩) (a2+1) cap));have p7:=(x1.out).far (p:=⟨(w.heap.size+1),0,none⟩) hd0 (.slice (some ⟨g,0,none⟩) (a2+1) cap);have x3:=hid p7;clear p7;have j2:=(j1.out).set 0 (.slice (some ⟨g,0,none⟩) (a2+1) cap);simp only[List.setIfInBounds_toArray,List.set_cons_succ,List.set_cons_zero]at j2;have p8:=hid j2;clear j2;have B3:=p6.out.small;go_wp2;go_roundw
   case rel=>exact⟨_,_,_,by simp,p6,x3,p8⟩
   case measure=>rw[lenAt_of (n:=a2) m1.out rfl,lenAt_of (n:=a2+1) p8.out rfl];omega
  clear c8;obtain⟨B4,j3⟩:=QM.next' rfl c4.out m2.out hS0;clear c4 m2;go_wp2_with fail
  refine(vspace_any _ br str _ j3.out.st).mono ?_;rintro e x4⟨rfl,p9,f3⟩;obtain⟨x5,d4⟩:=QInv.space' j3.out p9 f3;have j4:=hid (Bk.fr (e8.out) f3 a1);have f4:=hid (Bk.fr (e9.out) f3 a0);clear e8 e9;clear p9 f3 j3;have q0:=(d4.out.st).lt;have f5:=Sb.lt (b:=(w.heap.size+1)) q0 (f4.out).lt;have x6:=(j4.out).lt;have x7:=(f4.out).lt;go_wp2_with fail
  refine(vwant_any _ br str _ 40 40 rfl d4.out.st).mono ?_;rintro e B5⟨rfl,q1,f6⟩;obtain⟨B6,q2⟩:=LI.start' (S:=(Sb br (w.heap.size+1))) (s:=atomS) (e:=150) (d4.out.st) q1 (frb f6);have q3:=hid (Bk.fr (j4.out) f6 a1);have q4:=hid (Bk.fr (f4.out) f6 a0);clear j4 f4;clear q1 f6;go_wp2;go_loopw [6] (fun fv wr=>∃(nn:Nat) (oo:Option (List UInt8)) (lv:Value),fv = .bool (decide (nn=0))∧Hid (LI (Sb br (w.heap.size+1)) atomS 150 br str x5 x4 lv nn oo wr)∧Hid (Bk wr w.heap.size 80 #[.slice none 0 0,.slice none 0 0])∧Hid (Bk wr (w.heap.size+1) 80 #[.slice c5 a2 c6,lv])) (fun _ wr=>262146-lenAt wr (w.heap.size+1) 1)
  case atStart=>exact⟨0,_,_,rfl,q2,q3,q4⟩
  case round=>
   clear q2 q3 q4;obtain⟨a3,B7,B8,rfl,f7,q5,q6⟩:=hrel;obtain⟨B9,hwr⟩:∃w:World,w=wr:=⟨_,rfl⟩;subst hwr;obtain⟨f8,f9,rfl,C0,x8⟩:=f7.out.form;have C1:=f7.out.small;unfold maxLen at x8;go_wp2_with fail
   refine(vmore_any _ br str _ (decide (a3=0)) f7.out.st).mono ?_;intro e d5 d6;have g0:=hid (Bk.fr (q5.out) d6.fr a1);clear q5;have g1:=hid (Bk.fr (q6.out) d6.fr a0);rcases LI.more' f5 Sb.br f7.out d6 with⟨rfl,C2,a5⟩|⟨rfl,q7⟩
   ·clear d6
    have g2:=a5.out.st.lt;have a8:d5.heap.size≠br:=(Nat.ne_of_lt g2).symm;have q8:w.heap.size≠d5.heap.size:=Nat.ne_of_lt (g0.out).lt;have q9:(w.heap.size+1)≠d5.heap.size:=Nat.ne_of_lt (g1.out).lt;go_wp2_with fail
    refine(vwant_any _ br str _ 40 40 rfl (a5.out.st.alloc _)).mono ?_;rintro e C3⟨rfl,r0,d7⟩;obtain⟨C4,j5⟩:=QM.start' (b:=d5.heap.size) (ss:=[linS,.int]) r0 d7;have r1:=hid (Bk.fr (g0.out.alloc _) d7 a1);have r2:=hid (Bk.fr (g1.out.alloc _) d7 a0);have r3:=hid (Bk.fr (Bk.new d5 150 #[.int .i64 0,.slice none 0 0,.int .i64 0]) d7 a8);clear r0 d7;go_wp2_with fail
    refine(v_lin.go _ br str _ j5.out.st).mono ?_;rintro e C5⟨v,rfl,c0⟩;obtain⟨a9,b0,b1,b2,rfl⟩:=ty_lin c0.1;rw[val_lin];have r4:=hid (Bk.fr (r1.out) c0.fr a1);have r5:=hid (Bk.fr (r2.out) c0.fr a0);have c1:=hid (Bk.fr (r3.out) c0.fr a8);clear r1 r2 r3;have r6:=(c1.out).cell 0;have x9:=(c1.out).frozen 0;have r7:=(c1.out).cell 1;have y0:=(c1.out).frozen 1;simp only[gq]at r6 r7;obtain⟨C6,j6⟩:=QM.got' rfl j5.out c0 (Sb.box g2 _) a8 0 [.int .i64 a9,.slice b0 b1 b2];simp only[stores,Nat.reduceAdd]at j6;have j7:=hid j6;have j8:=Bk.storesFar r4.out q8 0 [.int .i64 a9,.slice b0 b1 b2];simp only[stores,Nat.reduceAdd]at j8;have r8:=hid j8;clear j8 r4;have j9:=Bk.storesFar r5.out q9 0 [.int .i64 a9,.slice b0 b1 b2];simp only[stores,Nat.reduceAdd]at j9;have r9:=hid j9;clear j9 r5;have k0:=Bk.stores (cs:=[.int .i64 0,.slice none 0 0,.int .i64 0]) 0 [.int .i64 a9,.slice b0 b1 b2] c1.out;simp only[stores,spl,List.set_cons_zero,List.set_cons_succ,Nat.reduceAdd]at k0;have s0:=hid k0;clear k0 c1;clear c0 j6 j5;go_wp2_with fail
    refine(vspace_any _ br str _ j7.out.st).mono ?_;rintro e C7⟨rfl,s1,d8⟩;obtain⟨C8,k1⟩:=QInv.space' j7.out s1 d8;have s2:=hid (Bk.fr (r8.out) d8 a1);have s3:=hid (Bk.fr (r9.out) d8 a0);have s4:=hid (Bk.fr (s0.out) d8 a8);clear r6 x9 r7 y0 r8 r9 s0;clear s1 d8 j7;go_wp2_with fail
    refine(v_num.go _ br str _ k1.out.st).mono ?_;rintro e C9⟨v,rfl,c2⟩;obtain⟨c3,rfl⟩:=ty_int c2.1;rw[val_int];have s5:=hid (Bk.fr (s2.out) c2.fr a1);have s6:=hid (Bk.fr (s3.out) c2.fr a0);have g3:=hid (Bk.fr (s4.out) c2.fr a8);clear s2 s3 s4;have s7:=(g3.out).cell 2;have y1:=(g3.out).frozen 2;simp only[gq]at s7;obtain⟨D0,k2⟩:=QM.got' rfl k1.out c2 (Sb.box g2 _) a8 2 [.int .i64 c3];simp only[stores,Nat.reduceAdd]at k2;have k3:=hid k2;have k4:=Bk.storesFar s5.out q8 2 [.int .i64 c3];simp only[stores,Nat.reduceAdd]at k4;have s8:=hid k4;clear k4 s5;have k5:=Bk.storesFar s6.out q9 2 [.int .i64 c3];simp only[stores,Nat.reduceAdd]at k5;have s9:=hid k5;clear k5 s6;have k6:=Bk.stores (cs:=[.int .i64 a9,.slice b0 b1 b2,.int .i64 0]) 2 [.int .i64 c3] g3.out;simp only[stores,spl,List.set_cons_zero,List.set_cons_succ,Nat.reduceAdd]at k6;have t0:=hid k6;clear k6 g3;clear c2 k2 k1;go_wp2_with fail
    refine(vwant_any _ br str _ 41 41 rfl k3.out.st).mono ?_;rintro e y2⟨rfl,t1,d9⟩;have t2:=QInv.last' (v:=[.int .i64 a9,.slice b0 b1 b2,.int .i64 c3]) rfl k3.out t1 d9 (Sb.box g2 _) rfl;have y3:=hid (Bk.fr (s8.out) d9 a1);have t3:=hid (Bk.fr (s9.out) d9 a0);have k7:=hid (Bk.fr (t0.out) d9 a8);clear s7 y1 s8 s9 t0;clear t1 d9 k3;have e0:=hid (RP.inner (c:=(w.heap.size+1)) t2.out ((Fr.refl _ _).alloc _) (Nat.le_refl _));clear t2;have t4:=(k7.out).cell 0;have t5:=(k7.out).cell 1;have t6:=(k7.out).cell 2;simp only[gq]at t4 t5 t6;obtain⟨xs,e1⟩:=a5.out.own f5 e0.out.fr;have y4:=Nat.le_trans a5.out.size e0.out.fr.size;have t7:Shape.sz atomS=3:=sz_atom;rw[t7]at e1;have t8:=(t3.out).cell 1;simp only[gq]at t8;go_wp2_with (at_builtin;refine wpList_pushS y2 rfl _ _ 78 150 rfl Tryz.underlying78 3 40 vinfo_Atom (by decide) (by decide) _ _ a3 xs [.int .i64 a9,.slice b0 b1 b2,.int .i64 c3] (by rfl) e1 (by rfl) rfl e0.out.1.one (by omega) y4 ?_)
    intro g cap D1 k8 g4 t9 v0;rw[←t7]at e1 k8;obtain⟨D2,y5⟩:=LM.next' one_atom f5 q0 a5.out e0.out e1 k8 g4 t9 v0;have y6:=hid (LM.box a5.out y3.out x6 _ g4);have k9:=hid (LM.box a5.out t3.out x7 _ g4);clear e1 k8 g4 t9 v0 a5 e0 t4 t5 t6 t8;have y7:=(k9.out).cell 1;have D3:=(k9.out).frozen 1;simp only[gq]at y7;have v1:=hid (LI.put y5.out a0 f5 1 (.slice (some ⟨g,0,none⟩) (a3+1) cap));have v2:=(y6.out).far (p:=⟨(w.heap.size+1),1,none⟩) hd0 (.slice (some ⟨g,0,none⟩) (a3+1) cap);have y8:=hid v2;clear v2;have l0:=(k9.out).set 1 (.slice (some ⟨g,0,none⟩) (a3+1) cap);simp only[List.setIfInBounds_toArray,List.set_cons_succ,List.set_cons_zero]at l0;have v3:=hid l0;clear l0;have D4:=v1.out.small;go_wp2;go_roundw
    case rel=>exact⟨_,_,_,by simp,v1,y8,v3⟩
    case measure=>rw[lenAt_of (n:=a3) q6.out rfl,lenAt_of (n:=a3+1) v3.out rfl];omega
   clear d6;obtain⟨D5,l1⟩:=QM.next' rfl d4.out q7.out hS0;clear d4 q7;go_wp2_with fail
   refine(vwant_any _ br str _ 41 41 rfl l1.out.st).mono ?_;rintro e D6⟨rfl,v4,g5⟩;have y9:=QInv.last' (v:=[.slice c5 a2 c6,.slice f8 a3 f9]) rfl l1.out v4 g5 hS0 rfl;have e2:=hid (Bk.fr (g0.out) g5 a1);have v5:=hid (Bk.fr (g1.out) g5 a0);clear g0 g1;clear v4 g5 l1;have z0:=(v5.out).cell 0;have z1:=(v5.out).cell 1;simp only[gq]at z0 z1;have z2:=(e2.out).cell 0;have D7:=(e2.out).frozen 0;have z3:=(e2.out).cell 1;have D8:=(e2.out).frozen 1;simp only[gq]at z2 z3;have v6:=RP.retB y9.out (((Fr.refl _ _).alloc _).alloc _) (by omega) (Nat.le_refl _) (hS0 br Sb.br) (hS0 _ Sb.b) (by simp;omega) a1 [.slice c5 a2 c6,.slice f8 a3 f9]
   have l2:=Bk.stores (cs:=[.slice none 0 0,.slice none 0 0]) 0 [.slice c5 a2 c6,.slice f8 a3 f9] (e2.out);simp only[stores,spl,List.set_cons_zero,List.set_cons_succ,Nat.reduceAdd]at v6 l2;go_wp2;have v7:=l2.cell 0;have v8:=l2.cell 1;simp only[gq]at v7 v8;refine bodyPost_ret (v:= .agg #[.slice c5 a2 c6,.slice f8 a3 f9]) (by simp[results,Tryz.results133,go_sem,v7,v8]) rfl ?_
   exact v6
set_option maxHeartbeats 16000000 in
set_option maxRecDepth 100000 in
theorem v_poly(N:Nat)(hN:262144≤N):VReads 54 (.list (termS N)) 262144:=by
 intro w br str o hr hl;have h6:=hr.lt;have HR:=hid hr;have HL:=hid hl;clear hr hl;go_enter Tryz.func54,Tryz.ntmps54
 have d9:=(HR.out).lt;have c4:=eq_lt d9;go_wp2_with fail
 refine(vwant_any _ br str _ 40 40 rfl HR.out).mono ?_;rintro e h7⟨rfl,e0,e1⟩;obtain⟨h8,e2⟩:=LI.start' (S:=(· = br)) (s:=(termS N)) (e:=139) (HR.out) e0 e1
 clear e0 e1;go_wp2;go_loopw [3,4] (fun lv fv wr=>∃(nn:Nat) (oo:Option (List UInt8)),fv = .bool (decide (nn=0))∧Hid (LI (· = br) (termS N) 139 br str o w lv nn oo wr)) (fun lv _ _=>262146-lenOf lv)
 case atStart=>exact⟨0,_,rfl,e2⟩
 case round=>
  clear e2;obtain⟨e3,h9,rfl,b4⟩:=hrel;obtain⟨j0,hwr⟩:∃w:World,w=wr:=⟨_,rfl⟩;subst hwr;obtain⟨j1,j2,rfl,j3,g7⟩:=b4.out.form;have j4:=b4.out.small;unfold maxLen at g7;go_wp2_with fail
  refine(vmore_any _ br str _ (decide (e3=0)) b4.out.st).mono ?_;intro e c5 c6;rcases LI.more' c4 (rfl:br=br) b4.out c6 with⟨rfl,j5,a2⟩|⟨rfl,g8⟩
  ·clear c6
   have b5:=a2.out.st.lt;have a1:c5.heap.size≠br:=(Nat.ne_of_lt b5).symm;go_wp2_with fail
   refine(vwant_any _ br str _ 40 40 rfl (a2.out.st.alloc _)).mono ?_;rintro e j6⟨rfl,e4,c7⟩;obtain⟨j7,c8⟩:=QM.start' (b:=c5.heap.size) (ss:=[.rat,(monoS N)]) e4 c7;have e5:=hid (Bk.fr (Bk.new c5 139 #[.bool false,.slice none 0 0,.slice none 0 0,.slice none 0 0,.slice none 0 0]) c7 a1);clear e4 c7;go_wp2_with fail
   refine(v_rat.go _ br str _ c8.out.st).mono ?_;rintro e j8⟨v,rfl,b6⟩;obtain⟨a4,a5,a6,a7,a8,a9,b0,rfl⟩:=ty_rat b6.1;rw[val_rat];have a0:=hid (Bk.fr (e5.out) b6.fr a1);clear e5;have e6:=(a0.out).cell 0;have g9:=(a0.out).frozen 0;have e7:=(a0.out).cell 1;have h0:=(a0.out).frozen 1;have e8:=(a0.out).cell 2;have h1:=(a0.out).frozen 2;simp only[gq]at e6 e7 e8;obtain⟨j9,c9⟩:=QM.got' rfl c8.out b6 (Sb.box b5 _) a1 0 [.bool a4,.slice a5 a6 a7,.slice a8 a9 b0];simp only[stores,Nat.reduceAdd]at c9;have d0:=hid c9;have d1:=Bk.stores (cs:=[.bool false,.slice none 0 0,.slice none 0 0,.slice none 0 0,.slice none 0 0]) 0 [.bool a4,.slice a5 a6 a7,.slice a8 a9 b0] a0.out;simp only[stores,spl,List.set_cons_zero,List.set_cons_succ,Nat.reduceAdd]at d1;have e9:=hid d1;clear d1 a0;clear b6 c9 c8;go_wp2_with fail
   refine(vspace_any _ br str _ d0.out.st).mono ?_;rintro e k0⟨rfl,f0,d2⟩;obtain⟨k1,d3⟩:=QInv.space' d0.out f0 d2;have f1:=hid (Bk.fr (e9.out) d2 a1);clear e6 g9 e7 h0 e8 h1 e9;clear f0 d2 d0;go_wp2_with fail
   refine((v_mono N hN).go _ br str _ d3.out.st).mono ?_;rintro e k2⟨v,rfl,b7⟩;obtain⟨b8,b9,c0,c1,c2,c3,rfl⟩:=ty_mono b7.1;rw[val_mono];have a3:=hid (Bk.fr (f1.out) b7.fr a1);clear f1;have f2:=(a3.out).cell 3;have h2:=(a3.out).frozen 3;have f3:=(a3.out).cell 4;have h3:=(a3.out).frozen 4;simp only[gq]at f2 f3;obtain⟨k3,d4⟩:=QM.got' rfl d3.out b7 (Sb.box b5 _) a1 3 [.slice b8 b9 c0,.slice c1 c2 c3];simp only[stores,Nat.reduceAdd]at d4;have d5:=hid d4;have d6:=Bk.stores (cs:=[.bool a4,.slice a5 a6 a7,.slice a8 a9 b0,.slice none 0 0,.slice none 0 0]) 3 [.slice b8 b9 c0,.slice c1 c2 c3] a3.out;simp only[stores,spl,List.set_cons_zero,List.set_cons_succ,Nat.reduceAdd]at d6;have f4:=hid d6;clear d6 a3;clear b7 d4 d3;go_wp2_with fail
   refine(vwant_any _ br str _ 41 41 rfl d5.out.st).mono ?_;rintro e h4⟨rfl,f5,d7⟩;have f6:=QInv.last' (v:=[.bool a4,.slice a5 a6 a7,.slice a8 a9 b0,.slice b8 b9 c0,.slice c1 c2 c3]) rfl d5.out f5 d7 (Sb.box b5 _) rfl;have b1:=hid (Bk.fr (f4.out) d7 a1);clear f2 h2 f3 h3 f4;clear f5 d7 d5;have b2:=hid (RP.inner0 f6.out ((Fr.refl _ _).alloc _) (Nat.le_refl _));clear f6;have f7:=(b1.out).cell 0;have f8:=(b1.out).cell 1;have f9:=(b1.out).cell 2;have g0:=(b1.out).cell 3;have g1:=(b1.out).cell 4;simp only[gq]at f7 f8 f9 g0 g1;obtain⟨xs,b3⟩:=a2.out.own c4 b2.out.fr;have h5:=Nat.le_trans a2.out.size b2.out.fr.size;have g2:Shape.sz (termS N)=5:=sz_term;rw[g2]at b3;go_wp2_with (at_builtin;refine wpList_pushS h4 rfl _ _ 58 139 rfl Tryz.underlying58 5 104 vinfo_Term (by decide) (by decide) _ _ e3 xs [.bool a4,.slice a5 a6 a7,.slice a8 a9 b0,.slice b8 b9 c0,.slice c1 c2 c3] (by rfl) b3 (by rfl) rfl b2.out.1.one (by omega) h5 ?_)
   intro g cap k4 d8 g3 g4 g5;rw[←g2]at b3 d8;obtain⟨k5,g6⟩:=LM.next' one_term c4 d9 a2.out b2.out b3 d8 g3 g4 g5;clear b3 d8 g3 g4 g5 a2 b2 f7 f8 f9 g0 g1;have k6:=g6.out.small;go_wp2;go_roundw
   case rel=>exact⟨_,_,by simp,g6⟩
   case measure=>simp[lenOf];omega
  clear c6;go_wp2;go_ret
  exact⟨_,rfl,g8.out⟩
set_option maxHeartbeats 16000000 in
set_option maxRecDepth 100000 in
theorem v_targets(N:Nat)(hN:262144≤N):VReads 55 (.list (targetS N)) 262144:=by
 intro w br str o hr hl;have t2:=hr.lt;have HR:=hid hr;have HL:=hid hl;clear hr hl;go_enter Tryz.func55,Tryz.ntmps55
 have k3:=(HR.out).lt;have f3:=eq_lt k3;go_wp2_with fail
 refine(vwant_any _ br str _ 40 40 rfl HR.out).mono ?_;rintro e t3⟨rfl,k4,k5⟩;obtain⟨t4,k6⟩:=LI.start' (S:=(· = br)) (s:=(targetS N)) (e:=87) (HR.out) k4 k5
 clear k4 k5;go_wp2;go_loopw [3,4] (fun lv fv wr=>∃(nn:Nat) (oo:Option (List UInt8)),fv = .bool (decide (nn=0))∧Hid (LI (· = br) (targetS N) 87 br str o w lv nn oo wr)) (fun lv _ _=>262146-lenOf lv)
 case atStart=>exact⟨0,_,rfl,k6⟩
 case round=>
  clear k6;obtain⟨k7,t5,rfl,d4⟩:=hrel;obtain⟨t6,hwr⟩:∃w:World,w=wr:=⟨_,rfl⟩;subst hwr;obtain⟨t7,t8,rfl,t9,r2⟩:=d4.out.form;have v0:=d4.out.small;unfold maxLen at r2;go_wp2_with fail
  refine(vmore_any _ br str _ (decide (k7=0)) d4.out.st).mono ?_;intro e a1 f4;rcases LI.more' f3 (rfl:br=br) d4.out f4 with⟨rfl,v1,a7⟩|⟨rfl,r3⟩
  ·clear f4
   have b8:=a7.out.st.lt;have a0:a1.heap.size≠br:=(Nat.ne_of_lt b8).symm;go_wp2_with fail
   refine(vwant_any _ br str _ 40 40 rfl (a7.out.st.alloc _)).mono ?_;rintro e v2⟨rfl,k8,f5⟩;obtain⟨v3,f6⟩:=QM.start' (b:=a1.heap.size) (ss:=[.int,(.list (useS N)),(.list (termS N))]) k8 f5;have k9:=hid (Bk.fr (Bk.new a1 87 #[.int .i64 0,.slice none 0 0,.slice none 0 0]) f5 a0);clear k8 f5;go_wp2_with fail
   refine(v_num.go _ br str _ f6.out.st).mono ?_;rintro e v4⟨v,rfl,d5⟩;obtain⟨a8,rfl⟩:=ty_int d5.1;rw[val_int];have d6:=hid (Bk.fr (k9.out) d5.fr a0);clear k9;have l0:=(d6.out).cell 0;have r4:=(d6.out).frozen 0;simp only[gq]at l0;obtain⟨v5,f7⟩:=QM.got' rfl f6.out d5 (Sb.box b8 _) a0 0 [.int .i64 a8];simp only[stores,Nat.reduceAdd]at f7;have f8:=hid f7;have f9:=Bk.stores (cs:=[.int .i64 0,.slice none 0 0,.slice none 0 0]) 0 [.int .i64 a8] d6.out;simp only[stores,spl,List.set_cons_zero,List.set_cons_succ,Nat.reduceAdd]at f9;have l1:=hid f9;clear f9 d6;clear d5 f7 f6;go_wp2_with fail
   refine(vspace_any _ br str _ f8.out.st).mono ?_;rintro e r5⟨rfl,l2,g0⟩;obtain⟨r6,b9⟩:=QInv.space' f8.out l2 g0;have d7:=hid (Bk.fr (l1.out) g0 a0);clear l0 r4 l1;clear l2 g0 f8;have l3:=(b9.out.st).lt;have d8:=Sb.lt (b:=a1.heap.size) l3 (d7.out).lt;have r7:=(d7.out).lt;go_wp2_with fail
   refine(vwant_any _ br str _ 40 40 rfl b9.out.st).mono ?_;rintro e v6⟨rfl,l4,g1⟩;obtain⟨v7,l5⟩:=LI.start' (S:=(Sb br a1.heap.size)) (s:=(useS N)) (e:=89) (b9.out.st) l4 (frb g1);have l6:=hid (Bk.fr (d7.out) g1 a0);clear d7;clear l4 g1;go_wp2;go_loopw [6] (fun fv wr=>∃(nn:Nat) (oo:Option (List UInt8)) (lv:Value),fv = .bool (decide (nn=0))∧Hid (LI (Sb br a1.heap.size) (useS N) 89 br str r6 r5 lv nn oo wr)∧Hid (Bk wr a1.heap.size 87 #[.int .i64 a8,lv,.slice none 0 0])) (fun _ wr=>262146-lenAt wr a1.heap.size 1)
   case atStart=>exact⟨0,_,_,rfl,l5,l6⟩
   case round=>
    clear l5 l6;obtain⟨a3,v8,v9,rfl,d9,l7⟩:=hrel;obtain⟨w0,hwr⟩:∃w:World,w=wr:=⟨_,rfl⟩;subst hwr;obtain⟨g2,g3,rfl,w1,r8⟩:=d9.out.form;have w2:=d9.out.small;unfold maxLen at r8;go_wp2_with fail
    refine(vmore_any _ br str _ (decide (a3=0)) d9.out.st).mono ?_;intro e e0 e1;have e2:=hid (Bk.fr (l7.out) e1.fr a0);rcases LI.more' d8 Sb.br d9.out e1 with⟨rfl,w3,a5⟩|⟨rfl,l8⟩
    ·clear e1
     have c0:=a5.out.st.lt;have a2:e0.heap.size≠br:=(Nat.ne_of_lt c0).symm;have g4:a1.heap.size≠e0.heap.size:=Nat.ne_of_lt (e2.out).lt;go_wp2_with fail
     refine(vwant_any _ br str _ 40 40 rfl (a5.out.st.alloc _)).mono ?_;rintro e w4⟨rfl,l9,e3⟩;obtain⟨w5,g5⟩:=QM.start' (b:=e0.heap.size) (ss:=[.int,.rat,(monoS N)]) l9 e3;have m0:=hid (Bk.fr (e2.out.alloc _) e3 a0);have m1:=hid (Bk.fr (Bk.new e0 89 #[.int .i64 0,.bool false,.slice none 0 0,.slice none 0 0,.slice none 0 0,.slice none 0 0]) e3 a2);clear l9 e3;go_wp2_with fail
     refine(v_num.go _ br str _ g5.out.st).mono ?_;rintro e w6⟨v,rfl,c1⟩;obtain⟨a6,rfl⟩:=ty_int c1.1;rw[val_int];have m2:=hid (Bk.fr (m0.out) c1.fr a0);have e4:=hid (Bk.fr (m1.out) c1.fr a2);clear m0 m1;have m3:=(e4.out).cell 0;have r9:=(e4.out).frozen 0;simp only[gq]at m3;obtain⟨w7,g6⟩:=QM.got' rfl g5.out c1 (Sb.box c0 _) a2 0 [.int .i64 a6];simp only[stores,Nat.reduceAdd]at g6;have g7:=hid g6;have g8:=Bk.storesFar m2.out g4 0 [.int .i64 a6];simp only[stores,Nat.reduceAdd]at g8;have m4:=hid g8;clear g8 m2;have g9:=Bk.stores (cs:=[.int .i64 0,.bool false,.slice none 0 0,.slice none 0 0,.slice none 0 0,.slice none 0 0]) 0 [.int .i64 a6] e4.out;simp only[stores,spl,List.set_cons_zero,List.set_cons_succ,Nat.reduceAdd]at g9;have m5:=hid g9;clear g9 e4;clear c1 g6 g5;go_wp2_with fail
     refine(vspace_any _ br str _ g7.out.st).mono ?_;rintro e w8⟨rfl,m6,e5⟩;obtain⟨w9,h0⟩:=QInv.space' g7.out m6 e5;have m7:=hid (Bk.fr (m4.out) e5 a0);have m8:=hid (Bk.fr (m5.out) e5 a2);clear m3 r9 m4 m5;clear m6 e5 g7;go_wp2_with fail
     refine(v_rat.go _ br str _ h0.out.st).mono ?_;rintro e x0⟨v,rfl,c2⟩;obtain⟨a9,b0,b1,b2,b3,b4,b5,rfl⟩:=ty_rat c2.1;rw[val_rat];have m9:=hid (Bk.fr (m7.out) c2.fr a0);have a4:=hid (Bk.fr (m8.out) c2.fr a2);clear m7 m8;have n0:=(a4.out).cell 1;have s0:=(a4.out).frozen 1;have n1:=(a4.out).cell 2;have s1:=(a4.out).frozen 2;have n2:=(a4.out).cell 3;have s2:=(a4.out).frozen 3;simp only[gq]at n0 n1 n2;obtain⟨x1,h1⟩:=QM.got' rfl h0.out c2 (Sb.box c0 _) a2 1 [.bool a9,.slice b0 b1 b2,.slice b3 b4 b5];simp only[stores,Nat.reduceAdd]at h1;have h2:=hid h1;have h3:=Bk.storesFar m9.out g4 1 [.bool a9,.slice b0 b1 b2,.slice b3 b4 b5];simp only[stores,Nat.reduceAdd]at h3;have n3:=hid h3;clear h3 m9;have h4:=Bk.stores (cs:=[.int .i64 a6,.bool false,.slice none 0 0,.slice none 0 0,.slice none 0 0,.slice none 0 0]) 1 [.bool a9,.slice b0 b1 b2,.slice b3 b4 b5] a4.out;simp only[stores,spl,List.set_cons_zero,List.set_cons_succ,Nat.reduceAdd]at h4;have n4:=hid h4;clear h4 a4;clear c2 h1 h0;go_wp2_with fail
     refine(vspace_any _ br str _ h2.out.st).mono ?_;rintro e x2⟨rfl,n5,e6⟩;obtain⟨x3,h5⟩:=QInv.space' h2.out n5 e6;have n6:=hid (Bk.fr (n3.out) e6 a0);have n7:=hid (Bk.fr (n4.out) e6 a2);clear n0 s0 n1 s1 n2 s2 n3 n4;clear n5 e6 h2;go_wp2_with fail
     refine((v_mono N hN).go _ br str _ h5.out.st).mono ?_;rintro e x4⟨v,rfl,c3⟩;obtain⟨c4,c5,c6,c7,c8,c9,rfl⟩:=ty_mono c3.1;rw[val_mono];have n8:=hid (Bk.fr (n6.out) c3.fr a0);have b6:=hid (Bk.fr (n7.out) c3.fr a2);clear n6 n7;have n9:=(b6.out).cell 4;have s3:=(b6.out).frozen 4;have o0:=(b6.out).cell 5;have s4:=(b6.out).frozen 5;simp only[gq]at n9 o0;obtain⟨x5,h6⟩:=QM.got' rfl h5.out c3 (Sb.box c0 _) a2 4 [.slice c4 c5 c6,.slice c7 c8 c9];simp only[stores,Nat.reduceAdd]at h6;have h7:=hid h6;have h8:=Bk.storesFar n8.out g4 4 [.slice c4 c5 c6,.slice c7 c8 c9];simp only[stores,Nat.reduceAdd]at h8;have o1:=hid h8;clear h8 n8;have h9:=Bk.stores (cs:=[.int .i64 a6,.bool a9,.slice b0 b1 b2,.slice b3 b4 b5,.slice none 0 0,.slice none 0 0]) 4 [.slice c4 c5 c6,.slice c7 c8 c9] b6.out;simp only[stores,spl,List.set_cons_zero,List.set_cons_succ,Nat.reduceAdd]at h9;have o2:=hid h9;clear h9 b6;clear c3 h6 h5;go_wp2_with fail
     refine(vwant_any _ br str _ 41 41 rfl h7.out.st).mono ?_;rintro e s5⟨rfl,o3,e7⟩;have o4:=QInv.last' (v:=[.int .i64 a6,.bool a9,.slice b0 b1 b2,.slice b3 b4 b5,.slice c4 c5 c6,.slice c7 c8 c9]) rfl h7.out o3 e7 (Sb.box c0 _) rfl;have o5:=hid (Bk.fr (o1.out) e7 a0);have b7:=hid (Bk.fr (o2.out) e7 a2);clear n9 s3 o0 s4 o1 o2;clear o3 e7 h7;have d0:=hid (RP.inner (c:=a1.heap.size) o4.out ((Fr.refl _ _).alloc _) (Nat.le_refl _));clear o4;have o6:=(b7.out).cell 0;have o7:=(b7.out).cell 1;have o8:=(b7.out).cell 2;have o9:=(b7.out).cell 3;have p0:=(b7.out).cell 4;have p1:=(b7.out).cell 5;simp only[gq]at o6 o7 o8 o9 p0 p1;obtain⟨xs,d1⟩:=a5.out.own d8 d0.out.fr;have s6:=Nat.le_trans a5.out.size d0.out.fr.size;have p2:Shape.sz (useS N)=6:=sz_use;rw[p2]at d1;have p3:=(o5.out).cell 1;simp only[gq]at p3;go_wp2_with (at_builtin;refine wpList_pushS s5 rfl _ _ 85 89 rfl Tryz.underlying85 6 112 vinfo_Use (by decide) (by decide) _ _ a3 xs [.int .i64 a6,.bool a9,.slice b0 b1 b2,.slice b3 b4 b5,.slice c4 c5 c6,.slice c7 c8 c9] (by rfl) d1 (by rfl) rfl d0.out.1.one (by omega) s6 ?_)
     intro g cap x6 j0 j1 p4 p5;rw[←p2]at d1 j0;obtain⟨x7,s7⟩:=LM.next' one_use d8 l3 a5.out d0.out d1 j0 j1 p4 p5;have j2:=hid (LM.box a5.out o5.out r7 _ j1);clear d1 j0 j1 p4 p5 a5 d0 o6 o7 o8 o9 p0 p1 p3;have s8:=(j2.out).cell 1;have x8:=(j2.out).frozen 1;simp only[gq]at s8;have p6:=hid (LI.put s7.out a0 d8 1 (.slice (some ⟨g,0,none⟩) (a3+1) cap));have j3:=(j2.out).set 1 (.slice (some ⟨g,0,none⟩) (a3+1) cap);simp only[List.setIfInBounds_toArray,List.set_cons_succ,List.set_cons_zero]at j3;have p7:=hid j3;clear j3;have x9:=p6.out.small;go_wp2;go_roundw
     case rel=>exact⟨_,_,_,by simp,p6,p7⟩
     case measure=>rw[lenAt_of (n:=a3) l7.out rfl,lenAt_of (n:=a3+1) p7.out rfl];omega
    clear e1;obtain⟨y0,j4⟩:=QM.next' rfl b9.out l8.out (Sb.box b8 _);clear b9 l8;go_wp2_with fail
    refine(vspace_any _ br str _ j4.out.st).mono ?_;rintro e y1⟨rfl,p8,j5⟩;obtain⟨y2,j6⟩:=QInv.space' j4.out p8 j5;have p9:=hid (Bk.fr (e2.out) j5 a0);clear e2;clear p8 j5 j4;go_wp2_with fail
    refine((v_poly N hN).go _ br str _ j6.out.st).mono ?_;rintro e y3⟨v,rfl,e8⟩;obtain⟨e9,f0,f1,rfl⟩:=ty_list e8.1;rw[val_list];have f2:=hid (Bk.fr (p9.out) e8.fr a0);clear p9;have q0:=(f2.out).cell 2;have s9:=(f2.out).frozen 2;simp only[gq]at q0;obtain⟨y4,j7⟩:=QM.got' rfl j6.out e8 (Sb.box b8 _) a0 2 [.slice e9 f0 f1];simp only[stores,Nat.reduceAdd]at j7;have j8:=hid j7;have j9:=Bk.stores (cs:=[.int .i64 a8,.slice g2 a3 g3,.slice none 0 0]) 2 [.slice e9 f0 f1] f2.out;simp only[stores,spl,List.set_cons_zero,List.set_cons_succ,Nat.reduceAdd]at j9;have q1:=hid j9;clear j9 f2;clear e8 j7 j6;go_wp2_with fail
    refine(vwant_any _ br str _ 41 41 rfl j8.out.st).mono ?_;rintro e t0⟨rfl,q2,k0⟩;have q3:=QInv.last' (v:=[.int .i64 a8,.slice g2 a3 g3,.slice e9 f0 f1]) rfl j8.out q2 k0 (Sb.box b8 _) rfl;have k1:=hid (Bk.fr (q1.out) k0 a0);clear q0 s9 q1;clear q2 k0 j8;have d2:=hid (RP.inner0 q3.out ((Fr.refl _ _).alloc _) (Nat.le_refl _));clear q3;have q4:=(k1.out).cell 0;have q5:=(k1.out).cell 1;have q6:=(k1.out).cell 2;simp only[gq]at q4 q5 q6;obtain⟨xs,d3⟩:=a7.out.own f3 d2.out.fr;have t1:=Nat.le_trans a7.out.size d2.out.fr.size;have q7:Shape.sz (targetS N)=3:=sz_target;rw[q7]at d3;go_wp2_with (at_builtin;refine wpList_pushS t0 rfl _ _ 59 87 rfl Tryz.underlying59 3 56 vinfo_Target (by decide) (by decide) _ _ k7 xs [.int .i64 a8,.slice g2 a3 g3,.slice e9 f0 f1] (by rfl) d3 (by rfl) rfl d2.out.1.one (by omega) t1 ?_)
    intro g cap y5 k2 q8 q9 r0;rw[←q7]at d3 k2;obtain⟨y6,r1⟩:=LM.next' one_target f3 k3 a7.out d2.out d3 k2 q8 q9 r0;clear d3 k2 q8 q9 r0 a7 d2 q4 q5 q6;have y7:=r1.out.small;go_wp2;go_roundw
    case rel=>exact⟨_,_,by simp,r1⟩
    case measure=>simp[lenOf];omega
  clear f4;go_wp2;go_ret
  exact⟨_,rfl,r3.out⟩
set_option maxHeartbeats 16000000 in
set_option maxRecDepth 100000 in
theorem v_parts(N:Nat)(hN:262144≤N):VReads 56 (.list (useS N)) 262144:=by
 intro w br str o hr hl;have k0:=hr.lt;have HR:=hid hr;have HL:=hid hl;clear hr hl;go_enter Tryz.func56,Tryz.ntmps56
 have e7:=(HR.out).lt;have c7:=eq_lt e7;go_wp2_with fail
 refine(vwant_any _ br str _ 40 40 rfl HR.out).mono ?_;rintro e k1⟨rfl,e8,e9⟩;obtain⟨k2,f0⟩:=LI.start' (S:=(· = br)) (s:=(useS N)) (e:=82) (HR.out) e8 e9
 clear e8 e9;go_wp2;go_loopw [3,4] (fun lv fv wr=>∃(nn:Nat) (oo:Option (List UInt8)),fv = .bool (decide (nn=0))∧Hid (LI (· = br) (useS N) 82 br str o w lv nn oo wr)) (fun lv _ _=>262146-lenOf lv)
 case atStart=>exact⟨0,_,rfl,f0⟩
 case round=>
  clear f0;obtain⟨f1,k3,rfl,b6⟩:=hrel;obtain⟨k4,hwr⟩:∃w:World,w=wr:=⟨_,rfl⟩;subst hwr;obtain⟨k5,k6,rfl,k7,j0⟩:=b6.out.form;have k8:=b6.out.small;unfold maxLen at j0;go_wp2_with fail
  refine(vmore_any _ br str _ (decide (f1=0)) b6.out.st).mono ?_;intro e c8 c9;rcases LI.more' c7 (rfl:br=br) b6.out c9 with⟨rfl,k9,a2⟩|⟨rfl,j1⟩
  ·clear c9
   have a6:=a2.out.st.lt;have a0:c8.heap.size≠br:=(Nat.ne_of_lt a6).symm;go_wp2_with fail
   refine(vwant_any _ br str _ 40 40 rfl (a2.out.st.alloc _)).mono ?_;rintro e l0⟨rfl,f2,d0⟩;obtain⟨l1,d1⟩:=QM.start' (b:=c8.heap.size) (ss:=[.int,.rat,(monoS N)]) f2 d0;have f3:=hid (Bk.fr (Bk.new c8 82 #[.int .i64 0,.bool false,.slice none 0 0,.slice none 0 0,.slice none 0 0,.slice none 0 0]) d0 a0);clear f2 d0;go_wp2_with fail
   refine(v_num.go _ br str _ d1.out.st).mono ?_;rintro e l2⟨v,rfl,b7⟩;obtain⟨a3,rfl⟩:=ty_int b7.1;rw[val_int];have b8:=hid (Bk.fr (f3.out) b7.fr a0);clear f3;have f4:=(b8.out).cell 0;have j2:=(b8.out).frozen 0;simp only[gq]at f4;obtain⟨l3,d2⟩:=QM.got' rfl d1.out b7 (Sb.box a6 _) a0 0 [.int .i64 a3];simp only[stores,Nat.reduceAdd]at d2;have d3:=hid d2;have d4:=Bk.stores (cs:=[.int .i64 0,.bool false,.slice none 0 0,.slice none 0 0,.slice none 0 0,.slice none 0 0]) 0 [.int .i64 a3] b8.out;simp only[stores,spl,List.set_cons_zero,List.set_cons_succ,Nat.reduceAdd]at d4;have f5:=hid d4;clear d4 b8;clear b7 d2 d1;go_wp2_with fail
   refine(vspace_any _ br str _ d3.out.st).mono ?_;rintro e l4⟨rfl,f6,d5⟩;obtain⟨l5,d6⟩:=QInv.space' d3.out f6 d5;have f7:=hid (Bk.fr (f5.out) d5 a0);clear f4 j2 f5;clear f6 d5 d3;go_wp2_with fail
   refine(v_rat.go _ br str _ d6.out.st).mono ?_;rintro e l6⟨v,rfl,b9⟩;obtain⟨a7,a8,a9,b0,b1,b2,b3,rfl⟩:=ty_rat b9.1;rw[val_rat];have a1:=hid (Bk.fr (f7.out) b9.fr a0);clear f7;have f8:=(a1.out).cell 1;have j3:=(a1.out).frozen 1;have f9:=(a1.out).cell 2;have j4:=(a1.out).frozen 2;have g0:=(a1.out).cell 3;have j5:=(a1.out).frozen 3;simp only[gq]at f8 f9 g0;obtain⟨l7,d7⟩:=QM.got' rfl d6.out b9 (Sb.box a6 _) a0 1 [.bool a7,.slice a8 a9 b0,.slice b1 b2 b3];simp only[stores,Nat.reduceAdd]at d7;have d8:=hid d7;have d9:=Bk.stores (cs:=[.int .i64 a3,.bool false,.slice none 0 0,.slice none 0 0,.slice none 0 0,.slice none 0 0]) 1 [.bool a7,.slice a8 a9 b0,.slice b1 b2 b3] a1.out;simp only[stores,spl,List.set_cons_zero,List.set_cons_succ,Nat.reduceAdd]at d9;have g1:=hid d9;clear d9 a1;clear b9 d7 d6;go_wp2_with fail
   refine(vspace_any _ br str _ d8.out.st).mono ?_;rintro e l8⟨rfl,g2,e0⟩;obtain⟨l9,e1⟩:=QInv.space' d8.out g2 e0;have g3:=hid (Bk.fr (g1.out) e0 a0);clear f8 j3 f9 j4 g0 j5 g1;clear g2 e0 d8;go_wp2_with fail
   refine((v_mono N hN).go _ br str _ e1.out.st).mono ?_;rintro e m0⟨v,rfl,c0⟩;obtain⟨c1,c2,c3,c4,c5,c6,rfl⟩:=ty_mono c0.1;rw[val_mono];have a4:=hid (Bk.fr (g3.out) c0.fr a0);clear g3;have g4:=(a4.out).cell 4;have j6:=(a4.out).frozen 4;have g5:=(a4.out).cell 5;have j7:=(a4.out).frozen 5;simp only[gq]at g4 g5;obtain⟨m1,e2⟩:=QM.got' rfl e1.out c0 (Sb.box a6 _) a0 4 [.slice c1 c2 c3,.slice c4 c5 c6];simp only[stores,Nat.reduceAdd]at e2;have e3:=hid e2;have e4:=Bk.stores (cs:=[.int .i64 a3,.bool a7,.slice a8 a9 b0,.slice b1 b2 b3,.slice none 0 0,.slice none 0 0]) 4 [.slice c1 c2 c3,.slice c4 c5 c6] a4.out;simp only[stores,spl,List.set_cons_zero,List.set_cons_succ,Nat.reduceAdd]at e4;have g6:=hid e4;clear e4 a4;clear c0 e2 e1;go_wp2_with fail
   refine(vwant_any _ br str _ 41 41 rfl e3.out.st).mono ?_;rintro e j8⟨rfl,g7,e5⟩;have g8:=QInv.last' (v:=[.int .i64 a3,.bool a7,.slice a8 a9 b0,.slice b1 b2 b3,.slice c1 c2 c3,.slice c4 c5 c6]) rfl e3.out g7 e5 (Sb.box a6 _) rfl;have a5:=hid (Bk.fr (g6.out) e5 a0);clear g4 j6 g5 j7 g6;clear g7 e5 e3;have b4:=hid (RP.inner0 g8.out ((Fr.refl _ _).alloc _) (Nat.le_refl _));clear g8;have g9:=(a5.out).cell 0;have h0:=(a5.out).cell 1;have h1:=(a5.out).cell 2;have h2:=(a5.out).cell 3;have h3:=(a5.out).cell 4;have h4:=(a5.out).cell 5;simp only[gq]at g9 h0 h1 h2 h3 h4;obtain⟨xs,b5⟩:=a2.out.own c7 b4.out.fr;have j9:=Nat.le_trans a2.out.size b4.out.fr.size;have h5:Shape.sz (useS N)=6:=sz_use;rw[h5]at b5;go_wp2_with (at_builtin;refine wpList_pushS j8 rfl _ _ 60 82 rfl Tryz.underlying60 6 112 vinfo_Part (by decide) (by decide) _ _ f1 xs [.int .i64 a3,.bool a7,.slice a8 a9 b0,.slice b1 b2 b3,.slice c1 c2 c3,.slice c4 c5 c6] (by rfl) b5 (by rfl) rfl b4.out.1.one (by omega) j9 ?_)
   intro g cap m2 e6 h6 h7 h8;rw[←h5]at b5 e6;obtain⟨m3,h9⟩:=LM.next' one_use c7 e7 a2.out b4.out b5 e6 h6 h7 h8;clear b5 e6 h6 h7 h8 a2 b4 g9 h0 h1 h2 h3 h4;have m4:=h9.out.small;go_wp2;go_roundw
   case rel=>exact⟨_,_,by simp,h9⟩
   case measure=>simp[lenOf];omega
  clear c9;go_wp2;go_ret
  exact⟨_,rfl,j1.out⟩
end Go.Proofs.YtellcholbkoakaaGreatDoor
