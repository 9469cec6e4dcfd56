/-
 The reference's writer: Format (printed by tgen.py).
-/
import Derived.Test.YtellcholbkoakaaGreatDoorHTf
import Derived.Test.YtellcholbkoakaaGreatDoorHCAs
namespace Go.Proofs.YtellcholbkoakaaGreatDoor
open Go.Lib (hid)
open Go.RowKit AC
set_option linter.unusedVariables false
set_option linter.unusedSimpArgs false
theorem CFPost.yes{t T:List UInt8}{w w':World}(h:t=T)(hl:T.length≤262144)(hb:Below w.heap.size w w'):CFPost t w (.returned (.tuple #[.string ⟨T.toArray⟩,.int .i64 0])) w':=by
 subst h;exact⟨by rw[if_pos hl,if_pos hl],hb⟩
theorem CFPost.no{t T:List UInt8}{w w':World}(h:t=T)(hl:¬T.length≤262144)(hb:Below w.heap.size w w'):CFPost t w (.returned (.tuple #[.string ⟨#[]⟩,.int .i64 9])) w':=by
 subst h;exact⟨by rw[if_neg hl,if_neg hl],hb⟩
set_option maxHeartbeats 16000000 in
set_option maxRecDepth 100000 in
theorem t_FormatH(n:Nat)(hnode:Texts 63 (nodeS n))(w:World)(D:Nat→Prop)(v:List Value)(t:List UInt8)(hrep:Rep w D (certS n) v [t])(hl:t.length≤MX):Calls Tryz.prog 21 #[.agg v.toArray] w (CFPost t w):=by
 have HND:=hid hnode;clear hnode;obtain⟨_,s2,l13,_,t1,_,rfl,rfl,r7,l14,_,t2,_,rfl,rfl,r8,l15,_,t3,_,rfl,rfl,r9,l16,_,t4,_,rfl,rfl,r10,l17,_,t5,_,rfl,rfl,r11,l18,_,t6,_,rfl,rfl,r12,rfl,rfl⟩:=hrep;injection s2 with s2 _;obtain⟨f4,rfl⟩:=ty_bool r7.ty;obtain⟨_,s3,l25,_,t21,_,rfl,rfl,r23,l26,_,t22,_,rfl,rfl,r24,rfl,rfl⟩:=r8;injection s3 with s3 _;obtain⟨f5,f6,f7,rfl⟩:=ty_list r23.ty;obtain⟨f8,f9,j0,rfl⟩:=ty_list r24.ty;subst s3;obtain⟨s4,c8,s5,rfl⟩:=ty_list r9.ty;obtain⟨_,s6,l37,_,t31,_,rfl,rfl,r34,l38,_,t32,_,rfl,rfl,r35,l39,_,t33,_,rfl,rfl,r36,rfl,rfl⟩:=r10;injection s6 with s6 _;obtain⟨j1,j2,j3,rfl⟩:=ty_list r34.ty;obtain⟨j4,j5,j6,rfl⟩:=ty_list r35.ty;obtain⟨s7,c9,s8,rfl⟩:=ty_list r36.ty;subst s6;obtain⟨s9,d0,v0,rfl⟩:=ty_list r11.ty;obtain⟨v1,d1,v2,rfl⟩:=ty_list r12.ty;subst s2;have HL:=hid hl;clear hl;have C0:Hid (t1.length≤MX):=Nat.le_trans (par_len_at (fun i=>[t1,(par (fun i=>[t21,t22].getD i []) 2),t3,(par (fun i=>[t31,t32,t33].getD i []) 3),t5,t6].getD i []) (i:=0) (k:=6) (by decide)) (HL.out)
 have C1:=hid r7;clear r7;have v3:Hid ((par (fun i=>[t21,t22].getD i []) 2).length≤MX):=Nat.le_trans (par_len_at (fun i=>[t1,(par (fun i=>[t21,t22].getD i []) 2),t3,(par (fun i=>[t31,t32,t33].getD i []) 3),t5,t6].getD i []) (i:=1) (k:=6) (by decide)) (HL.out)
 have C2:Hid (t21.length≤MX):=Nat.le_trans (par_len_at (fun i=>[t21,t22].getD i []) (i:=0) (k:=2) (by decide)) (v3.out)
 have C3:=hid r23;clear r23;have C4:Hid (t22.length≤MX):=Nat.le_trans (par_len_at (fun i=>[t21,t22].getD i []) (i:=1) (k:=2) (by decide)) (v3.out)
 have C5:=hid r24;clear r24;have v4:Hid (t3.length≤MX):=Nat.le_trans (par_len_at (fun i=>[t1,(par (fun i=>[t21,t22].getD i []) 2),t3,(par (fun i=>[t31,t32,t33].getD i []) 3),t5,t6].getD i []) (i:=2) (k:=6) (by decide)) (HL.out)
 have C6:=hid r9;clear r9;have p4:Hid ((par (fun i=>[t31,t32,t33].getD i []) 3).length≤MX):=Nat.le_trans (par_len_at (fun i=>[t1,(par (fun i=>[t21,t22].getD i []) 2),t3,(par (fun i=>[t31,t32,t33].getD i []) 3),t5,t6].getD i []) (i:=3) (k:=6) (by decide)) (HL.out)
 have C7:Hid (t31.length≤MX):=Nat.le_trans (par_len_at (fun i=>[t31,t32,t33].getD i []) (i:=0) (k:=3) (by decide)) (p4.out)
 have C8:=hid r34;clear r34;have C9:Hid (t32.length≤MX):=Nat.le_trans (par_len_at (fun i=>[t31,t32,t33].getD i []) (i:=1) (k:=3) (by decide)) (p4.out)
 have D0:=hid r35;clear r35;have v5:Hid (t33.length≤MX):=Nat.le_trans (par_len_at (fun i=>[t31,t32,t33].getD i []) (i:=2) (k:=3) (by decide)) (p4.out)
 have D1:=hid r36;clear r36;have v6:Hid (t5.length≤MX):=Nat.le_trans (par_len_at (fun i=>[t1,(par (fun i=>[t21,t22].getD i []) 2),t3,(par (fun i=>[t31,t32,t33].getD i []) 3),t5,t6].getD i []) (i:=4) (k:=6) (by decide)) (HL.out)
 have D2:=hid r11;clear r11;have v7:Hid (t6.length≤MX):=Nat.le_trans (par_len_at (fun i=>[t1,(par (fun i=>[t21,t22].getD i []) 2),t3,(par (fun i=>[t31,t32,t33].getD i []) 3),t5,t6].getD i []) (i:=5) (k:=6) (by decide)) (HL.out)
 have D3:=hid r12;clear r12;show Calls Tryz.prog 21 #[.agg #[.bool f4,.slice f5 f6 f7,.slice f8 f9 j0,.slice s4 c8 s5,.slice j1 j2 j3,.slice j4 j5 j6,.slice s7 c9 s8,.slice s9 d0 v0,.slice v1 d1 v2]] w _
 go_enter Tryz.func21,Tryz.ntmps21
 have y2:=hid (Below.refl w.heap.size w);go_upto_region 1 with(fail)
 obtain⟨W66,p5⟩:∃W,W=w.alloc (.cells #[.bool f4,.slice f5 f6 f7,.slice f8 f9 j0,.slice s4 c8 s5,.slice j1 j2 j3,.slice j4 j5 j6,.slice s7 c9 s8,.slice s9 d0 v0,.slice v1 d1 v2] 34):=⟨_,rfl⟩;have y3:Below w.heap.size w W66:=by rw[p5];exact(Below.refl _ _).alloc (Nat.le_refl _) _
 have y4:=hid (y2.out.trans (y3.mono y2.out.size));have v8:Hid (Bk W66 w.heap.size 34 #[.bool f4,.slice f5 f6 f7,.slice f8 f9 j0,.slice s4 c8 s5,.slice j1 j2 j3,.slice j4 j5 j6,.slice s7 c9 s8,.slice s9 d0 v0,.slice v1 d1 v2]):=by rw[p5];exact Bk.new _ _ _
 rw[←p5];clear p5 y3;obtain⟨J5,_,_⟩:=v8.out.facts;obtain⟨D4,a9,D5,J6,D6,y5,y6⟩:=C6.out.unlist;subst D5;have D7:=hid y5;have D8:=hid y6;have J7:c8≤100000000:=Nat.le_trans (par_len_ge a9 c8) v4.out;unfold maxLen at D6;clear y5 y6;go_wp2;have y7:=hid (TI.start a9 (Below.refl W66.heap.size W66));go_loopw [4,21] (fun ov iv wr=>∃(k:Nat),k≤c8∧iv = .int .i64 k∧Hid (TI a9 W66 ov k wr)) (fun _ iv _=>c8-(intOf iv).toNat)
 case atStart=>exact⟨0,by omega,rfl,y7⟩
 obtain⟨k84,J8,rfl,p6⟩:=hrel;clear y7;obtain⟨b8,hwr⟩:∃w:World,w=wr:=⟨_,rfl⟩;subst hwr;obtain⟨l3,l4,rfl,_,_⟩:=p6.out.form;have v9:=p6.out.2;have k2:=hid (y4.out.trans (v9.mono y4.out.size));have l5:=hid (v8.out.below v9 v8.out.lt);clear v9;by_cases hlt:k84<c8
 ·obtain⟨b93,p7,hAx,_,y8,w0⟩:=D7.out (by omega)
  subst hAx;have y9:=D8.out k84 hlt;obtain⟨u97,p8⟩:∃u,D4 k84=u:=⟨_,rfl⟩;rw[p8]at y9;have w1:Hid ((a9 k84).length≤MX):=Nat.le_trans (par_len_at a9 hlt) v4.out;have w2:Shape.sz relationS=2:=sz_relation;obtain⟨_,p9,J9,_,b0,_,rfl,rfl,w3,K0,_,b2,_,rfl,rfl,w5,rfl,rfl⟩:=y9;injection p9 with p9 _;obtain⟨d2,d3,d4,rfl⟩:=ty_list w3.ty;obtain⟨d5,d6,d7,rfl⟩:=ty_list w5.ty;have q0:=hid p9;have D9:Hid (b0.length≤MX):=Nat.le_trans (par_len_at (fun i=>[b0,b2].getD i []) (i:=0) (k:=2) (by decide)) (len_eq q0.out w1.out)
  have E0:=hid w3;clear w3;have E1:Hid (b2.length≤MX):=Nat.le_trans (par_len_at (fun i=>[b0,b2].getD i []) (i:=1) (k:=2) (by decide)) (len_eq q0.out w1.out)
  have E2:=hid w5;clear w5;clear p9;have j7:b8.cell? ⟨b93,p7+k84*2,none⟩=some (.slice d2 d3 d4):=by
   have h9:=(k2.out.cell (p:=⟨b93,p7+k84*Shape.sz relationS+0,none⟩) y8).trans (w0 k84 hlt 0 (.slice d2 d3 d4) (by rw[p8];rfl))
   rw[w2]at h9;simpa using h9
  have j8:b8.cell? ⟨b93,p7+k84*2+1,none⟩=some (.slice d5 d6 d7):=by
   have h9:=(k2.out.cell (p:=⟨b93,p7+k84*Shape.sz relationS+1,none⟩) y8).trans (w0 k84 hlt 1 (.slice d5 d6 d7) (by rw[p8];rfl))
   rw[w2]at h9;simpa using h9
  clear w0 p8 w2;go_upto_region 5 with(fail)
  obtain⟨z0,q1⟩:∃W,W=b8.alloc (.cells #[.slice d2 d3 d4,.slice d5 d6 d7] 105):=⟨_,rfl⟩;have q2:Below b8.heap.size b8 z0:=by rw[q1];exact(Below.refl _ _).alloc (Nat.le_refl _) _
  have k3:=hid (k2.out.trans (q2.mono k2.out.size));have z1:=hid (l5.out.below q2 l5.out.lt);have E3:=hid (p6.out.below q2);have k4:Hid (Bk z0 b8.heap.size 105 #[.slice d2 d3 d4,.slice d5 d6 d7]):=by rw[q1];exact Bk.new _ _ _
  rw[←q1];clear q1 q2;clear j7 j8;go_upto_region 5 with(fail)
  refine wp_region_facts (by kernel_rfl) (by kernel_rfl) [25,26,27,28,29,30,31,32,33,34] 40 (by kernel_rfl) (fun io v x=>match io with
   | 0=>v = .slice l3 k84 l4
   | 1=>v = .pointer (some ⟨b8.heap.size,0,none⟩)
   | 2=>v = .slice d2 d3 d4
   | 3=>v = .string ⟨b0.toArray⟩
   | 4=>v = .pointer (some ⟨b8.heap.size,1,none⟩)
   | 5=>v = .slice d5 d6 d7
   | 6=>v = .string ⟨b2.toArray⟩
   | 7=>Strs x v 2 (fun i=>[b0,b2].getD i [])
   | 8=>v = .string ⟨(par (fun i=>[b0,b2].getD i []) 2).toArray⟩
   | _=>Strs x v 1 (fun _=>(par (fun i=>[b0,b2].getD i []) 2))) ?_ ?_ ?_
  ·intro io v x x' hio h hb
   rcases io with _|_|_|_|_|_|_|_|_|io
   ·exact h
   ·exact h
   ·exact h
   ·exact h
   ·exact h
   ·exact h
   ·exact h
   ·exact Strs.below h hb
   ·exact h
   ·exact Strs.below h hb
  ·intro io oo S x ho hio hbx hdep
   rcases io with _|_|_|_|_|_|_|_|_|_|io
   ·cases ho
    refine opOk_h rfl rfl fun KK HK=>?_
    clear hdep hio;simp only[nm,Nat.reduceAdd]at HK ⊢;go_wp2;exact HK.out _ _ ⟨_,rfl,rfl,Below.refl _ _⟩
   ·cases ho
    refine opOk_h rfl rfl fun KK HK=>?_
    clear hdep hio;simp only[nm,Nat.reduceAdd]at HK ⊢;go_wp2;exact HK.out _ _ ⟨_,rfl,rfl,Below.refl _ _⟩
   ·cases ho
    have h1:S 1 = .pointer (some ⟨b8.heap.size,0,none⟩):=hdep 1 (by kernel_rfl) (by decide)
    obtain⟨K1,_,_⟩:=(k4.out.below hbx k4.out.lt).facts;refine opOk_h rfl rfl fun KK HK=>?_
    clear hdep hio;simp only[nm,Nat.reduceAdd]at HK ⊢;generalize S 1=t1 at *;subst h1;go_wp2;exact HK.out _ _ ⟨_,rfl,rfl,Below.refl _ _⟩
   ·cases ho
    have h2:S 2 = .slice d2 d3 d4:=hdep 2 (by kernel_rfl) (by decide)
    refine opOk_h rfl rfl fun KK HK=>?_
    clear hdep hio;simp only[nm,Nat.reduceAdd]at HK ⊢;generalize S 2=t2 at *;subst h2;go_wp2_with fail
    have key:=t_lins x D [.slice d2 d3 d4] b0 (E0.out.below (k3.out.trans (hbx.mono k3.out.size))) D9.out;rw[val_list]at key;refine(key).mono ?_;rintro e xN⟨rfl,hbN⟩;exact HK.out _ _ ⟨_,rfl,rfl,hbN⟩
   ·cases ho
    refine opOk_h rfl rfl fun KK HK=>?_
    clear hdep hio;simp only[nm,Nat.reduceAdd]at HK ⊢;go_wp2;exact HK.out _ _ ⟨_,rfl,rfl,Below.refl _ _⟩
   ·cases ho
    have h4:S 4 = .pointer (some ⟨b8.heap.size,1,none⟩):=hdep 4 (by kernel_rfl) (by decide)
    obtain⟨K2,_,_⟩:=(k4.out.below hbx k4.out.lt).facts;refine opOk_h rfl rfl fun KK HK=>?_
    clear hdep hio;simp only[nm,Nat.reduceAdd]at HK ⊢;generalize S 4=t4 at *;subst h4;go_wp2;exact HK.out _ _ ⟨_,rfl,rfl,Below.refl _ _⟩
   ·cases ho
    have h5:S 5 = .slice d5 d6 d7:=hdep 5 (by kernel_rfl) (by decide)
    refine opOk_h rfl rfl fun KK HK=>?_
    clear hdep hio;simp only[nm,Nat.reduceAdd]at HK ⊢;generalize S 5=t5 at *;subst h5;go_wp2_with fail
    have key:=t_lins x D [.slice d5 d6 d7] b2 (E2.out.below (k3.out.trans (hbx.mono k3.out.size))) E1.out;rw[val_list]at key;refine(key).mono ?_;rintro e xN⟨rfl,hbN⟩;exact HK.out _ _ ⟨_,rfl,rfl,hbN⟩
   ·cases ho
    have h3:S 3 = .string ⟨b0.toArray⟩:=hdep 3 (by kernel_rfl) (by decide)
    have h6:S 6 = .string ⟨b2.toArray⟩:=hdep 6 (by kernel_rfl) (by decide)
    refine opOk_h rfl rfl fun KK HK=>?_
    clear hdep hio;simp only[nm,Nat.reduceAdd]at HK ⊢;generalize S 3=t3 at *;subst h3;generalize S 6=t6 at *;subst h6;go_wp2;exact HK.out _ _ ⟨_,rfl,Strs.new x _ [b0,b2] _ rfl _ rfl (by decide),(Below.refl _ _).alloc (Nat.le_refl _) _⟩
   ·cases ho
    have h7:Strs x (S 7) 2 (fun i=>[b0,b2].getD i []):=hdep 7 (by kernel_rfl) (by decide)
    refine opOk_h rfl rfl fun KK HK=>?_
    clear hdep hio;simp only[nm,Nat.reduceAdd]at HK ⊢;go_wp2_with fail
    refine(group_any _ _ 2 _ h7 (len_eq q0.out w1.out)).mono ?_;rintro e xN⟨rfl,hbN⟩;exact HK.out _ _ ⟨_,rfl,rfl,hbN⟩
   ·cases ho
    have h8:S 8 = .string ⟨(par (fun i=>[b0,b2].getD i []) 2).toArray⟩:=hdep 8 (by kernel_rfl) (by decide)
    refine opOk_h rfl rfl fun KK HK=>?_
    clear hdep hio;simp only[nm,Nat.reduceAdd]at HK ⊢;generalize S 8=t8 at *;subst h8;go_wp2;exact HK.out _ _ ⟨_,rfl,Strs.new1 x _ _,(Below.refl _ _).alloc (Nat.le_refl _) _⟩
   ·exact absurd hio (by simp)
  intro S x hbx hF;have g0:S 0 = .slice l3 k84 l4:=hF 0 (by decide)
  have g1:S 1 = .pointer (some ⟨b8.heap.size,0,none⟩):=hF 1 (by decide)
  have g2:S 2 = .slice d2 d3 d4:=hF 2 (by decide)
  have g3:S 3 = .string ⟨b0.toArray⟩:=hF 3 (by decide)
  have g4:S 4 = .pointer (some ⟨b8.heap.size,1,none⟩):=hF 4 (by decide)
  have g5:S 5 = .slice d5 d6 d7:=hF 5 (by decide)
  have g6:S 6 = .string ⟨b2.toArray⟩:=hF 6 (by decide)
  have g7:Strs x (S 7) 2 (fun i=>[b0,b2].getD i []):=hF 7 (by decide)
  have g8:S 8 = .string ⟨(par (fun i=>[b0,b2].getD i []) 2).toArray⟩:=hF 8 (by decide)
  have g9:Strs x (S 9) 1 (fun _=>(par (fun i=>[b0,b2].getD i []) 2)):=hF 9 (by decide)
  clear hF;simp only[nm,Nat.reduceAdd,List.length_cons,List.length_nil,List.drop_succ_cons,List.drop_zero];generalize S 0=t0 at *;subst g0;generalize S 1=t1 at *;subst g1;generalize S 2=t2 at *;subst g2;generalize S 3=t3 at *;subst g3;generalize S 4=t4 at *;subst g4;generalize S 5=t5 at *;subst g5;generalize S 6=t6 at *;subst g6;generalize S 7=t7 at *;generalize S 8=t8 at *;subst g8;generalize S 9=t9 at *;obtain⟨E4,hxn⟩:∃y:World,y=x:=⟨_,rfl⟩;subst hxn;have K3:=hid (k3.out.trans (hbx.mono k3.out.size));have K4:=hid (z1.out.below hbx z1.out.lt);have K5:=hid (k4.out.below hbx k4.out.lt);have E5:=hid (E3.out.below hbx);obtain⟨b1,o1,c1,rfl,hce⟩:=Strs.one g9;go_wp2_with (at_builtin;refine wpList_pushT E4 rfl _ _ rfl W66 a9 k84 _ rfl E5.out b1 o1 c1 rfl (par (fun i=>[b0,b2].getD i []) 2) hce (q0.out.symm) (by omega) ?_)
  intro g2 w6 w4 c5;have j9:=hid c5;clear c5;go_wp2;go_roundw
  case rel=>exact⟨k84+1,by omega,by go_num,j9⟩
  case measure=>simp[intOf];omega
 obtain rfl:k84=c8:=by omega
 obtain⟨K6,_,_⟩:=l5.out.facts;obtain⟨E6,a3,E7,K7,E8,z2,z3⟩:=D1.out.unlist;subst E7;have E9:=hid z2;have F0:=hid z3;have K8:c9≤100000000:=Nat.le_trans (par_len_ge a3 c9) v5.out;unfold maxLen at E8;clear z2 z3;go_wp2;have z4:=hid (TI.start a3 (Below.refl b8.heap.size b8));go_loopw [5,41] (fun ov iv wr=>∃(k:Nat),k≤c9∧iv = .int .i64 k∧Hid (TI a3 b8 ov k wr)) (fun _ iv _=>c9-(intOf iv).toNat)
 case atStart=>exact⟨0,by omega,rfl,z4⟩
 obtain⟨a1,K9,rfl,q3⟩:=hrel;clear z4;obtain⟨a8,hwr⟩:∃w:World,w=wr:=⟨_,rfl⟩;subst hwr;obtain⟨l6,l7,rfl,_,_⟩:=q3.out.form;have q4:=q3.out.2;have d8:=hid (k2.out.trans (q4.mono k2.out.size));have l8:=hid (l5.out.below q4 l5.out.lt);have z5:=hid (p6.out.below q4);clear q4;by_cases hlt:a1<c9
 ·obtain⟨d9,e0,hAx,_,q5,l9⟩:=E9.out (by omega)
  subst hAx;have z6:=F0.out a1 hlt;obtain⟨L0,k5⟩:∃u,E6 a1=u:=⟨_,rfl⟩;rw[k5]at z6;have w7:Hid ((a3 a1).length≤MX):=Nat.le_trans (par_len_at a3 hlt) v5.out;have m0:Shape.sz (storeS n)=4:=sz_store;obtain⟨_,q6,L1,_,b3,_,rfl,rfl,w8,L2,_,b4,_,rfl,rfl,w9,rfl,rfl⟩:=z6;injection q6 with q6 _;obtain⟨e1,e2,e3,e4,e5,rfl⟩:=ty_typ w8.ty;obtain⟨e6,e7,e8,rfl⟩:=ty_list w9.ty;have q7:=hid q6;have F1:Hid (b3.length≤MX):=Nat.le_trans (par_len_at (fun i=>[b3,b4].getD i []) (i:=0) (k:=2) (by decide)) (len_eq q7.out w7.out)
  have F2:=hid w8;clear w8;have F3:Hid (b4.length≤MX):=Nat.le_trans (par_len_at (fun i=>[b3,b4].getD i []) (i:=1) (k:=2) (by decide)) (len_eq q7.out w7.out)
  have F4:=hid w9;clear w9;clear q6;have j7:a8.cell? ⟨d9,e0+a1*4,none⟩=some (.int .i64 e1):=by
   have h9:=(d8.out.cell (p:=⟨d9,e0+a1*Shape.sz (storeS n)+0,none⟩) q5).trans (l9 a1 hlt 0 (.int .i64 e1) (by rw[k5];rfl))
   rw[m0]at h9;simpa using h9
  have j8:a8.cell? ⟨d9,e0+a1*4+1,none⟩=some (.int .i64 e2):=by
   have h9:=(d8.out.cell (p:=⟨d9,e0+a1*Shape.sz (storeS n)+1,none⟩) q5).trans (l9 a1 hlt 1 (.int .i64 e2) (by rw[k5];rfl))
   rw[m0]at h9;simpa using h9
  have x0:a8.cell? ⟨d9,e0+a1*4+2,none⟩=some (.slice e3 e4 e5):=by
   have h9:=(d8.out.cell (p:=⟨d9,e0+a1*Shape.sz (storeS n)+2,none⟩) q5).trans (l9 a1 hlt 2 (.slice e3 e4 e5) (by rw[k5];rfl))
   rw[m0]at h9;simpa using h9
  have x1:a8.cell? ⟨d9,e0+a1*4+3,none⟩=some (.slice e6 e7 e8):=by
   have h9:=(d8.out.cell (p:=⟨d9,e0+a1*Shape.sz (storeS n)+3,none⟩) q5).trans (l9 a1 hlt 3 (.slice e6 e7 e8) (by rw[k5];rfl))
   rw[m0]at h9;simpa using h9
  clear l9 k5 m0;go_upto_region 10 with(fail)
  obtain⟨z7,q8⟩:∃W,W=a8.alloc (.cells #[.int .i64 e1,.int .i64 e2,.slice e3 e4 e5,.slice e6 e7 e8] 118):=⟨_,rfl⟩;have m1:Below a8.heap.size a8 z7:=by rw[q8];exact(Below.refl _ _).alloc (Nat.le_refl _) _
  have k6:=hid (d8.out.trans (m1.mono d8.out.size));have z8:=hid (l8.out.below m1 l8.out.lt);have F5:=hid (z5.out.below m1);have F6:=hid (q3.out.below m1);have k7:Hid (Bk z7 a8.heap.size 118 #[.int .i64 e1,.int .i64 e2,.slice e3 e4 e5,.slice e6 e7 e8]):=by rw[q8];exact Bk.new _ _ _
  rw[←q8];clear q8 m1;clear j7 j8 x0 x1;go_upto_region 10 with(fail)
  refine wp_region_facts (by kernel_rfl) (by kernel_rfl) [45,46,47,48,49,50,51,52,53,54] 40 (by kernel_rfl) (fun io v x=>match io with
   | 0=>v = .slice l6 a1 l7
   | 1=>v = .pointer (some ⟨a8.heap.size,0,none⟩)
   | 2=>v = .agg #[.int .i64 e1,.int .i64 e2,.slice e3 e4 e5]
   | 3=>v = .string ⟨b3.toArray⟩
   | 4=>v = .pointer (some ⟨a8.heap.size,3,none⟩)
   | 5=>v = .slice e6 e7 e8
   | 6=>v = .string ⟨b4.toArray⟩
   | 7=>Strs x v 2 (fun i=>[b3,b4].getD i [])
   | 8=>v = .string ⟨(par (fun i=>[b3,b4].getD i []) 2).toArray⟩
   | _=>Strs x v 1 (fun _=>(par (fun i=>[b3,b4].getD i []) 2))) ?_ ?_ ?_
  ·intro io v x x' hio h hb
   rcases io with _|_|_|_|_|_|_|_|_|io
   ·exact h
   ·exact h
   ·exact h
   ·exact h
   ·exact h
   ·exact h
   ·exact h
   ·exact Strs.below h hb
   ·exact h
   ·exact Strs.below h hb
  ·intro io oo S x ho hio hbx hdep
   rcases io with _|_|_|_|_|_|_|_|_|_|io
   ·cases ho
    refine opOk_h rfl rfl fun KK HK=>?_
    clear hdep hio;simp only[nm,Nat.reduceAdd]at HK ⊢;go_wp2;exact HK.out _ _ ⟨_,rfl,rfl,Below.refl _ _⟩
   ·cases ho
    refine opOk_h rfl rfl fun KK HK=>?_
    clear hdep hio;simp only[nm,Nat.reduceAdd]at HK ⊢;go_wp2;exact HK.out _ _ ⟨_,rfl,rfl,Below.refl _ _⟩
   ·cases ho
    have h1:S 1 = .pointer (some ⟨a8.heap.size,0,none⟩):=hdep 1 (by kernel_rfl) (by decide)
    obtain⟨L3,_,_⟩:=(k7.out.below hbx k7.out.lt).facts;refine opOk_h rfl rfl fun KK HK=>?_
    clear hdep hio;simp only[nm,Nat.reduceAdd]at HK ⊢;generalize S 1=t1 at *;subst h1;go_wp2;exact HK.out _ _ ⟨_,rfl,rfl,Below.refl _ _⟩
   ·cases ho
    have h2:S 2 = .agg #[.int .i64 e1,.int .i64 e2,.slice e3 e4 e5]:=hdep 2 (by kernel_rfl) (by decide)
    refine opOk_h rfl rfl fun KK HK=>?_
    clear hdep hio;simp only[nm,Nat.reduceAdd]at HK ⊢;generalize S 2=t2 at *;subst h2;go_wp2_with fail
    have key:=(t_typ n) x D [.int .i64 e1,.int .i64 e2,.slice e3 e4 e5] b3 (F2.out.below (k6.out.trans (hbx.mono k6.out.size))) F1.out;rw[val_typ]at key;refine(key).mono ?_;rintro e xN⟨rfl,hbN⟩;exact HK.out _ _ ⟨_,rfl,rfl,hbN⟩
   ·cases ho
    refine opOk_h rfl rfl fun KK HK=>?_
    clear hdep hio;simp only[nm,Nat.reduceAdd]at HK ⊢;go_wp2;exact HK.out _ _ ⟨_,rfl,rfl,Below.refl _ _⟩
   ·cases ho
    have h4:S 4 = .pointer (some ⟨a8.heap.size,3,none⟩):=hdep 4 (by kernel_rfl) (by decide)
    obtain⟨L4,_,_⟩:=(k7.out.below hbx k7.out.lt).facts;refine opOk_h rfl rfl fun KK HK=>?_
    clear hdep hio;simp only[nm,Nat.reduceAdd]at HK ⊢;generalize S 4=t4 at *;subst h4;go_wp2;exact HK.out _ _ ⟨_,rfl,rfl,Below.refl _ _⟩
   ·cases ho
    have h5:S 5 = .slice e6 e7 e8:=hdep 5 (by kernel_rfl) (by decide)
    refine opOk_h rfl rfl fun KK HK=>?_
    clear hdep hio;simp only[nm,Nat.reduceAdd]at HK ⊢;generalize S 5=t5 at *;subst h5;go_wp2_with fail
    have key:=t_ints x D [.slice e6 e7 e8] b4 (F4.out.below (k6.out.trans (hbx.mono k6.out.size))) F3.out;rw[val_list]at key;refine(key).mono ?_;rintro e xN⟨rfl,hbN⟩;exact HK.out _ _ ⟨_,rfl,rfl,hbN⟩
   ·cases ho
    have h3:S 3 = .string ⟨b3.toArray⟩:=hdep 3 (by kernel_rfl) (by decide)
    have h6:S 6 = .string ⟨b4.toArray⟩:=hdep 6 (by kernel_rfl) (by decide)
    refine opOk_h rfl rfl fun KK HK=>?_
    clear hdep hio;simp only[nm,Nat.reduceAdd]at HK ⊢;generalize S 3=t3 at *;subst h3;generalize S 6=t6 at *;subst h6;go_wp2;exact HK.out _ _ ⟨_,rfl,Strs.new x _ [b3,b4] _ rfl _ rfl (by decide),(Below.refl _ _).alloc (Nat.le_refl _) _⟩
   ·cases ho
    have h7:Strs x (S 7) 2 (fun i=>[b3,b4].getD i []):=hdep 7 (by kernel_rfl) (by decide)
    refine opOk_h rfl rfl fun KK HK=>?_
    clear hdep hio;simp only[nm,Nat.reduceAdd]at HK ⊢;go_wp2_with fail
    refine(group_any _ _ 2 _ h7 (len_eq q7.out w7.out)).mono ?_;rintro e xN⟨rfl,hbN⟩;exact HK.out _ _ ⟨_,rfl,rfl,hbN⟩
   ·cases ho
    have h8:S 8 = .string ⟨(par (fun i=>[b3,b4].getD i []) 2).toArray⟩:=hdep 8 (by kernel_rfl) (by decide)
    refine opOk_h rfl rfl fun KK HK=>?_
    clear hdep hio;simp only[nm,Nat.reduceAdd]at HK ⊢;generalize S 8=t8 at *;subst h8;go_wp2;exact HK.out _ _ ⟨_,rfl,Strs.new1 x _ _,(Below.refl _ _).alloc (Nat.le_refl _) _⟩
   ·exact absurd hio (by simp)
  intro S x hbx hF;have g0:S 0 = .slice l6 a1 l7:=hF 0 (by decide)
  have g1:S 1 = .pointer (some ⟨a8.heap.size,0,none⟩):=hF 1 (by decide)
  have g2:S 2 = .agg #[.int .i64 e1,.int .i64 e2,.slice e3 e4 e5]:=hF 2 (by decide)
  have g3:S 3 = .string ⟨b3.toArray⟩:=hF 3 (by decide)
  have g4:S 4 = .pointer (some ⟨a8.heap.size,3,none⟩):=hF 4 (by decide)
  have g5:S 5 = .slice e6 e7 e8:=hF 5 (by decide)
  have g6:S 6 = .string ⟨b4.toArray⟩:=hF 6 (by decide)
  have g7:Strs x (S 7) 2 (fun i=>[b3,b4].getD i []):=hF 7 (by decide)
  have g8:S 8 = .string ⟨(par (fun i=>[b3,b4].getD i []) 2).toArray⟩:=hF 8 (by decide)
  have g9:Strs x (S 9) 1 (fun _=>(par (fun i=>[b3,b4].getD i []) 2)):=hF 9 (by decide)
  clear hF;simp only[nm,Nat.reduceAdd,List.length_cons,List.length_nil,List.drop_succ_cons,List.drop_zero];generalize S 0=t0 at *;subst g0;generalize S 1=t1 at *;subst g1;generalize S 2=t2 at *;subst g2;generalize S 3=t3 at *;subst g3;generalize S 4=t4 at *;subst g4;generalize S 5=t5 at *;subst g5;generalize S 6=t6 at *;subst g6;generalize S 7=t7 at *;generalize S 8=t8 at *;subst g8;generalize S 9=t9 at *;obtain⟨F7,hxn⟩:∃y:World,y=x:=⟨_,rfl⟩;subst hxn;have L5:=hid (k6.out.trans (hbx.mono k6.out.size));have L6:=hid (z8.out.below hbx z8.out.lt);have L7:=hid (k7.out.below hbx k7.out.lt);have L8:=hid (F5.out.below hbx);have F8:=hid (F6.out.below hbx);obtain⟨b1,o1,c1,rfl,hce⟩:=Strs.one g9;go_wp2_with (at_builtin;refine wpList_pushT F7 rfl _ _ rfl b8 a3 a1 _ rfl F8.out b1 o1 c1 rfl (par (fun i=>[b3,b4].getD i []) 2) hce (q7.out.symm) (by omega) ?_)
  intro g2 w6 w4 c5;have j9:=hid c5;clear c5;go_wp2;go_roundw
  case rel=>exact⟨a1+1,by omega,by go_num,j9⟩
  case measure=>simp[intOf];omega
 obtain rfl:a1=c9:=by omega
 obtain⟨L9,_,_⟩:=l8.out.facts;obtain⟨F9,a4,G0,M0,G1,z9,A0⟩:=D2.out.unlist;subst G0;have G2:=hid z9;have G3:=hid A0;have M1:d0≤100000000:=Nat.le_trans (par_len_ge a4 d0) v6.out;unfold maxLen at G1;clear z9 A0;go_wp2;have A1:=hid (TI.start a4 (Below.refl a8.heap.size a8));go_loopw [6,60] (fun ov iv wr=>∃(k:Nat),k≤d0∧iv = .int .i64 k∧Hid (TI a4 a8 ov k wr)) (fun _ iv _=>d0-(intOf iv).toNat)
 case atStart=>exact⟨0,by omega,rfl,A1⟩
 obtain⟨a0,M2,rfl,q9⟩:=hrel;clear A1;obtain⟨a7,hwr⟩:∃w:World,w=wr:=⟨_,rfl⟩;subst hwr;obtain⟨x2,x3,rfl,_,_⟩:=q9.out.form;have m2:=q9.out.2;have b9:=hid (d8.out.trans (m2.mono d8.out.size));have m3:=hid (l8.out.below m2 l8.out.lt);have A2:=hid (z5.out.below m2);have A3:=hid (q3.out.below m2);clear m2;by_cases hlt:a0<d0
 ·obtain⟨a5,a6,hAx,_,c6,c2⟩:=G2.out (by omega)
  subst hAx;have r0:=G3.out a0 hlt;obtain⟨M3,c0⟩:∃u,F9 a0=u:=⟨_,rfl⟩;rw[c0]at r0;have G4:Hid ((a4 a0).length≤MX):=Nat.le_trans (par_len_at a4 hlt) v6.out;have c3:Shape.sz (nodeS n)=11:=sz_node;obtain⟨m4,m5,m6,m7,m8,m9,n0,n1,n2,n3,n4,n5,n6,n7,n8,n9,o0,o2,o3,o4,o5,o6,o7,o8,o9,p0,p1,rfl⟩:=ty_node r0.ty;have G5:=hid r0;clear r0;have j7:a7.cell? ⟨a5,a6+a0*11,none⟩=some (.int .i64 m4):=by
   have h9:=(b9.out.cell (p:=⟨a5,a6+a0*Shape.sz (nodeS n)+0,none⟩) c6).trans (c2 a0 hlt 0 (.int .i64 m4) (by rw[c0];rfl))
   rw[c3]at h9;simpa using h9
  have j8:a7.cell? ⟨a5,a6+a0*11+1,none⟩=some (.int .i64 m5):=by
   have h9:=(b9.out.cell (p:=⟨a5,a6+a0*Shape.sz (nodeS n)+1,none⟩) c6).trans (c2 a0 hlt 1 (.int .i64 m5) (by rw[c0];rfl))
   rw[c3]at h9;simpa using h9
  have x0:a7.cell? ⟨a5,a6+a0*11+2,none⟩=some (.bool m6):=by
   have h9:=(b9.out.cell (p:=⟨a5,a6+a0*Shape.sz (nodeS n)+2,none⟩) c6).trans (c2 a0 hlt 2 (.bool m6) (by rw[c0];rfl))
   rw[c3]at h9;simpa using h9
  have x1:a7.cell? ⟨a5,a6+a0*11+3,none⟩=some (.slice m7 m8 m9):=by
   have h9:=(b9.out.cell (p:=⟨a5,a6+a0*Shape.sz (nodeS n)+3,none⟩) c6).trans (c2 a0 hlt 3 (.slice m7 m8 m9) (by rw[c0];rfl))
   rw[c3]at h9;simpa using h9
  have G6:a7.cell? ⟨a5,a6+a0*11+4,none⟩=some (.slice n0 n1 n2):=by
   have h9:=(b9.out.cell (p:=⟨a5,a6+a0*Shape.sz (nodeS n)+4,none⟩) c6).trans (c2 a0 hlt 4 (.slice n0 n1 n2) (by rw[c0];rfl))
   rw[c3]at h9;simpa using h9
  have G7:a7.cell? ⟨a5,a6+a0*11+5,none⟩=some (.slice n3 n4 n5):=by
   have h9:=(b9.out.cell (p:=⟨a5,a6+a0*Shape.sz (nodeS n)+5,none⟩) c6).trans (c2 a0 hlt 5 (.slice n3 n4 n5) (by rw[c0];rfl))
   rw[c3]at h9;simpa using h9
  have G8:a7.cell? ⟨a5,a6+a0*11+6,none⟩=some (.slice n6 n7 n8):=by
   have h9:=(b9.out.cell (p:=⟨a5,a6+a0*Shape.sz (nodeS n)+6,none⟩) c6).trans (c2 a0 hlt 6 (.slice n6 n7 n8) (by rw[c0];rfl))
   rw[c3]at h9;simpa using h9
  have G9:a7.cell? ⟨a5,a6+a0*11+7,none⟩=some (.slice n9 o0 o2):=by
   have h9:=(b9.out.cell (p:=⟨a5,a6+a0*Shape.sz (nodeS n)+7,none⟩) c6).trans (c2 a0 hlt 7 (.slice n9 o0 o2) (by rw[c0];rfl))
   rw[c3]at h9;simpa using h9
  have H0:a7.cell? ⟨a5,a6+a0*11+8,none⟩=some (.slice o3 o4 o5):=by
   have h9:=(b9.out.cell (p:=⟨a5,a6+a0*Shape.sz (nodeS n)+8,none⟩) c6).trans (c2 a0 hlt 8 (.slice o3 o4 o5) (by rw[c0];rfl))
   rw[c3]at h9;simpa using h9
  have H1:a7.cell? ⟨a5,a6+a0*11+9,none⟩=some (.slice o6 o7 o8):=by
   have h9:=(b9.out.cell (p:=⟨a5,a6+a0*Shape.sz (nodeS n)+9,none⟩) c6).trans (c2 a0 hlt 9 (.slice o6 o7 o8) (by rw[c0];rfl))
   rw[c3]at h9;simpa using h9
  have H2:a7.cell? ⟨a5,a6+a0*11+10,none⟩=some (.slice o9 p0 p1):=by
   have h9:=(b9.out.cell (p:=⟨a5,a6+a0*Shape.sz (nodeS n)+10,none⟩) c6).trans (c2 a0 hlt 10 (.slice o9 p0 p1) (by rw[c0];rfl))
   rw[c3]at h9;simpa using h9
  clear c2 c0 c3;go_upto_region 15 with(fail)
  obtain⟨A4,r1⟩:∃W,W=a7.alloc (.cells #[.int .i64 m4,.int .i64 m5,.bool m6,.slice m7 m8 m9,.slice n0 n1 n2,.slice n3 n4 n5,.slice n6 n7 n8,.slice n9 o0 o2,.slice o3 o4 o5,.slice o6 o7 o8,.slice o9 p0 p1] 65):=⟨_,rfl⟩;have k8:Below a7.heap.size a7 A4:=by rw[r1];exact(Below.refl _ _).alloc (Nat.le_refl _) _
  have x4:=hid (b9.out.trans (k8.mono b9.out.size));have A5:=hid (m3.out.below k8 m3.out.lt);have H3:=hid (A2.out.below k8);have H4:=hid (A3.out.below k8);have H5:=hid (q9.out.below k8);have x5:Hid (Bk A4 a7.heap.size 65 #[.int .i64 m4,.int .i64 m5,.bool m6,.slice m7 m8 m9,.slice n0 n1 n2,.slice n3 n4 n5,.slice n6 n7 n8,.slice n9 o0 o2,.slice o3 o4 o5,.slice o6 o7 o8,.slice o9 p0 p1]):=by rw[r1];exact Bk.new _ _ _
  rw[←r1];clear r1 k8;clear j7 j8 x0 x1 G6 G7 G8 G9 H0 H1 H2;obtain⟨M4,_,_⟩:=x5.out.facts;go_wp2_with fail
  have key:=HND.out _ D [.int .i64 m4,.int .i64 m5,.bool m6,.slice m7 m8 m9,.slice n0 n1 n2,.slice n3 n4 n5,.slice n6 n7 n8,.slice n9 o0 o2,.slice o3 o4 o5,.slice o6 o7 o8,.slice o9 p0 p1] (a4 a0) (G5.out.below x4.out) G4.out;rw[val_node]at key;refine key.mono ?_;rintro e k9⟨rfl,A6⟩;have k0:=A6;have M5:=hid (x4.out.trans (k0.mono x4.out.size));have M6:=hid (A5.out.below k0 A5.out.lt);have M7:=hid (x5.out.below k0 x5.out.lt);have M8:=hid (H3.out.below k0);have M9:=hid (H4.out.below k0);have H6:=hid (H5.out.below k0);clear k0 A6;have H7:(k9.alloc (.cells #[.string ⟨(a4 a0).toArray⟩] 9)).cell? ⟨k9.heap.size,0,none⟩=some (.string ⟨(a4 a0).toArray⟩):=by rw[World.cell?_alloc_at _ _ _ _ rfl];rfl
  have H8:=hid (H6.out.below ((Below.refl k9.heap.size k9).alloc (Nat.le_refl _) (.cells #[.string ⟨(a4 a0).toArray⟩] 9)));go_wp2_with (at_builtin;refine wpList_pushT (k9.alloc (.cells #[.string ⟨(a4 a0).toArray⟩] 9)) rfl _ _ rfl a8 a4 a0 _ rfl H8.out k9.heap.size 0 1 rfl (a4 a0) H7 (rfl) (by omega) ?_)
  intro g2 w6 w4 c5;have j9:=hid c5;clear c5;go_wp2;go_roundw
  case rel=>exact⟨a0+1,by omega,by go_num,j9⟩
  case measure=>simp[intOf];omega
 obtain rfl:a0=d0:=by omega
 obtain⟨N0,_,_⟩:=m3.out.facts;obtain⟨H9,b5,I0,N1,I1,A7,A8⟩:=D3.out.unlist;subst I0;have I2:=hid A7;have I3:=hid A8;have N2:d1≤100000000:=Nat.le_trans (par_len_ge b5 d1) v7.out;unfold maxLen at I1;clear A7 A8;go_wp2;have A9:=hid (TI.start b5 (Below.refl a7.heap.size a7));go_loopw [7,73] (fun ov iv wr=>∃(k:Nat),k≤d1∧iv = .int .i64 k∧Hid (TI b5 a7 ov k wr)) (fun _ iv _=>d1-(intOf iv).toNat)
 case atStart=>exact⟨0,by omega,rfl,A9⟩
 obtain⟨a2,N3,rfl,r2⟩:=hrel;clear A9;obtain⟨c4,hwr⟩:∃w:World,w=wr:=⟨_,rfl⟩;subst hwr;obtain⟨p2,p3,rfl,_,_⟩:=r2.out.form;have l0:=r2.out.2;have c7:=hid (b9.out.trans (l0.mono b9.out.size));have e9:=hid (m3.out.below l0 m3.out.lt);have B0:=hid (A2.out.below l0);have x6:=hid (A3.out.below l0);have B1:=hid (q9.out.below l0);clear l0;by_cases hlt:a2<d1
 ·obtain⟨r3,r4,hAx,_,B2,x7⟩:=I2.out (by omega)
  subst hAx;have B3:=I3.out a2 hlt;obtain⟨N4,r5⟩:∃u,H9 a2=u:=⟨_,rfl⟩;rw[r5]at B3;have x8:Hid ((b5 a2).length≤MX):=Nat.le_trans (par_len_at b5 hlt) v7.out;have x9:Shape.sz claimS=2:=sz_claim;obtain⟨_,r6,N5,_,b6,_,rfl,rfl,y0,N6,_,b7,_,rfl,rfl,y1,rfl,rfl⟩:=B3;injection r6 with r6 _;obtain⟨f0,rfl⟩:=ty_int y0.ty;obtain⟨f1,rfl⟩:=ty_int y1.ty;have s0:=hid r6;have I4:Hid (b6.length≤MX):=Nat.le_trans (par_len_at (fun i=>[b6,b7].getD i []) (i:=0) (k:=2) (by decide)) (len_eq s0.out x8.out)
  have I5:=hid y0;clear y0;have I6:Hid (b7.length≤MX):=Nat.le_trans (par_len_at (fun i=>[b6,b7].getD i []) (i:=1) (k:=2) (by decide)) (len_eq s0.out x8.out)
  have I7:=hid y1;clear y1;clear r6;have j7:c4.cell? ⟨r3,r4+a2*2,none⟩=some (.int .i64 f0):=by
   have h9:=(c7.out.cell (p:=⟨r3,r4+a2*Shape.sz claimS+0,none⟩) B2).trans (x7 a2 hlt 0 (.int .i64 f0) (by rw[r5];rfl))
   rw[x9]at h9;simpa using h9
  have j8:c4.cell? ⟨r3,r4+a2*2+1,none⟩=some (.int .i64 f1):=by
   have h9:=(c7.out.cell (p:=⟨r3,r4+a2*Shape.sz claimS+1,none⟩) B2).trans (x7 a2 hlt 1 (.int .i64 f1) (by rw[r5];rfl))
   rw[x9]at h9;simpa using h9
  clear x7 r5 x9;go_upto_region 20 with(fail)
  obtain⟨B4,s1⟩:∃W,W=c4.alloc (.cells #[.int .i64 f0,.int .i64 f1] 68):=⟨_,rfl⟩;have k1:Below c4.heap.size c4 B4:=by rw[s1];exact(Below.refl _ _).alloc (Nat.le_refl _) _
  have l1:=hid (c7.out.trans (k1.mono c7.out.size));have B5:=hid (e9.out.below k1 e9.out.lt);have I8:=hid (B0.out.below k1);have I9:=hid (x6.out.below k1);have J0:=hid (B1.out.below k1);have J1:=hid (r2.out.below k1);have l2:Hid (Bk B4 c4.heap.size 68 #[.int .i64 f0,.int .i64 f1]):=by rw[s1];exact Bk.new _ _ _
  rw[←s1];clear s1 k1;clear j7 j8;go_upto_region 20 with(fail)
  refine wp_region_facts (by kernel_rfl) (by kernel_rfl) [77,78,79,80,81,82,83,84,85,86] 40 (by kernel_rfl) (fun io v x=>match io with
   | 0=>v = .slice p2 a2 p3
   | 1=>v = .pointer (some ⟨c4.heap.size,0,none⟩)
   | 2=>v = .int .i64 f0
   | 3=>v = .string ⟨b6.toArray⟩
   | 4=>v = .pointer (some ⟨c4.heap.size,1,none⟩)
   | 5=>v = .int .i64 f1
   | 6=>v = .string ⟨b7.toArray⟩
   | 7=>Strs x v 2 (fun i=>[b6,b7].getD i [])
   | 8=>v = .string ⟨(par (fun i=>[b6,b7].getD i []) 2).toArray⟩
   | _=>Strs x v 1 (fun _=>(par (fun i=>[b6,b7].getD i []) 2))) ?_ ?_ ?_
  ·intro io v x x' hio h hb
   rcases io with _|_|_|_|_|_|_|_|_|io
   ·exact h
   ·exact h
   ·exact h
   ·exact h
   ·exact h
   ·exact h
   ·exact h
   ·exact Strs.below h hb
   ·exact h
   ·exact Strs.below h hb
  ·intro io oo S x ho hio hbx hdep
   rcases io with _|_|_|_|_|_|_|_|_|_|io
   ·cases ho
    refine opOk_h rfl rfl fun KK HK=>?_
    clear hdep hio;simp only[nm,Nat.reduceAdd]at HK ⊢;go_wp2;exact HK.out _ _ ⟨_,rfl,rfl,Below.refl _ _⟩
   ·cases ho
    refine opOk_h rfl rfl fun KK HK=>?_
    clear hdep hio;simp only[nm,Nat.reduceAdd]at HK ⊢;go_wp2;exact HK.out _ _ ⟨_,rfl,rfl,Below.refl _ _⟩
   ·cases ho
    have h1:S 1 = .pointer (some ⟨c4.heap.size,0,none⟩):=hdep 1 (by kernel_rfl) (by decide)
    obtain⟨N7,_,_⟩:=(l2.out.below hbx l2.out.lt).facts;refine opOk_h rfl rfl fun KK HK=>?_
    clear hdep hio;simp only[nm,Nat.reduceAdd]at HK ⊢;generalize S 1=t1 at *;subst h1;go_wp2;exact HK.out _ _ ⟨_,rfl,rfl,Below.refl _ _⟩
   ·cases ho
    have h2:S 2 = .int .i64 f0:=hdep 2 (by kernel_rfl) (by decide)
    refine opOk_h rfl rfl fun KK HK=>?_
    clear hdep hio;simp only[nm,Nat.reduceAdd]at HK ⊢;generalize S 2=t2 at *;subst h2;go_wp2_with fail
    have key:=t_dec x D [.int .i64 f0] b6 (I5.out.below (l1.out.trans (hbx.mono l1.out.size))) I4.out;rw[val_int]at key;refine(key).mono ?_;rintro e xN⟨rfl,hbN⟩;exact HK.out _ _ ⟨_,rfl,rfl,hbN⟩
   ·cases ho
    refine opOk_h rfl rfl fun KK HK=>?_
    clear hdep hio;simp only[nm,Nat.reduceAdd]at HK ⊢;go_wp2;exact HK.out _ _ ⟨_,rfl,rfl,Below.refl _ _⟩
   ·cases ho
    have h4:S 4 = .pointer (some ⟨c4.heap.size,1,none⟩):=hdep 4 (by kernel_rfl) (by decide)
    obtain⟨N8,_,_⟩:=(l2.out.below hbx l2.out.lt).facts;refine opOk_h rfl rfl fun KK HK=>?_
    clear hdep hio;simp only[nm,Nat.reduceAdd]at HK ⊢;generalize S 4=t4 at *;subst h4;go_wp2;exact HK.out _ _ ⟨_,rfl,rfl,Below.refl _ _⟩
   ·cases ho
    have h5:S 5 = .int .i64 f1:=hdep 5 (by kernel_rfl) (by decide)
    refine opOk_h rfl rfl fun KK HK=>?_
    clear hdep hio;simp only[nm,Nat.reduceAdd]at HK ⊢;generalize S 5=t5 at *;subst h5;go_wp2_with fail
    have key:=t_dec x D [.int .i64 f1] b7 (I7.out.below (l1.out.trans (hbx.mono l1.out.size))) I6.out;rw[val_int]at key;refine(key).mono ?_;rintro e xN⟨rfl,hbN⟩;exact HK.out _ _ ⟨_,rfl,rfl,hbN⟩
   ·cases ho
    have h3:S 3 = .string ⟨b6.toArray⟩:=hdep 3 (by kernel_rfl) (by decide)
    have h6:S 6 = .string ⟨b7.toArray⟩:=hdep 6 (by kernel_rfl) (by decide)
    refine opOk_h rfl rfl fun KK HK=>?_
    clear hdep hio;simp only[nm,Nat.reduceAdd]at HK ⊢;generalize S 3=t3 at *;subst h3;generalize S 6=t6 at *;subst h6;go_wp2;exact HK.out _ _ ⟨_,rfl,Strs.new x _ [b6,b7] _ rfl _ rfl (by decide),(Below.refl _ _).alloc (Nat.le_refl _) _⟩
   ·cases ho
    have h7:Strs x (S 7) 2 (fun i=>[b6,b7].getD i []):=hdep 7 (by kernel_rfl) (by decide)
    refine opOk_h rfl rfl fun KK HK=>?_
    clear hdep hio;simp only[nm,Nat.reduceAdd]at HK ⊢;go_wp2_with fail
    refine(group_any _ _ 2 _ h7 (len_eq s0.out x8.out)).mono ?_;rintro e xN⟨rfl,hbN⟩;exact HK.out _ _ ⟨_,rfl,rfl,hbN⟩
   ·cases ho
    have h8:S 8 = .string ⟨(par (fun i=>[b6,b7].getD i []) 2).toArray⟩:=hdep 8 (by kernel_rfl) (by decide)
    refine opOk_h rfl rfl fun KK HK=>?_
    clear hdep hio;simp only[nm,Nat.reduceAdd]at HK ⊢;generalize S 8=t8 at *;subst h8;go_wp2;exact HK.out _ _ ⟨_,rfl,Strs.new1 x _ _,(Below.refl _ _).alloc (Nat.le_refl _) _⟩
   ·exact absurd hio (by simp)
  intro S x hbx hF;have g0:S 0 = .slice p2 a2 p3:=hF 0 (by decide)
  have g1:S 1 = .pointer (some ⟨c4.heap.size,0,none⟩):=hF 1 (by decide)
  have g2:S 2 = .int .i64 f0:=hF 2 (by decide)
  have g3:S 3 = .string ⟨b6.toArray⟩:=hF 3 (by decide)
  have g4:S 4 = .pointer (some ⟨c4.heap.size,1,none⟩):=hF 4 (by decide)
  have g5:S 5 = .int .i64 f1:=hF 5 (by decide)
  have g6:S 6 = .string ⟨b7.toArray⟩:=hF 6 (by decide)
  have g7:Strs x (S 7) 2 (fun i=>[b6,b7].getD i []):=hF 7 (by decide)
  have g8:S 8 = .string ⟨(par (fun i=>[b6,b7].getD i []) 2).toArray⟩:=hF 8 (by decide)
  have g9:Strs x (S 9) 1 (fun _=>(par (fun i=>[b6,b7].getD i []) 2)):=hF 9 (by decide)
  clear hF;simp only[nm,Nat.reduceAdd,List.length_cons,List.length_nil,List.drop_succ_cons,List.drop_zero];generalize S 0=t0 at *;subst g0;generalize S 1=t1 at *;subst g1;generalize S 2=t2 at *;subst g2;generalize S 3=t3 at *;subst g3;generalize S 4=t4 at *;subst g4;generalize S 5=t5 at *;subst g5;generalize S 6=t6 at *;subst g6;generalize S 7=t7 at *;generalize S 8=t8 at *;subst g8;generalize S 9=t9 at *;obtain⟨J2,hxn⟩:∃y:World,y=x:=⟨_,rfl⟩;subst hxn;have N9:=hid (l1.out.trans (hbx.mono l1.out.size));have O0:=hid (B5.out.below hbx B5.out.lt);have O1:=hid (l2.out.below hbx l2.out.lt);have O2:=hid (I8.out.below hbx);have O3:=hid (I9.out.below hbx);have O4:=hid (J0.out.below hbx);have J3:=hid (J1.out.below hbx);obtain⟨b1,o1,c1,rfl,hce⟩:=Strs.one g9;go_wp2_with (at_builtin;refine wpList_pushT J2 rfl _ _ rfl a7 b5 a2 _ rfl J3.out b1 o1 c1 rfl (par (fun i=>[b6,b7].getD i []) 2) hce (s0.out.symm) (by omega) ?_)
  intro g2 w6 w4 c5;have j9:=hid c5;clear c5;go_wp2;go_roundw
  case rel=>exact⟨a2+1,by omega,by go_num,j9⟩
  case measure=>simp[intOf];omega
 obtain rfl:a2=d1:=by omega
 go_upto_region 22 with(fail)
 refine wp_region_facts (by kernel_rfl) (by kernel_rfl) [89,90,91,92,93,94,95,96,97,98,99,100] 40 (by kernel_rfl) (fun io v x=>match io with
  | 0=>v = .pointer (some ⟨w.heap.size,4,none⟩)
  | 1=>v = .pointer (some ⟨w.heap.size,4,none⟩)
  | 2=>v = .slice j1 j2 j3
  | 3=>v = .string ⟨t31.toArray⟩
  | 4=>v = .pointer (some ⟨w.heap.size,4,none⟩)
  | 5=>v = .pointer (some ⟨w.heap.size,5,none⟩)
  | 6=>v = .slice j4 j5 j6
  | 7=>v = .string ⟨t32.toArray⟩
  | 8=>v = .slice l6 a1 l7
  | 9=>v = .string ⟨(par a3 a1).toArray⟩
  | 10=>Strs x v 3 (fun i=>[t31,t32,(par a3 a1)].getD i [])
  | _=>v = .string ⟨(par (fun i=>[t31,t32,(par a3 a1)].getD i []) 3).toArray⟩) ?_ ?_ ?_
 ·intro io v x x' hio h hb
  rcases io with _|_|_|_|_|_|_|_|_|_|_|io
  ·exact h
  ·exact h
  ·exact h
  ·exact h
  ·exact h
  ·exact h
  ·exact h
  ·exact h
  ·exact h
  ·exact h
  ·exact Strs.below h hb
  ·exact h
 ·intro io oo S x ho hio hbx hdep
  rcases io with _|_|_|_|_|_|_|_|_|_|_|_|io
  ·cases ho
   refine opOk_h rfl rfl fun KK HK=>?_
   clear hdep hio;simp only[nm,Nat.reduceAdd]at HK ⊢;go_wp2;exact HK.out _ _ ⟨_,rfl,rfl,Below.refl _ _⟩
  ·cases ho
   have h0:S 0 = .pointer (some ⟨w.heap.size,4,none⟩):=hdep 0 (by kernel_rfl) (by decide)
   refine opOk_h rfl rfl fun KK HK=>?_
   clear hdep hio;simp only[nm,Nat.reduceAdd]at HK ⊢;generalize S 0=t0 at *;subst h0;go_wp2;exact HK.out _ _ ⟨_,rfl,rfl,Below.refl _ _⟩
  ·cases ho
   have h1:S 1 = .pointer (some ⟨w.heap.size,4,none⟩):=hdep 1 (by kernel_rfl) (by decide)
   obtain⟨O5,_,_⟩:=(e9.out.below hbx e9.out.lt).facts;refine opOk_h rfl rfl fun KK HK=>?_
   clear hdep hio;simp only[nm,Nat.reduceAdd]at HK ⊢;generalize S 1=t1 at *;subst h1;go_wp2;exact HK.out _ _ ⟨_,rfl,rfl,Below.refl _ _⟩
  ·cases ho
   have h2:S 2 = .slice j1 j2 j3:=hdep 2 (by kernel_rfl) (by decide)
   refine opOk_h rfl rfl fun KK HK=>?_
   clear hdep hio;simp only[nm,Nat.reduceAdd]at HK ⊢;generalize S 2=t2 at *;subst h2;go_wp2_with fail
   have key:=t_lists x D [.slice j1 j2 j3] t31 (C8.out.below (c7.out.trans (hbx.mono c7.out.size))) C7.out;rw[val_list]at key;refine(key).mono ?_;rintro e xN⟨rfl,hbN⟩;exact HK.out _ _ ⟨_,rfl,rfl,hbN⟩
  ·cases ho
   refine opOk_h rfl rfl fun KK HK=>?_
   clear hdep hio;simp only[nm,Nat.reduceAdd]at HK ⊢;go_wp2;exact HK.out _ _ ⟨_,rfl,rfl,Below.refl _ _⟩
  ·cases ho
   have h4:S 4 = .pointer (some ⟨w.heap.size,4,none⟩):=hdep 4 (by kernel_rfl) (by decide)
   refine opOk_h rfl rfl fun KK HK=>?_
   clear hdep hio;simp only[nm,Nat.reduceAdd]at HK ⊢;generalize S 4=t4 at *;subst h4;go_wp2;exact HK.out _ _ ⟨_,rfl,rfl,Below.refl _ _⟩
  ·cases ho
   have h5:S 5 = .pointer (some ⟨w.heap.size,5,none⟩):=hdep 5 (by kernel_rfl) (by decide)
   obtain⟨O6,_,_⟩:=(e9.out.below hbx e9.out.lt).facts;refine opOk_h rfl rfl fun KK HK=>?_
   clear hdep hio;simp only[nm,Nat.reduceAdd]at HK ⊢;generalize S 5=t5 at *;subst h5;go_wp2;exact HK.out _ _ ⟨_,rfl,rfl,Below.refl _ _⟩
  ·cases ho
   have h6:S 6 = .slice j4 j5 j6:=hdep 6 (by kernel_rfl) (by decide)
   refine opOk_h rfl rfl fun KK HK=>?_
   clear hdep hio;simp only[nm,Nat.reduceAdd]at HK ⊢;generalize S 6=t6 at *;subst h6;go_wp2_with fail
   have key:=t_lists x D [.slice j4 j5 j6] t32 (D0.out.below (c7.out.trans (hbx.mono c7.out.size))) C9.out;rw[val_list]at key;refine(key).mono ?_;rintro e xN⟨rfl,hbN⟩;exact HK.out _ _ ⟨_,rfl,rfl,hbN⟩
  ·cases ho
   refine opOk_h rfl rfl fun KK HK=>?_
   clear hdep hio;simp only[nm,Nat.reduceAdd]at HK ⊢;go_wp2;exact HK.out _ _ ⟨_,rfl,rfl,Below.refl _ _⟩
  ·cases ho
   have h8:S 8 = .slice l6 a1 l7:=hdep 8 (by kernel_rfl) (by decide)
   refine opOk_h rfl rfl fun KK HK=>?_
   clear hdep hio;simp only[nm,Nat.reduceAdd]at HK ⊢;generalize S 8=t8 at *;subst h8;go_wp2_with fail
   refine(group_any _ _ a1 a3 ((x6.out.strs).below hbx) v5.out).mono ?_;rintro e xN⟨rfl,hbN⟩;exact HK.out _ _ ⟨_,rfl,rfl,hbN⟩
  ·cases ho
   have h3:S 3 = .string ⟨t31.toArray⟩:=hdep 3 (by kernel_rfl) (by decide)
   have h7:S 7 = .string ⟨t32.toArray⟩:=hdep 7 (by kernel_rfl) (by decide)
   have h9:S 9 = .string ⟨(par a3 a1).toArray⟩:=hdep 9 (by kernel_rfl) (by decide)
   refine opOk_h rfl rfl fun KK HK=>?_
   clear hdep hio;simp only[nm,Nat.reduceAdd]at HK ⊢;generalize S 3=t3 at *;subst h3;generalize S 7=t7 at *;subst h7;generalize S 9=t9 at *;subst h9;go_wp2;exact HK.out _ _ ⟨_,rfl,Strs.new x _ [t31,t32,(par a3 a1)] _ rfl _ rfl (by decide),(Below.refl _ _).alloc (Nat.le_refl _) _⟩
  ·cases ho
   have h10:Strs x (S 10) 3 (fun i=>[t31,t32,(par a3 a1)].getD i []):=hdep 10 (by kernel_rfl) (by decide)
   refine opOk_h rfl rfl fun KK HK=>?_
   clear hdep hio;simp only[nm,Nat.reduceAdd]at HK ⊢;go_wp2_with fail
   refine(group_any _ _ 3 _ h10 (p4.out)).mono ?_;rintro e xN⟨rfl,hbN⟩;exact HK.out _ _ ⟨_,rfl,rfl,hbN⟩
  ·exact absurd hio (by simp)
 intro S x hbx hF;have g0:S 0 = .pointer (some ⟨w.heap.size,4,none⟩):=hF 0 (by decide)
 have g1:S 1 = .pointer (some ⟨w.heap.size,4,none⟩):=hF 1 (by decide)
 have g2:S 2 = .slice j1 j2 j3:=hF 2 (by decide)
 have g3:S 3 = .string ⟨t31.toArray⟩:=hF 3 (by decide)
 have g4:S 4 = .pointer (some ⟨w.heap.size,4,none⟩):=hF 4 (by decide)
 have g5:S 5 = .pointer (some ⟨w.heap.size,5,none⟩):=hF 5 (by decide)
 have g6:S 6 = .slice j4 j5 j6:=hF 6 (by decide)
 have g7:S 7 = .string ⟨t32.toArray⟩:=hF 7 (by decide)
 have g8:S 8 = .slice l6 a1 l7:=hF 8 (by decide)
 have g9:S 9 = .string ⟨(par a3 a1).toArray⟩:=hF 9 (by decide)
 have g10:Strs x (S 10) 3 (fun i=>[t31,t32,(par a3 a1)].getD i []):=hF 10 (by decide)
 have g11:S 11 = .string ⟨(par (fun i=>[t31,t32,(par a3 a1)].getD i []) 3).toArray⟩:=hF 11 (by decide)
 clear hF;simp only[nm,Nat.reduceAdd,List.length_cons,List.length_nil,List.drop_succ_cons,List.drop_zero];generalize S 0=t0 at *;subst g0;generalize S 1=t1 at *;subst g1;generalize S 2=t2 at *;subst g2;generalize S 3=t3 at *;subst g3;generalize S 4=t4 at *;subst g4;generalize S 5=t5 at *;subst g5;generalize S 6=t6 at *;subst g6;generalize S 7=t7 at *;subst g7;generalize S 8=t8 at *;subst g8;generalize S 9=t9 at *;subst g9;generalize S 10=t10 at *;generalize S 11=t11 at *;subst g11;obtain⟨O7,hxn⟩:∃y:World,y=x:=⟨_,rfl⟩;subst hxn;have f2:=hid (c7.out.trans (hbx.mono c7.out.size));have f3:=hid (e9.out.below hbx e9.out.lt);have B6:=hid (B0.out.below hbx);have J4:=hid (x6.out.below hbx);have B7:=hid (B1.out.below hbx);have B8:=hid (r2.out.below hbx);go_upto_region 23 with(fail)
 refine wp_region_facts (by kernel_rfl) (by kernel_rfl) [101,102,103,104,105,106,107,108,109,110,111,112,113,114,115,116,117,118,119,120,121,122] 40 (by kernel_rfl) (fun io v x=>match io with
  | 0=>v = .pointer (some ⟨w.heap.size,0,none⟩)
  | 1=>v = .bool f4
  | 2=>v = .string ⟨t1.toArray⟩
  | 3=>v = .pointer (some ⟨w.heap.size,1,none⟩)
  | 4=>v = .pointer (some ⟨w.heap.size,1,none⟩)
  | 5=>v = .slice f5 f6 f7
  | 6=>v = .string ⟨t21.toArray⟩
  | 7=>v = .pointer (some ⟨w.heap.size,1,none⟩)
  | 8=>v = .pointer (some ⟨w.heap.size,2,none⟩)
  | 9=>v = .slice f8 f9 j0
  | 10=>v = .string ⟨t22.toArray⟩
  | 11=>Strs x v 2 (fun i=>[t21,t22].getD i [])
  | 12=>v = .string ⟨(par (fun i=>[t21,t22].getD i []) 2).toArray⟩
  | 13=>v = .slice l3 k84 l4
  | 14=>v = .string ⟨(par a9 k84).toArray⟩
  | 15=>v = .string ⟨(par (fun i=>[t31,t32,(par a3 a1)].getD i []) 3).toArray⟩
  | 16=>v = .slice x2 a0 x3
  | 17=>v = .string ⟨(par a4 a0).toArray⟩
  | 18=>v = .slice p2 a2 p3
  | 19=>v = .string ⟨(par b5 a2).toArray⟩
  | 20=>Strs x v 6 (fun i=>[t1,(par (fun i=>[t21,t22].getD i []) 2),(par a9 k84),(par (fun i=>[t31,t32,(par a3 a1)].getD i []) 3),(par a4 a0),(par b5 a2)].getD i [])
  | _=>v = .string ⟨(par (fun i=>[t1,(par (fun i=>[t21,t22].getD i []) 2),(par a9 k84),(par (fun i=>[t31,t32,(par a3 a1)].getD i []) 3),(par a4 a0),(par b5 a2)].getD i []) 6).toArray⟩) ?_ ?_ ?_
 ·intro io v x x' hio h hb
  rcases io with _|_|_|_|_|_|_|_|_|_|_|_|_|_|_|_|_|_|_|_|_|io
  ·exact h
  ·exact h
  ·exact h
  ·exact h
  ·exact h
  ·exact h
  ·exact h
  ·exact h
  ·exact h
  ·exact h
  ·exact h
  ·exact Strs.below h hb
  ·exact h
  ·exact h
  ·exact h
  ·exact h
  ·exact h
  ·exact h
  ·exact h
  ·exact h
  ·exact Strs.below h hb
  ·exact h
 ·intro io oo S x ho hio hbx hdep
  rcases io with _|_|_|_|_|_|_|_|_|_|_|_|_|_|_|_|_|_|_|_|_|_|io
  ·cases ho
   refine opOk_h rfl rfl fun KK HK=>?_
   clear hdep hio;simp only[nm,Nat.reduceAdd]at HK ⊢;go_wp2;exact HK.out _ _ ⟨_,rfl,rfl,Below.refl _ _⟩
  ·cases ho
   have h0:S 0 = .pointer (some ⟨w.heap.size,0,none⟩):=hdep 0 (by kernel_rfl) (by decide)
   obtain⟨O8,_,_⟩:=(f3.out.below hbx f3.out.lt).facts;refine opOk_h rfl rfl fun KK HK=>?_
   clear hdep hio;simp only[nm,Nat.reduceAdd]at HK ⊢;generalize S 0=t0 at *;subst h0;go_wp2;exact HK.out _ _ ⟨_,rfl,rfl,Below.refl _ _⟩
  ·cases ho
   have h1:S 1 = .bool f4:=hdep 1 (by kernel_rfl) (by decide)
   refine opOk_h rfl rfl fun KK HK=>?_
   clear hdep hio;simp only[nm,Nat.reduceAdd]at HK ⊢;generalize S 1=t1 at *;subst h1;go_wp2_with fail
   have key:=t_flag x D [.bool f4] t1 (C1.out.below (f2.out.trans (hbx.mono f2.out.size))) C0.out;rw[val_bool]at key;refine(key).mono ?_;rintro e xN⟨rfl,hbN⟩;exact HK.out _ _ ⟨_,rfl,rfl,hbN⟩
  ·cases ho
   refine opOk_h rfl rfl fun KK HK=>?_
   clear hdep hio;simp only[nm,Nat.reduceAdd]at HK ⊢;go_wp2;exact HK.out _ _ ⟨_,rfl,rfl,Below.refl _ _⟩
  ·cases ho
   have h3:S 3 = .pointer (some ⟨w.heap.size,1,none⟩):=hdep 3 (by kernel_rfl) (by decide)
   refine opOk_h rfl rfl fun KK HK=>?_
   clear hdep hio;simp only[nm,Nat.reduceAdd]at HK ⊢;generalize S 3=t3 at *;subst h3;go_wp2;exact HK.out _ _ ⟨_,rfl,rfl,Below.refl _ _⟩
  ·cases ho
   have h4:S 4 = .pointer (some ⟨w.heap.size,1,none⟩):=hdep 4 (by kernel_rfl) (by decide)
   obtain⟨O9,_,_⟩:=(f3.out.below hbx f3.out.lt).facts;refine opOk_h rfl rfl fun KK HK=>?_
   clear hdep hio;simp only[nm,Nat.reduceAdd]at HK ⊢;generalize S 4=t4 at *;subst h4;go_wp2;exact HK.out _ _ ⟨_,rfl,rfl,Below.refl _ _⟩
  ·cases ho
   have h5:S 5 = .slice f5 f6 f7:=hdep 5 (by kernel_rfl) (by decide)
   refine opOk_h rfl rfl fun KK HK=>?_
   clear hdep hio;simp only[nm,Nat.reduceAdd]at HK ⊢;generalize S 5=t5 at *;subst h5;go_wp2_with fail
   have key:=t_longs x D [.slice f5 f6 f7] t21 (C3.out.below (f2.out.trans (hbx.mono f2.out.size))) C2.out;rw[val_list]at key;refine(key).mono ?_;rintro e xN⟨rfl,hbN⟩;exact HK.out _ _ ⟨_,rfl,rfl,hbN⟩
  ·cases ho
   refine opOk_h rfl rfl fun KK HK=>?_
   clear hdep hio;simp only[nm,Nat.reduceAdd]at HK ⊢;go_wp2;exact HK.out _ _ ⟨_,rfl,rfl,Below.refl _ _⟩
  ·cases ho
   have h7:S 7 = .pointer (some ⟨w.heap.size,1,none⟩):=hdep 7 (by kernel_rfl) (by decide)
   refine opOk_h rfl rfl fun KK HK=>?_
   clear hdep hio;simp only[nm,Nat.reduceAdd]at HK ⊢;generalize S 7=t7 at *;subst h7;go_wp2;exact HK.out _ _ ⟨_,rfl,rfl,Below.refl _ _⟩
  ·cases ho
   have h8:S 8 = .pointer (some ⟨w.heap.size,2,none⟩):=hdep 8 (by kernel_rfl) (by decide)
   obtain⟨P0,_,_⟩:=(f3.out.below hbx f3.out.lt).facts;refine opOk_h rfl rfl fun KK HK=>?_
   clear hdep hio;simp only[nm,Nat.reduceAdd]at HK ⊢;generalize S 8=t8 at *;subst h8;go_wp2;exact HK.out _ _ ⟨_,rfl,rfl,Below.refl _ _⟩
  ·cases ho
   have h9:S 9 = .slice f8 f9 j0:=hdep 9 (by kernel_rfl) (by decide)
   refine opOk_h rfl rfl fun KK HK=>?_
   clear hdep hio;simp only[nm,Nat.reduceAdd]at HK ⊢;generalize S 9=t9 at *;subst h9;go_wp2_with fail
   have key:=t_longs x D [.slice f8 f9 j0] t22 (C5.out.below (f2.out.trans (hbx.mono f2.out.size))) C4.out;rw[val_list]at key;refine(key).mono ?_;rintro e xN⟨rfl,hbN⟩;exact HK.out _ _ ⟨_,rfl,rfl,hbN⟩
  ·cases ho
   have h6:S 6 = .string ⟨t21.toArray⟩:=hdep 6 (by kernel_rfl) (by decide)
   have h10:S 10 = .string ⟨t22.toArray⟩:=hdep 10 (by kernel_rfl) (by decide)
   refine opOk_h rfl rfl fun KK HK=>?_
   clear hdep hio;simp only[nm,Nat.reduceAdd]at HK ⊢;generalize S 6=t6 at *;subst h6;generalize S 10=t10 at *;subst h10;go_wp2;exact HK.out _ _ ⟨_,rfl,Strs.new x _ [t21,t22] _ rfl _ rfl (by decide),(Below.refl _ _).alloc (Nat.le_refl _) _⟩
  ·cases ho
   have h11:Strs x (S 11) 2 (fun i=>[t21,t22].getD i []):=hdep 11 (by kernel_rfl) (by decide)
   refine opOk_h rfl rfl fun KK HK=>?_
   clear hdep hio;simp only[nm,Nat.reduceAdd]at HK ⊢;go_wp2_with fail
   refine(group_any _ _ 2 _ h11 (v3.out)).mono ?_;rintro e xN⟨rfl,hbN⟩;exact HK.out _ _ ⟨_,rfl,rfl,hbN⟩
  ·cases ho
   refine opOk_h rfl rfl fun KK HK=>?_
   clear hdep hio;simp only[nm,Nat.reduceAdd]at HK ⊢;go_wp2;exact HK.out _ _ ⟨_,rfl,rfl,Below.refl _ _⟩
  ·cases ho
   have h13:S 13 = .slice l3 k84 l4:=hdep 13 (by kernel_rfl) (by decide)
   refine opOk_h rfl rfl fun KK HK=>?_
   clear hdep hio;simp only[nm,Nat.reduceAdd]at HK ⊢;generalize S 13=t13 at *;subst h13;go_wp2_with fail
   refine(group_any _ _ k84 a9 ((B6.out.strs).below hbx) v4.out).mono ?_;rintro e xN⟨rfl,hbN⟩;exact HK.out _ _ ⟨_,rfl,rfl,hbN⟩
  ·cases ho
   refine opOk_h rfl rfl fun KK HK=>?_
   clear hdep hio;simp only[nm,Nat.reduceAdd]at HK ⊢;go_wp2;exact HK.out _ _ ⟨_,rfl,rfl,Below.refl _ _⟩
  ·cases ho
   refine opOk_h rfl rfl fun KK HK=>?_
   clear hdep hio;simp only[nm,Nat.reduceAdd]at HK ⊢;go_wp2;exact HK.out _ _ ⟨_,rfl,rfl,Below.refl _ _⟩
  ·cases ho
   have h16:S 16 = .slice x2 a0 x3:=hdep 16 (by kernel_rfl) (by decide)
   refine opOk_h rfl rfl fun KK HK=>?_
   clear hdep hio;simp only[nm,Nat.reduceAdd]at HK ⊢;generalize S 16=t16 at *;subst h16;go_wp2_with fail
   refine(group_any _ _ a0 a4 ((B7.out.strs).below hbx) v6.out).mono ?_;rintro e xN⟨rfl,hbN⟩;exact HK.out _ _ ⟨_,rfl,rfl,hbN⟩
  ·cases ho
   refine opOk_h rfl rfl fun KK HK=>?_
   clear hdep hio;simp only[nm,Nat.reduceAdd]at HK ⊢;go_wp2;exact HK.out _ _ ⟨_,rfl,rfl,Below.refl _ _⟩
  ·cases ho
   have h18:S 18 = .slice p2 a2 p3:=hdep 18 (by kernel_rfl) (by decide)
   refine opOk_h rfl rfl fun KK HK=>?_
   clear hdep hio;simp only[nm,Nat.reduceAdd]at HK ⊢;generalize S 18=t18 at *;subst h18;go_wp2_with fail
   refine(group_any _ _ a2 b5 ((B8.out.strs).below hbx) v7.out).mono ?_;rintro e xN⟨rfl,hbN⟩;exact HK.out _ _ ⟨_,rfl,rfl,hbN⟩
  ·cases ho
   have h2:S 2 = .string ⟨t1.toArray⟩:=hdep 2 (by kernel_rfl) (by decide)
   have h12:S 12 = .string ⟨(par (fun i=>[t21,t22].getD i []) 2).toArray⟩:=hdep 12 (by kernel_rfl) (by decide)
   have h14:S 14 = .string ⟨(par a9 k84).toArray⟩:=hdep 14 (by kernel_rfl) (by decide)
   have h15:S 15 = .string ⟨(par (fun i=>[t31,t32,(par a3 a1)].getD i []) 3).toArray⟩:=hdep 15 (by kernel_rfl) (by decide)
   have h17:S 17 = .string ⟨(par a4 a0).toArray⟩:=hdep 17 (by kernel_rfl) (by decide)
   have h19:S 19 = .string ⟨(par b5 a2).toArray⟩:=hdep 19 (by kernel_rfl) (by decide)
   refine opOk_h rfl rfl fun KK HK=>?_
   clear hdep hio;simp only[nm,Nat.reduceAdd]at HK ⊢;generalize S 2=t2 at *;subst h2;generalize S 12=t12 at *;subst h12;generalize S 14=t14 at *;subst h14;generalize S 15=t15 at *;subst h15;generalize S 17=t17 at *;subst h17;generalize S 19=t19 at *;subst h19;go_wp2;exact HK.out _ _ ⟨_,rfl,Strs.new x _ [t1,(par (fun i=>[t21,t22].getD i []) 2),(par a9 k84),(par (fun i=>[t31,t32,(par a3 a1)].getD i []) 3),(par a4 a0),(par b5 a2)] _ rfl _ rfl (by decide),(Below.refl _ _).alloc (Nat.le_refl _) _⟩
  ·cases ho
   have h20:Strs x (S 20) 6 (fun i=>[t1,(par (fun i=>[t21,t22].getD i []) 2),(par a9 k84),(par (fun i=>[t31,t32,(par a3 a1)].getD i []) 3),(par a4 a0),(par b5 a2)].getD i []):=hdep 20 (by kernel_rfl) (by decide)
   refine opOk_h rfl rfl fun KK HK=>?_
   clear hdep hio;simp only[nm,Nat.reduceAdd]at HK ⊢;go_wp2_with fail
   refine(group_any _ _ 6 _ h20 (HL.out)).mono ?_;rintro e xN⟨rfl,hbN⟩;exact HK.out _ _ ⟨_,rfl,rfl,hbN⟩
  ·exact absurd hio (by simp)
 intro S x hbx hF;have g0:S 0 = .pointer (some ⟨w.heap.size,0,none⟩):=hF 0 (by decide)
 have g1:S 1 = .bool f4:=hF 1 (by decide)
 have g2:S 2 = .string ⟨t1.toArray⟩:=hF 2 (by decide)
 have g3:S 3 = .pointer (some ⟨w.heap.size,1,none⟩):=hF 3 (by decide)
 have g4:S 4 = .pointer (some ⟨w.heap.size,1,none⟩):=hF 4 (by decide)
 have g5:S 5 = .slice f5 f6 f7:=hF 5 (by decide)
 have g6:S 6 = .string ⟨t21.toArray⟩:=hF 6 (by decide)
 have g7:S 7 = .pointer (some ⟨w.heap.size,1,none⟩):=hF 7 (by decide)
 have g8:S 8 = .pointer (some ⟨w.heap.size,2,none⟩):=hF 8 (by decide)
 have g9:S 9 = .slice f8 f9 j0:=hF 9 (by decide)
 have g10:S 10 = .string ⟨t22.toArray⟩:=hF 10 (by decide)
 have g11:Strs x (S 11) 2 (fun i=>[t21,t22].getD i []):=hF 11 (by decide)
 have g12:S 12 = .string ⟨(par (fun i=>[t21,t22].getD i []) 2).toArray⟩:=hF 12 (by decide)
 have g13:S 13 = .slice l3 k84 l4:=hF 13 (by decide)
 have g14:S 14 = .string ⟨(par a9 k84).toArray⟩:=hF 14 (by decide)
 have g15:S 15 = .string ⟨(par (fun i=>[t31,t32,(par a3 a1)].getD i []) 3).toArray⟩:=hF 15 (by decide)
 have g16:S 16 = .slice x2 a0 x3:=hF 16 (by decide)
 have g17:S 17 = .string ⟨(par a4 a0).toArray⟩:=hF 17 (by decide)
 have g18:S 18 = .slice p2 a2 p3:=hF 18 (by decide)
 have g19:S 19 = .string ⟨(par b5 a2).toArray⟩:=hF 19 (by decide)
 have g20:Strs x (S 20) 6 (fun i=>[t1,(par (fun i=>[t21,t22].getD i []) 2),(par a9 k84),(par (fun i=>[t31,t32,(par a3 a1)].getD i []) 3),(par a4 a0),(par b5 a2)].getD i []):=hF 20 (by decide)
 have g21:S 21 = .string ⟨(par (fun i=>[t1,(par (fun i=>[t21,t22].getD i []) 2),(par a9 k84),(par (fun i=>[t31,t32,(par a3 a1)].getD i []) 3),(par a4 a0),(par b5 a2)].getD i []) 6).toArray⟩:=hF 21 (by decide)
 clear hF;simp only[nm,Nat.reduceAdd,List.length_cons,List.length_nil,List.drop_succ_cons,List.drop_zero];generalize S 0=t0 at *;subst g0;generalize S 1=t1 at *;subst g1;generalize S 2=t2 at *;subst g2;generalize S 3=t3 at *;subst g3;generalize S 4=t4 at *;subst g4;generalize S 5=t5 at *;subst g5;generalize S 6=t6 at *;subst g6;generalize S 7=t7 at *;subst g7;generalize S 8=t8 at *;subst g8;generalize S 9=t9 at *;subst g9;generalize S 10=t10 at *;subst g10;generalize S 11=t11 at *;generalize S 12=t12 at *;subst g12;generalize S 13=t13 at *;subst g13;generalize S 14=t14 at *;subst g14;generalize S 15=t15 at *;subst g15;generalize S 16=t16 at *;subst g16;generalize S 17=t17 at *;subst g17;generalize S 18=t18 at *;subst g18;generalize S 19=t19 at *;subst g19;generalize S 20=t20 at *;generalize S 21=t21 at *;subst g21;obtain⟨P1,hxn⟩:∃y:World,y=x:=⟨_,rfl⟩;subst hxn;have B9:=hid (f2.out.trans (hbx.mono f2.out.size));have P2:=hid (f3.out.below hbx f3.out.lt);have P3:=hid (B6.out.below hbx);have P4:=hid (J4.out.below hbx);have P5:=hid (B7.out.below hbx);have P6:=hid (B8.out.below hbx);obtain⟨T,hT⟩:∃T,(par (fun i=>[t1,(par (fun i=>[t21,t22].getD i []) 2),(par a9 k84),(par (fun i=>[t31,t32,(par a3 a1)].getD i []) 3),(par a4 a0),(par b5 a2)].getD i []) 6)=T:=⟨_,rfl⟩
 rw[hT];have HT:=hid hT;clear hT;by_cases hlim:T.length≤262144
 ·have hd1:decide ((262144:Int)<(T.length:Int))=false:=decide_eq_false (by omega)
  have hd2:decide (262144<T.length)=false:=decide_eq_false (by omega)
  go_wp2;go_ret2
  exact CFPost.yes HT.out hlim B9.out
 ·have hd1:decide ((262144:Int)<(T.length:Int))=true:=decide_eq_true (by omega)
  have hd2:decide (262144<T.length)=true:=decide_eq_true (by omega)
  go_wp2;go_ret2
  exact CFPost.no HT.out hlim B9.out
end Go.Proofs.YtellcholbkoakaaGreatDoor
