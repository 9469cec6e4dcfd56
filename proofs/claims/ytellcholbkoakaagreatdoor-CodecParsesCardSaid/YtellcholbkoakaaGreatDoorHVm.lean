/-
 The reference's reader: Parse (printed by vgen.py).
-/
import Derived.Test.YtellcholbkoakaaGreatDoorHVk
import Derived.Test.YtellcholbkoakaaGreatDoorHCAs
namespace Go.Proofs.YtellcholbkoakaaGreatDoor
open Go.Lib (hid)
open Go.RowKit AC
set_option linter.unusedVariables false
set_option linter.unusedSimpArgs false
theorem Vst.new(w:World)(s:ByteArray)(hs:s.size≤262144):Vst (w.alloc (.cells #[.string s,.int .i64 0,.bool false] 52)) w.heap.size s (some s.data.toList):=
 ⟨0,false,Bk.new w _ _,by omega,hs,rfl⟩
def CPN(N:Nat)(l:List UInt8)(w:World)(e:Ending)(w':World):Prop:=
 (262144<l.length∧e = .returned (.tuple #[.agg #[.bool false,.slice none 0 0,.slice none 0 0,.slice none 0 0,.slice none 0 0,.slice none 0 0,.slice none 0 0,.slice none 0 0,.slice none 0 0],.int .i64 9])∧Below w.heap.size w w') ∨
 (l.length≤262144∧rd (certS N) 0 (some l)≠some []∧e = .returned (.tuple #[.agg #[.bool false,.slice none 0 0,.slice none 0 0,.slice none 0 0,.slice none 0 0,.slice none 0 0,.slice none 0 0,.slice none 0 0,.slice none 0 0],.int .i64 2])∧Below w.heap.size w w') ∨
 (l.length≤262144∧rd (certS N) 0 (some l)=some []∧∃v,e = .returned (.tuple #[.agg v.toArray,.int .i64 0])∧Rep w' (w.heap.size ≤ ·) (certS N) v [l]∧Below w.heap.size w w')
theorem CPN.out{l:List UInt8}{w w':World}{e:Ending}(h:CPN NN l w e w'):CPPost l w e w':=by
 have e:zcert.toArray = #[.bool false,.slice none 0 0,.slice none 0 0,.slice none 0 0,.slice none 0 0,.slice none 0 0,.slice none 0 0,.slice none 0 0,.slice none 0 0]:=rfl;unfold CPPost;rw[e];exact h
theorem CPN.cert{N:Nat}{w W w':World}{br b b0:Nat}{str:ByteArray}{v:List Value}(hs:str.size≤262144)(h:RP (Sb br b) (certS N) br str (some str.data.toList) W v w')(hrd:rd (certS N) 0 (some str.data.toList)=some [])(hW:Below w.heap.size w W)(hbr:w.heap.size≤br)(hb:w.heap.size≤b)(hb0:w.heap.size≤b0)(a0:b0<W.heap.size)(l:List Value) :
 CPN N str.data.toList w (.returned (.tuple #[.agg v.toArray,.int .i64 0])) (stores w' b0 0 l):=by
 obtain⟨h1,h2,h3,h4⟩:=h;obtain⟨t,ht,hr⟩:=h4 _ _ rfl hrd;have f1:=stores_fr (S:=(· = b0)) rfl l 0 (Fr.refl (· = b0) w')
 refine .inr (.inr ⟨by simpa using hs,hrd,v,rfl,?_,(hW.trans (h3.toBelow (n:=w.heap.size) (fun x hx=>?_) hW.size)).trans (f1.toBelow (n:=w.heap.size) (fun x hx=>by rw[show x=b0 from hx];exact hb0) (Nat.le_trans hW.size h3.size))⟩)
 ·rw[show str.data.toList=t from by rw[ht];simp]
  refine(hr.fr f1 fun x hx e=>?_).sub fun x hx _=>Nat.le_trans hW.size hx
  have hx':W.heap.size≤x:=hx;have e':x=b0:=e;omega
 ·rcases hx with rfl|rfl
  ·exact hbr
  ·exact hb
theorem CPN.syn{N:Nat}{w W w':World}{br b b0:Nat}{str:ByteArray}{v:List Value}(hs:str.size≤262144)(h:RP (Sb br b) (certS N) br str (some str.data.toList) W v w')(hrd:rd (certS N) 0 (some str.data.toList)≠some [])(hW:Below w.heap.size w W)(hbr:w.heap.size≤br)(hb:w.heap.size≤b)(hb0:w.heap.size≤b0)(l:List Value) :
 CPN N str.data.toList w (.returned (.tuple #[.agg #[.bool false,.slice none 0 0,.slice none 0 0,.slice none 0 0,.slice none 0 0,.slice none 0 0,.slice none 0 0,.slice none 0 0,.slice none 0 0],.int .i64 2])) (stores w' b0 0 l):=by
 obtain⟨h1,h2,h3,h4⟩:=h;have f1:=stores_fr (S:=(· = b0)) rfl l 0 (Fr.refl (· = b0) w')
 refine .inr (.inl ⟨by simpa using hs,hrd,rfl,(hW.trans (h3.toBelow (n:=w.heap.size) (fun x hx=>?_) hW.size)).trans (f1.toBelow (n:=w.heap.size) (fun x hx=>by rw[show x=b0 from hx];exact hb0) (Nat.le_trans hW.size h3.size))⟩)
 rcases hx with rfl|rfl
 ·exact hbr
 ·exact hb
theorem CPN.lim{N:Nat}{w w':World}{str:ByteArray}(hs:262144<str.size)(hW:Below w.heap.size w w'):CPN N str.data.toList w (.returned (.tuple #[.agg #[.bool false,.slice none 0 0,.slice none 0 0,.slice none 0 0,.slice none 0 0,.slice none 0 0,.slice none 0 0,.slice none 0 0,.slice none 0 0],.int .i64 9])) w':=
 .inl ⟨by simpa using hs,rfl,hW⟩
set_option maxHeartbeats 16000000 in
set_option maxRecDepth 100000 in
theorem v_Parse_N(N:Nat)(hN:262144≤N)(w:World)(str:ByteArray):Calls Tryz.prog 7 #[.string str] w (CPN N str.data.toList w):=by
 by_cases hbig:262144<str.size
 ·have d1:decide ((262144:Int)<(str.size:Int))=true:=decide_eq_true (by omega)
  go_enter Tryz.func7,Tryz.ntmps7
  have hk0:=Bk.new w 34 #[.bool false,.slice none 0 0,.slice none 0 0,.slice none 0 0,.slice none 0 0,.slice none 0 0,.slice none 0 0,.slice none 0 0,.slice none 0 0];have c0:=hk0.cell 0;have c1:=hk0.cell 1;have c2:=hk0.cell 2;have c3:=hk0.cell 3;have c4:=hk0.cell 4;have c5:=hk0.cell 5;have c6:=hk0.cell 6;have c7:=hk0.cell 7;have c8:=hk0.cell 8;have f0:=hk0.frozen 0;have f1:=hk0.frozen 1;have f2:=hk0.frozen 2;have f3:=hk0.frozen 3;have f4:=hk0.frozen 4;have f5:=hk0.frozen 5;have f6:=hk0.frozen 6;have f7:=hk0.frozen 7;have f8:=hk0.frozen 8;simp only[gq]at c0 c1 c2 c3 c4 c5 c6 c7 c8;go_wp2;refine bodyPost_ret (v:= .tuple #[.agg #[.bool false,.slice none 0 0,.slice none 0 0,.slice none 0 0,.slice none 0 0,.slice none 0 0,.slice none 0 0,.slice none 0 0,.slice none 0 0],.int .i64 9]) (by simp[results,Tryz.results7,go_sem,c0,c1,c2,c3,c4,c5,c6,c7,c8]) rfl ?_
  exact CPN.lim hbig ((Below.refl w.heap.size w).alloc (Nat.le_refl _) _)
 ·have d1:decide ((262144:Int)<(str.size:Int))=false:=decide_eq_false (by omega)
  have hs:str.size≤262144:=by omega
  go_enter Tryz.func7,Tryz.ntmps7
  have a2:w.heap.size≠(w.heap.size+1):=by omega
  have a1:(w.heap.size+1+1)≠(w.heap.size+1):=by omega
  have hd0:w.heap.size≠(w.heap.size+1+1):=by omega
  obtain⟨W0,hW0⟩:∃W,W=((w.alloc (.cells #[.bool false,.slice none 0 0,.slice none 0 0,.slice none 0 0,.slice none 0 0,.slice none 0 0,.slice none 0 0,.slice none 0 0,.slice none 0 0] 34)).alloc (.cells #[.string str,.int .i64 0,.bool false] 52)).alloc (.cells #[.bool false,.slice none 0 0,.slice none 0 0,.slice none 0 0,.slice none 0 0,.slice none 0 0,.slice none 0 0,.slice none 0 0,.slice none 0 0] 34):=⟨_,rfl⟩;have s3:Vst W0 (w.heap.size+1) str (some str.data.toList):=by rw[hW0];have:=(Vst.new (w.alloc (.cells #[.bool false,.slice none 0 0,.slice none 0 0,.slice none 0 0,.slice none 0 0,.slice none 0 0,.slice none 0 0,.slice none 0 0,.slice none 0 0] 34)) str hs).alloc (.cells #[.bool false,.slice none 0 0,.slice none 0 0,.slice none 0 0,.slice none 0 0,.slice none 0 0,.slice none 0 0,.slice none 0 0,.slice none 0 0] 34);simpa using this
  have s4:=hid s3;have HBA:Hid (Bk W0 w.heap.size 34 #[.bool false,.slice none 0 0,.slice none 0 0,.slice none 0 0,.slice none 0 0,.slice none 0 0,.slice none 0 0,.slice none 0 0,.slice none 0 0]):=by rw[hW0];exact((Bk.new _ _ _).alloc _).alloc _
  have s5:Bk W0 (w.heap.size+1+1) 34 #[.bool false,.slice none 0 0,.slice none 0 0,.slice none 0 0,.slice none 0 0,.slice none 0 0,.slice none 0 0,.slice none 0 0,.slice none 0 0]:=by rw[hW0];have:=Bk.new ((w.alloc (.cells #[.bool false,.slice none 0 0,.slice none 0 0,.slice none 0 0,.slice none 0 0,.slice none 0 0,.slice none 0 0,.slice none 0 0,.slice none 0 0] 34)).alloc (.cells #[.string str,.int .i64 0,.bool false] 52)) 34 #[.bool false,.slice none 0 0,.slice none 0 0,.slice none 0 0,.slice none 0 0,.slice none 0 0,.slice none 0 0,.slice none 0 0,.slice none 0 0];simpa using this
  have HBC:=hid s5;clear s3 s5;have HBW:Hid (Below w.heap.size w W0):=by rw[hW0];exact(((Below.refl _ _).alloc (Nat.le_refl _) _).alloc (by simp) _).alloc (by simp;omega) _
  have hS0:=Sb.lt (b:=(w.heap.size+1+1)) s4.out.lt HBC.out.lt;have G9:=HBA.out.lt;go_upto_region 5 with(fail)
  rw[←hW0];clear hW0;go_wp2_with fail
  refine(vwant_any _ (w.heap.size+1) str _ 40 40 rfl s4.out).mono ?_;rintro e w1⟨rfl,hs2,hf3⟩;obtain⟨o4,HQ5⟩:=QM.start' (b:=(w.heap.size+1+1)) (ss:=[.bool,metricS,(.list relationS),(flowS N),(.list (nodeS N)),(.list claimS)]) hs2 hf3;have HB6:=hid (Bk.fr (HBA.out) hf3 a2);have HB7:=hid (Bk.fr (HBC.out) hf3 a1);clear hs2 hf3;go_wp2_with fail
  refine(v_flag.go _ (w.heap.size+1) str _ HQ5.out.st).mono ?_;rintro e w8⟨v,rfl,hp9⟩;obtain⟨a4,rfl⟩:=ty_bool hp9.1;rw[val_bool];have s6:=hid (Bk.fr (HB6.out) hp9.fr a2);have j5:=hid (Bk.fr (HB7.out) hp9.fr a1);clear HB6 HB7;have c13:=(j5.out).cell 0;have f14:=(j5.out).frozen 0;simp only[gq]at c13;obtain⟨o15,n2⟩:=QM.got' rfl HQ5.out hp9 hS0 a1 0 [.bool a4];simp only[stores,Nat.reduceAdd]at n2;have n3:=hid n2;have n4:=Bk.storesFar s6.out hd0 0 [.bool a4];simp only[stores,Nat.reduceAdd]at n4;have s7:=hid n4;clear n4 s6;have n5:=Bk.stores (cs:=[.bool false,.slice none 0 0,.slice none 0 0,.slice none 0 0,.slice none 0 0,.slice none 0 0,.slice none 0 0,.slice none 0 0,.slice none 0 0]) 0 [.bool a4] j5.out;simp only[stores,spl,List.set_cons_zero,List.set_cons_succ,Nat.reduceAdd]at n5;have s8:=hid n5;clear n5 j5;clear hp9 n2 HQ5;go_wp2_with fail
  refine(vspace_any _ (w.heap.size+1) str _ n3.out.st).mono ?_;rintro e w22⟨rfl,s9,j6⟩;obtain⟨o25,j7⟩:=QInv.space' n3.out s9 j6;have t5:=hid (Bk.fr (s7.out) j6 a2);have n6:=hid (Bk.fr (s8.out) j6 a1);clear c13 f14 s7 s8;clear s9 j6 n3;have j8:=Sb.lt (b:=(w.heap.size+1+1)) (j7.out.st).lt (n6.out).lt;go_wp2_with fail
  refine(vwant_any _ (w.heap.size+1) str _ 40 40 rfl j7.out.st).mono ?_;rintro e w30⟨rfl,t6,j9⟩;obtain⟨o33,n7⟩:=QM.start' (b:=(w.heap.size+1+1)) (ss:=[(.list .int),(.list .int)]) t6 j9;have t7:=hid (Bk.fr (t5.out) j9 a2);have t8:=hid (Bk.fr (n6.out) j9 a1);clear t5 n6;clear t6 j9;go_wp2_with fail
  refine(v_longs.go _ (w.heap.size+1) str _ n7.out.st).mono ?_;rintro e w37⟨v,rfl,f9⟩;obtain⟨a5,a6,a7,rfl⟩:=ty_list f9.1;rw[val_list];have t9:=hid (Bk.fr (t7.out) f9.fr a2);have k0:=hid (Bk.fr (t8.out) f9.fr a1);clear t7 t8;have c42:=(k0.out).cell 1;have f43:=(k0.out).frozen 1;simp only[gq]at c42;obtain⟨o44,n8⟩:=QM.got' rfl n7.out f9 j8 a1 1 [.slice a5 a6 a7];simp only[stores,Nat.reduceAdd]at n8;have n9:=hid n8;have o0:=Bk.storesFar t9.out hd0 1 [.slice a5 a6 a7];simp only[stores,Nat.reduceAdd]at o0;have v0:=hid o0;clear o0 t9;have o1:=Bk.stores (cs:=[.bool a4,.slice none 0 0,.slice none 0 0,.slice none 0 0,.slice none 0 0,.slice none 0 0,.slice none 0 0,.slice none 0 0,.slice none 0 0]) 1 [.slice a5 a6 a7] k0.out;simp only[stores,spl,List.set_cons_zero,List.set_cons_succ,Nat.reduceAdd]at o1;have v1:=hid o1;clear o1 k0;clear f9 n8 n7;go_wp2_with fail
  refine(vspace_any _ (w.heap.size+1) str _ n9.out.st).mono ?_;rintro e w51⟨rfl,v2,k3⟩;obtain⟨o54,o2⟩:=QInv.space' n9.out v2 k3;have v3:=hid (Bk.fr (v0.out) k3 a2);have v4:=hid (Bk.fr (v1.out) k3 a1);clear c42 f43 v0 v1;clear v2 k3 n9;go_wp2_with fail
  refine(v_longs.go _ (w.heap.size+1) str _ o2.out.st).mono ?_;rintro e w58⟨v,rfl,g0⟩;obtain⟨a8,a9,b0,rfl⟩:=ty_list g0.1;rw[val_list];have v5:=hid (Bk.fr (v3.out) g0.fr a2);have k4:=hid (Bk.fr (v4.out) g0.fr a1);clear v3 v4;have c63:=(k4.out).cell 2;have f64:=(k4.out).frozen 2;simp only[gq]at c63;obtain⟨o65,o3⟩:=QM.got' rfl o2.out g0 j8 a1 2 [.slice a8 a9 b0];simp only[stores,Nat.reduceAdd]at o3;have o5:=hid o3;have o6:=Bk.storesFar v5.out hd0 2 [.slice a8 a9 b0];simp only[stores,Nat.reduceAdd]at o6;have v6:=hid o6;clear o6 v5;have o7:=Bk.stores (cs:=[.bool a4,.slice a5 a6 a7,.slice none 0 0,.slice none 0 0,.slice none 0 0,.slice none 0 0,.slice none 0 0,.slice none 0 0,.slice none 0 0]) 2 [.slice a8 a9 b0] k4.out;simp only[stores,spl,List.set_cons_zero,List.set_cons_succ,Nat.reduceAdd]at o7;have v7:=hid o7;clear o7 k4;clear g0 o3 o2;go_wp2_with fail
  refine(vwant_any _ (w.heap.size+1) str _ 41 41 rfl o5.out.st).mono ?_;rintro e w72⟨rfl,v8,k5⟩;have v9:=QInv.last' (v:=[.slice a5 a6 a7,.slice a8 a9 b0]) rfl o5.out v8 k5 j8 rfl;have w0:=hid (Bk.fr (v6.out) k5 a2);have w2:=hid (Bk.fr (v7.out) k5 a1);clear c63 f64 v6 v7;clear v8 k5 o5;obtain⟨o78,o8⟩:=QM.next' rfl j7.out v9.out hS0;clear j7 v9 j8;go_wp2_with fail
  refine(vspace_any _ (w.heap.size+1) str _ o8.out.st).mono ?_;rintro e w80⟨rfl,w3,k6⟩;obtain⟨o83,o9⟩:=QInv.space' o8.out w3 k6;have w4:=hid (Bk.fr (w0.out) k6 a2);have w5:=hid (Bk.fr (w2.out) k6 a1);clear w0 w2;clear w3 k6 o8;go_wp2_with fail
  refine(v_relations.go _ (w.heap.size+1) str _ o9.out.st).mono ?_;rintro e w87⟨v,rfl,g2⟩;obtain⟨b2,b3,b4,rfl⟩:=ty_list g2.1;rw[val_list];have w6:=hid (Bk.fr (w4.out) g2.fr a2);have k7:=hid (Bk.fr (w5.out) g2.fr a1);clear w4 w5;have c92:=(k7.out).cell 3;have f93:=(k7.out).frozen 3;simp only[gq]at c92;obtain⟨o94,p0⟩:=QM.got' rfl o9.out g2 hS0 a1 3 [.slice b2 b3 b4];simp only[stores,Nat.reduceAdd]at p0;have p1:=hid p0;have p2:=Bk.storesFar w6.out hd0 3 [.slice b2 b3 b4];simp only[stores,Nat.reduceAdd]at p2;have w7:=hid p2;clear p2 w6;have p3:=Bk.stores (cs:=[.bool a4,.slice a5 a6 a7,.slice a8 a9 b0,.slice none 0 0,.slice none 0 0,.slice none 0 0,.slice none 0 0,.slice none 0 0,.slice none 0 0]) 3 [.slice b2 b3 b4] k7.out;simp only[stores,spl,List.set_cons_zero,List.set_cons_succ,Nat.reduceAdd]at p3;have w9:=hid p3;clear p3 k7;clear g2 p0 o9;go_wp2_with fail
  refine(vspace_any _ (w.heap.size+1) str _ p1.out.st).mono ?_;rintro e N5⟨rfl,x0,k8⟩;obtain⟨N6,p4⟩:=QInv.space' p1.out x0 k8;have x1:=hid (Bk.fr (w7.out) k8 a2);have x2:=hid (Bk.fr (w9.out) k8 a1);clear c92 f93 w7 w9;clear x0 k8 p1;go_wp2_with fail
  refine((v_flow N hN).go _ (w.heap.size+1) str _ p4.out.st).mono ?_;rintro e N7⟨v,rfl,g3⟩;obtain⟨b8,b9,c9,d0,d3,d4,d5,d6,d7,rfl⟩:=ty_flow g3.1;rw[val_flow];have x3:=hid (Bk.fr (x1.out) g3.fr a2);have e0:=hid (Bk.fr (x2.out) g3.fr a1);clear x1 x2;have x4:=(e0.out).cell 4;have H0:=(e0.out).frozen 4;have x5:=(e0.out).cell 5;have H1:=(e0.out).frozen 5;have x6:=(e0.out).cell 6;have H2:=(e0.out).frozen 6;simp only[gq]at x4 x5 x6;obtain⟨N8,p5⟩:=QM.got' rfl p4.out g3 hS0 a1 4 [.slice b8 b9 c9,.slice d0 d3 d4,.slice d5 d6 d7];simp only[stores,Nat.reduceAdd]at p5;have p6:=hid p5;have p7:=Bk.storesFar x3.out hd0 4 [.slice b8 b9 c9,.slice d0 d3 d4,.slice d5 d6 d7];simp only[stores,Nat.reduceAdd]at p7;have x7:=hid p7;clear p7 x3;have p8:=Bk.stores (cs:=[.bool a4,.slice a5 a6 a7,.slice a8 a9 b0,.slice b2 b3 b4,.slice none 0 0,.slice none 0 0,.slice none 0 0,.slice none 0 0,.slice none 0 0]) 4 [.slice b8 b9 c9,.slice d0 d3 d4,.slice d5 d6 d7] e0.out;simp only[stores,spl,List.set_cons_zero,List.set_cons_succ,Nat.reduceAdd]at p8;have x8:=hid p8;clear p8 e0;clear g3 p5 p4;go_wp2_with fail
  refine(vspace_any _ (w.heap.size+1) str _ p6.out.st).mono ?_;rintro e H3⟨rfl,x9,k9⟩;obtain⟨H4,g5⟩:=QInv.space' p6.out x9 k9;have p9:=hid (Bk.fr (x7.out) k9 a2);have l0:=hid (Bk.fr (x8.out) k9 a1);clear x4 H0 x5 H1 x6 H2 x7 x8;clear x9 k9 p6;have y0:=(g5.out.st).lt;have l1:=Sb.lt (b:=(w.heap.size+1+1)) y0 (l0.out).lt;have H5:=(p9.out).lt;have H6:=(l0.out).lt;go_wp2_with fail
  refine(vwant_any _ (w.heap.size+1) str _ 40 40 rfl g5.out.st).mono ?_;rintro e N9⟨rfl,y1,l2⟩;obtain⟨O0,y2⟩:=LI.start' (S:=(Sb (w.heap.size+1) (w.heap.size+1+1))) (s:=(nodeS N)) (e:=65) (g5.out.st) y1 (frb l2);have y3:=hid (Bk.fr (p9.out) l2 a2);have y4:=hid (Bk.fr (l0.out) l2 a1);clear p9 l0;clear y1 l2;go_wp2;go_loopw [6] (fun fv wr=>∃(nn:Nat) (oo:Option (List UInt8)) (lv:Value),fv = .bool (decide (nn=0))∧Hid (LI (Sb (w.heap.size+1) (w.heap.size+1+1)) (nodeS N) 65 (w.heap.size+1) str H4 H3 lv nn oo wr)∧Hid (Bk wr w.heap.size 34 #[.bool false,.slice none 0 0,.slice none 0 0,.slice none 0 0,.slice none 0 0,.slice none 0 0,.slice none 0 0,.slice none 0 0,.slice none 0 0])∧Hid (Bk wr (w.heap.size+1+1) 34 #[.bool a4,.slice a5 a6 a7,.slice a8 a9 b0,.slice b2 b3 b4,.slice b8 b9 c9,.slice d0 d3 d4,.slice d5 d6 d7,lv,.slice none 0 0])) (fun _ wr=>262146-lenAt wr (w.heap.size+1+1) 7)
  case atStart=>exact⟨0,_,_,rfl,y2,y3,y4⟩
  case round=>
   clear y2 y3 y4;obtain⟨a3,O1,O2,rfl,l3,y5,y6⟩:=hrel;obtain⟨O3,hwr⟩:∃w:World,w=wr:=⟨_,rfl⟩;subst hwr;obtain⟨e2,e3,rfl,O4,H7⟩:=l3.out.form;have O5:=l3.out.small;unfold maxLen at H7;go_wp2_with fail
   refine(vmore_any _ (w.heap.size+1) str _ (decide (a3=0)) l3.out.st).mono ?_;intro e d8 g6;have l4:=hid (Bk.fr (y5.out) g6.fr a2);clear y5;have g7:=hid (Bk.fr (y6.out) g6.fr a1);rcases LI.more' l1 Sb.br l3.out g6 with⟨rfl,l5,e4⟩|⟨rfl,y7⟩
   ·clear g6
    go_upto_region 22 with(fail)
    refine wp_region_rel (by kernel_rfl) (by kernel_rfl) [54,55,56,57,58] 40 (by kernel_rfl) (fun d x=>Fr (· = (w.heap.size+1)) d8 x∧(d 3=false→Below d8.heap.size d8 x)) (fun j x x'=>match j with
     | 3=>Fr (· = (w.heap.size+1)) x x'
     | _=>Below x.heap.size x x') (fun io v x=>match io with
     | 0=>v = .pointer (some ⟨(w.heap.size+1+1),7,none⟩)
     | 1=>v = .slice e2 a3 e3
     | 2=>v = .pointer (some ⟨(w.heap.size+1),0,none⟩)
     | 3=>∃u,v=valOf (nodeS N) u∧RP (· = (w.heap.size+1)) (nodeS N) (w.heap.size+1) str l5 d8 u x
     | _=>∃u g,v = .slice (some ⟨g,0,none⟩) 1 1∧RP (· = (w.heap.size+1)) (nodeS N) (w.heap.size+1) str l5 d8 u x∧Bk x g 65 u.toArray∧d8.heap.size≤g) ⟨(Fr.refl _ _).drew,fun _=>(Below.refl _ _).drew⟩ ?_ ?_ ?_ ?_
    ·rintro d j x x' ⟨h,hb⟩ hd hg
     rcases j with _|_|_|_|j
     ·exact⟨h.below hg,fun e=>(hb (Bool.or_eq_false_iff.1 e).1).trans (hg.mono h.size)⟩
     ·exact⟨h.below hg,fun e=>(hb (Bool.or_eq_false_iff.1 e).1).trans (hg.mono h.size)⟩
     ·exact⟨h.below hg,fun e=>(hb (Bool.or_eq_false_iff.1 e).1).trans (hg.mono h.size)⟩
     ·exact⟨h.trans hg,fun e=>by simp at e⟩
     ·exact⟨h.below hg,fun e=>(hb (Bool.or_eq_false_iff.1 e).1).trans (hg.mono h.size)⟩
    ·intro io jo v x x' hi hj hij ha h hg
     rcases io with _|_|_|_|_|io
     ·exact h
     ·exact h
     ·exact h
     ·obtain⟨u,h1,h2⟩:=h
      rcases jo with _|_|_|_|jo
      ·exact⟨u,h1,h2.bel hg⟩
      ·exact⟨u,h1,h2.bel hg⟩
      ·exact⟨u,h1,h2.bel hg⟩
      ·exact absurd rfl hij
      ·exact⟨u,h1,h2.bel hg⟩
     ·obtain⟨u,g,h1,h2,h3,h4⟩:=h
      rcases jo with _|_|_|_|jo
      ·exact⟨u,g,h1,h2.bel hg,h3.below hg h3.lt,h4⟩
      ·exact⟨u,g,h1,h2.bel hg,h3.below hg h3.lt,h4⟩
      ·exact⟨u,g,h1,h2.bel hg,h3.below hg h3.lt,h4⟩
      ·exact absurd (ha.symm.trans (by kernel_rfl:AC.ahead _ 40 4 3=true)) (by decide)
      ·exact⟨u,g,h1,h2.bel hg,h3.below hg h3.lt,h4⟩
     ·exact absurd hi (by simp)
    ·intro io oo S d x ho hio hd hbx hdep
     rcases io with _|_|_|_|_|io
     ·cases ho
      refine opOk_h rfl rfl fun KK HK=>?_
      clear hdep hio;simp only[nv,Nat.reduceAdd]at HK ⊢;go_wp2;exact HK.out _ _ ⟨_,rfl,rfl,Below.refl _ _⟩
     ·cases ho
      have h0:S 0 = .pointer (some ⟨(w.heap.size+1+1),7,none⟩):=hdep 0 (by kernel_rfl) (by decide)
      have cc:=(Bk.fr (g7.out) hbx.1 a1).cell 7;simp only[gq]at cc;refine opOk_h rfl rfl fun KK HK=>?_
      clear hdep hio;simp only[nv,Nat.reduceAdd]at HK ⊢;generalize S 0=t0 at *;subst h0;go_wp2;exact HK.out _ _ ⟨_,rfl,rfl,Below.refl _ _⟩
     ·cases ho
      refine opOk_h rfl rfl fun KK HK=>?_
      clear hdep hio;simp only[nv,Nat.reduceAdd]at HK ⊢;go_wp2;exact HK.out _ _ ⟨_,rfl,rfl,Below.refl _ _⟩
     ·cases ho
      have h2:S 2 = .pointer (some ⟨(w.heap.size+1),0,none⟩):=hdep 2 (by kernel_rfl) (by decide)
      refine opOk_h rfl rfl fun KK HK=>?_
      clear hdep hio;simp only[nv,Nat.reduceAdd]at HK ⊢;generalize S 2=t2 at *;subst h2;go_wp2_with fail
      refine((v_node N hN).go _ (w.heap.size+1) str _ (e4.out.st.below (hbx.2 hd))).mono ?_;rintro e xN⟨u,rfl,hp⟩;exact HK.out _ _ ⟨_,rfl,⟨u,rfl,hp.from hbx.1 fun _ h=> .inl h⟩,hp.2.2.1⟩
     ·cases ho
      have h3:∃u,S 3=valOf (nodeS N) u∧RP (· = (w.heap.size+1)) (nodeS N) (w.heap.size+1) str l5 d8 u x:=hdep 3 (by kernel_rfl) (by decide)
      refine opOk_h rfl rfl fun KK HK=>?_
      clear hdep hio;simp only[nv,Nat.reduceAdd]at HK ⊢;obtain⟨u,h3,hp⟩:=h3;obtain⟨O6,O7,O8,O9,P0,P1,P2,P3,P4,P5,P6,P7,P8,P9,Q0,Q1,Q2,Q3,Q4,Q5,Q6,Q7,Q8,Q9,R0,R1,R2,rfl⟩:=ty_node hp.1;rw[val_node]at h3;generalize S 3=t3 at *;subst h3;go_wp2;exact HK.out _ _ ⟨_,rfl,⟨_,_,rfl,hp.bel ((Below.refl _ _).alloc (Nat.le_refl _) _),Bk.new _ _ _,hbx.1.size⟩,(Below.refl _ _).alloc (Nat.le_refl _) _⟩
     ·exact absurd hio (by simp)
    intro S d x hbx hF;have g1:S 1 = .slice e2 a3 e3:=hF 1 (by decide)
    have g4:∃u g,S 4 = .slice (some ⟨g,0,none⟩) 1 1∧RP (· = (w.heap.size+1)) (nodeS N) (w.heap.size+1) str l5 d8 u x∧Bk x g 65 u.toArray∧d8.heap.size≤g:=hF 4 (by decide)
    clear hF;simp only[nv,Nat.reduceAdd,List.length_cons,List.length_nil,List.drop_succ_cons,List.drop_zero];obtain⟨u,gb,g4,hp,hbk,hg0⟩:=g4;generalize S 0=t0 at *;generalize S 1=t1 at *;generalize S 2=t2 at *;generalize S 3=t3 at *;generalize S 4=t4 at *;subst g1;subst g4;obtain⟨xs,g8⟩:=e4.out.own l1 (frb hbx.1);have H8:=Nat.le_trans e4.out.size hbx.1.size;have q0:Shape.sz (nodeS N)=11:=sz_node;rw[q0]at g8;have hlen:u.length=11:=by rw[hp.1.len,q0]
    have q1:=hid (hp.mono (S':=Sb (w.heap.size+1) (w.heap.size+1+1)) fun x hx=> .inl hx)
    clear hp;have H9:=hid (Bk.fr (l4.out) hbx.1 a2);have I0:=hid (Bk.fr (g7.out) hbx.1 a1);clear l4 g7;refine wpList_pushW x rfl _ _ 31 65 rfl Tryz.underlying31 11 216 vinfo_Node (by decide) (by decide) _ _ a3 xs u (by rfl) g8 gb _ hbk (by rfl) hlen q1.out.1.one (by omega) H8 ?_
    intro g cap R3 q2 l6 y8 y9;rw[←q0]at g8 q2;obtain⟨R4,I1⟩:=LM.nextW one_node l1 y0 e4.out q1.out g8 q2 l6 y8 y9;have I2:=hid (LM.boxW e4.out H9.out H5 l6);have q3:=hid (LM.boxW e4.out I0.out H6 l6);clear g8 q2 l6 y8 y9 e4 q1;have I3:=(q3.out).cell 7;have R5:=(q3.out).frozen 7;simp only[gq]at I3;have z0:=hid (LI.put I1.out a1 l1 7 (.slice (some ⟨g,0,none⟩) (a3+1) cap));have z1:=(I2.out).far (p:=⟨(w.heap.size+1+1),7,none⟩) hd0 (.slice (some ⟨g,0,none⟩) (a3+1) cap);have I4:=hid z1;clear z1;have q4:=(q3.out).set 7 (.slice (some ⟨g,0,none⟩) (a3+1) cap);simp only[List.setIfInBounds_toArray,List.set_cons_succ,List.set_cons_zero]at q4;have z2:=hid q4;clear q4;have R6:=z0.out.small;go_wp2;go_roundw
    case rel=>exact⟨_,_,_,by simp,z0,I4,z2⟩
    case measure=>rw[lenAt_of (n:=a3) y6.out rfl,lenAt_of (n:=a3+1) z2.out rfl];omega
   clear g6;obtain⟨R7,q5⟩:=QM.next' rfl g5.out y7.out hS0;clear g5 y7;go_wp2_with fail
   refine(vspace_any _ (w.heap.size+1) str _ q5.out.st).mono ?_;rintro e I5⟨rfl,z3,l7⟩;obtain⟨I6,g9⟩:=QInv.space' q5.out z3 l7;have q6:=hid (Bk.fr (l4.out) l7 a2);have l8:=hid (Bk.fr (g7.out) l7 a1);clear l4 g7;clear z3 l7 q5;have z4:=(g9.out.st).lt;have l9:=Sb.lt (b:=(w.heap.size+1+1)) z4 (l8.out).lt;have I7:=(q6.out).lt;have I8:=(l8.out).lt;go_wp2_with fail
   refine(vwant_any _ (w.heap.size+1) str _ 40 40 rfl g9.out.st).mono ?_;rintro e R8⟨rfl,z5,m0⟩;obtain⟨R9,z6⟩:=LI.start' (S:=(Sb (w.heap.size+1) (w.heap.size+1+1))) (s:=claimS) (e:=68) (g9.out.st) z5 (frb m0);have z7:=hid (Bk.fr (q6.out) m0 a2);have z8:=hid (Bk.fr (l8.out) m0 a1);clear q6 l8;clear z5 m0;go_wp2;go_loopw [7] (fun fv wr=>∃(nn:Nat) (oo:Option (List UInt8)) (lv:Value),fv = .bool (decide (nn=0))∧Hid (LI (Sb (w.heap.size+1) (w.heap.size+1+1)) claimS 68 (w.heap.size+1) str I6 I5 lv nn oo wr)∧Hid (Bk wr w.heap.size 34 #[.bool false,.slice none 0 0,.slice none 0 0,.slice none 0 0,.slice none 0 0,.slice none 0 0,.slice none 0 0,.slice none 0 0,.slice none 0 0])∧Hid (Bk wr (w.heap.size+1+1) 34 #[.bool a4,.slice a5 a6 a7,.slice a8 a9 b0,.slice b2 b3 b4,.slice b8 b9 c9,.slice d0 d3 d4,.slice d5 d6 d7,.slice e2 a3 e3,lv])) (fun _ wr=>262146-lenAt wr (w.heap.size+1+1) 8)
   case atStart=>exact⟨0,_,_,rfl,z6,z7,z8⟩
   case round=>
    clear z6 z7 z8;obtain⟨b1,S0,S1,rfl,m1,z9,A0⟩:=hrel;obtain⟨S2,hwr⟩:∃w:World,w=wr:=⟨_,rfl⟩;subst hwr;obtain⟨m2,m3,rfl,S3,I9⟩:=m1.out.form;have S4:=m1.out.small;unfold maxLen at I9;go_wp2_with fail
    refine(vmore_any _ (w.heap.size+1) str _ (decide (b1=0)) m1.out.st).mono ?_;intro e h5 h6;have m4:=hid (Bk.fr (z9.out) h6.fr a2);clear z9;have m5:=hid (Bk.fr (A0.out) h6.fr a1);rcases LI.more' l9 Sb.br m1.out h6 with⟨rfl,S5,e1⟩|⟨rfl,A1⟩
    ·clear h6
     have m6:=e1.out.st.lt;have e5:h5.heap.size≠(w.heap.size+1):=(Nat.ne_of_lt m6).symm;have A2:w.heap.size≠h5.heap.size:=Nat.ne_of_lt (m4.out).lt;have A3:(w.heap.size+1+1)≠h5.heap.size:=Nat.ne_of_lt (m5.out).lt;go_wp2_with fail
     refine(vwant_any _ (w.heap.size+1) str _ 40 40 rfl (e1.out.st.alloc _)).mono ?_;rintro e S6⟨rfl,A4,j0⟩;obtain⟨S7,q7⟩:=QM.start' (b:=h5.heap.size) (ss:=[.int,.int]) A4 j0;have A5:=hid (Bk.fr (m4.out.alloc _) j0 a2);have A6:=hid (Bk.fr (m5.out.alloc _) j0 a1);have A7:=hid (Bk.fr (Bk.new h5 68 #[.int .i64 0,.int .i64 0]) j0 e5);clear A4 j0;go_wp2_with fail
     refine(v_num.go _ (w.heap.size+1) str _ q7.out.st).mono ?_;rintro e S8⟨v,rfl,e7⟩;obtain⟨e6,rfl⟩:=ty_int e7.1;rw[val_int];have A8:=hid (Bk.fr (A5.out) e7.fr a2);have A9:=hid (Bk.fr (A6.out) e7.fr a1);have m7:=hid (Bk.fr (A7.out) e7.fr e5);clear A5 A6 A7;have B0:=(m7.out).cell 0;have J0:=(m7.out).frozen 0;simp only[gq]at B0;obtain⟨S9,q8⟩:=QM.got' rfl q7.out e7 (Sb.box m6 _) e5 0 [.int .i64 e6];simp only[stores,Nat.reduceAdd]at q8;have q9:=hid q8;have r0:=Bk.storesFar A8.out A2 0 [.int .i64 e6];simp only[stores,Nat.reduceAdd]at r0;have B1:=hid r0;clear r0 A8;have r1:=Bk.storesFar A9.out A3 0 [.int .i64 e6];simp only[stores,Nat.reduceAdd]at r1;have B2:=hid r1;clear r1 A9;have r2:=Bk.stores (cs:=[.int .i64 0,.int .i64 0]) 0 [.int .i64 e6] m7.out;simp only[stores,spl,List.set_cons_zero,List.set_cons_succ,Nat.reduceAdd]at r2;have B3:=hid r2;clear r2 m7;clear e7 q8 q7;go_wp2_with fail
     refine(vspace_any _ (w.heap.size+1) str _ q9.out.st).mono ?_;rintro e T0⟨rfl,B4,j1⟩;obtain⟨T1,r3⟩:=QInv.space' q9.out B4 j1;have B5:=hid (Bk.fr (B1.out) j1 a2);have B6:=hid (Bk.fr (B2.out) j1 a1);have B7:=hid (Bk.fr (B3.out) j1 e5);clear B0 J0 B1 B2 B3;clear B4 j1 q9;go_wp2_with fail
     refine(v_num.go _ (w.heap.size+1) str _ r3.out.st).mono ?_;rintro e T2⟨v,rfl,e8⟩;obtain⟨e9,rfl⟩:=ty_int e8.1;rw[val_int];have B8:=hid (Bk.fr (B5.out) e8.fr a2);have B9:=hid (Bk.fr (B6.out) e8.fr a1);have m8:=hid (Bk.fr (B7.out) e8.fr e5);clear B5 B6 B7;have C0:=(m8.out).cell 1;have J1:=(m8.out).frozen 1;simp only[gq]at C0;obtain⟨T3,r4⟩:=QM.got' rfl r3.out e8 (Sb.box m6 _) e5 1 [.int .i64 e9];simp only[stores,Nat.reduceAdd]at r4;have r5:=hid r4;have r6:=Bk.storesFar B8.out A2 1 [.int .i64 e9];simp only[stores,Nat.reduceAdd]at r6;have C1:=hid r6;clear r6 B8;have r7:=Bk.storesFar B9.out A3 1 [.int .i64 e9];simp only[stores,Nat.reduceAdd]at r7;have C2:=hid r7;clear r7 B9;have r8:=Bk.stores (cs:=[.int .i64 e6,.int .i64 0]) 1 [.int .i64 e9] m8.out;simp only[stores,spl,List.set_cons_zero,List.set_cons_succ,Nat.reduceAdd]at r8;have C3:=hid r8;clear r8 m8;clear e8 r4 r3;go_wp2_with fail
     refine(vwant_any _ (w.heap.size+1) str _ 41 41 rfl r5.out.st).mono ?_;rintro e J2⟨rfl,C4,j2⟩;have C5:=QInv.last' (v:=[.int .i64 e6,.int .i64 e9]) rfl r5.out C4 j2 (Sb.box m6 _) rfl;have J3:=hid (Bk.fr (C1.out) j2 a2);have C6:=hid (Bk.fr (C2.out) j2 a1);have C7:=hid (Bk.fr (C3.out) j2 e5);clear C0 J1 C1 C2 C3;clear C4 j2 r5;have j3:=hid (RP.inner (c:=(w.heap.size+1+1)) C5.out ((Fr.refl _ _).alloc _) (Nat.le_refl _));clear C5;have C8:=(C7.out).cell 0;have C9:=(C7.out).cell 1;simp only[gq]at C8 C9;obtain⟨xs,j4⟩:=e1.out.own l9 j3.out.fr;have J4:=Nat.le_trans e1.out.size j3.out.fr.size;have D0:Shape.sz claimS=2:=sz_claim;rw[D0]at j4;have D1:=(C6.out).cell 8;simp only[gq]at D1;go_wp2_with (at_builtin;refine wpList_pushS J2 rfl _ _ 32 68 rfl Tryz.underlying32 2 16 vinfo_Claim (by decide) (by decide) _ _ b1 xs [.int .i64 e6,.int .i64 e9] (by rfl) j4 (by rfl) rfl j3.out.1.one (by omega) J4 ?_)
     intro g cap T4 r9 m9 D2 D3;rw[←D0]at j4 r9;obtain⟨T5,J5⟩:=LM.next' one_claim l9 z4 e1.out j3.out j4 r9 m9 D2 D3;have J6:=hid (LM.box e1.out J3.out I7 _ m9);have s0:=hid (LM.box e1.out C6.out I8 _ m9);clear j4 r9 m9 D2 D3 e1 j3 C8 C9 D1;have J7:=(s0.out).cell 8;have T6:=(s0.out).frozen 8;simp only[gq]at J7;have D4:=hid (LI.put J5.out a1 l9 8 (.slice (some ⟨g,0,none⟩) (b1+1) cap));have D5:=(J6.out).far (p:=⟨(w.heap.size+1+1),8,none⟩) hd0 (.slice (some ⟨g,0,none⟩) (b1+1) cap);have J8:=hid D5;clear D5;have s1:=(s0.out).set 8 (.slice (some ⟨g,0,none⟩) (b1+1) cap);simp only[List.setIfInBounds_toArray,List.set_cons_succ,List.set_cons_zero]at s1;have D6:=hid s1;clear s1;have T7:=D4.out.small;go_wp2;go_roundw
     case rel=>exact⟨_,_,_,by simp,D4,J8,D6⟩
     case measure=>rw[lenAt_of (n:=b1) A0.out rfl,lenAt_of (n:=b1+1) D6.out rfl];omega
    clear h6;obtain⟨T8,s2⟩:=QM.next' rfl g9.out A1.out hS0;clear g9 A1;go_wp2_with fail
    refine(vwant_any _ (w.heap.size+1) str _ 41 41 rfl s2.out.st).mono ?_;rintro e T9⟨rfl,D7,n0⟩;have n1:=QInv.last' (v:=[.bool a4,.slice a5 a6 a7,.slice a8 a9 b0,.slice b2 b3 b4,.slice b8 b9 c9,.slice d0 d3 d4,.slice d5 d6 d7,.slice e2 a3 e3,.slice m2 b1 m3]) rfl s2.out D7 n0 hS0 rfl;have a0:=hid (Bk.fr (m4.out) n0 a2);have d9:=hid (Bk.fr (m5.out) n0 a1);clear m4 m5;clear D7 n0 s2;obtain⟨pos,bad,hk,hp1,hp2,ho⟩:=n1.out.st;have k1:=hk.cell 1;have k2:=hk.cell 2;simp only[gq]at k1 k2;have HO:Hid (rd (certS N) 0 (some str.data.toList)=if bad then none else some (str.data.toList.drop pos)):=ho
    clear ho hk;cases bad with
    | true=>
     have J9:=(a0.out).cell 0;have V0:=(a0.out).frozen 0;have K0:=(a0.out).cell 1;have V1:=(a0.out).frozen 1;have K1:=(a0.out).cell 2;have V2:=(a0.out).frozen 2;have K2:=(a0.out).cell 3;have V3:=(a0.out).frozen 3;have K3:=(a0.out).cell 4;have V4:=(a0.out).frozen 4;have K4:=(a0.out).cell 5;have V5:=(a0.out).frozen 5;have K5:=(a0.out).cell 6;have V6:=(a0.out).frozen 6;have K6:=(a0.out).cell 7;have V7:=(a0.out).frozen 7;have K7:=(a0.out).cell 8;have V8:=(a0.out).frozen 8;simp only[gq]at J9 K0 K1 K2 K3 K4 K5 K6 K7;have D8:=CPN.syn (l:=[.bool false,.slice none 0 0,.slice none 0 0,.slice none 0 0,.slice none 0 0,.slice none 0 0,.slice none 0 0,.slice none 0 0,.slice none 0 0]) hs n1.out (by rw[HO.out];simp) HBW.out (by omega) (by omega) (Nat.le_refl _)
     have b5:=Bk.stores (cs:=[.bool false,.slice none 0 0,.slice none 0 0,.slice none 0 0,.slice none 0 0,.slice none 0 0,.slice none 0 0,.slice none 0 0,.slice none 0 0]) 0 [.bool false,.slice none 0 0,.slice none 0 0,.slice none 0 0,.slice none 0 0,.slice none 0 0,.slice none 0 0,.slice none 0 0,.slice none 0 0] (a0.out);simp only[stores,spl,List.set_cons_zero,List.set_cons_succ,Nat.reduceAdd]at D8 b5;go_wp2;have D9:=b5.cell 0;have E0:=b5.cell 1;have E1:=b5.cell 2;have E2:=b5.cell 3;have E3:=b5.cell 4;have E4:=b5.cell 5;have E5:=b5.cell 6;have E6:=b5.cell 7;have E7:=b5.cell 8;simp only[gq]at D9 E0 E1 E2 E3 E4 E5 E6 E7;refine bodyPost_ret (v:= .tuple #[.agg #[.bool false,.slice none 0 0,.slice none 0 0,.slice none 0 0,.slice none 0 0,.slice none 0 0,.slice none 0 0,.slice none 0 0,.slice none 0 0],.int .i64 2]) (by simp[results,Tryz.results7,go_sem,D9,E0,E1,E2,E3,E4,E5,E6,E7]) rfl ?_
     exact D8
    | false=>
     by_cases hpe:pos=str.size
     ·subst hpe
      have d2:(((str.size:Nat):Int) != ((str.size:Nat):Int))=false:=by simp
      have K8:=(d9.out).cell 0;have K9:=(d9.out).cell 1;have L0:=(d9.out).cell 2;have L1:=(d9.out).cell 3;have L2:=(d9.out).cell 4;have L3:=(d9.out).cell 5;have L4:=(d9.out).cell 6;have L5:=(d9.out).cell 7;have L6:=(d9.out).cell 8;simp only[gq]at K8 K9 L0 L1 L2 L3 L4 L5 L6;have L7:=(a0.out).cell 0;have V9:=(a0.out).frozen 0;have L8:=(a0.out).cell 1;have W1:=(a0.out).frozen 1;have L9:=(a0.out).cell 2;have W2:=(a0.out).frozen 2;have M0:=(a0.out).cell 3;have W3:=(a0.out).frozen 3;have M1:=(a0.out).cell 4;have W4:=(a0.out).frozen 4;have M2:=(a0.out).cell 5;have W5:=(a0.out).frozen 5;have M3:=(a0.out).cell 6;have W6:=(a0.out).frozen 6;have M4:=(a0.out).cell 7;have W7:=(a0.out).frozen 7;have M5:=(a0.out).cell 8;have W8:=(a0.out).frozen 8;simp only[gq]at L7 L8 L9 M0 M1 M2 M3 M4 M5;have E8:=CPN.cert (l:=[.bool a4,.slice a5 a6 a7,.slice a8 a9 b0,.slice b2 b3 b4,.slice b8 b9 c9,.slice d0 d3 d4,.slice d5 d6 d7,.slice e2 a3 e3,.slice m2 b1 m3]) hs n1.out (by rw[HO.out];simp) HBW.out (by omega) (by omega) (Nat.le_refl _) G9
      have b6:=Bk.stores (cs:=[.bool false,.slice none 0 0,.slice none 0 0,.slice none 0 0,.slice none 0 0,.slice none 0 0,.slice none 0 0,.slice none 0 0,.slice none 0 0]) 0 [.bool a4,.slice a5 a6 a7,.slice a8 a9 b0,.slice b2 b3 b4,.slice b8 b9 c9,.slice d0 d3 d4,.slice d5 d6 d7,.slice e2 a3 e3,.slice m2 b1 m3] (a0.out);simp only[stores,spl,List.set_cons_zero,List.set_cons_succ,Nat.reduceAdd]at E8 b6;go_wp2;have E9:=b6.cell 0;have F0:=b6.cell 1;have F1:=b6.cell 2;have F2:=b6.cell 3;have F3:=b6.cell 4;have F4:=b6.cell 5;have F5:=b6.cell 6;have F6:=b6.cell 7;have F7:=b6.cell 8;simp only[gq]at E9 F0 F1 F2 F3 F4 F5 F6 F7;refine bodyPost_ret (v:= .tuple #[.agg #[.bool a4,.slice a5 a6 a7,.slice a8 a9 b0,.slice b2 b3 b4,.slice b8 b9 c9,.slice d0 d3 d4,.slice d5 d6 d7,.slice e2 a3 e3,.slice m2 b1 m3],.int .i64 0]) (by simp[results,Tryz.results7,go_sem,E9,F0,F1,F2,F3,F4,F5,F6,F7]) rfl ?_
      exact E8
     ·have d2:(((pos:Nat):Int) != ((str.size:Nat):Int))=true:=bne_iff_ne.2 (by omega)
      have F8:rd (certS N) 0 (some str.data.toList)≠some []:=by
       rw[HO.out];intro h9;have h8:(str.data.toList.drop pos).length=0:=by
        have h7:str.data.toList.drop pos=[]:=by simpa using h9
        rw[h7];rfl
       simp at h8;omega
      have HNE:=hid F8;clear F8;have M6:=(a0.out).cell 0;have W9:=(a0.out).frozen 0;have M7:=(a0.out).cell 1;have X0:=(a0.out).frozen 1;have M8:=(a0.out).cell 2;have X1:=(a0.out).frozen 2;have M9:=(a0.out).cell 3;have X2:=(a0.out).frozen 3;have N0:=(a0.out).cell 4;have X3:=(a0.out).frozen 4;have N1:=(a0.out).cell 5;have X4:=(a0.out).frozen 5;have N2:=(a0.out).cell 6;have X5:=(a0.out).frozen 6;have N3:=(a0.out).cell 7;have X6:=(a0.out).frozen 7;have N4:=(a0.out).cell 8;have X7:=(a0.out).frozen 8;simp only[gq]at M6 M7 M8 M9 N0 N1 N2 N3 N4;have F9:=CPN.syn (l:=[.bool false,.slice none 0 0,.slice none 0 0,.slice none 0 0,.slice none 0 0,.slice none 0 0,.slice none 0 0,.slice none 0 0,.slice none 0 0]) hs n1.out HNE.out HBW.out (by omega) (by omega) (Nat.le_refl _)
      have b7:=Bk.stores (cs:=[.bool false,.slice none 0 0,.slice none 0 0,.slice none 0 0,.slice none 0 0,.slice none 0 0,.slice none 0 0,.slice none 0 0,.slice none 0 0]) 0 [.bool false,.slice none 0 0,.slice none 0 0,.slice none 0 0,.slice none 0 0,.slice none 0 0,.slice none 0 0,.slice none 0 0,.slice none 0 0] (a0.out);simp only[stores,spl,List.set_cons_zero,List.set_cons_succ,Nat.reduceAdd]at F9 b7;go_wp2;have G0:=b7.cell 0;have G1:=b7.cell 1;have G2:=b7.cell 2;have G3:=b7.cell 3;have G4:=b7.cell 4;have G5:=b7.cell 5;have G6:=b7.cell 6;have G7:=b7.cell 7;have G8:=b7.cell 8;simp only[gq]at G0 G1 G2 G3 G4 G5 G6 G7 G8;refine bodyPost_ret (v:= .tuple #[.agg #[.bool false,.slice none 0 0,.slice none 0 0,.slice none 0 0,.slice none 0 0,.slice none 0 0,.slice none 0 0,.slice none 0 0,.slice none 0 0],.int .i64 2]) (by simp[results,Tryz.results7,go_sem,G0,G1,G2,G3,G4,G5,G6,G7,G8]) rfl ?_
      exact F9
theorem v_Parse(w:World)(str:ByteArray):Calls Tryz.prog 7 #[.string str] w (CPPost str.data.toList w):=(v_Parse_N NN (by unfold NN;omega) w str).mono fun e w' h=>h.out
end Go.Proofs.YtellcholbkoakaaGreatDoor
