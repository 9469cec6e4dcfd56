/-
 The reader: fields (printed by gen_codec.py).
-/
import Derived.Test.YtellcholbkoakaaGreatDoorHCRa
import Derived.Test.YtellcholbkoakaaGreatDoorHCE1
namespace Go.Proofs.YtellcholbkoakaaGreatDoor
open Go.Lib (hid)
open Go.RowKit AC
set_option linter.unusedVariables false
set_option linter.unusedSimpArgs false
set_option maxHeartbeats 4000000 in
theorem ujh(L:Nat)(hg:Reads 105 .int (L-1)):uP 259 .int L 219 0:=by
 refine⟨enters_of Tryz.func259 (by kernel_rfl) rfl,?_⟩
 intro w br bv bt str r cs h b0 hv ht a1 d1 d2 d3 d4;have a9:=ht.lt;have cv:=hv.cell 0;simp only[gq]at cv;have b1:0+1≤cs.size:=by rw[show Shape.sz .int=1 from rfl]at a1;exact a1
 have HR:=hid h;have HV:=hid hv;have HT:=hid ht;have HG:=hid hg;clear h hv ht hg a1;go_enter Tryz.func259,Tryz.ntmps259
 go_wp2_with fail
 refine(HG.out _ br str (some r) HR.out (lim b0)).mono ?_;rintro e w1⟨v,rfl,a2,a3,hf,a4⟩;have a0:=HT.out.fr hf d1;obtain⟨zn,rfl⟩:=ug a2;rw[uo];obtain⟨y0,e0⟩:∃y,w1.cell? ⟨bt,0,none⟩=some y:=⟨_,(a0.cell 0).trans (Array.getElem?_eq_getElem (by omega))⟩
 have f0:=a0.frozen 0;have a5:=hid a0;have a8:=hid a2;have a6:=hid a3;have HF:=hid hf;have a7:=hid a4;clear a0 a2 a3 hf a4;go_wp2;go_end0
 exact CloPost.of a8.out a6.out HF.out a7.out (a5.out.set 0 (.int .i64 zn)) ((Fr.refl _ _).wr _ _) a9 d1 d4
set_option maxHeartbeats 4000000 in
theorem uji(L:Nat)(hg:Reads 184 .int (L-1)):uP 260 .int L 219 1:=by
 refine⟨enters_of Tryz.func260 (by kernel_rfl) rfl,?_⟩
 intro w br bv bt str r cs h b0 hv ht a1 d1 d2 d3 d4;have a9:=ht.lt;have cv:=hv.cell 0;simp only[gq]at cv;have b1:1+1≤cs.size:=by rw[show Shape.sz .int=1 from rfl]at a1;exact a1
 have HR:=hid h;have HV:=hid hv;have HT:=hid ht;have HG:=hid hg;clear h hv ht hg a1;go_enter Tryz.func260,Tryz.ntmps260
 go_wp2_with fail
 refine(HG.out _ br str (some r) HR.out (lim b0)).mono ?_;rintro e w1⟨v,rfl,a2,a3,hf,a4⟩;have a0:=HT.out.fr hf d1;obtain⟨zn,rfl⟩:=ug a2;rw[uo];obtain⟨y0,e0⟩:∃y,w1.cell? ⟨bt,1,none⟩=some y:=⟨_,(a0.cell 1).trans (Array.getElem?_eq_getElem (by omega))⟩
 have f0:=a0.frozen 1;have a5:=hid a0;have a8:=hid a2;have a6:=hid a3;have HF:=hid hf;have a7:=hid a4;clear a0 a2 a3 hf a4;go_wp2;go_end0
 exact CloPost.of a8.out a6.out HF.out a7.out (a5.out.set 1 (.int .i64 zn)) ((Fr.refl _ _).wr _ _) a9 d1 d4
set_option maxHeartbeats 4000000 in
theorem utu(L:Nat)(hg:Reads 184 .int (L-1)):uP 185 .int L 148 0:=by
 refine⟨enters_of Tryz.func185 (by kernel_rfl) rfl,?_⟩
 intro w br bv bt str r cs h b0 hv ht a1 d1 d2 d3 d4;have a9:=ht.lt;have cv:=hv.cell 0;simp only[gq]at cv;have b1:0+1≤cs.size:=by rw[show Shape.sz .int=1 from rfl]at a1;exact a1
 have HR:=hid h;have HV:=hid hv;have HT:=hid ht;have HG:=hid hg;clear h hv ht hg a1;go_enter Tryz.func185,Tryz.ntmps185
 go_wp2_with fail
 refine(HG.out _ br str (some r) HR.out (lim b0)).mono ?_;rintro e w1⟨v,rfl,a2,a3,hf,a4⟩;have a0:=HT.out.fr hf d1;obtain⟨zn,rfl⟩:=ug a2;rw[uo];obtain⟨y0,e0⟩:∃y,w1.cell? ⟨bt,0,none⟩=some y:=⟨_,(a0.cell 0).trans (Array.getElem?_eq_getElem (by omega))⟩
 have f0:=a0.frozen 0;have a5:=hid a0;have a8:=hid a2;have a6:=hid a3;have HF:=hid hf;have a7:=hid a4;clear a0 a2 a3 hf a4;go_wp2;go_end0
 exact CloPost.of a8.out a6.out HF.out a7.out (a5.out.set 0 (.int .i64 zn)) ((Fr.refl _ _).wr _ _) a9 d1 d4
set_option maxHeartbeats 4000000 in
theorem utv(L:Nat)(hg:Reads 188 uH (L-1)):uP 186 (.list uH) L 148 1:=by
 refine⟨enters_of Tryz.func186 (by kernel_rfl) rfl,?_⟩
 intro w br bv bt str r cs h b0 hv ht a1 d1 d2 d3 d4;have a9:=ht.lt;have cv:=hv.cell 0;simp only[gq]at cv;have b1:1+1≤cs.size:=by rw[show Shape.sz (.list uH)=1 from rfl]at a1;exact a1
 have HR:=hid h;have HV:=hid hv;have HT:=hid ht;have HG:=hid hg;clear h hv ht hg a1;go_enter Tryz.func186,Tryz.ntmps186
 go_wp2_with fail
 refine(uqf (L-1) _ _ _ _ br str (some r) HR.out (lim b0) (ElR.meth (enters_of Tryz.func188 (by kernel_rfl) rfl) HG.out br str _)).mono ?_
 rintro e w1⟨v,rfl,a2,a3,hf,a4⟩;have a0:=HT.out.fr hf d1;obtain⟨zA,zk,zc,rfl⟩:=ua a2;rw[ue];obtain⟨y0,e0⟩:∃y,w1.cell? ⟨bt,1,none⟩=some y:=⟨_,(a0.cell 1).trans (Array.getElem?_eq_getElem (by omega))⟩
 have f0:=a0.frozen 1;have a5:=hid a0;have a8:=hid a2;have a6:=hid a3;have HF:=hid hf;have a7:=hid a4;clear a0 a2 a3 hf a4;go_wp2;go_end0
 exact CloPost.of a8.out a6.out HF.out a7.out (a5.out.set 1 (.slice zA zk zc)) ((Fr.refl _ _).wr _ _) a9 d1 d4
set_option maxHeartbeats 4000000 in
theorem uhx(L:Nat)(hg:Reads 95 uX (L-1)):uP 93 (.list uX) L 105 0:=by
 refine⟨enters_of Tryz.func93 (by kernel_rfl) rfl,?_⟩
 intro w br bv bt str r cs h b0 hv ht a1 d1 d2 d3 d4;have a9:=ht.lt;have cv:=hv.cell 0;simp only[gq]at cv;have b1:0+1≤cs.size:=by rw[show Shape.sz (.list uX)=1 from rfl]at a1;exact a1
 have HR:=hid h;have HV:=hid hv;have HT:=hid ht;have HG:=hid hg;clear h hv ht hg a1;go_enter Tryz.func93,Tryz.ntmps93
 go_wp2_with fail
 refine(uxd (L-1) _ _ _ _ br str (some r) HR.out (lim b0) (ElR.meth (enters_of Tryz.func95 (by kernel_rfl) rfl) HG.out br str _)).mono ?_
 rintro e w1⟨v,rfl,a2,a3,hf,a4⟩;have a0:=HT.out.fr hf d1;obtain⟨zA,zk,zc,rfl⟩:=ua a2;rw[ue];obtain⟨y0,e0⟩:∃y,w1.cell? ⟨bt,0,none⟩=some y:=⟨_,(a0.cell 0).trans (Array.getElem?_eq_getElem (by omega))⟩
 have f0:=a0.frozen 0;have a5:=hid a0;have a8:=hid a2;have a6:=hid a3;have HF:=hid hf;have a7:=hid a4;clear a0 a2 a3 hf a4;go_wp2;go_end0
 exact CloPost.of a8.out a6.out HF.out a7.out (a5.out.set 0 (.slice zA zk zc)) ((Fr.refl _ _).wr _ _) a9 d1 d4
set_option maxHeartbeats 4000000 in
theorem uhy(L:Nat)(hg:Reads 95 uX (L-1)):uP 96 (.list uX) L 105 1:=by
 refine⟨enters_of Tryz.func96 (by kernel_rfl) rfl,?_⟩
 intro w br bv bt str r cs h b0 hv ht a1 d1 d2 d3 d4;have a9:=ht.lt;have cv:=hv.cell 0;simp only[gq]at cv;have b1:1+1≤cs.size:=by rw[show Shape.sz (.list uX)=1 from rfl]at a1;exact a1
 have HR:=hid h;have HV:=hid hv;have HT:=hid ht;have HG:=hid hg;clear h hv ht hg a1;go_enter Tryz.func96,Tryz.ntmps96
 go_wp2_with fail
 refine(uxd (L-1) _ _ _ _ br str (some r) HR.out (lim b0) (ElR.meth (enters_of Tryz.func95 (by kernel_rfl) rfl) HG.out br str _)).mono ?_
 rintro e w1⟨v,rfl,a2,a3,hf,a4⟩;have a0:=HT.out.fr hf d1;obtain⟨zA,zk,zc,rfl⟩:=ua a2;rw[ue];obtain⟨y0,e0⟩:∃y,w1.cell? ⟨bt,1,none⟩=some y:=⟨_,(a0.cell 1).trans (Array.getElem?_eq_getElem (by omega))⟩
 have f0:=a0.frozen 1;have a5:=hid a0;have a8:=hid a2;have a6:=hid a3;have HF:=hid hf;have a7:=hid a4;clear a0 a2 a3 hf a4;go_wp2;go_end0
 exact CloPost.of a8.out a6.out HF.out a7.out (a5.out.set 1 (.slice zA zk zc)) ((Fr.refl _ _).wr _ _) a9 d1 d4
set_option maxHeartbeats 4000000 in
theorem ukx(L:Nat)(hg:Reads 90 (.list .int) (L-1)):uP 89 (.list .int) L 25 0:=by
 refine⟨enters_of Tryz.func89 (by kernel_rfl) rfl,?_⟩
 intro w br bv bt str r cs h b0 hv ht a1 d1 d2 d3 d4;have a9:=ht.lt;have cv:=hv.cell 0;simp only[gq]at cv;have b1:0+1≤cs.size:=by rw[show Shape.sz (.list .int)=1 from rfl]at a1;exact a1
 have HR:=hid h;have HV:=hid hv;have HT:=hid ht;have HG:=hid hg;clear h hv ht hg a1;go_enter Tryz.func89,Tryz.ntmps89
 go_wp2_with fail
 refine(HG.out _ br str (some r) HR.out (lim b0)).mono ?_;rintro e w1⟨v,rfl,a2,a3,hf,a4⟩;have a0:=HT.out.fr hf d1;obtain⟨zA,zk,zc,rfl⟩:=ua a2;rw[ue];obtain⟨y0,e0⟩:∃y,w1.cell? ⟨bt,0,none⟩=some y:=⟨_,(a0.cell 0).trans (Array.getElem?_eq_getElem (by omega))⟩
 have f0:=a0.frozen 0;have a5:=hid a0;have a8:=hid a2;have a6:=hid a3;have HF:=hid hf;have a7:=hid a4;clear a0 a2 a3 hf a4;go_wp2;go_end0
 exact CloPost.of a8.out a6.out HF.out a7.out (a5.out.set 0 (.slice zA zk zc)) ((Fr.refl _ _).wr _ _) a9 d1 d4
set_option maxHeartbeats 4000000 in
theorem uky(L:Nat)(hg:Reads 90 (.list .int) (L-1)):uP 91 (.list .int) L 25 1:=by
 refine⟨enters_of Tryz.func91 (by kernel_rfl) rfl,?_⟩
 intro w br bv bt str r cs h b0 hv ht a1 d1 d2 d3 d4;have a9:=ht.lt;have cv:=hv.cell 0;simp only[gq]at cv;have b1:1+1≤cs.size:=by rw[show Shape.sz (.list .int)=1 from rfl]at a1;exact a1
 have HR:=hid h;have HV:=hid hv;have HT:=hid ht;have HG:=hid hg;clear h hv ht hg a1;go_enter Tryz.func91,Tryz.ntmps91
 go_wp2_with fail
 refine(HG.out _ br str (some r) HR.out (lim b0)).mono ?_;rintro e w1⟨v,rfl,a2,a3,hf,a4⟩;have a0:=HT.out.fr hf d1;obtain⟨zA,zk,zc,rfl⟩:=ua a2;rw[ue];obtain⟨y0,e0⟩:∃y,w1.cell? ⟨bt,1,none⟩=some y:=⟨_,(a0.cell 1).trans (Array.getElem?_eq_getElem (by omega))⟩
 have f0:=a0.frozen 1;have a5:=hid a0;have a8:=hid a2;have a6:=hid a3;have HF:=hid hf;have a7:=hid a4;clear a0 a2 a3 hf a4;go_wp2;go_end0
 exact CloPost.of a8.out a6.out HF.out a7.out (a5.out.set 1 (.slice zA zk zc)) ((Fr.refl _ _).wr _ _) a9 d1 d4
set_option maxHeartbeats 4000000 in
theorem utw(L:Nat)(hg:Reads 105 .int (L-1)):uP 261 .int L 116 0:=by
 refine⟨enters_of Tryz.func261 (by kernel_rfl) rfl,?_⟩
 intro w br bv bt str r cs h b0 hv ht a1 d1 d2 d3 d4;have a9:=ht.lt;have cv:=hv.cell 0;simp only[gq]at cv;have b1:0+1≤cs.size:=by rw[show Shape.sz .int=1 from rfl]at a1;exact a1
 have HR:=hid h;have HV:=hid hv;have HT:=hid ht;have HG:=hid hg;clear h hv ht hg a1;go_enter Tryz.func261,Tryz.ntmps261
 go_wp2_with fail
 refine(HG.out _ br str (some r) HR.out (lim b0)).mono ?_;rintro e w1⟨v,rfl,a2,a3,hf,a4⟩;have a0:=HT.out.fr hf d1;obtain⟨zn,rfl⟩:=ug a2;rw[uo];obtain⟨y0,e0⟩:∃y,w1.cell? ⟨bt,0,none⟩=some y:=⟨_,(a0.cell 0).trans (Array.getElem?_eq_getElem (by omega))⟩
 have f0:=a0.frozen 0;have a5:=hid a0;have a8:=hid a2;have a6:=hid a3;have HF:=hid hf;have a7:=hid a4;clear a0 a2 a3 hf a4;go_wp2;go_end0
 exact CloPost.of a8.out a6.out HF.out a7.out (a5.out.set 0 (.int .i64 zn)) ((Fr.refl _ _).wr _ _) a9 d1 d4
set_option maxHeartbeats 4000000 in
theorem utx(L:Nat)(hg:Reads 105 .int (L-1)):uP 262 .int L 116 1:=by
 refine⟨enters_of Tryz.func262 (by kernel_rfl) rfl,?_⟩
 intro w br bv bt str r cs h b0 hv ht a1 d1 d2 d3 d4;have a9:=ht.lt;have cv:=hv.cell 0;simp only[gq]at cv;have b1:1+1≤cs.size:=by rw[show Shape.sz .int=1 from rfl]at a1;exact a1
 have HR:=hid h;have HV:=hid hv;have HT:=hid ht;have HG:=hid hg;clear h hv ht hg a1;go_enter Tryz.func262,Tryz.ntmps262
 go_wp2_with fail
 refine(HG.out _ br str (some r) HR.out (lim b0)).mono ?_;rintro e w1⟨v,rfl,a2,a3,hf,a4⟩;have a0:=HT.out.fr hf d1;obtain⟨zn,rfl⟩:=ug a2;rw[uo];obtain⟨y0,e0⟩:∃y,w1.cell? ⟨bt,1,none⟩=some y:=⟨_,(a0.cell 1).trans (Array.getElem?_eq_getElem (by omega))⟩
 have f0:=a0.frozen 1;have a5:=hid a0;have a8:=hid a2;have a6:=hid a3;have HF:=hid hf;have a7:=hid a4;clear a0 a2 a3 hf a4;go_wp2;go_end0
 exact CloPost.of a8.out a6.out HF.out a7.out (a5.out.set 1 (.int .i64 zn)) ((Fr.refl _ _).wr _ _) a9 d1 d4
set_option maxHeartbeats 4000000 in
theorem uty(n:Nat)(L:Nat)(hg:Reads 191 (ua1 n) (L-1)):uP 263 (.list (ua1 n)) L 116 2:=by
 refine⟨enters_of Tryz.func263 (by kernel_rfl) rfl,?_⟩
 intro w br bv bt str r cs h b0 hv ht a1 d1 d2 d3 d4;have a9:=ht.lt;have cv:=hv.cell 0;simp only[gq]at cv;have b1:2+1≤cs.size:=by rw[show Shape.sz (.list (ua1 n))=1 from rfl]at a1;exact a1
 have HR:=hid h;have HV:=hid hv;have HT:=hid ht;have HG:=hid hg;clear h hv ht hg a1;go_enter Tryz.func263,Tryz.ntmps263
 go_wp2_with fail
 refine(uzb n (L-1) _ _ _ _ br str (some r) HR.out (lim b0) (ElR.meth (enters_of Tryz.func191 (by kernel_rfl) rfl) HG.out br str _)).mono ?_
 rintro e w1⟨v,rfl,a2,a3,hf,a4⟩;have a0:=HT.out.fr hf d1;obtain⟨zA,zk,zc,rfl⟩:=ua a2;rw[ue];obtain⟨y0,e0⟩:∃y,w1.cell? ⟨bt,2,none⟩=some y:=⟨_,(a0.cell 2).trans (Array.getElem?_eq_getElem (by omega))⟩
 have f0:=a0.frozen 2;have a5:=hid a0;have a8:=hid a2;have a6:=hid a3;have HF:=hid hf;have a7:=hid a4;clear a0 a2 a3 hf a4;go_wp2;go_end0
 exact CloPost.of a8.out a6.out HF.out a7.out (a5.out.set 2 (.slice zA zk zc)) ((Fr.refl _ _).wr _ _) a9 d1 d4
set_option maxHeartbeats 4000000 in
theorem umz(n:Nat)(L:Nat)(hg:Reads 191 (ua1 n) (L-1)):uP 190 (ua1 n) L 118 0:=by
 refine⟨enters_of Tryz.func190 (by kernel_rfl) rfl,?_⟩
 intro w br bv bt str r cs h b0 hv ht a1 d1 d2 d3 d4;have a9:=ht.lt;have cv:=hv.cell 0;simp only[gq]at cv;have b6:0+3≤cs.size:=by rw[show Shape.sz (ua1 n)=3 from uA]at a1;exact a1
 have HR:=hid h;have HV:=hid hv;have HT:=hid ht;have HG:=hid hg;clear h hv ht hg a1;go_enter Tryz.func190,Tryz.ntmps190
 go_wp2_with fail
 refine(HG.out _ br str (some r) HR.out (lim b0)).mono ?_;rintro e w1⟨v,rfl,a2,a3,hf,a4⟩;have a0:=HT.out.fr hf d1;obtain⟨b1,b2,b3,b5,b4,rfl⟩:=uek a2;rw[udg];obtain⟨y0,e0⟩:∃y,w1.cell? ⟨bt,0,none⟩=some y:=⟨_,(a0.cell 0).trans (Array.getElem?_eq_getElem (by omega))⟩
 have f0:=a0.frozen 0;obtain⟨y1,e1⟩:∃y,w1.cell? ⟨bt,1,none⟩=some y:=⟨_,(a0.cell 1).trans (Array.getElem?_eq_getElem (by omega))⟩
 have f1:=a0.frozen 1;obtain⟨y2,e2⟩:∃y,w1.cell? ⟨bt,2,none⟩=some y:=⟨_,(a0.cell 2).trans (Array.getElem?_eq_getElem (by omega))⟩
 have f2:=a0.frozen 2;have a5:=hid a0;have a8:=hid a2;have a6:=hid a3;have HF:=hid hf;have a7:=hid a4;clear a0 a2 a3 hf a4;go_wp2;go_end0
 exact CloPost.of a8.out a6.out HF.out a7.out (((a5.out.set 0 (.int .i64 b1)).set 1 (.int .i64 b2)).set 2 (.slice b3 b5 b4)) ((((Fr.refl _ _).wr _ _).wr _ _).wr _ _) a9 d1 d4
set_option maxHeartbeats 4000000 in
theorem um0(L:Nat)(hg:Reads 99 (.list .int) (L-1)):uP 192 (.list .int) L 118 3:=by
 refine⟨enters_of Tryz.func192 (by kernel_rfl) rfl,?_⟩
 intro w br bv bt str r cs h b0 hv ht a1 d1 d2 d3 d4;have a9:=ht.lt;have cv:=hv.cell 0;simp only[gq]at cv;have b1:3+1≤cs.size:=by rw[show Shape.sz (.list .int)=1 from rfl]at a1;exact a1
 have HR:=hid h;have HV:=hid hv;have HT:=hid ht;have HG:=hid hg;clear h hv ht hg a1;go_enter Tryz.func192,Tryz.ntmps192
 go_wp2_with fail
 refine(HG.out _ br str (some r) HR.out (lim b0)).mono ?_;rintro e w1⟨v,rfl,a2,a3,hf,a4⟩;have a0:=HT.out.fr hf d1;obtain⟨zA,zk,zc,rfl⟩:=ua a2;rw[ue];obtain⟨y0,e0⟩:∃y,w1.cell? ⟨bt,3,none⟩=some y:=⟨_,(a0.cell 3).trans (Array.getElem?_eq_getElem (by omega))⟩
 have f0:=a0.frozen 3;have a5:=hid a0;have a8:=hid a2;have a6:=hid a3;have HF:=hid hf;have a7:=hid a4;clear a0 a2 a3 hf a4;go_wp2;go_end0
 exact CloPost.of a8.out a6.out HF.out a7.out (a5.out.set 3 (.slice zA zk zc)) ((Fr.refl _ _).wr _ _) a9 d1 d4
set_option maxHeartbeats 4000000 in
theorem uqg(L:Nat)(hg:Reads 99 (.list .int) (L-1)):uP 97 (.list (.list .int)) L 30 0:=by
 refine⟨enters_of Tryz.func97 (by kernel_rfl) rfl,?_⟩
 intro w br bv bt str r cs h b0 hv ht a1 d1 d2 d3 d4;have a9:=ht.lt;have cv:=hv.cell 0;simp only[gq]at cv;have b1:0+1≤cs.size:=by rw[show Shape.sz (.list (.list .int))=1 from rfl]at a1;exact a1
 have HR:=hid h;have HV:=hid hv;have HT:=hid ht;have HG:=hid hg;clear h hv ht hg a1;go_enter Tryz.func97,Tryz.ntmps97
 go_wp2_with fail
 refine(uoy (L-1) _ _ _ _ br str (some r) HR.out (lim b0) (ElR.meth (enters_of Tryz.func99 (by kernel_rfl) rfl) HG.out br str _)).mono ?_
 rintro e w1⟨v,rfl,a2,a3,hf,a4⟩;have a0:=HT.out.fr hf d1;obtain⟨zA,zk,zc,rfl⟩:=ua a2;rw[ue];obtain⟨y0,e0⟩:∃y,w1.cell? ⟨bt,0,none⟩=some y:=⟨_,(a0.cell 0).trans (Array.getElem?_eq_getElem (by omega))⟩
 have f0:=a0.frozen 0;have a5:=hid a0;have a8:=hid a2;have a6:=hid a3;have HF:=hid hf;have a7:=hid a4;clear a0 a2 a3 hf a4;go_wp2;go_end0
 exact CloPost.of a8.out a6.out HF.out a7.out (a5.out.set 0 (.slice zA zk zc)) ((Fr.refl _ _).wr _ _) a9 d1 d4
set_option maxHeartbeats 4000000 in
theorem uqh(L:Nat)(hg:Reads 99 (.list .int) (L-1)):uP 100 (.list (.list .int)) L 30 1:=by
 refine⟨enters_of Tryz.func100 (by kernel_rfl) rfl,?_⟩
 intro w br bv bt str r cs h b0 hv ht a1 d1 d2 d3 d4;have a9:=ht.lt;have cv:=hv.cell 0;simp only[gq]at cv;have b1:1+1≤cs.size:=by rw[show Shape.sz (.list (.list .int))=1 from rfl]at a1;exact a1
 have HR:=hid h;have HV:=hid hv;have HT:=hid ht;have HG:=hid hg;clear h hv ht hg a1;go_enter Tryz.func100,Tryz.ntmps100
 go_wp2_with fail
 refine(uoy (L-1) _ _ _ _ br str (some r) HR.out (lim b0) (ElR.meth (enters_of Tryz.func99 (by kernel_rfl) rfl) HG.out br str _)).mono ?_
 rintro e w1⟨v,rfl,a2,a3,hf,a4⟩;have a0:=HT.out.fr hf d1;obtain⟨zA,zk,zc,rfl⟩:=ua a2;rw[ue];obtain⟨y0,e0⟩:∃y,w1.cell? ⟨bt,1,none⟩=some y:=⟨_,(a0.cell 1).trans (Array.getElem?_eq_getElem (by omega))⟩
 have f0:=a0.frozen 1;have a5:=hid a0;have a8:=hid a2;have a6:=hid a3;have HF:=hid hf;have a7:=hid a4;clear a0 a2 a3 hf a4;go_wp2;go_end0
 exact CloPost.of a8.out a6.out HF.out a7.out (a5.out.set 1 (.slice zA zk zc)) ((Fr.refl _ _).wr _ _) a9 d1 d4
set_option maxHeartbeats 4000000 in
theorem uqi(n:Nat)(L:Nat)(hg:Reads 103 (uae n) (L-1)):uP 101 (.list (uae n)) L 30 2:=by
 refine⟨enters_of Tryz.func101 (by kernel_rfl) rfl,?_⟩
 intro w br bv bt str r cs h b0 hv ht a1 d1 d2 d3 d4;have a9:=ht.lt;have cv:=hv.cell 0;simp only[gq]at cv;have b1:2+1≤cs.size:=by rw[show Shape.sz (.list (uae n))=1 from rfl]at a1;exact a1
 have HR:=hid h;have HV:=hid hv;have HT:=hid ht;have HG:=hid hg;clear h hv ht hg a1;go_enter Tryz.func101,Tryz.ntmps101
 go_wp2_with fail
 refine(uwa n (L-1) _ _ _ _ br str (some r) HR.out (lim b0) (ElR.meth (enters_of Tryz.func103 (by kernel_rfl) rfl) HG.out br str _)).mono ?_
 rintro e w1⟨v,rfl,a2,a3,hf,a4⟩;have a0:=HT.out.fr hf d1;obtain⟨zA,zk,zc,rfl⟩:=ua a2;rw[ue];obtain⟨y0,e0⟩:∃y,w1.cell? ⟨bt,2,none⟩=some y:=⟨_,(a0.cell 2).trans (Array.getElem?_eq_getElem (by omega))⟩
 have f0:=a0.frozen 2;have a5:=hid a0;have a8:=hid a2;have a6:=hid a3;have HF:=hid hf;have a7:=hid a4;clear a0 a2 a3 hf a4;go_wp2;go_end0
 exact CloPost.of a8.out a6.out HF.out a7.out (a5.out.set 2 (.slice zA zk zc)) ((Fr.refl _ _).wr _ _) a9 d1 d4
set_option maxHeartbeats 4000000 in
theorem um1(L:Nat)(hg:Reads 105 .int (L-1)):uP 353 .int L 143 0:=by
 refine⟨enters_of Tryz.func353 (by kernel_rfl) rfl,?_⟩
 intro w br bv bt str r cs h b0 hv ht a1 d1 d2 d3 d4;have a9:=ht.lt;have cv:=hv.cell 0;simp only[gq]at cv;have b1:0+1≤cs.size:=by rw[show Shape.sz .int=1 from rfl]at a1;exact a1
 have HR:=hid h;have HV:=hid hv;have HT:=hid ht;have HG:=hid hg;clear h hv ht hg a1;go_enter Tryz.func353,Tryz.ntmps353
 go_wp2_with fail
 refine(HG.out _ br str (some r) HR.out (lim b0)).mono ?_;rintro e w1⟨v,rfl,a2,a3,hf,a4⟩;have a0:=HT.out.fr hf d1;obtain⟨zn,rfl⟩:=ug a2;rw[uo];obtain⟨y0,e0⟩:∃y,w1.cell? ⟨bt,0,none⟩=some y:=⟨_,(a0.cell 0).trans (Array.getElem?_eq_getElem (by omega))⟩
 have f0:=a0.frozen 0;have a5:=hid a0;have a8:=hid a2;have a6:=hid a3;have HF:=hid hf;have a7:=hid a4;clear a0 a2 a3 hf a4;go_wp2;go_end0
 exact CloPost.of a8.out a6.out HF.out a7.out (a5.out.set 0 (.int .i64 zn)) ((Fr.refl _ _).wr _ _) a9 d1 d4
set_option maxHeartbeats 4000000 in
theorem um2(n:Nat)(L:Nat)(hg:Reads 322 (uy n) (L-1)):uP 354 (.list (uy n)) L 143 1:=by
 refine⟨enters_of Tryz.func354 (by kernel_rfl) rfl,?_⟩
 intro w br bv bt str r cs h b0 hv ht a1 d1 d2 d3 d4;have a9:=ht.lt;have cv:=hv.cell 0;simp only[gq]at cv;have b1:1+1≤cs.size:=by rw[show Shape.sz (.list (uy n))=1 from rfl]at a1;exact a1
 have HR:=hid h;have HV:=hid hv;have HT:=hid ht;have HG:=hid hg;clear h hv ht hg a1;go_enter Tryz.func354,Tryz.ntmps354
 go_wp2_with fail
 refine(uwb n (L-1) _ _ _ _ br str (some r) HR.out (lim b0) (ElR.meth (enters_of Tryz.func322 (by kernel_rfl) rfl) HG.out br str _)).mono ?_
 rintro e w1⟨v,rfl,a2,a3,hf,a4⟩;have a0:=HT.out.fr hf d1;obtain⟨zA,zk,zc,rfl⟩:=ua a2;rw[ue];obtain⟨y0,e0⟩:∃y,w1.cell? ⟨bt,1,none⟩=some y:=⟨_,(a0.cell 1).trans (Array.getElem?_eq_getElem (by omega))⟩
 have f0:=a0.frozen 1;have a5:=hid a0;have a8:=hid a2;have a6:=hid a3;have HF:=hid hf;have a7:=hid a4;clear a0 a2 a3 hf a4;go_wp2;go_end0
 exact CloPost.of a8.out a6.out HF.out a7.out (a5.out.set 1 (.slice zA zk zc)) ((Fr.refl _ _).wr _ _) a9 d1 d4
set_option maxHeartbeats 4000000 in
theorem ukz(L:Nat)(hg:Reads 105 .int (L-1)):uP 320 .int L 145 0:=by
 refine⟨enters_of Tryz.func320 (by kernel_rfl) rfl,?_⟩
 intro w br bv bt str r cs h b0 hv ht a1 d1 d2 d3 d4;have a9:=ht.lt;have cv:=hv.cell 0;simp only[gq]at cv;have b1:0+1≤cs.size:=by rw[show Shape.sz .int=1 from rfl]at a1;exact a1
 have HR:=hid h;have HV:=hid hv;have HT:=hid ht;have HG:=hid hg;clear h hv ht hg a1;go_enter Tryz.func320,Tryz.ntmps320
 go_wp2_with fail
 refine(HG.out _ br str (some r) HR.out (lim b0)).mono ?_;rintro e w1⟨v,rfl,a2,a3,hf,a4⟩;have a0:=HT.out.fr hf d1;obtain⟨zn,rfl⟩:=ug a2;rw[uo];obtain⟨y0,e0⟩:∃y,w1.cell? ⟨bt,0,none⟩=some y:=⟨_,(a0.cell 0).trans (Array.getElem?_eq_getElem (by omega))⟩
 have f0:=a0.frozen 0;have a5:=hid a0;have a8:=hid a2;have a6:=hid a3;have HF:=hid hf;have a7:=hid a4;clear a0 a2 a3 hf a4;go_wp2;go_end0
 exact CloPost.of a8.out a6.out HF.out a7.out (a5.out.set 0 (.int .i64 zn)) ((Fr.refl _ _).wr _ _) a9 d1 d4
set_option maxHeartbeats 4000000 in
theorem uk0(n:Nat)(L:Nat)(hg:Reads 322 (uy n) (L-1)):uP 321 (uy n) L 145 1:=by
 refine⟨enters_of Tryz.func321 (by kernel_rfl) rfl,?_⟩
 intro w br bv bt str r cs h b0 hv ht a1 d1 d2 d3 d4;have a9:=ht.lt;have cv:=hv.cell 0;simp only[gq]at cv;have b5:1+2≤cs.size:=by rw[show Shape.sz (uy n)=2 from uj]at a1;exact a1
 have HR:=hid h;have HV:=hid hv;have HT:=hid ht;have HG:=hid hg;clear h hv ht hg a1;go_enter Tryz.func321,Tryz.ntmps321
 go_wp2_with fail
 refine(HG.out _ br str (some r) HR.out (lim b0)).mono ?_;rintro e w1⟨v,rfl,a2,a3,hf,a4⟩;have a0:=HT.out.fr hf d1;obtain⟨b1,b2,b4,b3,rfl⟩:=ubz a2;rw[ubp];obtain⟨y0,e0⟩:∃y,w1.cell? ⟨bt,1,none⟩=some y:=⟨_,(a0.cell 1).trans (Array.getElem?_eq_getElem (by omega))⟩
 have f0:=a0.frozen 1;obtain⟨y1,e1⟩:∃y,w1.cell? ⟨bt,2,none⟩=some y:=⟨_,(a0.cell 2).trans (Array.getElem?_eq_getElem (by omega))⟩
 have f1:=a0.frozen 2;have a5:=hid a0;have a8:=hid a2;have a6:=hid a3;have HF:=hid hf;have a7:=hid a4;clear a0 a2 a3 hf a4;go_wp2;go_end0
 exact CloPost.of a8.out a6.out HF.out a7.out ((a5.out.set 1 (.int .i64 b1)).set 2 (.slice b2 b4 b3)) (((Fr.refl _ _).wr _ _).wr _ _) a9 d1 d4
set_option maxHeartbeats 4000000 in
theorem uqj(L:Nat)(hg:Reads 95 uX (L-1)):uP 323 uX L 150 0:=by
 refine⟨enters_of Tryz.func323 (by kernel_rfl) rfl,?_⟩
 intro w br bv bt str r cs h b0 hv ht a1 d1 d2 d3 d4;have a9:=ht.lt;have cv:=hv.cell 0;simp only[gq]at cv;have b5:0+2≤cs.size:=by rw[show Shape.sz uX=2 from uw]at a1;exact a1
 have HR:=hid h;have HV:=hid hv;have HT:=hid ht;have HG:=hid hg;clear h hv ht hg a1;go_enter Tryz.func323,Tryz.ntmps323
 go_wp2_with fail
 refine(HG.out _ br str (some r) HR.out (lim b0)).mono ?_;rintro e w1⟨v,rfl,a2,a3,hf,a4⟩;have a0:=HT.out.fr hf d1;obtain⟨b1,b2,b4,b3,rfl⟩:=ua2 a2;rw[ubg];obtain⟨y0,e0⟩:∃y,w1.cell? ⟨bt,0,none⟩=some y:=⟨_,(a0.cell 0).trans (Array.getElem?_eq_getElem (by omega))⟩
 have f0:=a0.frozen 0;obtain⟨y1,e1⟩:∃y,w1.cell? ⟨bt,1,none⟩=some y:=⟨_,(a0.cell 1).trans (Array.getElem?_eq_getElem (by omega))⟩
 have f1:=a0.frozen 1;have a5:=hid a0;have a8:=hid a2;have a6:=hid a3;have HF:=hid hf;have a7:=hid a4;clear a0 a2 a3 hf a4;go_wp2;go_end0
 exact CloPost.of a8.out a6.out HF.out a7.out ((a5.out.set 0 (.int .i64 b1)).set 1 (.slice b2 b4 b3)) (((Fr.refl _ _).wr _ _).wr _ _) a9 d1 d4
set_option maxHeartbeats 4000000 in
theorem uqk(L:Nat)(hg:Reads 105 .int (L-1)):uP 324 .int L 150 2:=by
 refine⟨enters_of Tryz.func324 (by kernel_rfl) rfl,?_⟩
 intro w br bv bt str r cs h b0 hv ht a1 d1 d2 d3 d4;have a9:=ht.lt;have cv:=hv.cell 0;simp only[gq]at cv;have b1:2+1≤cs.size:=by rw[show Shape.sz .int=1 from rfl]at a1;exact a1
 have HR:=hid h;have HV:=hid hv;have HT:=hid ht;have HG:=hid hg;clear h hv ht hg a1;go_enter Tryz.func324,Tryz.ntmps324
 go_wp2_with fail
 refine(HG.out _ br str (some r) HR.out (lim b0)).mono ?_;rintro e w1⟨v,rfl,a2,a3,hf,a4⟩;have a0:=HT.out.fr hf d1;obtain⟨zn,rfl⟩:=ug a2;rw[uo];obtain⟨y0,e0⟩:∃y,w1.cell? ⟨bt,2,none⟩=some y:=⟨_,(a0.cell 2).trans (Array.getElem?_eq_getElem (by omega))⟩
 have f0:=a0.frozen 2;have a5:=hid a0;have a8:=hid a2;have a6:=hid a3;have HF:=hid hf;have a7:=hid a4;clear a0 a2 a3 hf a4;go_wp2;go_end0
 exact CloPost.of a8.out a6.out HF.out a7.out (a5.out.set 2 (.int .i64 zn)) ((Fr.refl _ _).wr _ _) a9 d1 d4
set_option maxHeartbeats 4000000 in
theorem uql(n:Nat)(L:Nat)(hg:Reads 269 (uO n) (L-1)):uP 267 (.list (uO n)) L 80 0:=by
 refine⟨enters_of Tryz.func267 (by kernel_rfl) rfl,?_⟩
 intro w br bv bt str r cs h b0 hv ht a1 d1 d2 d3 d4;have a9:=ht.lt;have cv:=hv.cell 0;simp only[gq]at cv;have b1:0+1≤cs.size:=by rw[show Shape.sz (.list (uO n))=1 from rfl]at a1;exact a1
 have HR:=hid h;have HV:=hid hv;have HT:=hid ht;have HG:=hid hg;clear h hv ht hg a1;go_enter Tryz.func267,Tryz.ntmps267
 go_wp2_with fail
 refine(uts n (L-1) _ _ _ _ br str (some r) HR.out (lim b0) (ElR.meth (enters_of Tryz.func269 (by kernel_rfl) rfl) HG.out br str _)).mono ?_
 rintro e w1⟨v,rfl,a2,a3,hf,a4⟩;have a0:=HT.out.fr hf d1;obtain⟨zA,zk,zc,rfl⟩:=ua a2;rw[ue];obtain⟨y0,e0⟩:∃y,w1.cell? ⟨bt,0,none⟩=some y:=⟨_,(a0.cell 0).trans (Array.getElem?_eq_getElem (by omega))⟩
 have f0:=a0.frozen 0;have a5:=hid a0;have a8:=hid a2;have a6:=hid a3;have HF:=hid hf;have a7:=hid a4;clear a0 a2 a3 hf a4;go_wp2;go_end0
 exact CloPost.of a8.out a6.out HF.out a7.out (a5.out.set 0 (.slice zA zk zc)) ((Fr.refl _ _).wr _ _) a9 d1 d4
set_option maxHeartbeats 4000000 in
theorem uqm(L:Nat)(hg:Reads 272 ua5 (L-1)):uP 270 (.list ua5) L 80 1:=by
 refine⟨enters_of Tryz.func270 (by kernel_rfl) rfl,?_⟩
 intro w br bv bt str r cs h b0 hv ht a1 d1 d2 d3 d4;have a9:=ht.lt;have cv:=hv.cell 0;simp only[gq]at cv;have b1:1+1≤cs.size:=by rw[show Shape.sz (.list ua5)=1 from rfl]at a1;exact a1
 have HR:=hid h;have HV:=hid hv;have HT:=hid ht;have HG:=hid hg;clear h hv ht hg a1;go_enter Tryz.func270,Tryz.ntmps270
 go_wp2_with fail
 refine(ux4 (L-1) _ _ _ _ br str (some r) HR.out (lim b0) (ElR.meth (enters_of Tryz.func272 (by kernel_rfl) rfl) HG.out br str _)).mono ?_
 rintro e w1⟨v,rfl,a2,a3,hf,a4⟩;have a0:=HT.out.fr hf d1;obtain⟨zA,zk,zc,rfl⟩:=ua a2;rw[ue];obtain⟨y0,e0⟩:∃y,w1.cell? ⟨bt,1,none⟩=some y:=⟨_,(a0.cell 1).trans (Array.getElem?_eq_getElem (by omega))⟩
 have f0:=a0.frozen 1;have a5:=hid a0;have a8:=hid a2;have a6:=hid a3;have HF:=hid hf;have a7:=hid a4;clear a0 a2 a3 hf a4;go_wp2;go_end0
 exact CloPost.of a8.out a6.out HF.out a7.out (a5.out.set 1 (.slice zA zk zc)) ((Fr.refl _ _).wr _ _) a9 d1 d4
set_option maxHeartbeats 4000000 in
theorem uqn(L:Nat)(hg:Reads 194 .rat (L-1)):uP 193 .rat L 139 0:=by
 refine⟨enters_of Tryz.func193 (by kernel_rfl) rfl,?_⟩
 intro w br bv bt str r cs h b0 hv ht a1 d1 d2 d3 d4;have a9:=ht.lt;have cv:=hv.cell 0;simp only[gq]at cv;have b1:0+3≤cs.size:=by rw[show Shape.sz .rat=3 from rfl]at a1;exact a1
 have HR:=hid h;have HV:=hid hv;have HT:=hid ht;have HG:=hid hg;clear h hv ht hg a1;go_enter Tryz.func193,Tryz.ntmps193
 go_wp2_with fail
 refine(HG.out _ br str (some r) HR.out (lim b0)).mono ?_;rintro e w1⟨v,rfl,a2,a3,hf,a4⟩;have a0:=HT.out.fr hf d1;obtain⟨zb,zA,zk,zc,zD,zl,zd,rfl⟩:=uay a2;rw[uaz];obtain⟨y0,e0⟩:∃y,w1.cell? ⟨bt,0,none⟩=some y:=⟨_,(a0.cell 0).trans (Array.getElem?_eq_getElem (by omega))⟩
 have f0:=a0.frozen 0;obtain⟨y1,e1⟩:∃y,w1.cell? ⟨bt,1,none⟩=some y:=⟨_,(a0.cell 1).trans (Array.getElem?_eq_getElem (by omega))⟩
 have f1:=a0.frozen 1;obtain⟨y2,e2⟩:∃y,w1.cell? ⟨bt,2,none⟩=some y:=⟨_,(a0.cell 2).trans (Array.getElem?_eq_getElem (by omega))⟩
 have f2:=a0.frozen 2;have a5:=hid a0;have a8:=hid a2;have a6:=hid a3;have HF:=hid hf;have a7:=hid a4;clear a0 a2 a3 hf a4;go_wp2;go_end0
 exact CloPost.of a8.out a6.out HF.out a7.out (((a5.out.set 0 (.bool zb)).set 1 (.slice zA zk zc)).set 2 (.slice zD zl zd)) ((((Fr.refl _ _).wr _ _).wr _ _).wr _ _) a9 d1 d4
set_option maxHeartbeats 4000000 in
theorem uqo(n:Nat)(L:Nat)(hg:Reads 196 (uC n) (L-1)):uP 195 (uC n) L 139 3:=by
 refine⟨enters_of Tryz.func195 (by kernel_rfl) rfl,?_⟩
 intro w br bv bt str r cs h b0 hv ht a1 d1 d2 d3 d4;have a9:=ht.lt;have cv:=hv.cell 0;simp only[gq]at cv;have b7:3+2≤cs.size:=by rw[show Shape.sz (uC n)=2 from um]at a1;exact a1
 have HR:=hid h;have HV:=hid hv;have HT:=hid ht;have HG:=hid hg;clear h hv ht hg a1;go_enter Tryz.func195,Tryz.ntmps195
 go_wp2_with fail
 refine(HG.out _ br str (some r) HR.out (lim b0)).mono ?_;rintro e w1⟨v,rfl,a2,a3,hf,a4⟩;have a0:=HT.out.fr hf d1;obtain⟨b1,b3,b2,b4,b6,b5,rfl⟩:=uaj a2;rw[uau];obtain⟨y0,e0⟩:∃y,w1.cell? ⟨bt,3,none⟩=some y:=⟨_,(a0.cell 3).trans (Array.getElem?_eq_getElem (by omega))⟩
 have f0:=a0.frozen 3;obtain⟨y1,e1⟩:∃y,w1.cell? ⟨bt,4,none⟩=some y:=⟨_,(a0.cell 4).trans (Array.getElem?_eq_getElem (by omega))⟩
 have f1:=a0.frozen 4;have a5:=hid a0;have a8:=hid a2;have a6:=hid a3;have HF:=hid hf;have a7:=hid a4;clear a0 a2 a3 hf a4;go_wp2;go_end0
 exact CloPost.of a8.out a6.out HF.out a7.out ((a5.out.set 3 (.slice b1 b3 b2)).set 4 (.slice b4 b6 b5)) (((Fr.refl _ _).wr _ _).wr _ _) a9 d1 d4
set_option maxHeartbeats 4000000 in
theorem utz(L:Nat)(hg:Reads 105 .int (L-1)):uP 273 .int L 89 0:=by
 refine⟨enters_of Tryz.func273 (by kernel_rfl) rfl,?_⟩
 intro w br bv bt str r cs h b0 hv ht a1 d1 d2 d3 d4;have a9:=ht.lt;have cv:=hv.cell 0;simp only[gq]at cv;have b1:0+1≤cs.size:=by rw[show Shape.sz .int=1 from rfl]at a1;exact a1
 have HR:=hid h;have HV:=hid hv;have HT:=hid ht;have HG:=hid hg;clear h hv ht hg a1;go_enter Tryz.func273,Tryz.ntmps273
 go_wp2_with fail
 refine(HG.out _ br str (some r) HR.out (lim b0)).mono ?_;rintro e w1⟨v,rfl,a2,a3,hf,a4⟩;have a0:=HT.out.fr hf d1;obtain⟨zn,rfl⟩:=ug a2;rw[uo];obtain⟨y0,e0⟩:∃y,w1.cell? ⟨bt,0,none⟩=some y:=⟨_,(a0.cell 0).trans (Array.getElem?_eq_getElem (by omega))⟩
 have f0:=a0.frozen 0;have a5:=hid a0;have a8:=hid a2;have a6:=hid a3;have HF:=hid hf;have a7:=hid a4;clear a0 a2 a3 hf a4;go_wp2;go_end0
 exact CloPost.of a8.out a6.out HF.out a7.out (a5.out.set 0 (.int .i64 zn)) ((Fr.refl _ _).wr _ _) a9 d1 d4
set_option maxHeartbeats 4000000 in
theorem ut0(L:Nat)(hg:Reads 194 .rat (L-1)):uP 274 .rat L 89 1:=by
 refine⟨enters_of Tryz.func274 (by kernel_rfl) rfl,?_⟩
 intro w br bv bt str r cs h b0 hv ht a1 d1 d2 d3 d4;have a9:=ht.lt;have cv:=hv.cell 0;simp only[gq]at cv;have b1:1+3≤cs.size:=by rw[show Shape.sz .rat=3 from rfl]at a1;exact a1
 have HR:=hid h;have HV:=hid hv;have HT:=hid ht;have HG:=hid hg;clear h hv ht hg a1;go_enter Tryz.func274,Tryz.ntmps274
 go_wp2_with fail
 refine(HG.out _ br str (some r) HR.out (lim b0)).mono ?_;rintro e w1⟨v,rfl,a2,a3,hf,a4⟩;have a0:=HT.out.fr hf d1;obtain⟨zb,zA,zk,zc,zD,zl,zd,rfl⟩:=uay a2;rw[uaz];obtain⟨y0,e0⟩:∃y,w1.cell? ⟨bt,1,none⟩=some y:=⟨_,(a0.cell 1).trans (Array.getElem?_eq_getElem (by omega))⟩
 have f0:=a0.frozen 1;obtain⟨y1,e1⟩:∃y,w1.cell? ⟨bt,2,none⟩=some y:=⟨_,(a0.cell 2).trans (Array.getElem?_eq_getElem (by omega))⟩
 have f1:=a0.frozen 2;obtain⟨y2,e2⟩:∃y,w1.cell? ⟨bt,3,none⟩=some y:=⟨_,(a0.cell 3).trans (Array.getElem?_eq_getElem (by omega))⟩
 have f2:=a0.frozen 3;have a5:=hid a0;have a8:=hid a2;have a6:=hid a3;have HF:=hid hf;have a7:=hid a4;clear a0 a2 a3 hf a4;go_wp2;go_end0
 exact CloPost.of a8.out a6.out HF.out a7.out (((a5.out.set 1 (.bool zb)).set 2 (.slice zA zk zc)).set 3 (.slice zD zl zd)) ((((Fr.refl _ _).wr _ _).wr _ _).wr _ _) a9 d1 d4
set_option maxHeartbeats 4000000 in
theorem ut1(n:Nat)(L:Nat)(hg:Reads 196 (uC n) (L-1)):uP 275 (uC n) L 89 4:=by
 refine⟨enters_of Tryz.func275 (by kernel_rfl) rfl,?_⟩
 intro w br bv bt str r cs h b0 hv ht a1 d1 d2 d3 d4;have a9:=ht.lt;have cv:=hv.cell 0;simp only[gq]at cv;have b7:4+2≤cs.size:=by rw[show Shape.sz (uC n)=2 from um]at a1;exact a1
 have HR:=hid h;have HV:=hid hv;have HT:=hid ht;have HG:=hid hg;clear h hv ht hg a1;go_enter Tryz.func275,Tryz.ntmps275
 go_wp2_with fail
 refine(HG.out _ br str (some r) HR.out (lim b0)).mono ?_;rintro e w1⟨v,rfl,a2,a3,hf,a4⟩;have a0:=HT.out.fr hf d1;obtain⟨b1,b3,b2,b4,b6,b5,rfl⟩:=uaj a2;rw[uau];obtain⟨y0,e0⟩:∃y,w1.cell? ⟨bt,4,none⟩=some y:=⟨_,(a0.cell 4).trans (Array.getElem?_eq_getElem (by omega))⟩
 have f0:=a0.frozen 4;obtain⟨y1,e1⟩:∃y,w1.cell? ⟨bt,5,none⟩=some y:=⟨_,(a0.cell 5).trans (Array.getElem?_eq_getElem (by omega))⟩
 have f1:=a0.frozen 5;have a5:=hid a0;have a8:=hid a2;have a6:=hid a3;have HF:=hid hf;have a7:=hid a4;clear a0 a2 a3 hf a4;go_wp2;go_end0
 exact CloPost.of a8.out a6.out HF.out a7.out ((a5.out.set 4 (.slice b1 b3 b2)).set 5 (.slice b4 b6 b5)) (((Fr.refl _ _).wr _ _).wr _ _) a9 d1 d4
set_option maxHeartbeats 4000000 in
theorem uqp(L:Nat)(hg:Reads 105 .int (L-1)):uP 202 .int L 82 0:=by
 refine⟨enters_of Tryz.func202 (by kernel_rfl) rfl,?_⟩
 intro w br bv bt str r cs h b0 hv ht a1 d1 d2 d3 d4;have a9:=ht.lt;have cv:=hv.cell 0;simp only[gq]at cv;have b1:0+1≤cs.size:=by rw[show Shape.sz .int=1 from rfl]at a1;exact a1
 have HR:=hid h;have HV:=hid hv;have HT:=hid ht;have HG:=hid hg;clear h hv ht hg a1;go_enter Tryz.func202,Tryz.ntmps202
 go_wp2_with fail
 refine(HG.out _ br str (some r) HR.out (lim b0)).mono ?_;rintro e w1⟨v,rfl,a2,a3,hf,a4⟩;have a0:=HT.out.fr hf d1;obtain⟨zn,rfl⟩:=ug a2;rw[uo];obtain⟨y0,e0⟩:∃y,w1.cell? ⟨bt,0,none⟩=some y:=⟨_,(a0.cell 0).trans (Array.getElem?_eq_getElem (by omega))⟩
 have f0:=a0.frozen 0;have a5:=hid a0;have a8:=hid a2;have a6:=hid a3;have HF:=hid hf;have a7:=hid a4;clear a0 a2 a3 hf a4;go_wp2;go_end0
 exact CloPost.of a8.out a6.out HF.out a7.out (a5.out.set 0 (.int .i64 zn)) ((Fr.refl _ _).wr _ _) a9 d1 d4
set_option maxHeartbeats 4000000 in
theorem uqq(L:Nat)(hg:Reads 194 .rat (L-1)):uP 203 .rat L 82 1:=by
 refine⟨enters_of Tryz.func203 (by kernel_rfl) rfl,?_⟩
 intro w br bv bt str r cs h b0 hv ht a1 d1 d2 d3 d4;have a9:=ht.lt;have cv:=hv.cell 0;simp only[gq]at cv;have b1:1+3≤cs.size:=by rw[show Shape.sz .rat=3 from rfl]at a1;exact a1
 have HR:=hid h;have HV:=hid hv;have HT:=hid ht;have HG:=hid hg;clear h hv ht hg a1;go_enter Tryz.func203,Tryz.ntmps203
 go_wp2_with fail
 refine(HG.out _ br str (some r) HR.out (lim b0)).mono ?_;rintro e w1⟨v,rfl,a2,a3,hf,a4⟩;have a0:=HT.out.fr hf d1;obtain⟨zb,zA,zk,zc,zD,zl,zd,rfl⟩:=uay a2;rw[uaz];obtain⟨y0,e0⟩:∃y,w1.cell? ⟨bt,1,none⟩=some y:=⟨_,(a0.cell 1).trans (Array.getElem?_eq_getElem (by omega))⟩
 have f0:=a0.frozen 1;obtain⟨y1,e1⟩:∃y,w1.cell? ⟨bt,2,none⟩=some y:=⟨_,(a0.cell 2).trans (Array.getElem?_eq_getElem (by omega))⟩
 have f1:=a0.frozen 2;obtain⟨y2,e2⟩:∃y,w1.cell? ⟨bt,3,none⟩=some y:=⟨_,(a0.cell 3).trans (Array.getElem?_eq_getElem (by omega))⟩
 have f2:=a0.frozen 3;have a5:=hid a0;have a8:=hid a2;have a6:=hid a3;have HF:=hid hf;have a7:=hid a4;clear a0 a2 a3 hf a4;go_wp2;go_end0
 exact CloPost.of a8.out a6.out HF.out a7.out (((a5.out.set 1 (.bool zb)).set 2 (.slice zA zk zc)).set 3 (.slice zD zl zd)) ((((Fr.refl _ _).wr _ _).wr _ _).wr _ _) a9 d1 d4
set_option maxHeartbeats 4000000 in
theorem uqr(n:Nat)(L:Nat)(hg:Reads 196 (uC n) (L-1)):uP 204 (uC n) L 82 4:=by
 refine⟨enters_of Tryz.func204 (by kernel_rfl) rfl,?_⟩
 intro w br bv bt str r cs h b0 hv ht a1 d1 d2 d3 d4;have a9:=ht.lt;have cv:=hv.cell 0;simp only[gq]at cv;have b7:4+2≤cs.size:=by rw[show Shape.sz (uC n)=2 from um]at a1;exact a1
 have HR:=hid h;have HV:=hid hv;have HT:=hid ht;have HG:=hid hg;clear h hv ht hg a1;go_enter Tryz.func204,Tryz.ntmps204
 go_wp2_with fail
 refine(HG.out _ br str (some r) HR.out (lim b0)).mono ?_;rintro e w1⟨v,rfl,a2,a3,hf,a4⟩;have a0:=HT.out.fr hf d1;obtain⟨b1,b3,b2,b4,b6,b5,rfl⟩:=uaj a2;rw[uau];obtain⟨y0,e0⟩:∃y,w1.cell? ⟨bt,4,none⟩=some y:=⟨_,(a0.cell 4).trans (Array.getElem?_eq_getElem (by omega))⟩
 have f0:=a0.frozen 4;obtain⟨y1,e1⟩:∃y,w1.cell? ⟨bt,5,none⟩=some y:=⟨_,(a0.cell 5).trans (Array.getElem?_eq_getElem (by omega))⟩
 have f1:=a0.frozen 5;have a5:=hid a0;have a8:=hid a2;have a6:=hid a3;have HF:=hid hf;have a7:=hid a4;clear a0 a2 a3 hf a4;go_wp2;go_end0
 exact CloPost.of a8.out a6.out HF.out a7.out ((a5.out.set 4 (.slice b1 b3 b2)).set 5 (.slice b4 b6 b5)) (((Fr.refl _ _).wr _ _).wr _ _) a9 d1 d4
set_option maxHeartbeats 4000000 in
theorem uk1(L:Nat)(hg:Reads 105 .int (L-1)):uP 197 .int L 87 0:=by
 refine⟨enters_of Tryz.func197 (by kernel_rfl) rfl,?_⟩
 intro w br bv bt str r cs h b0 hv ht a1 d1 d2 d3 d4;have a9:=ht.lt;have cv:=hv.cell 0;simp only[gq]at cv;have b1:0+1≤cs.size:=by rw[show Shape.sz .int=1 from rfl]at a1;exact a1
 have HR:=hid h;have HV:=hid hv;have HT:=hid ht;have HG:=hid hg;clear h hv ht hg a1;go_enter Tryz.func197,Tryz.ntmps197
 go_wp2_with fail
 refine(HG.out _ br str (some r) HR.out (lim b0)).mono ?_;rintro e w1⟨v,rfl,a2,a3,hf,a4⟩;have a0:=HT.out.fr hf d1;obtain⟨zn,rfl⟩:=ug a2;rw[uo];obtain⟨y0,e0⟩:∃y,w1.cell? ⟨bt,0,none⟩=some y:=⟨_,(a0.cell 0).trans (Array.getElem?_eq_getElem (by omega))⟩
 have f0:=a0.frozen 0;have a5:=hid a0;have a8:=hid a2;have a6:=hid a3;have HF:=hid hf;have a7:=hid a4;clear a0 a2 a3 hf a4;go_wp2;go_end0
 exact CloPost.of a8.out a6.out HF.out a7.out (a5.out.set 0 (.int .i64 zn)) ((Fr.refl _ _).wr _ _) a9 d1 d4
set_option maxHeartbeats 4000000 in
theorem uk2(n:Nat)(L:Nat)(hg:Reads 200 (uan n) (L-1)):uP 198 (.list (uan n)) L 87 1:=by
 refine⟨enters_of Tryz.func198 (by kernel_rfl) rfl,?_⟩
 intro w br bv bt str r cs h b0 hv ht a1 d1 d2 d3 d4;have a9:=ht.lt;have cv:=hv.cell 0;simp only[gq]at cv;have b1:1+1≤cs.size:=by rw[show Shape.sz (.list (uan n))=1 from rfl]at a1;exact a1
 have HR:=hid h;have HV:=hid hv;have HT:=hid ht;have HG:=hid hg;clear h hv ht hg a1;go_enter Tryz.func198,Tryz.ntmps198
 go_wp2_with fail
 refine(uzc n (L-1) _ _ _ _ br str (some r) HR.out (lim b0) (ElR.meth (enters_of Tryz.func200 (by kernel_rfl) rfl) HG.out br str _)).mono ?_
 rintro e w1⟨v,rfl,a2,a3,hf,a4⟩;have a0:=HT.out.fr hf d1;obtain⟨zA,zk,zc,rfl⟩:=ua a2;rw[ue];obtain⟨y0,e0⟩:∃y,w1.cell? ⟨bt,1,none⟩=some y:=⟨_,(a0.cell 1).trans (Array.getElem?_eq_getElem (by omega))⟩
 have f0:=a0.frozen 1;have a5:=hid a0;have a8:=hid a2;have a6:=hid a3;have HF:=hid hf;have a7:=hid a4;clear a0 a2 a3 hf a4;go_wp2;go_end0
 exact CloPost.of a8.out a6.out HF.out a7.out (a5.out.set 1 (.slice zA zk zc)) ((Fr.refl _ _).wr _ _) a9 d1 d4
set_option maxHeartbeats 4000000 in
theorem uk3(n:Nat)(L:Nat)(hg:Reads 110 (un n) (L-1)):uP 201 (.list (un n)) L 87 2:=by
 refine⟨enters_of Tryz.func201 (by kernel_rfl) rfl,?_⟩
 intro w br bv bt str r cs h b0 hv ht a1 d1 d2 d3 d4;have a9:=ht.lt;have cv:=hv.cell 0;simp only[gq]at cv;have b1:2+1≤cs.size:=by rw[show Shape.sz (.list (un n))=1 from rfl]at a1;exact a1
 have HR:=hid h;have HV:=hid hv;have HT:=hid ht;have HG:=hid hg;clear h hv ht hg a1;go_enter Tryz.func201,Tryz.ntmps201
 go_wp2_with fail
 refine(ujg n (L-1) _ _ _ _ br str (some r) HR.out (lim b0) (ElR.meth (enters_of Tryz.func110 (by kernel_rfl) rfl) HG.out br str _)).mono ?_
 rintro e w1⟨v,rfl,a2,a3,hf,a4⟩;have a0:=HT.out.fr hf d1;obtain⟨zA,zk,zc,rfl⟩:=ua a2;rw[ue];obtain⟨y0,e0⟩:∃y,w1.cell? ⟨bt,2,none⟩=some y:=⟨_,(a0.cell 2).trans (Array.getElem?_eq_getElem (by omega))⟩
 have f0:=a0.frozen 2;have a5:=hid a0;have a8:=hid a2;have a6:=hid a3;have HF:=hid hf;have a7:=hid a4;clear a0 a2 a3 hf a4;go_wp2;go_end0
 exact CloPost.of a8.out a6.out HF.out a7.out (a5.out.set 2 (.slice zA zk zc)) ((Fr.refl _ _).wr _ _) a9 d1 d4
set_option maxHeartbeats 4000000 in
theorem um3(L:Nat)(hg:Reads 105 .int (L-1)):uP 276 .int L 152 0:=by
 refine⟨enters_of Tryz.func276 (by kernel_rfl) rfl,?_⟩
 intro w br bv bt str r cs h b0 hv ht a1 d1 d2 d3 d4;have a9:=ht.lt;have cv:=hv.cell 0;simp only[gq]at cv;have b1:0+1≤cs.size:=by rw[show Shape.sz .int=1 from rfl]at a1;exact a1
 have HR:=hid h;have HV:=hid hv;have HT:=hid ht;have HG:=hid hg;clear h hv ht hg a1;go_enter Tryz.func276,Tryz.ntmps276
 go_wp2_with fail
 refine(HG.out _ br str (some r) HR.out (lim b0)).mono ?_;rintro e w1⟨v,rfl,a2,a3,hf,a4⟩;have a0:=HT.out.fr hf d1;obtain⟨zn,rfl⟩:=ug a2;rw[uo];obtain⟨y0,e0⟩:∃y,w1.cell? ⟨bt,0,none⟩=some y:=⟨_,(a0.cell 0).trans (Array.getElem?_eq_getElem (by omega))⟩
 have f0:=a0.frozen 0;have a5:=hid a0;have a8:=hid a2;have a6:=hid a3;have HF:=hid hf;have a7:=hid a4;clear a0 a2 a3 hf a4;go_wp2;go_end0
 exact CloPost.of a8.out a6.out HF.out a7.out (a5.out.set 0 (.int .i64 zn)) ((Fr.refl _ _).wr _ _) a9 d1 d4
end Go.Proofs.YtellcholbkoakaaGreatDoor
