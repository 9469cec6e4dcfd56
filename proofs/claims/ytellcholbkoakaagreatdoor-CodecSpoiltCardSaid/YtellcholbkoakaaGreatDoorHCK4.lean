/-
 The reader: fields (printed by gen_codec.py).
-/
import Derived.Test.YtellcholbkoakaaGreatDoorHCRa
import Derived.Test.YtellcholbkoakaaGreatDoorHCE1
namespace Go.Proofs.YtellcholbkoakaaGreatDoor
open Go.Lib (hid)
open Go.RowKit AC
set_option linter.unusedVariables false
set_option linter.unusedSimpArgs false
set_option maxHeartbeats 4000000 in
theorem um4(L:Nat)(hg:Reads 95 uX (L-1)):uP 277 uX L 152 1:=by
 refine⟨enters_of Tryz.func277 (by kernel_rfl) rfl,?_⟩
 intro w br bv bt str r cs h b0 hv ht a1 d1 d2 d3 d4;have a9:=ht.lt;have cv:=hv.cell 0;simp only[gq]at cv;have b5:1+2≤cs.size:=by rw[show Shape.sz uX=2 from uw]at a1;exact a1
 have HR:=hid h;have HV:=hid hv;have HT:=hid ht;have HG:=hid hg;clear h hv ht hg a1;go_enter Tryz.func277,Tryz.ntmps277
 go_wp2_with fail
 refine(HG.out _ br str (some r) HR.out (lim b0)).mono ?_;rintro e w1⟨v,rfl,a2,a3,hf,a4⟩;have a0:=HT.out.fr hf d1;obtain⟨b1,b2,b4,b3,rfl⟩:=ua2 a2;rw[ubg];obtain⟨y0,e0⟩:∃y,w1.cell? ⟨bt,1,none⟩=some y:=⟨_,(a0.cell 1).trans (Array.getElem?_eq_getElem (by omega))⟩
 have f0:=a0.frozen 1;obtain⟨y1,e1⟩:∃y,w1.cell? ⟨bt,2,none⟩=some y:=⟨_,(a0.cell 2).trans (Array.getElem?_eq_getElem (by omega))⟩
 have f1:=a0.frozen 2;have a5:=hid a0;have a8:=hid a2;have a6:=hid a3;have HF:=hid hf;have a7:=hid a4;clear a0 a2 a3 hf a4;go_wp2;go_end0
 exact CloPost.of a8.out a6.out HF.out a7.out ((a5.out.set 1 (.int .i64 b1)).set 2 (.slice b2 b4 b3)) (((Fr.refl _ _).wr _ _).wr _ _) a9 d1 d4
set_option maxHeartbeats 4000000 in
theorem um5(L:Nat)(hg:Reads 95 uX (L-1)):uP 278 uX L 152 3:=by
 refine⟨enters_of Tryz.func278 (by kernel_rfl) rfl,?_⟩
 intro w br bv bt str r cs h b0 hv ht a1 d1 d2 d3 d4;have a9:=ht.lt;have cv:=hv.cell 0;simp only[gq]at cv;have b5:3+2≤cs.size:=by rw[show Shape.sz uX=2 from uw]at a1;exact a1
 have HR:=hid h;have HV:=hid hv;have HT:=hid ht;have HG:=hid hg;clear h hv ht hg a1;go_enter Tryz.func278,Tryz.ntmps278
 go_wp2_with fail
 refine(HG.out _ br str (some r) HR.out (lim b0)).mono ?_;rintro e w1⟨v,rfl,a2,a3,hf,a4⟩;have a0:=HT.out.fr hf d1;obtain⟨b1,b2,b4,b3,rfl⟩:=ua2 a2;rw[ubg];obtain⟨y0,e0⟩:∃y,w1.cell? ⟨bt,3,none⟩=some y:=⟨_,(a0.cell 3).trans (Array.getElem?_eq_getElem (by omega))⟩
 have f0:=a0.frozen 3;obtain⟨y1,e1⟩:∃y,w1.cell? ⟨bt,4,none⟩=some y:=⟨_,(a0.cell 4).trans (Array.getElem?_eq_getElem (by omega))⟩
 have f1:=a0.frozen 4;have a5:=hid a0;have a8:=hid a2;have a6:=hid a3;have HF:=hid hf;have a7:=hid a4;clear a0 a2 a3 hf a4;go_wp2;go_end0
 exact CloPost.of a8.out a6.out HF.out a7.out ((a5.out.set 3 (.int .i64 b1)).set 4 (.slice b2 b4 b3)) (((Fr.refl _ _).wr _ _).wr _ _) a9 d1 d4
set_option maxHeartbeats 4000000 in
theorem um6(L:Nat)(hg:Reads 105 .int (L-1)):uP 279 .int L 152 5:=by
 refine⟨enters_of Tryz.func279 (by kernel_rfl) rfl,?_⟩
 intro w br bv bt str r cs h b0 hv ht a1 d1 d2 d3 d4;have a9:=ht.lt;have cv:=hv.cell 0;simp only[gq]at cv;have b1:5+1≤cs.size:=by rw[show Shape.sz .int=1 from rfl]at a1;exact a1
 have HR:=hid h;have HV:=hid hv;have HT:=hid ht;have HG:=hid hg;clear h hv ht hg a1;go_enter Tryz.func279,Tryz.ntmps279
 go_wp2_with fail
 refine(HG.out _ br str (some r) HR.out (lim b0)).mono ?_;rintro e w1⟨v,rfl,a2,a3,hf,a4⟩;have a0:=HT.out.fr hf d1;obtain⟨zn,rfl⟩:=ug a2;rw[uo];obtain⟨y0,e0⟩:∃y,w1.cell? ⟨bt,5,none⟩=some y:=⟨_,(a0.cell 5).trans (Array.getElem?_eq_getElem (by omega))⟩
 have f0:=a0.frozen 5;have a5:=hid a0;have a8:=hid a2;have a6:=hid a3;have HF:=hid hf;have a7:=hid a4;clear a0 a2 a3 hf a4;go_wp2;go_end0
 exact CloPost.of a8.out a6.out HF.out a7.out (a5.out.set 5 (.int .i64 zn)) ((Fr.refl _ _).wr _ _) a9 d1 d4
set_option maxHeartbeats 4000000 in
theorem uhz(L:Nat)(hg:Reads 207 axS (L-1)):uP 206 axS L 154 0:=by
 refine⟨enters_of Tryz.func206 (by kernel_rfl) rfl,?_⟩
 intro w br bv bt str r cs h b0 hv ht a1 d1 d2 d3 d4;have a9:=ht.lt;have cv:=hv.cell 0;simp only[gq]at cv;have c1:0+6≤cs.size:=by rw[show Shape.sz axS=6 from uh]at a1;exact a1
 have HR:=hid h;have HV:=hid hv;have HT:=hid ht;have HG:=hid hg;clear h hv ht hg a1;go_enter Tryz.func206,Tryz.ntmps206
 go_wp2_with fail
 refine(HG.out _ br str (some r) HR.out (lim b0)).mono ?_;rintro e w1⟨v,rfl,a2,a3,hf,a4⟩;have a0:=HT.out.fr hf d1;obtain⟨b1,b2,b3,b5,b4,b6,b7,b9,b8,c0,rfl⟩:=ufe a2;rw[uj6];obtain⟨y0,e0⟩:∃y,w1.cell? ⟨bt,0,none⟩=some y:=⟨_,(a0.cell 0).trans (Array.getElem?_eq_getElem (by omega))⟩
 have f0:=a0.frozen 0;obtain⟨y1,e1⟩:∃y,w1.cell? ⟨bt,1,none⟩=some y:=⟨_,(a0.cell 1).trans (Array.getElem?_eq_getElem (by omega))⟩
 have f1:=a0.frozen 1;obtain⟨y2,e2⟩:∃y,w1.cell? ⟨bt,2,none⟩=some y:=⟨_,(a0.cell 2).trans (Array.getElem?_eq_getElem (by omega))⟩
 have f2:=a0.frozen 2;obtain⟨y3,e3⟩:∃y,w1.cell? ⟨bt,3,none⟩=some y:=⟨_,(a0.cell 3).trans (Array.getElem?_eq_getElem (by omega))⟩
 have f3:=a0.frozen 3;obtain⟨y4,e4⟩:∃y,w1.cell? ⟨bt,4,none⟩=some y:=⟨_,(a0.cell 4).trans (Array.getElem?_eq_getElem (by omega))⟩
 have f4:=a0.frozen 4;obtain⟨y5,e5⟩:∃y,w1.cell? ⟨bt,5,none⟩=some y:=⟨_,(a0.cell 5).trans (Array.getElem?_eq_getElem (by omega))⟩
 have f5:=a0.frozen 5;have a5:=hid a0;have a8:=hid a2;have a6:=hid a3;have HF:=hid hf;have a7:=hid a4;clear a0 a2 a3 hf a4;go_wp2;go_end0
 exact CloPost.of a8.out a6.out HF.out a7.out ((((((a5.out.set 0 (.int .i64 b1)).set 1 (.int .i64 b2)).set 2 (.slice b3 b5 b4)).set 3 (.int .i64 b6)).set 4 (.slice b7 b9 b8)).set 5 (.int .i64 c0)) (((((((Fr.refl _ _).wr _ _).wr _ _).wr _ _).wr _ _).wr _ _).wr _ _) a9 d1 d4
set_option maxHeartbeats 4000000 in
theorem uh0(L:Nat)(hg:Reads 194 .rat (L-1)):uP 208 .rat L 154 6:=by
 refine⟨enters_of Tryz.func208 (by kernel_rfl) rfl,?_⟩
 intro w br bv bt str r cs h b0 hv ht a1 d1 d2 d3 d4;have a9:=ht.lt;have cv:=hv.cell 0;simp only[gq]at cv;have b1:6+3≤cs.size:=by rw[show Shape.sz .rat=3 from rfl]at a1;exact a1
 have HR:=hid h;have HV:=hid hv;have HT:=hid ht;have HG:=hid hg;clear h hv ht hg a1;go_enter Tryz.func208,Tryz.ntmps208
 go_wp2_with fail
 refine(HG.out _ br str (some r) HR.out (lim b0)).mono ?_;rintro e w1⟨v,rfl,a2,a3,hf,a4⟩;have a0:=HT.out.fr hf d1;obtain⟨zb,zA,zk,zc,zD,zl,zd,rfl⟩:=uay a2;rw[uaz];obtain⟨y0,e0⟩:∃y,w1.cell? ⟨bt,6,none⟩=some y:=⟨_,(a0.cell 6).trans (Array.getElem?_eq_getElem (by omega))⟩
 have f0:=a0.frozen 6;obtain⟨y1,e1⟩:∃y,w1.cell? ⟨bt,7,none⟩=some y:=⟨_,(a0.cell 7).trans (Array.getElem?_eq_getElem (by omega))⟩
 have f1:=a0.frozen 7;obtain⟨y2,e2⟩:∃y,w1.cell? ⟨bt,8,none⟩=some y:=⟨_,(a0.cell 8).trans (Array.getElem?_eq_getElem (by omega))⟩
 have f2:=a0.frozen 8;have a5:=hid a0;have a8:=hid a2;have a6:=hid a3;have HF:=hid hf;have a7:=hid a4;clear a0 a2 a3 hf a4;go_wp2;go_end0
 exact CloPost.of a8.out a6.out HF.out a7.out (((a5.out.set 6 (.bool zb)).set 7 (.slice zA zk zc)).set 8 (.slice zD zl zd)) ((((Fr.refl _ _).wr _ _).wr _ _).wr _ _) a9 d1 d4
set_option maxHeartbeats 4000000 in
theorem uh1(n:Nat)(L:Nat)(hg:Reads 196 (uC n) (L-1)):uP 209 (uC n) L 154 9:=by
 refine⟨enters_of Tryz.func209 (by kernel_rfl) rfl,?_⟩
 intro w br bv bt str r cs h b0 hv ht a1 d1 d2 d3 d4;have a9:=ht.lt;have cv:=hv.cell 0;simp only[gq]at cv;have b7:9+2≤cs.size:=by rw[show Shape.sz (uC n)=2 from um]at a1;exact a1
 have HR:=hid h;have HV:=hid hv;have HT:=hid ht;have HG:=hid hg;clear h hv ht hg a1;go_enter Tryz.func209,Tryz.ntmps209
 go_wp2_with fail
 refine(HG.out _ br str (some r) HR.out (lim b0)).mono ?_;rintro e w1⟨v,rfl,a2,a3,hf,a4⟩;have a0:=HT.out.fr hf d1;obtain⟨b1,b3,b2,b4,b6,b5,rfl⟩:=uaj a2;rw[uau];obtain⟨y0,e0⟩:∃y,w1.cell? ⟨bt,9,none⟩=some y:=⟨_,(a0.cell 9).trans (Array.getElem?_eq_getElem (by omega))⟩
 have f0:=a0.frozen 9;obtain⟨y1,e1⟩:∃y,w1.cell? ⟨bt,10,none⟩=some y:=⟨_,(a0.cell 10).trans (Array.getElem?_eq_getElem (by omega))⟩
 have f1:=a0.frozen 10;have a5:=hid a0;have a8:=hid a2;have a6:=hid a3;have HF:=hid hf;have a7:=hid a4;clear a0 a2 a3 hf a4;go_wp2;go_end0
 exact CloPost.of a8.out a6.out HF.out a7.out ((a5.out.set 9 (.slice b1 b3 b2)).set 10 (.slice b4 b6 b5)) (((Fr.refl _ _).wr _ _).wr _ _) a9 d1 d4
set_option maxHeartbeats 4000000 in
theorem uh2(L:Nat)(hg:Reads 121 (.list .rat) (L-1)):uP 210 (.list .rat) L 154 11:=by
 refine⟨enters_of Tryz.func210 (by kernel_rfl) rfl,?_⟩
 intro w br bv bt str r cs h b0 hv ht a1 d1 d2 d3 d4;have a9:=ht.lt;have cv:=hv.cell 0;simp only[gq]at cv;have b1:11+1≤cs.size:=by rw[show Shape.sz (.list .rat)=1 from rfl]at a1;exact a1
 have HR:=hid h;have HV:=hid hv;have HT:=hid ht;have HG:=hid hg;clear h hv ht hg a1;go_enter Tryz.func210,Tryz.ntmps210
 go_wp2_with fail
 refine(HG.out _ br str (some r) HR.out (lim b0)).mono ?_;rintro e w1⟨v,rfl,a2,a3,hf,a4⟩;have a0:=HT.out.fr hf d1;obtain⟨zA,zk,zc,rfl⟩:=ua a2;rw[ue];obtain⟨y0,e0⟩:∃y,w1.cell? ⟨bt,11,none⟩=some y:=⟨_,(a0.cell 11).trans (Array.getElem?_eq_getElem (by omega))⟩
 have f0:=a0.frozen 11;have a5:=hid a0;have a8:=hid a2;have a6:=hid a3;have HF:=hid hf;have a7:=hid a4;clear a0 a2 a3 hf a4;go_wp2;go_end0
 exact CloPost.of a8.out a6.out HF.out a7.out (a5.out.set 11 (.slice zA zk zc)) ((Fr.refl _ _).wr _ _) a9 d1 d4
set_option maxHeartbeats 4000000 in
theorem uh3(L:Nat)(hg:Reads 121 (.list .rat) (L-1)):uP 211 (.list .rat) L 154 12:=by
 refine⟨enters_of Tryz.func211 (by kernel_rfl) rfl,?_⟩
 intro w br bv bt str r cs h b0 hv ht a1 d1 d2 d3 d4;have a9:=ht.lt;have cv:=hv.cell 0;simp only[gq]at cv;have b1:12+1≤cs.size:=by rw[show Shape.sz (.list .rat)=1 from rfl]at a1;exact a1
 have HR:=hid h;have HV:=hid hv;have HT:=hid ht;have HG:=hid hg;clear h hv ht hg a1;go_enter Tryz.func211,Tryz.ntmps211
 go_wp2_with fail
 refine(HG.out _ br str (some r) HR.out (lim b0)).mono ?_;rintro e w1⟨v,rfl,a2,a3,hf,a4⟩;have a0:=HT.out.fr hf d1;obtain⟨zA,zk,zc,rfl⟩:=ua a2;rw[ue];obtain⟨y0,e0⟩:∃y,w1.cell? ⟨bt,12,none⟩=some y:=⟨_,(a0.cell 12).trans (Array.getElem?_eq_getElem (by omega))⟩
 have f0:=a0.frozen 12;have a5:=hid a0;have a8:=hid a2;have a6:=hid a3;have HF:=hid hf;have a7:=hid a4;clear a0 a2 a3 hf a4;go_wp2;go_end0
 exact CloPost.of a8.out a6.out HF.out a7.out (a5.out.set 12 (.slice zA zk zc)) ((Fr.refl _ _).wr _ _) a9 d1 d4
set_option maxHeartbeats 4000000 in
theorem uqs(L:Nat)(hg:Reads 105 .int (L-1)):uP 104 .int L 65 0:=by
 refine⟨enters_of Tryz.func104 (by kernel_rfl) rfl,?_⟩
 intro w br bv bt str r cs h b0 hv ht a1 d1 d2 d3 d4;have a9:=ht.lt;have cv:=hv.cell 0;simp only[gq]at cv;have b1:0+1≤cs.size:=by rw[show Shape.sz .int=1 from rfl]at a1;exact a1
 have HR:=hid h;have HV:=hid hv;have HT:=hid ht;have HG:=hid hg;clear h hv ht hg a1;go_enter Tryz.func104,Tryz.ntmps104
 go_wp2_with fail
 refine(HG.out _ br str (some r) HR.out (lim b0)).mono ?_;rintro e w1⟨v,rfl,a2,a3,hf,a4⟩;have a0:=HT.out.fr hf d1;obtain⟨zn,rfl⟩:=ug a2;rw[uo];obtain⟨y0,e0⟩:∃y,w1.cell? ⟨bt,0,none⟩=some y:=⟨_,(a0.cell 0).trans (Array.getElem?_eq_getElem (by omega))⟩
 have f0:=a0.frozen 0;have a5:=hid a0;have a8:=hid a2;have a6:=hid a3;have HF:=hid hf;have a7:=hid a4;clear a0 a2 a3 hf a4;go_wp2;go_end0
 exact CloPost.of a8.out a6.out HF.out a7.out (a5.out.set 0 (.int .i64 zn)) ((Fr.refl _ _).wr _ _) a9 d1 d4
set_option maxHeartbeats 4000000 in
theorem uqt(L:Nat)(hg:Reads 105 .int (L-1)):uP 106 .int L 65 1:=by
 refine⟨enters_of Tryz.func106 (by kernel_rfl) rfl,?_⟩
 intro w br bv bt str r cs h b0 hv ht a1 d1 d2 d3 d4;have a9:=ht.lt;have cv:=hv.cell 0;simp only[gq]at cv;have b1:1+1≤cs.size:=by rw[show Shape.sz .int=1 from rfl]at a1;exact a1
 have HR:=hid h;have HV:=hid hv;have HT:=hid ht;have HG:=hid hg;clear h hv ht hg a1;go_enter Tryz.func106,Tryz.ntmps106
 go_wp2_with fail
 refine(HG.out _ br str (some r) HR.out (lim b0)).mono ?_;rintro e w1⟨v,rfl,a2,a3,hf,a4⟩;have a0:=HT.out.fr hf d1;obtain⟨zn,rfl⟩:=ug a2;rw[uo];obtain⟨y0,e0⟩:∃y,w1.cell? ⟨bt,1,none⟩=some y:=⟨_,(a0.cell 1).trans (Array.getElem?_eq_getElem (by omega))⟩
 have f0:=a0.frozen 1;have a5:=hid a0;have a8:=hid a2;have a6:=hid a3;have HF:=hid hf;have a7:=hid a4;clear a0 a2 a3 hf a4;go_wp2;go_end0
 exact CloPost.of a8.out a6.out HF.out a7.out (a5.out.set 1 (.int .i64 zn)) ((Fr.refl _ _).wr _ _) a9 d1 d4
set_option maxHeartbeats 4000000 in
theorem uqu(L:Nat)(hg:Reads 33 .bool (L-1)):uP 107 .bool L 65 2:=by
 refine⟨enters_of Tryz.func107 (by kernel_rfl) rfl,?_⟩
 intro w br bv bt str r cs h b0 hv ht a1 d1 d2 d3 d4;have a9:=ht.lt;have cv:=hv.cell 0;simp only[gq]at cv;have b1:2+1≤cs.size:=by rw[show Shape.sz .bool=1 from rfl]at a1;exact a1
 have HR:=hid h;have HV:=hid hv;have HT:=hid ht;have HG:=hid hg;clear h hv ht hg a1;go_enter Tryz.func107,Tryz.ntmps107
 go_wp2_with fail
 refine(HG.out _ br str (some r) HR.out (lim b0)).mono ?_;rintro e w1⟨v,rfl,a2,a3,hf,a4⟩;have a0:=HT.out.fr hf d1;obtain⟨zb,rfl⟩:=ua8 a2;rw[ub9];obtain⟨y0,e0⟩:∃y,w1.cell? ⟨bt,2,none⟩=some y:=⟨_,(a0.cell 2).trans (Array.getElem?_eq_getElem (by omega))⟩
 have f0:=a0.frozen 2;have a5:=hid a0;have a8:=hid a2;have a6:=hid a3;have HF:=hid hf;have a7:=hid a4;clear a0 a2 a3 hf a4;go_wp2;go_end0
 exact CloPost.of a8.out a6.out HF.out a7.out (a5.out.set 2 (.bool zb)) ((Fr.refl _ _).wr _ _) a9 d1 d4
set_option maxHeartbeats 4000000 in
theorem uqv(n:Nat)(L:Nat)(hg:Reads 110 (un n) (L-1)):uP 108 (.list (un n)) L 65 3:=by
 refine⟨enters_of Tryz.func108 (by kernel_rfl) rfl,?_⟩
 intro w br bv bt str r cs h b0 hv ht a1 d1 d2 d3 d4;have a9:=ht.lt;have cv:=hv.cell 0;simp only[gq]at cv;have b1:3+1≤cs.size:=by rw[show Shape.sz (.list (un n))=1 from rfl]at a1;exact a1
 have HR:=hid h;have HV:=hid hv;have HT:=hid ht;have HG:=hid hg;clear h hv ht hg a1;go_enter Tryz.func108,Tryz.ntmps108
 go_wp2_with fail
 refine(ujg n (L-1) _ _ _ _ br str (some r) HR.out (lim b0) (ElR.meth (enters_of Tryz.func110 (by kernel_rfl) rfl) HG.out br str _)).mono ?_
 rintro e w1⟨v,rfl,a2,a3,hf,a4⟩;have a0:=HT.out.fr hf d1;obtain⟨zA,zk,zc,rfl⟩:=ua a2;rw[ue];obtain⟨y0,e0⟩:∃y,w1.cell? ⟨bt,3,none⟩=some y:=⟨_,(a0.cell 3).trans (Array.getElem?_eq_getElem (by omega))⟩
 have f0:=a0.frozen 3;have a5:=hid a0;have a8:=hid a2;have a6:=hid a3;have HF:=hid hf;have a7:=hid a4;clear a0 a2 a3 hf a4;go_wp2;go_end0
 exact CloPost.of a8.out a6.out HF.out a7.out (a5.out.set 3 (.slice zA zk zc)) ((Fr.refl _ _).wr _ _) a9 d1 d4
set_option maxHeartbeats 4000000 in
theorem uz8(n L:Nat)(hg:Reads 126 (uax n) L)(w:World)(br bv:Nat)(str:ByteArray)(hv:Bk w bv 46 #[.pointer (some ⟨br,0,none⟩)])(d:bv≠br):ElR 124 (#[] ++ #[.pointer (some ⟨bv,0,none⟩)]) (.list (uax n)) L br str w:=by
 refine⟨enters_of Tryz.func124 (by kernel_rfl) rfl,fun W o hf hr hl=>?_⟩
 have cv:=(hv.fr hf d).cell 0;simp only[gq]at cv;have HR:=hid hr;have HL:=hid hl;have HG:=hid hg;clear hv hf hr hl hg;show Calls Tryz.prog 124 #[.pointer (some ⟨bv,0,none⟩)] W _
 go_enter Tryz.func124,Tryz.ntmps124
 go_wp2_with fail
 refine(umy n L _ _ _ _ br str o HR.out HL.out (ElR.meth (enters_of Tryz.func126 (by kernel_rfl) rfl) HG.out br str _)).mono ?_
 rintro e w1⟨v,rfl,hp⟩;have a0:=hp.1;obtain⟨zA,zk,zc,rfl⟩:=ua a0;rw[ue];have HP:=hid hp;clear hp a0;go_wp2;go_ret
 exact⟨_,rfl,HP.out⟩
set_option maxHeartbeats 4000000 in
theorem uqw(n:Nat)(L:Nat)(hg:Reads 110 (un n) (L-1)):uP 111 (.list (un n)) L 65 4:=by
 refine⟨enters_of Tryz.func111 (by kernel_rfl) rfl,?_⟩
 intro w br bv bt str r cs h b0 hv ht a1 d1 d2 d3 d4;have a9:=ht.lt;have cv:=hv.cell 0;simp only[gq]at cv;have b1:4+1≤cs.size:=by rw[show Shape.sz (.list (un n))=1 from rfl]at a1;exact a1
 have HR:=hid h;have HV:=hid hv;have HT:=hid ht;have HG:=hid hg;clear h hv ht hg a1;go_enter Tryz.func111,Tryz.ntmps111
 go_wp2_with fail
 refine(ujg n (L-1) _ _ _ _ br str (some r) HR.out (lim b0) (ElR.meth (enters_of Tryz.func110 (by kernel_rfl) rfl) HG.out br str _)).mono ?_
 rintro e w1⟨v,rfl,a2,a3,hf,a4⟩;have a0:=HT.out.fr hf d1;obtain⟨zA,zk,zc,rfl⟩:=ua a2;rw[ue];obtain⟨y0,e0⟩:∃y,w1.cell? ⟨bt,4,none⟩=some y:=⟨_,(a0.cell 4).trans (Array.getElem?_eq_getElem (by omega))⟩
 have f0:=a0.frozen 4;have a5:=hid a0;have a8:=hid a2;have a6:=hid a3;have HF:=hid hf;have a7:=hid a4;clear a0 a2 a3 hf a4;go_wp2;go_end0
 exact CloPost.of a8.out a6.out HF.out a7.out (a5.out.set 4 (.slice zA zk zc)) ((Fr.refl _ _).wr _ _) a9 d1 d4
set_option maxHeartbeats 4000000 in
theorem uqx(n:Nat)(L:Nat)(hg:Reads 114 (uD n) (L-1)):uP 112 (.list (uD n)) L 65 5:=by
 refine⟨enters_of Tryz.func112 (by kernel_rfl) rfl,?_⟩
 intro w br bv bt str r cs h b0 hv ht a1 d1 d2 d3 d4;have a9:=ht.lt;have cv:=hv.cell 0;simp only[gq]at cv;have b1:5+1≤cs.size:=by rw[show Shape.sz (.list (uD n))=1 from rfl]at a1;exact a1
 have HR:=hid h;have HV:=hid hv;have HT:=hid ht;have HG:=hid hg;clear h hv ht hg a1;go_enter Tryz.func112,Tryz.ntmps112
 go_wp2_with fail
 refine(utt n (L-1) _ _ _ _ br str (some r) HR.out (lim b0) (ElR.meth (enters_of Tryz.func114 (by kernel_rfl) rfl) HG.out br str _)).mono ?_
 rintro e w1⟨v,rfl,a2,a3,hf,a4⟩;have a0:=HT.out.fr hf d1;obtain⟨zA,zk,zc,rfl⟩:=ua a2;rw[ue];obtain⟨y0,e0⟩:∃y,w1.cell? ⟨bt,5,none⟩=some y:=⟨_,(a0.cell 5).trans (Array.getElem?_eq_getElem (by omega))⟩
 have f0:=a0.frozen 5;have a5:=hid a0;have a8:=hid a2;have a6:=hid a3;have HF:=hid hf;have a7:=hid a4;clear a0 a2 a3 hf a4;go_wp2;go_end0
 exact CloPost.of a8.out a6.out HF.out a7.out (a5.out.set 5 (.slice zA zk zc)) ((Fr.refl _ _).wr _ _) a9 d1 d4
set_option maxHeartbeats 4000000 in
theorem uqy(n:Nat)(L:Nat)(hg:Reads 117 (uan n) (L-1)):uP 115 (.list (uan n)) L 65 6:=by
 refine⟨enters_of Tryz.func115 (by kernel_rfl) rfl,?_⟩
 intro w br bv bt str r cs h b0 hv ht a1 d1 d2 d3 d4;have a9:=ht.lt;have cv:=hv.cell 0;simp only[gq]at cv;have b1:6+1≤cs.size:=by rw[show Shape.sz (.list (uan n))=1 from rfl]at a1;exact a1
 have HR:=hid h;have HV:=hid hv;have HT:=hid ht;have HG:=hid hg;clear h hv ht hg a1;go_enter Tryz.func115,Tryz.ntmps115
 go_wp2_with fail
 refine(ux5 n (L-1) _ _ _ _ br str (some r) HR.out (lim b0) (ElR.meth (enters_of Tryz.func117 (by kernel_rfl) rfl) HG.out br str _)).mono ?_
 rintro e w1⟨v,rfl,a2,a3,hf,a4⟩;have a0:=HT.out.fr hf d1;obtain⟨zA,zk,zc,rfl⟩:=ua a2;rw[ue];obtain⟨y0,e0⟩:∃y,w1.cell? ⟨bt,6,none⟩=some y:=⟨_,(a0.cell 6).trans (Array.getElem?_eq_getElem (by omega))⟩
 have f0:=a0.frozen 6;have a5:=hid a0;have a8:=hid a2;have a6:=hid a3;have HF:=hid hf;have a7:=hid a4;clear a0 a2 a3 hf a4;go_wp2;go_end0
 exact CloPost.of a8.out a6.out HF.out a7.out (a5.out.set 6 (.slice zA zk zc)) ((Fr.refl _ _).wr _ _) a9 d1 d4
set_option maxHeartbeats 4000000 in
theorem uqz(n:Nat)(L:Nat)(hg:Reads 110 (un n) (L-1)):uP 118 (.list (un n)) L 65 7:=by
 refine⟨enters_of Tryz.func118 (by kernel_rfl) rfl,?_⟩
 intro w br bv bt str r cs h b0 hv ht a1 d1 d2 d3 d4;have a9:=ht.lt;have cv:=hv.cell 0;simp only[gq]at cv;have b1:7+1≤cs.size:=by rw[show Shape.sz (.list (un n))=1 from rfl]at a1;exact a1
 have HR:=hid h;have HV:=hid hv;have HT:=hid ht;have HG:=hid hg;clear h hv ht hg a1;go_enter Tryz.func118,Tryz.ntmps118
 go_wp2_with fail
 refine(ujg n (L-1) _ _ _ _ br str (some r) HR.out (lim b0) (ElR.meth (enters_of Tryz.func110 (by kernel_rfl) rfl) HG.out br str _)).mono ?_
 rintro e w1⟨v,rfl,a2,a3,hf,a4⟩;have a0:=HT.out.fr hf d1;obtain⟨zA,zk,zc,rfl⟩:=ua a2;rw[ue];obtain⟨y0,e0⟩:∃y,w1.cell? ⟨bt,7,none⟩=some y:=⟨_,(a0.cell 7).trans (Array.getElem?_eq_getElem (by omega))⟩
 have f0:=a0.frozen 7;have a5:=hid a0;have a8:=hid a2;have a6:=hid a3;have HF:=hid hf;have a7:=hid a4;clear a0 a2 a3 hf a4;go_wp2;go_end0
 exact CloPost.of a8.out a6.out HF.out a7.out (a5.out.set 7 (.slice zA zk zc)) ((Fr.refl _ _).wr _ _) a9 d1 d4
set_option maxHeartbeats 4000000 in
theorem uq0(L:Nat)(hg:Reads 99 (.list .int) (L-1)):uP 119 (.list .int) L 65 8:=by
 refine⟨enters_of Tryz.func119 (by kernel_rfl) rfl,?_⟩
 intro w br bv bt str r cs h b0 hv ht a1 d1 d2 d3 d4;have a9:=ht.lt;have cv:=hv.cell 0;simp only[gq]at cv;have b1:8+1≤cs.size:=by rw[show Shape.sz (.list .int)=1 from rfl]at a1;exact a1
 have HR:=hid h;have HV:=hid hv;have HT:=hid ht;have HG:=hid hg;clear h hv ht hg a1;go_enter Tryz.func119,Tryz.ntmps119
 go_wp2_with fail
 refine(HG.out _ br str (some r) HR.out (lim b0)).mono ?_;rintro e w1⟨v,rfl,a2,a3,hf,a4⟩;have a0:=HT.out.fr hf d1;obtain⟨zA,zk,zc,rfl⟩:=ua a2;rw[ue];obtain⟨y0,e0⟩:∃y,w1.cell? ⟨bt,8,none⟩=some y:=⟨_,(a0.cell 8).trans (Array.getElem?_eq_getElem (by omega))⟩
 have f0:=a0.frozen 8;have a5:=hid a0;have a8:=hid a2;have a6:=hid a3;have HF:=hid hf;have a7:=hid a4;clear a0 a2 a3 hf a4;go_wp2;go_end0
 exact CloPost.of a8.out a6.out HF.out a7.out (a5.out.set 8 (.slice zA zk zc)) ((Fr.refl _ _).wr _ _) a9 d1 d4
set_option maxHeartbeats 4000000 in
theorem uq1(L:Nat)(hg:Reads 121 (.list .rat) (L-1)):uP 120 (.list .rat) L 65 9:=by
 refine⟨enters_of Tryz.func120 (by kernel_rfl) rfl,?_⟩
 intro w br bv bt str r cs h b0 hv ht a1 d1 d2 d3 d4;have a9:=ht.lt;have cv:=hv.cell 0;simp only[gq]at cv;have b1:9+1≤cs.size:=by rw[show Shape.sz (.list .rat)=1 from rfl]at a1;exact a1
 have HR:=hid h;have HV:=hid hv;have HT:=hid ht;have HG:=hid hg;clear h hv ht hg a1;go_enter Tryz.func120,Tryz.ntmps120
 go_wp2_with fail
 refine(HG.out _ br str (some r) HR.out (lim b0)).mono ?_;rintro e w1⟨v,rfl,a2,a3,hf,a4⟩;have a0:=HT.out.fr hf d1;obtain⟨zA,zk,zc,rfl⟩:=ua a2;rw[ue];obtain⟨y0,e0⟩:∃y,w1.cell? ⟨bt,9,none⟩=some y:=⟨_,(a0.cell 9).trans (Array.getElem?_eq_getElem (by omega))⟩
 have f0:=a0.frozen 9;have a5:=hid a0;have a8:=hid a2;have a6:=hid a3;have HF:=hid hf;have a7:=hid a4;clear a0 a2 a3 hf a4;go_wp2;go_end0
 exact CloPost.of a8.out a6.out HF.out a7.out (a5.out.set 9 (.slice zA zk zc)) ((Fr.refl _ _).wr _ _) a9 d1 d4
set_option maxHeartbeats 4000000 in
theorem um7(n:Nat)(L:Nat)(hg:Reads 126 (uax n) (L-1)):uP 122 (.list (.list (uax n))) L 65 10:=by
 refine⟨enters_of Tryz.func122 (by kernel_rfl) rfl,?_⟩
 intro w br bv bt str r cs h b0 hv ht a1 d1 d2 d3 d4;have a9:=ht.lt;have cv:=hv.cell 0;simp only[gq]at cv;have b1:10+1≤cs.size:=by rw[show Shape.sz (.list (.list (uax n)))=1 from rfl]at a1;exact a1
 have HR:=hid h;have HV:=hid hv;have HT:=hid ht;have HG:=hid hg;clear h hv ht hg a1;go_enter Tryz.func122,Tryz.ntmps122
 go_wp2_with fail
 refine(ujf n (L-1) _ _ _ _ br str (some r) HR.out (lim b0) (uz8 n (L-1) HG.out w br bv str HV.out d2)).mono ?_;rintro e w1⟨v,rfl,a2,a3,hf,a4⟩;have a0:=HT.out.fr hf d1;obtain⟨zA,zk,zc,rfl⟩:=ua a2;rw[ue];obtain⟨y0,e0⟩:∃y,w1.cell? ⟨bt,10,none⟩=some y:=⟨_,(a0.cell 10).trans (Array.getElem?_eq_getElem (by omega))⟩
 have f0:=a0.frozen 10;have a5:=hid a0;have a8:=hid a2;have a6:=hid a3;have HF:=hid hf;have a7:=hid a4;clear a0 a2 a3 hf a4;go_wp2;go_end0
 exact CloPost.of a8.out a6.out HF.out a7.out (a5.out.set 10 (.slice zA zk zc)) ((Fr.refl _ _).wr _ _) a9 d1 d4
set_option maxHeartbeats 4000000 in
theorem um8(L:Nat)(hg:Reads 105 .int (L-1)):uP 127 .int L 68 0:=by
 refine⟨enters_of Tryz.func127 (by kernel_rfl) rfl,?_⟩
 intro w br bv bt str r cs h b0 hv ht a1 d1 d2 d3 d4;have a9:=ht.lt;have cv:=hv.cell 0;simp only[gq]at cv;have b1:0+1≤cs.size:=by rw[show Shape.sz .int=1 from rfl]at a1;exact a1
 have HR:=hid h;have HV:=hid hv;have HT:=hid ht;have HG:=hid hg;clear h hv ht hg a1;go_enter Tryz.func127,Tryz.ntmps127
 go_wp2_with fail
 refine(HG.out _ br str (some r) HR.out (lim b0)).mono ?_;rintro e w1⟨v,rfl,a2,a3,hf,a4⟩;have a0:=HT.out.fr hf d1;obtain⟨zn,rfl⟩:=ug a2;rw[uo];obtain⟨y0,e0⟩:∃y,w1.cell? ⟨bt,0,none⟩=some y:=⟨_,(a0.cell 0).trans (Array.getElem?_eq_getElem (by omega))⟩
 have f0:=a0.frozen 0;have a5:=hid a0;have a8:=hid a2;have a6:=hid a3;have HF:=hid hf;have a7:=hid a4;clear a0 a2 a3 hf a4;go_wp2;go_end0
 exact CloPost.of a8.out a6.out HF.out a7.out (a5.out.set 0 (.int .i64 zn)) ((Fr.refl _ _).wr _ _) a9 d1 d4
set_option maxHeartbeats 4000000 in
theorem um9(L:Nat)(hg:Reads 105 .int (L-1)):uP 128 .int L 68 1:=by
 refine⟨enters_of Tryz.func128 (by kernel_rfl) rfl,?_⟩
 intro w br bv bt str r cs h b0 hv ht a1 d1 d2 d3 d4;have a9:=ht.lt;have cv:=hv.cell 0;simp only[gq]at cv;have b1:1+1≤cs.size:=by rw[show Shape.sz .int=1 from rfl]at a1;exact a1
 have HR:=hid h;have HV:=hid hv;have HT:=hid ht;have HG:=hid hg;clear h hv ht hg a1;go_enter Tryz.func128,Tryz.ntmps128
 go_wp2_with fail
 refine(HG.out _ br str (some r) HR.out (lim b0)).mono ?_;rintro e w1⟨v,rfl,a2,a3,hf,a4⟩;have a0:=HT.out.fr hf d1;obtain⟨zn,rfl⟩:=ug a2;rw[uo];obtain⟨y0,e0⟩:∃y,w1.cell? ⟨bt,1,none⟩=some y:=⟨_,(a0.cell 1).trans (Array.getElem?_eq_getElem (by omega))⟩
 have f0:=a0.frozen 1;have a5:=hid a0;have a8:=hid a2;have a6:=hid a3;have HF:=hid hf;have a7:=hid a4;clear a0 a2 a3 hf a4;go_wp2;go_end0
 exact CloPost.of a8.out a6.out HF.out a7.out (a5.out.set 1 (.int .i64 zn)) ((Fr.refl _ _).wr _ _) a9 d1 d4
set_option maxHeartbeats 4000000 in
theorem uq2(L:Nat)(hg:Reads 33 .bool (L-1)):uP 32 .bool L 34 0:=by
 refine⟨enters_of Tryz.func32 (by kernel_rfl) rfl,?_⟩
 intro w br bv bt str r cs h b0 hv ht a1 d1 d2 d3 d4;have a9:=ht.lt;have cv:=hv.cell 0;simp only[gq]at cv;have b1:0+1≤cs.size:=by rw[show Shape.sz .bool=1 from rfl]at a1;exact a1
 have HR:=hid h;have HV:=hid hv;have HT:=hid ht;have HG:=hid hg;clear h hv ht hg a1;go_enter Tryz.func32,Tryz.ntmps32
 go_wp2_with fail
 refine(HG.out _ br str (some r) HR.out (lim b0)).mono ?_;rintro e w1⟨v,rfl,a2,a3,hf,a4⟩;have a0:=HT.out.fr hf d1;obtain⟨zb,rfl⟩:=ua8 a2;rw[ub9];obtain⟨y0,e0⟩:∃y,w1.cell? ⟨bt,0,none⟩=some y:=⟨_,(a0.cell 0).trans (Array.getElem?_eq_getElem (by omega))⟩
 have f0:=a0.frozen 0;have a5:=hid a0;have a8:=hid a2;have a6:=hid a3;have HF:=hid hf;have a7:=hid a4;clear a0 a2 a3 hf a4;go_wp2;go_end0
 exact CloPost.of a8.out a6.out HF.out a7.out (a5.out.set 0 (.bool zb)) ((Fr.refl _ _).wr _ _) a9 d1 d4
set_option maxHeartbeats 4000000 in
theorem uq3(L:Nat)(hg:Reads 35 uM (L-1)):uP 34 uM L 34 1:=by
 refine⟨enters_of Tryz.func34 (by kernel_rfl) rfl,?_⟩
 intro w br bv bt str r cs h b0 hv ht a1 d1 d2 d3 d4;have a9:=ht.lt;have cv:=hv.cell 0;simp only[gq]at cv;have b7:1+2≤cs.size:=by rw[show Shape.sz uM=2 from ud]at a1;exact a1
 have HR:=hid h;have HV:=hid hv;have HT:=hid ht;have HG:=hid hg;clear h hv ht hg a1;go_enter Tryz.func34,Tryz.ntmps34
 go_wp2_with fail
 refine(HG.out _ br str (some r) HR.out (lim b0)).mono ?_;rintro e w1⟨v,rfl,a2,a3,hf,a4⟩;have a0:=HT.out.fr hf d1;obtain⟨b1,b3,b2,b4,b6,b5,rfl⟩:=uch a2;rw[uic];obtain⟨y0,e0⟩:∃y,w1.cell? ⟨bt,1,none⟩=some y:=⟨_,(a0.cell 1).trans (Array.getElem?_eq_getElem (by omega))⟩
 have f0:=a0.frozen 1;obtain⟨y1,e1⟩:∃y,w1.cell? ⟨bt,2,none⟩=some y:=⟨_,(a0.cell 2).trans (Array.getElem?_eq_getElem (by omega))⟩
 have f1:=a0.frozen 2;have a5:=hid a0;have a8:=hid a2;have a6:=hid a3;have HF:=hid hf;have a7:=hid a4;clear a0 a2 a3 hf a4;go_wp2;go_end0
 exact CloPost.of a8.out a6.out HF.out a7.out ((a5.out.set 1 (.slice b1 b3 b2)).set 2 (.slice b4 b6 b5)) (((Fr.refl _ _).wr _ _).wr _ _) a9 d1 d4
set_option maxHeartbeats 4000000 in
theorem uq4(L:Nat)(hg:Reads 38 ut (L-1)):uP 36 (.list ut) L 34 3:=by
 refine⟨enters_of Tryz.func36 (by kernel_rfl) rfl,?_⟩
 intro w br bv bt str r cs h b0 hv ht a1 d1 d2 d3 d4;have a9:=ht.lt;have cv:=hv.cell 0;simp only[gq]at cv;have b1:3+1≤cs.size:=by rw[show Shape.sz (.list ut)=1 from rfl]at a1;exact a1
 have HR:=hid h;have HV:=hid hv;have HT:=hid ht;have HG:=hid hg;clear h hv ht hg a1;go_enter Tryz.func36,Tryz.ntmps36
 go_wp2_with fail
 refine(umx (L-1) _ _ _ _ br str (some r) HR.out (lim b0) (ElR.meth (enters_of Tryz.func38 (by kernel_rfl) rfl) HG.out br str _)).mono ?_
 rintro e w1⟨v,rfl,a2,a3,hf,a4⟩;have a0:=HT.out.fr hf d1;obtain⟨zA,zk,zc,rfl⟩:=ua a2;rw[ue];obtain⟨y0,e0⟩:∃y,w1.cell? ⟨bt,3,none⟩=some y:=⟨_,(a0.cell 3).trans (Array.getElem?_eq_getElem (by omega))⟩
 have f0:=a0.frozen 3;have a5:=hid a0;have a8:=hid a2;have a6:=hid a3;have HF:=hid hf;have a7:=hid a4;clear a0 a2 a3 hf a4;go_wp2;go_end0
 exact CloPost.of a8.out a6.out HF.out a7.out (a5.out.set 3 (.slice zA zk zc)) ((Fr.refl _ _).wr _ _) a9 d1 d4
set_option maxHeartbeats 4000000 in
theorem uq5(n:Nat)(L:Nat)(hg:Reads 40 (uaw n) (L-1)):uP 39 (uaw n) L 34 4:=by
 refine⟨enters_of Tryz.func39 (by kernel_rfl) rfl,?_⟩
 intro w br bv bt str r cs h b0 hv ht a1 d1 d2 d3 d4;have a9:=ht.lt;have cv:=hv.cell 0;simp only[gq]at cv;have c0:4+3≤cs.size:=by rw[show Shape.sz (uaw n)=3 from uu]at a1;exact a1
 have HR:=hid h;have HV:=hid hv;have HT:=hid ht;have HG:=hid hg;clear h hv ht hg a1;go_enter Tryz.func39,Tryz.ntmps39
 go_wp2_with fail
 refine(HG.out _ br str (some r) HR.out (lim b0)).mono ?_;rintro e w1⟨v,rfl,a2,a3,hf,a4⟩;have a0:=HT.out.fr hf d1;obtain⟨b1,b3,b2,b4,b6,b5,b7,b9,b8,rfl⟩:=udy a2;rw[ui1];obtain⟨y0,e0⟩:∃y,w1.cell? ⟨bt,4,none⟩=some y:=⟨_,(a0.cell 4).trans (Array.getElem?_eq_getElem (by omega))⟩
 have f0:=a0.frozen 4;obtain⟨y1,e1⟩:∃y,w1.cell? ⟨bt,5,none⟩=some y:=⟨_,(a0.cell 5).trans (Array.getElem?_eq_getElem (by omega))⟩
 have f1:=a0.frozen 5;obtain⟨y2,e2⟩:∃y,w1.cell? ⟨bt,6,none⟩=some y:=⟨_,(a0.cell 6).trans (Array.getElem?_eq_getElem (by omega))⟩
 have f2:=a0.frozen 6;have a5:=hid a0;have a8:=hid a2;have a6:=hid a3;have HF:=hid hf;have a7:=hid a4;clear a0 a2 a3 hf a4;go_wp2;go_end0
 exact CloPost.of a8.out a6.out HF.out a7.out (((a5.out.set 4 (.slice b1 b3 b2)).set 5 (.slice b4 b6 b5)).set 6 (.slice b7 b9 b8)) ((((Fr.refl _ _).wr _ _).wr _ _).wr _ _) a9 d1 d4
set_option maxHeartbeats 4000000 in
theorem uq6(n:Nat)(L:Nat)(hg:Reads 43 (uac n) (L-1)):uP 41 (.list (uac n)) L 34 7:=by
 refine⟨enters_of Tryz.func41 (by kernel_rfl) rfl,?_⟩
 intro w br bv bt str r cs h b0 hv ht a1 d1 d2 d3 d4;have a9:=ht.lt;have cv:=hv.cell 0;simp only[gq]at cv;have b1:7+1≤cs.size:=by rw[show Shape.sz (.list (uac n))=1 from rfl]at a1;exact a1
 have HR:=hid h;have HV:=hid hv;have HT:=hid ht;have HG:=hid hg;clear h hv ht hg a1;go_enter Tryz.func41,Tryz.ntmps41
 go_wp2_with fail
 refine(ux6 n (L-1) _ _ _ _ br str (some r) HR.out (lim b0) (ElR.meth (enters_of Tryz.func43 (by kernel_rfl) rfl) HG.out br str _)).mono ?_
 rintro e w1⟨v,rfl,a2,a3,hf,a4⟩;have a0:=HT.out.fr hf d1;obtain⟨zA,zk,zc,rfl⟩:=ua a2;rw[ue];obtain⟨y0,e0⟩:∃y,w1.cell? ⟨bt,7,none⟩=some y:=⟨_,(a0.cell 7).trans (Array.getElem?_eq_getElem (by omega))⟩
 have f0:=a0.frozen 7;have a5:=hid a0;have a8:=hid a2;have a6:=hid a3;have HF:=hid hf;have a7:=hid a4;clear a0 a2 a3 hf a4;go_wp2;go_end0
 exact CloPost.of a8.out a6.out HF.out a7.out (a5.out.set 7 (.slice zA zk zc)) ((Fr.refl _ _).wr _ _) a9 d1 d4
set_option maxHeartbeats 4000000 in
theorem uq7(L:Nat)(hg:Reads 46 uW (L-1)):uP 44 (.list uW) L 34 8:=by
 refine⟨enters_of Tryz.func44 (by kernel_rfl) rfl,?_⟩
 intro w br bv bt str r cs h b0 hv ht a1 d1 d2 d3 d4;have a9:=ht.lt;have cv:=hv.cell 0;simp only[gq]at cv;have b1:8+1≤cs.size:=by rw[show Shape.sz (.list uW)=1 from rfl]at a1;exact a1
 have HR:=hid h;have HV:=hid hv;have HT:=hid ht;have HG:=hid hg;clear h hv ht hg a1;go_enter Tryz.func44,Tryz.ntmps44
 go_wp2_with fail
 refine(uwc (L-1) _ _ _ _ br str (some r) HR.out (lim b0) (ElR.meth (enters_of Tryz.func46 (by kernel_rfl) rfl) HG.out br str _)).mono ?_
 rintro e w1⟨v,rfl,a2,a3,hf,a4⟩;have a0:=HT.out.fr hf d1;obtain⟨zA,zk,zc,rfl⟩:=ua a2;rw[ue];obtain⟨y0,e0⟩:∃y,w1.cell? ⟨bt,8,none⟩=some y:=⟨_,(a0.cell 8).trans (Array.getElem?_eq_getElem (by omega))⟩
 have f0:=a0.frozen 8;have a5:=hid a0;have a8:=hid a2;have a6:=hid a3;have HF:=hid hf;have a7:=hid a4;clear a0 a2 a3 hf a4;go_wp2;go_end0
 exact CloPost.of a8.out a6.out HF.out a7.out (a5.out.set 8 (.slice zA zk zc)) ((Fr.refl _ _).wr _ _) a9 d1 d4
set_option maxHeartbeats 4000000 in
theorem ub0(L:Nat)(hg:Reads 105 .int L):Reads 99 (.list .int) L:=by
 intro w br str o hr hl;have HR:=hid hr;have HL:=hid hl;have HG:=hid hg;clear hr hl hg;go_enter Tryz.func99,Tryz.ntmps99
 go_wp2_with fail
 refine(uy9 L _ _ _ _ br str o HR.out HL.out (ElR.meth (enters_of Tryz.func105 (by kernel_rfl) rfl) HG.out br str _)).mono ?_
 rintro e w1⟨v,rfl,hp⟩;have a0:=hp.1;obtain⟨zA,zk,zc,rfl⟩:=ua a0;rw[ue];have HP:=hid hp;clear hp a0;go_wp2;go_ret
 exact⟨_,rfl,HP.out⟩
set_option maxHeartbeats 4000000 in
theorem uhe(L:Nat)(hg:Reads 184 .int L):Reads 90 (.list .int) L:=by
 intro w br str o hr hl;have HR:=hid hr;have HL:=hid hl;have HG:=hid hg;clear hr hl hg;go_enter Tryz.func90,Tryz.ntmps90
 go_wp2_with fail
 refine(uv9 L _ _ _ _ br str o HR.out HL.out (ElR.meth (enters_of Tryz.func184 (by kernel_rfl) rfl) HG.out br str _)).mono ?_
 rintro e w1⟨v,rfl,hp⟩;have a0:=hp.1;obtain⟨zA,zk,zc,rfl⟩:=ua a0;rw[ue];have HP:=hid hp;clear hp a0;go_wp2;go_ret
 exact⟨_,rfl,HP.out⟩
set_option maxHeartbeats 4000000 in
theorem uf1(L:Nat)(hg:Reads 194 .rat L):Reads 121 (.list .rat) L:=by
 intro w br str o hr hl;have HR:=hid hr;have HL:=hid hl;have HG:=hid hg;clear hr hl hg;go_enter Tryz.func121,Tryz.ntmps121
 go_wp2_with fail
 refine(uza L _ _ _ _ br str o HR.out HL.out (ElR.meth (enters_of Tryz.func194 (by kernel_rfl) rfl) HG.out br str _)).mono ?_
 rintro e w1⟨v,rfl,hp⟩;have a0:=hp.1;obtain⟨zA,zk,zc,rfl⟩:=ua a0;rw[ue];have HP:=hid hp;clear hp a0;go_wp2;go_ret
 exact⟨_,rfl,HP.out⟩
end Go.Proofs.YtellcholbkoakaaGreatDoor
