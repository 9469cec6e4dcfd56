/-
 The reader: fields (printed by gen_codec.py).
-/
import Derived.Test.YtellcholbkoakaaGreatDoorHCRa
import Derived.Test.YtellcholbkoakaaGreatDoorHCE1
namespace Go.Proofs.YtellcholbkoakaaGreatDoor
open Go.Lib (hid)
open Go.RowKit AC
set_option linter.unusedVariables false
set_option linter.unusedSimpArgs false
set_option maxHeartbeats 4000000 in
theorem clo_linTerm_0(L:Nat)(hg:Reads 105 .int (L-1)):CloR 259 .int L 219 0:=by
 refine⟨enters_of Tryz.func259 (by kernel_rfl) rfl,?_⟩
 intro w br bv bt str r cs h hlen hv ht hsz d1 d2 d3 d4;have hbt:=ht.lt;have cv:=hv.cell 0;simp only[gq]at cv;have hsz':0+1≤cs.size:=by rw[show Shape.sz .int=1 from rfl]at hsz;exact hsz
 have HR:=hid h;have HV:=hid hv;have HT:=hid ht;have HG:=hid hg;clear h hv ht hg hsz;go_enter Tryz.func259,Tryz.ntmps259
 go_wp2_with fail
 refine(HG.out _ br str (some r) HR.out (lim hlen)).mono ?_;rintro e w1⟨v,rfl,hty,hst,hf,htx⟩;have hb1:=HT.out.fr hf d1;obtain⟨zn,rfl⟩:=ty_int hty;rw[val_int];obtain⟨y0,e0⟩:∃y,w1.cell? ⟨bt,0,none⟩=some y:=⟨_,(hb1.cell 0).trans (Array.getElem?_eq_getElem (by omega))⟩
 have f0:=hb1.frozen 0;have HB1:=hid hb1;have HTY:=hid hty;have HST:=hid hst;have HF:=hid hf;have HTX:=hid htx;clear hb1 hty hst hf htx;go_wp2;go_end0
 exact CloPost.of HTY.out HST.out HF.out HTX.out (HB1.out.set 0 (.int .i64 zn)) ((Fr.refl _ _).wr _ _) hbt d1 d4
set_option maxHeartbeats 4000000 in
theorem clo_linTerm_1(L:Nat)(hg:Reads 184 .int (L-1)):CloR 260 .int L 219 1:=by
 refine⟨enters_of Tryz.func260 (by kernel_rfl) rfl,?_⟩
 intro w br bv bt str r cs h hlen hv ht hsz d1 d2 d3 d4;have hbt:=ht.lt;have cv:=hv.cell 0;simp only[gq]at cv;have hsz':1+1≤cs.size:=by rw[show Shape.sz .int=1 from rfl]at hsz;exact hsz
 have HR:=hid h;have HV:=hid hv;have HT:=hid ht;have HG:=hid hg;clear h hv ht hg hsz;go_enter Tryz.func260,Tryz.ntmps260
 go_wp2_with fail
 refine(HG.out _ br str (some r) HR.out (lim hlen)).mono ?_;rintro e w1⟨v,rfl,hty,hst,hf,htx⟩;have hb1:=HT.out.fr hf d1;obtain⟨zn,rfl⟩:=ty_int hty;rw[val_int];obtain⟨y0,e0⟩:∃y,w1.cell? ⟨bt,1,none⟩=some y:=⟨_,(hb1.cell 1).trans (Array.getElem?_eq_getElem (by omega))⟩
 have f0:=hb1.frozen 1;have HB1:=hid hb1;have HTY:=hid hty;have HST:=hid hst;have HF:=hid hf;have HTX:=hid htx;clear hb1 hty hst hf htx;go_wp2;go_end0
 exact CloPost.of HTY.out HST.out HF.out HTX.out (HB1.out.set 1 (.int .i64 zn)) ((Fr.refl _ _).wr _ _) hbt d1 d4
set_option maxHeartbeats 4000000 in
theorem clo_lin_0(L:Nat)(hg:Reads 184 .int (L-1)):CloR 185 .int L 148 0:=by
 refine⟨enters_of Tryz.func185 (by kernel_rfl) rfl,?_⟩
 intro w br bv bt str r cs h hlen hv ht hsz d1 d2 d3 d4;have hbt:=ht.lt;have cv:=hv.cell 0;simp only[gq]at cv;have hsz':0+1≤cs.size:=by rw[show Shape.sz .int=1 from rfl]at hsz;exact hsz
 have HR:=hid h;have HV:=hid hv;have HT:=hid ht;have HG:=hid hg;clear h hv ht hg hsz;go_enter Tryz.func185,Tryz.ntmps185
 go_wp2_with fail
 refine(HG.out _ br str (some r) HR.out (lim hlen)).mono ?_;rintro e w1⟨v,rfl,hty,hst,hf,htx⟩;have hb1:=HT.out.fr hf d1;obtain⟨zn,rfl⟩:=ty_int hty;rw[val_int];obtain⟨y0,e0⟩:∃y,w1.cell? ⟨bt,0,none⟩=some y:=⟨_,(hb1.cell 0).trans (Array.getElem?_eq_getElem (by omega))⟩
 have f0:=hb1.frozen 0;have HB1:=hid hb1;have HTY:=hid hty;have HST:=hid hst;have HF:=hid hf;have HTX:=hid htx;clear hb1 hty hst hf htx;go_wp2;go_end0
 exact CloPost.of HTY.out HST.out HF.out HTX.out (HB1.out.set 0 (.int .i64 zn)) ((Fr.refl _ _).wr _ _) hbt d1 d4
set_option maxHeartbeats 4000000 in
theorem clo_lin_1(L:Nat)(hg:Reads 188 linTermS (L-1)):CloR 186 (.list linTermS) L 148 1:=by
 refine⟨enters_of Tryz.func186 (by kernel_rfl) rfl,?_⟩
 intro w br bv bt str r cs h hlen hv ht hsz d1 d2 d3 d4;have hbt:=ht.lt;have cv:=hv.cell 0;simp only[gq]at cv;have hsz':1+1≤cs.size:=by rw[show Shape.sz (.list linTermS)=1 from rfl]at hsz;exact hsz
 have HR:=hid h;have HV:=hid hv;have HT:=hid ht;have HG:=hid hg;clear h hv ht hg hsz;go_enter Tryz.func186,Tryz.ntmps186
 go_wp2_with fail
 refine(el_linTerm (L-1) _ _ _ _ br str (some r) HR.out (lim hlen) (ElR.meth (enters_of Tryz.func188 (by kernel_rfl) rfl) HG.out br str _)).mono ?_
 rintro e w1⟨v,rfl,hty,hst,hf,htx⟩;have hb1:=HT.out.fr hf d1;obtain⟨zA,zk,zc,rfl⟩:=ty_list hty;rw[val_list];obtain⟨y0,e0⟩:∃y,w1.cell? ⟨bt,1,none⟩=some y:=⟨_,(hb1.cell 1).trans (Array.getElem?_eq_getElem (by omega))⟩
 have f0:=hb1.frozen 1;have HB1:=hid hb1;have HTY:=hid hty;have HST:=hid hst;have HF:=hid hf;have HTX:=hid htx;clear hb1 hty hst hf htx;go_wp2;go_end0
 exact CloPost.of HTY.out HST.out HF.out HTX.out (HB1.out.set 1 (.slice zA zk zc)) ((Fr.refl _ _).wr _ _) hbt d1 d4
set_option maxHeartbeats 4000000 in
theorem clo_relation_0(L:Nat)(hg:Reads 95 linS (L-1)):CloR 93 (.list linS) L 105 0:=by
 refine⟨enters_of Tryz.func93 (by kernel_rfl) rfl,?_⟩
 intro w br bv bt str r cs h hlen hv ht hsz d1 d2 d3 d4;have hbt:=ht.lt;have cv:=hv.cell 0;simp only[gq]at cv;have hsz':0+1≤cs.size:=by rw[show Shape.sz (.list linS)=1 from rfl]at hsz;exact hsz
 have HR:=hid h;have HV:=hid hv;have HT:=hid ht;have HG:=hid hg;clear h hv ht hg hsz;go_enter Tryz.func93,Tryz.ntmps93
 go_wp2_with fail
 refine(el_lin (L-1) _ _ _ _ br str (some r) HR.out (lim hlen) (ElR.meth (enters_of Tryz.func95 (by kernel_rfl) rfl) HG.out br str _)).mono ?_
 rintro e w1⟨v,rfl,hty,hst,hf,htx⟩;have hb1:=HT.out.fr hf d1;obtain⟨zA,zk,zc,rfl⟩:=ty_list hty;rw[val_list];obtain⟨y0,e0⟩:∃y,w1.cell? ⟨bt,0,none⟩=some y:=⟨_,(hb1.cell 0).trans (Array.getElem?_eq_getElem (by omega))⟩
 have f0:=hb1.frozen 0;have HB1:=hid hb1;have HTY:=hid hty;have HST:=hid hst;have HF:=hid hf;have HTX:=hid htx;clear hb1 hty hst hf htx;go_wp2;go_end0
 exact CloPost.of HTY.out HST.out HF.out HTX.out (HB1.out.set 0 (.slice zA zk zc)) ((Fr.refl _ _).wr _ _) hbt d1 d4
set_option maxHeartbeats 4000000 in
theorem clo_relation_1(L:Nat)(hg:Reads 95 linS (L-1)):CloR 96 (.list linS) L 105 1:=by
 refine⟨enters_of Tryz.func96 (by kernel_rfl) rfl,?_⟩
 intro w br bv bt str r cs h hlen hv ht hsz d1 d2 d3 d4;have hbt:=ht.lt;have cv:=hv.cell 0;simp only[gq]at cv;have hsz':1+1≤cs.size:=by rw[show Shape.sz (.list linS)=1 from rfl]at hsz;exact hsz
 have HR:=hid h;have HV:=hid hv;have HT:=hid ht;have HG:=hid hg;clear h hv ht hg hsz;go_enter Tryz.func96,Tryz.ntmps96
 go_wp2_with fail
 refine(el_lin (L-1) _ _ _ _ br str (some r) HR.out (lim hlen) (ElR.meth (enters_of Tryz.func95 (by kernel_rfl) rfl) HG.out br str _)).mono ?_
 rintro e w1⟨v,rfl,hty,hst,hf,htx⟩;have hb1:=HT.out.fr hf d1;obtain⟨zA,zk,zc,rfl⟩:=ty_list hty;rw[val_list];obtain⟨y0,e0⟩:∃y,w1.cell? ⟨bt,1,none⟩=some y:=⟨_,(hb1.cell 1).trans (Array.getElem?_eq_getElem (by omega))⟩
 have f0:=hb1.frozen 1;have HB1:=hid hb1;have HTY:=hid hty;have HST:=hid hst;have HF:=hid hf;have HTX:=hid htx;clear hb1 hty hst hf htx;go_wp2;go_end0
 exact CloPost.of HTY.out HST.out HF.out HTX.out (HB1.out.set 1 (.slice zA zk zc)) ((Fr.refl _ _).wr _ _) hbt d1 d4
set_option maxHeartbeats 4000000 in
theorem clo_metric_0(L:Nat)(hg:Reads 90 (.list .int) (L-1)):CloR 89 (.list .int) L 25 0:=by
 refine⟨enters_of Tryz.func89 (by kernel_rfl) rfl,?_⟩
 intro w br bv bt str r cs h hlen hv ht hsz d1 d2 d3 d4;have hbt:=ht.lt;have cv:=hv.cell 0;simp only[gq]at cv;have hsz':0+1≤cs.size:=by rw[show Shape.sz (.list .int)=1 from rfl]at hsz;exact hsz
 have HR:=hid h;have HV:=hid hv;have HT:=hid ht;have HG:=hid hg;clear h hv ht hg hsz;go_enter Tryz.func89,Tryz.ntmps89
 go_wp2_with fail
 refine(HG.out _ br str (some r) HR.out (lim hlen)).mono ?_;rintro e w1⟨v,rfl,hty,hst,hf,htx⟩;have hb1:=HT.out.fr hf d1;obtain⟨zA,zk,zc,rfl⟩:=ty_list hty;rw[val_list];obtain⟨y0,e0⟩:∃y,w1.cell? ⟨bt,0,none⟩=some y:=⟨_,(hb1.cell 0).trans (Array.getElem?_eq_getElem (by omega))⟩
 have f0:=hb1.frozen 0;have HB1:=hid hb1;have HTY:=hid hty;have HST:=hid hst;have HF:=hid hf;have HTX:=hid htx;clear hb1 hty hst hf htx;go_wp2;go_end0
 exact CloPost.of HTY.out HST.out HF.out HTX.out (HB1.out.set 0 (.slice zA zk zc)) ((Fr.refl _ _).wr _ _) hbt d1 d4
set_option maxHeartbeats 4000000 in
theorem clo_metric_1(L:Nat)(hg:Reads 90 (.list .int) (L-1)):CloR 91 (.list .int) L 25 1:=by
 refine⟨enters_of Tryz.func91 (by kernel_rfl) rfl,?_⟩
 intro w br bv bt str r cs h hlen hv ht hsz d1 d2 d3 d4;have hbt:=ht.lt;have cv:=hv.cell 0;simp only[gq]at cv;have hsz':1+1≤cs.size:=by rw[show Shape.sz (.list .int)=1 from rfl]at hsz;exact hsz
 have HR:=hid h;have HV:=hid hv;have HT:=hid ht;have HG:=hid hg;clear h hv ht hg hsz;go_enter Tryz.func91,Tryz.ntmps91
 go_wp2_with fail
 refine(HG.out _ br str (some r) HR.out (lim hlen)).mono ?_;rintro e w1⟨v,rfl,hty,hst,hf,htx⟩;have hb1:=HT.out.fr hf d1;obtain⟨zA,zk,zc,rfl⟩:=ty_list hty;rw[val_list];obtain⟨y0,e0⟩:∃y,w1.cell? ⟨bt,1,none⟩=some y:=⟨_,(hb1.cell 1).trans (Array.getElem?_eq_getElem (by omega))⟩
 have f0:=hb1.frozen 1;have HB1:=hid hb1;have HTY:=hid hty;have HST:=hid hst;have HF:=hid hf;have HTX:=hid htx;clear hb1 hty hst hf htx;go_wp2;go_end0
 exact CloPost.of HTY.out HST.out HF.out HTX.out (HB1.out.set 1 (.slice zA zk zc)) ((Fr.refl _ _).wr _ _) hbt d1 d4
set_option maxHeartbeats 4000000 in
theorem clo_typ_0(L:Nat)(hg:Reads 105 .int (L-1)):CloR 261 .int L 116 0:=by
 refine⟨enters_of Tryz.func261 (by kernel_rfl) rfl,?_⟩
 intro w br bv bt str r cs h hlen hv ht hsz d1 d2 d3 d4;have hbt:=ht.lt;have cv:=hv.cell 0;simp only[gq]at cv;have hsz':0+1≤cs.size:=by rw[show Shape.sz .int=1 from rfl]at hsz;exact hsz
 have HR:=hid h;have HV:=hid hv;have HT:=hid ht;have HG:=hid hg;clear h hv ht hg hsz;go_enter Tryz.func261,Tryz.ntmps261
 go_wp2_with fail
 refine(HG.out _ br str (some r) HR.out (lim hlen)).mono ?_;rintro e w1⟨v,rfl,hty,hst,hf,htx⟩;have hb1:=HT.out.fr hf d1;obtain⟨zn,rfl⟩:=ty_int hty;rw[val_int];obtain⟨y0,e0⟩:∃y,w1.cell? ⟨bt,0,none⟩=some y:=⟨_,(hb1.cell 0).trans (Array.getElem?_eq_getElem (by omega))⟩
 have f0:=hb1.frozen 0;have HB1:=hid hb1;have HTY:=hid hty;have HST:=hid hst;have HF:=hid hf;have HTX:=hid htx;clear hb1 hty hst hf htx;go_wp2;go_end0
 exact CloPost.of HTY.out HST.out HF.out HTX.out (HB1.out.set 0 (.int .i64 zn)) ((Fr.refl _ _).wr _ _) hbt d1 d4
set_option maxHeartbeats 4000000 in
theorem clo_typ_1(L:Nat)(hg:Reads 105 .int (L-1)):CloR 262 .int L 116 1:=by
 refine⟨enters_of Tryz.func262 (by kernel_rfl) rfl,?_⟩
 intro w br bv bt str r cs h hlen hv ht hsz d1 d2 d3 d4;have hbt:=ht.lt;have cv:=hv.cell 0;simp only[gq]at cv;have hsz':1+1≤cs.size:=by rw[show Shape.sz .int=1 from rfl]at hsz;exact hsz
 have HR:=hid h;have HV:=hid hv;have HT:=hid ht;have HG:=hid hg;clear h hv ht hg hsz;go_enter Tryz.func262,Tryz.ntmps262
 go_wp2_with fail
 refine(HG.out _ br str (some r) HR.out (lim hlen)).mono ?_;rintro e w1⟨v,rfl,hty,hst,hf,htx⟩;have hb1:=HT.out.fr hf d1;obtain⟨zn,rfl⟩:=ty_int hty;rw[val_int];obtain⟨y0,e0⟩:∃y,w1.cell? ⟨bt,1,none⟩=some y:=⟨_,(hb1.cell 1).trans (Array.getElem?_eq_getElem (by omega))⟩
 have f0:=hb1.frozen 1;have HB1:=hid hb1;have HTY:=hid hty;have HST:=hid hst;have HF:=hid hf;have HTX:=hid htx;clear hb1 hty hst hf htx;go_wp2;go_end0
 exact CloPost.of HTY.out HST.out HF.out HTX.out (HB1.out.set 1 (.int .i64 zn)) ((Fr.refl _ _).wr _ _) hbt d1 d4
set_option maxHeartbeats 4000000 in
theorem clo_typ_2(n:Nat)(L:Nat)(hg:Reads 191 (typS n) (L-1)):CloR 263 (.list (typS n)) L 116 2:=by
 refine⟨enters_of Tryz.func263 (by kernel_rfl) rfl,?_⟩
 intro w br bv bt str r cs h hlen hv ht hsz d1 d2 d3 d4;have hbt:=ht.lt;have cv:=hv.cell 0;simp only[gq]at cv;have hsz':2+1≤cs.size:=by rw[show Shape.sz (.list (typS n))=1 from rfl]at hsz;exact hsz
 have HR:=hid h;have HV:=hid hv;have HT:=hid ht;have HG:=hid hg;clear h hv ht hg hsz;go_enter Tryz.func263,Tryz.ntmps263
 go_wp2_with fail
 refine(el_typ n (L-1) _ _ _ _ br str (some r) HR.out (lim hlen) (ElR.meth (enters_of Tryz.func191 (by kernel_rfl) rfl) HG.out br str _)).mono ?_
 rintro e w1⟨v,rfl,hty,hst,hf,htx⟩;have hb1:=HT.out.fr hf d1;obtain⟨zA,zk,zc,rfl⟩:=ty_list hty;rw[val_list];obtain⟨y0,e0⟩:∃y,w1.cell? ⟨bt,2,none⟩=some y:=⟨_,(hb1.cell 2).trans (Array.getElem?_eq_getElem (by omega))⟩
 have f0:=hb1.frozen 2;have HB1:=hid hb1;have HTY:=hid hty;have HST:=hid hst;have HF:=hid hf;have HTX:=hid htx;clear hb1 hty hst hf htx;go_wp2;go_end0
 exact CloPost.of HTY.out HST.out HF.out HTX.out (HB1.out.set 2 (.slice zA zk zc)) ((Fr.refl _ _).wr _ _) hbt d1 d4
set_option maxHeartbeats 4000000 in
theorem clo_store_0(n:Nat)(L:Nat)(hg:Reads 191 (typS n) (L-1)):CloR 190 (typS n) L 118 0:=by
 refine⟨enters_of Tryz.func190 (by kernel_rfl) rfl,?_⟩
 intro w br bv bt str r cs h hlen hv ht hsz d1 d2 d3 d4;have hbt:=ht.lt;have cv:=hv.cell 0;simp only[gq]at cv;have hsz':0+3≤cs.size:=by rw[show Shape.sz (typS n)=3 from sz_typ]at hsz;exact hsz
 have HR:=hid h;have HV:=hid hv;have HT:=hid ht;have HG:=hid hg;clear h hv ht hg hsz;go_enter Tryz.func190,Tryz.ntmps190
 go_wp2_with fail
 refine(HG.out _ br str (some r) HR.out (lim hlen)).mono ?_;rintro e w1⟨v,rfl,hty,hst,hf,htx⟩;have hb1:=HT.out.fr hf d1;obtain⟨z0n,z1n,z2A,z2k,z2c,rfl⟩:=ty_typ hty;rw[val_typ];obtain⟨y0,e0⟩:∃y,w1.cell? ⟨bt,0,none⟩=some y:=⟨_,(hb1.cell 0).trans (Array.getElem?_eq_getElem (by omega))⟩
 have f0:=hb1.frozen 0;obtain⟨y1,e1⟩:∃y,w1.cell? ⟨bt,1,none⟩=some y:=⟨_,(hb1.cell 1).trans (Array.getElem?_eq_getElem (by omega))⟩
 have f1:=hb1.frozen 1;obtain⟨y2,e2⟩:∃y,w1.cell? ⟨bt,2,none⟩=some y:=⟨_,(hb1.cell 2).trans (Array.getElem?_eq_getElem (by omega))⟩
 have f2:=hb1.frozen 2;have HB1:=hid hb1;have HTY:=hid hty;have HST:=hid hst;have HF:=hid hf;have HTX:=hid htx;clear hb1 hty hst hf htx;go_wp2;go_end0
 exact CloPost.of HTY.out HST.out HF.out HTX.out (((HB1.out.set 0 (.int .i64 z0n)).set 1 (.int .i64 z1n)).set 2 (.slice z2A z2k z2c)) ((((Fr.refl _ _).wr _ _).wr _ _).wr _ _) hbt d1 d4
set_option maxHeartbeats 4000000 in
theorem clo_store_1(L:Nat)(hg:Reads 99 (.list .int) (L-1)):CloR 192 (.list .int) L 118 3:=by
 refine⟨enters_of Tryz.func192 (by kernel_rfl) rfl,?_⟩
 intro w br bv bt str r cs h hlen hv ht hsz d1 d2 d3 d4;have hbt:=ht.lt;have cv:=hv.cell 0;simp only[gq]at cv;have hsz':3+1≤cs.size:=by rw[show Shape.sz (.list .int)=1 from rfl]at hsz;exact hsz
 have HR:=hid h;have HV:=hid hv;have HT:=hid ht;have HG:=hid hg;clear h hv ht hg hsz;go_enter Tryz.func192,Tryz.ntmps192
 go_wp2_with fail
 refine(HG.out _ br str (some r) HR.out (lim hlen)).mono ?_;rintro e w1⟨v,rfl,hty,hst,hf,htx⟩;have hb1:=HT.out.fr hf d1;obtain⟨zA,zk,zc,rfl⟩:=ty_list hty;rw[val_list];obtain⟨y0,e0⟩:∃y,w1.cell? ⟨bt,3,none⟩=some y:=⟨_,(hb1.cell 3).trans (Array.getElem?_eq_getElem (by omega))⟩
 have f0:=hb1.frozen 3;have HB1:=hid hb1;have HTY:=hid hty;have HST:=hid hst;have HF:=hid hf;have HTX:=hid htx;clear hb1 hty hst hf htx;go_wp2;go_end0
 exact CloPost.of HTY.out HST.out HF.out HTX.out (HB1.out.set 3 (.slice zA zk zc)) ((Fr.refl _ _).wr _ _) hbt d1 d4
set_option maxHeartbeats 4000000 in
theorem clo_flow_0(L:Nat)(hg:Reads 99 (.list .int) (L-1)):CloR 97 (.list (.list .int)) L 30 0:=by
 refine⟨enters_of Tryz.func97 (by kernel_rfl) rfl,?_⟩
 intro w br bv bt str r cs h hlen hv ht hsz d1 d2 d3 d4;have hbt:=ht.lt;have cv:=hv.cell 0;simp only[gq]at cv;have hsz':0+1≤cs.size:=by rw[show Shape.sz (.list (.list .int))=1 from rfl]at hsz;exact hsz
 have HR:=hid h;have HV:=hid hv;have HT:=hid ht;have HG:=hid hg;clear h hv ht hg hsz;go_enter Tryz.func97,Tryz.ntmps97
 go_wp2_with fail
 refine(el_l_int (L-1) _ _ _ _ br str (some r) HR.out (lim hlen) (ElR.meth (enters_of Tryz.func99 (by kernel_rfl) rfl) HG.out br str _)).mono ?_
 rintro e w1⟨v,rfl,hty,hst,hf,htx⟩;have hb1:=HT.out.fr hf d1;obtain⟨zA,zk,zc,rfl⟩:=ty_list hty;rw[val_list];obtain⟨y0,e0⟩:∃y,w1.cell? ⟨bt,0,none⟩=some y:=⟨_,(hb1.cell 0).trans (Array.getElem?_eq_getElem (by omega))⟩
 have f0:=hb1.frozen 0;have HB1:=hid hb1;have HTY:=hid hty;have HST:=hid hst;have HF:=hid hf;have HTX:=hid htx;clear hb1 hty hst hf htx;go_wp2;go_end0
 exact CloPost.of HTY.out HST.out HF.out HTX.out (HB1.out.set 0 (.slice zA zk zc)) ((Fr.refl _ _).wr _ _) hbt d1 d4
set_option maxHeartbeats 4000000 in
theorem clo_flow_1(L:Nat)(hg:Reads 99 (.list .int) (L-1)):CloR 100 (.list (.list .int)) L 30 1:=by
 refine⟨enters_of Tryz.func100 (by kernel_rfl) rfl,?_⟩
 intro w br bv bt str r cs h hlen hv ht hsz d1 d2 d3 d4;have hbt:=ht.lt;have cv:=hv.cell 0;simp only[gq]at cv;have hsz':1+1≤cs.size:=by rw[show Shape.sz (.list (.list .int))=1 from rfl]at hsz;exact hsz
 have HR:=hid h;have HV:=hid hv;have HT:=hid ht;have HG:=hid hg;clear h hv ht hg hsz;go_enter Tryz.func100,Tryz.ntmps100
 go_wp2_with fail
 refine(el_l_int (L-1) _ _ _ _ br str (some r) HR.out (lim hlen) (ElR.meth (enters_of Tryz.func99 (by kernel_rfl) rfl) HG.out br str _)).mono ?_
 rintro e w1⟨v,rfl,hty,hst,hf,htx⟩;have hb1:=HT.out.fr hf d1;obtain⟨zA,zk,zc,rfl⟩:=ty_list hty;rw[val_list];obtain⟨y0,e0⟩:∃y,w1.cell? ⟨bt,1,none⟩=some y:=⟨_,(hb1.cell 1).trans (Array.getElem?_eq_getElem (by omega))⟩
 have f0:=hb1.frozen 1;have HB1:=hid hb1;have HTY:=hid hty;have HST:=hid hst;have HF:=hid hf;have HTX:=hid htx;clear hb1 hty hst hf htx;go_wp2;go_end0
 exact CloPost.of HTY.out HST.out HF.out HTX.out (HB1.out.set 1 (.slice zA zk zc)) ((Fr.refl _ _).wr _ _) hbt d1 d4
set_option maxHeartbeats 4000000 in
theorem clo_flow_2(n:Nat)(L:Nat)(hg:Reads 103 (storeS n) (L-1)):CloR 101 (.list (storeS n)) L 30 2:=by
 refine⟨enters_of Tryz.func101 (by kernel_rfl) rfl,?_⟩
 intro w br bv bt str r cs h hlen hv ht hsz d1 d2 d3 d4;have hbt:=ht.lt;have cv:=hv.cell 0;simp only[gq]at cv;have hsz':2+1≤cs.size:=by rw[show Shape.sz (.list (storeS n))=1 from rfl]at hsz;exact hsz
 have HR:=hid h;have HV:=hid hv;have HT:=hid ht;have HG:=hid hg;clear h hv ht hg hsz;go_enter Tryz.func101,Tryz.ntmps101
 go_wp2_with fail
 refine(el_store n (L-1) _ _ _ _ br str (some r) HR.out (lim hlen) (ElR.meth (enters_of Tryz.func103 (by kernel_rfl) rfl) HG.out br str _)).mono ?_
 rintro e w1⟨v,rfl,hty,hst,hf,htx⟩;have hb1:=HT.out.fr hf d1;obtain⟨zA,zk,zc,rfl⟩:=ty_list hty;rw[val_list];obtain⟨y0,e0⟩:∃y,w1.cell? ⟨bt,2,none⟩=some y:=⟨_,(hb1.cell 2).trans (Array.getElem?_eq_getElem (by omega))⟩
 have f0:=hb1.frozen 2;have HB1:=hid hb1;have HTY:=hid hty;have HST:=hid hst;have HF:=hid hf;have HTX:=hid htx;clear hb1 hty hst hf htx;go_wp2;go_end0
 exact CloPost.of HTY.out HST.out HF.out HTX.out (HB1.out.set 2 (.slice zA zk zc)) ((Fr.refl _ _).wr _ _) hbt d1 d4
set_option maxHeartbeats 4000000 in
theorem clo_index_0(L:Nat)(hg:Reads 105 .int (L-1)):CloR 353 .int L 143 0:=by
 refine⟨enters_of Tryz.func353 (by kernel_rfl) rfl,?_⟩
 intro w br bv bt str r cs h hlen hv ht hsz d1 d2 d3 d4;have hbt:=ht.lt;have cv:=hv.cell 0;simp only[gq]at cv;have hsz':0+1≤cs.size:=by rw[show Shape.sz .int=1 from rfl]at hsz;exact hsz
 have HR:=hid h;have HV:=hid hv;have HT:=hid ht;have HG:=hid hg;clear h hv ht hg hsz;go_enter Tryz.func353,Tryz.ntmps353
 go_wp2_with fail
 refine(HG.out _ br str (some r) HR.out (lim hlen)).mono ?_;rintro e w1⟨v,rfl,hty,hst,hf,htx⟩;have hb1:=HT.out.fr hf d1;obtain⟨zn,rfl⟩:=ty_int hty;rw[val_int];obtain⟨y0,e0⟩:∃y,w1.cell? ⟨bt,0,none⟩=some y:=⟨_,(hb1.cell 0).trans (Array.getElem?_eq_getElem (by omega))⟩
 have f0:=hb1.frozen 0;have HB1:=hid hb1;have HTY:=hid hty;have HST:=hid hst;have HF:=hid hf;have HTX:=hid htx;clear hb1 hty hst hf htx;go_wp2;go_end0
 exact CloPost.of HTY.out HST.out HF.out HTX.out (HB1.out.set 0 (.int .i64 zn)) ((Fr.refl _ _).wr _ _) hbt d1 d4
set_option maxHeartbeats 4000000 in
theorem clo_index_1(n:Nat)(L:Nat)(hg:Reads 322 (indexS n) (L-1)):CloR 354 (.list (indexS n)) L 143 1:=by
 refine⟨enters_of Tryz.func354 (by kernel_rfl) rfl,?_⟩
 intro w br bv bt str r cs h hlen hv ht hsz d1 d2 d3 d4;have hbt:=ht.lt;have cv:=hv.cell 0;simp only[gq]at cv;have hsz':1+1≤cs.size:=by rw[show Shape.sz (.list (indexS n))=1 from rfl]at hsz;exact hsz
 have HR:=hid h;have HV:=hid hv;have HT:=hid ht;have HG:=hid hg;clear h hv ht hg hsz;go_enter Tryz.func354,Tryz.ntmps354
 go_wp2_with fail
 refine(el_index n (L-1) _ _ _ _ br str (some r) HR.out (lim hlen) (ElR.meth (enters_of Tryz.func322 (by kernel_rfl) rfl) HG.out br str _)).mono ?_
 rintro e w1⟨v,rfl,hty,hst,hf,htx⟩;have hb1:=HT.out.fr hf d1;obtain⟨zA,zk,zc,rfl⟩:=ty_list hty;rw[val_list];obtain⟨y0,e0⟩:∃y,w1.cell? ⟨bt,1,none⟩=some y:=⟨_,(hb1.cell 1).trans (Array.getElem?_eq_getElem (by omega))⟩
 have f0:=hb1.frozen 1;have HB1:=hid hb1;have HTY:=hid hty;have HST:=hid hst;have HF:=hid hf;have HTX:=hid htx;clear hb1 hty hst hf htx;go_wp2;go_end0
 exact CloPost.of HTY.out HST.out HF.out HTX.out (HB1.out.set 1 (.slice zA zk zc)) ((Fr.refl _ _).wr _ _) hbt d1 d4
set_option maxHeartbeats 4000000 in
theorem clo_factor_0(L:Nat)(hg:Reads 105 .int (L-1)):CloR 320 .int L 145 0:=by
 refine⟨enters_of Tryz.func320 (by kernel_rfl) rfl,?_⟩
 intro w br bv bt str r cs h hlen hv ht hsz d1 d2 d3 d4;have hbt:=ht.lt;have cv:=hv.cell 0;simp only[gq]at cv;have hsz':0+1≤cs.size:=by rw[show Shape.sz .int=1 from rfl]at hsz;exact hsz
 have HR:=hid h;have HV:=hid hv;have HT:=hid ht;have HG:=hid hg;clear h hv ht hg hsz;go_enter Tryz.func320,Tryz.ntmps320
 go_wp2_with fail
 refine(HG.out _ br str (some r) HR.out (lim hlen)).mono ?_;rintro e w1⟨v,rfl,hty,hst,hf,htx⟩;have hb1:=HT.out.fr hf d1;obtain⟨zn,rfl⟩:=ty_int hty;rw[val_int];obtain⟨y0,e0⟩:∃y,w1.cell? ⟨bt,0,none⟩=some y:=⟨_,(hb1.cell 0).trans (Array.getElem?_eq_getElem (by omega))⟩
 have f0:=hb1.frozen 0;have HB1:=hid hb1;have HTY:=hid hty;have HST:=hid hst;have HF:=hid hf;have HTX:=hid htx;clear hb1 hty hst hf htx;go_wp2;go_end0
 exact CloPost.of HTY.out HST.out HF.out HTX.out (HB1.out.set 0 (.int .i64 zn)) ((Fr.refl _ _).wr _ _) hbt d1 d4
set_option maxHeartbeats 4000000 in
theorem clo_factor_1(n:Nat)(L:Nat)(hg:Reads 322 (indexS n) (L-1)):CloR 321 (indexS n) L 145 1:=by
 refine⟨enters_of Tryz.func321 (by kernel_rfl) rfl,?_⟩
 intro w br bv bt str r cs h hlen hv ht hsz d1 d2 d3 d4;have hbt:=ht.lt;have cv:=hv.cell 0;simp only[gq]at cv;have hsz':1+2≤cs.size:=by rw[show Shape.sz (indexS n)=2 from sz_index]at hsz;exact hsz
 have HR:=hid h;have HV:=hid hv;have HT:=hid ht;have HG:=hid hg;clear h hv ht hg hsz;go_enter Tryz.func321,Tryz.ntmps321
 go_wp2_with fail
 refine(HG.out _ br str (some r) HR.out (lim hlen)).mono ?_;rintro e w1⟨v,rfl,hty,hst,hf,htx⟩;have hb1:=HT.out.fr hf d1;obtain⟨z0n,z1A,z1k,z1c,rfl⟩:=ty_index hty;rw[val_index];obtain⟨y0,e0⟩:∃y,w1.cell? ⟨bt,1,none⟩=some y:=⟨_,(hb1.cell 1).trans (Array.getElem?_eq_getElem (by omega))⟩
 have f0:=hb1.frozen 1;obtain⟨y1,e1⟩:∃y,w1.cell? ⟨bt,2,none⟩=some y:=⟨_,(hb1.cell 2).trans (Array.getElem?_eq_getElem (by omega))⟩
 have f1:=hb1.frozen 2;have HB1:=hid hb1;have HTY:=hid hty;have HST:=hid hst;have HF:=hid hf;have HTX:=hid htx;clear hb1 hty hst hf htx;go_wp2;go_end0
 exact CloPost.of HTY.out HST.out HF.out HTX.out ((HB1.out.set 1 (.int .i64 z0n)).set 2 (.slice z1A z1k z1c)) (((Fr.refl _ _).wr _ _).wr _ _) hbt d1 d4
set_option maxHeartbeats 4000000 in
theorem clo_atom_0(L:Nat)(hg:Reads 95 linS (L-1)):CloR 323 linS L 150 0:=by
 refine⟨enters_of Tryz.func323 (by kernel_rfl) rfl,?_⟩
 intro w br bv bt str r cs h hlen hv ht hsz d1 d2 d3 d4;have hbt:=ht.lt;have cv:=hv.cell 0;simp only[gq]at cv;have hsz':0+2≤cs.size:=by rw[show Shape.sz linS=2 from sz_lin]at hsz;exact hsz
 have HR:=hid h;have HV:=hid hv;have HT:=hid ht;have HG:=hid hg;clear h hv ht hg hsz;go_enter Tryz.func323,Tryz.ntmps323
 go_wp2_with fail
 refine(HG.out _ br str (some r) HR.out (lim hlen)).mono ?_;rintro e w1⟨v,rfl,hty,hst,hf,htx⟩;have hb1:=HT.out.fr hf d1;obtain⟨z0n,z1A,z1k,z1c,rfl⟩:=ty_lin hty;rw[val_lin];obtain⟨y0,e0⟩:∃y,w1.cell? ⟨bt,0,none⟩=some y:=⟨_,(hb1.cell 0).trans (Array.getElem?_eq_getElem (by omega))⟩
 have f0:=hb1.frozen 0;obtain⟨y1,e1⟩:∃y,w1.cell? ⟨bt,1,none⟩=some y:=⟨_,(hb1.cell 1).trans (Array.getElem?_eq_getElem (by omega))⟩
 have f1:=hb1.frozen 1;have HB1:=hid hb1;have HTY:=hid hty;have HST:=hid hst;have HF:=hid hf;have HTX:=hid htx;clear hb1 hty hst hf htx;go_wp2;go_end0
 exact CloPost.of HTY.out HST.out HF.out HTX.out ((HB1.out.set 0 (.int .i64 z0n)).set 1 (.slice z1A z1k z1c)) (((Fr.refl _ _).wr _ _).wr _ _) hbt d1 d4
set_option maxHeartbeats 4000000 in
theorem clo_atom_1(L:Nat)(hg:Reads 105 .int (L-1)):CloR 324 .int L 150 2:=by
 refine⟨enters_of Tryz.func324 (by kernel_rfl) rfl,?_⟩
 intro w br bv bt str r cs h hlen hv ht hsz d1 d2 d3 d4;have hbt:=ht.lt;have cv:=hv.cell 0;simp only[gq]at cv;have hsz':2+1≤cs.size:=by rw[show Shape.sz .int=1 from rfl]at hsz;exact hsz
 have HR:=hid h;have HV:=hid hv;have HT:=hid ht;have HG:=hid hg;clear h hv ht hg hsz;go_enter Tryz.func324,Tryz.ntmps324
 go_wp2_with fail
 refine(HG.out _ br str (some r) HR.out (lim hlen)).mono ?_;rintro e w1⟨v,rfl,hty,hst,hf,htx⟩;have hb1:=HT.out.fr hf d1;obtain⟨zn,rfl⟩:=ty_int hty;rw[val_int];obtain⟨y0,e0⟩:∃y,w1.cell? ⟨bt,2,none⟩=some y:=⟨_,(hb1.cell 2).trans (Array.getElem?_eq_getElem (by omega))⟩
 have f0:=hb1.frozen 2;have HB1:=hid hb1;have HTY:=hid hty;have HST:=hid hst;have HF:=hid hf;have HTX:=hid htx;clear hb1 hty hst hf htx;go_wp2;go_end0
 exact CloPost.of HTY.out HST.out HF.out HTX.out (HB1.out.set 2 (.int .i64 zn)) ((Fr.refl _ _).wr _ _) hbt d1 d4
set_option maxHeartbeats 4000000 in
theorem clo_mono_0(n:Nat)(L:Nat)(hg:Reads 269 (factorS n) (L-1)):CloR 267 (.list (factorS n)) L 80 0:=by
 refine⟨enters_of Tryz.func267 (by kernel_rfl) rfl,?_⟩
 intro w br bv bt str r cs h hlen hv ht hsz d1 d2 d3 d4;have hbt:=ht.lt;have cv:=hv.cell 0;simp only[gq]at cv;have hsz':0+1≤cs.size:=by rw[show Shape.sz (.list (factorS n))=1 from rfl]at hsz;exact hsz
 have HR:=hid h;have HV:=hid hv;have HT:=hid ht;have HG:=hid hg;clear h hv ht hg hsz;go_enter Tryz.func267,Tryz.ntmps267
 go_wp2_with fail
 refine(el_factor n (L-1) _ _ _ _ br str (some r) HR.out (lim hlen) (ElR.meth (enters_of Tryz.func269 (by kernel_rfl) rfl) HG.out br str _)).mono ?_
 rintro e w1⟨v,rfl,hty,hst,hf,htx⟩;have hb1:=HT.out.fr hf d1;obtain⟨zA,zk,zc,rfl⟩:=ty_list hty;rw[val_list];obtain⟨y0,e0⟩:∃y,w1.cell? ⟨bt,0,none⟩=some y:=⟨_,(hb1.cell 0).trans (Array.getElem?_eq_getElem (by omega))⟩
 have f0:=hb1.frozen 0;have HB1:=hid hb1;have HTY:=hid hty;have HST:=hid hst;have HF:=hid hf;have HTX:=hid htx;clear hb1 hty hst hf htx;go_wp2;go_end0
 exact CloPost.of HTY.out HST.out HF.out HTX.out (HB1.out.set 0 (.slice zA zk zc)) ((Fr.refl _ _).wr _ _) hbt d1 d4
set_option maxHeartbeats 4000000 in
theorem clo_mono_1(L:Nat)(hg:Reads 272 atomS (L-1)):CloR 270 (.list atomS) L 80 1:=by
 refine⟨enters_of Tryz.func270 (by kernel_rfl) rfl,?_⟩
 intro w br bv bt str r cs h hlen hv ht hsz d1 d2 d3 d4;have hbt:=ht.lt;have cv:=hv.cell 0;simp only[gq]at cv;have hsz':1+1≤cs.size:=by rw[show Shape.sz (.list atomS)=1 from rfl]at hsz;exact hsz
 have HR:=hid h;have HV:=hid hv;have HT:=hid ht;have HG:=hid hg;clear h hv ht hg hsz;go_enter Tryz.func270,Tryz.ntmps270
 go_wp2_with fail
 refine(el_atom (L-1) _ _ _ _ br str (some r) HR.out (lim hlen) (ElR.meth (enters_of Tryz.func272 (by kernel_rfl) rfl) HG.out br str _)).mono ?_
 rintro e w1⟨v,rfl,hty,hst,hf,htx⟩;have hb1:=HT.out.fr hf d1;obtain⟨zA,zk,zc,rfl⟩:=ty_list hty;rw[val_list];obtain⟨y0,e0⟩:∃y,w1.cell? ⟨bt,1,none⟩=some y:=⟨_,(hb1.cell 1).trans (Array.getElem?_eq_getElem (by omega))⟩
 have f0:=hb1.frozen 1;have HB1:=hid hb1;have HTY:=hid hty;have HST:=hid hst;have HF:=hid hf;have HTX:=hid htx;clear hb1 hty hst hf htx;go_wp2;go_end0
 exact CloPost.of HTY.out HST.out HF.out HTX.out (HB1.out.set 1 (.slice zA zk zc)) ((Fr.refl _ _).wr _ _) hbt d1 d4
set_option maxHeartbeats 4000000 in
theorem clo_term_0(L:Nat)(hg:Reads 194 .rat (L-1)):CloR 193 .rat L 139 0:=by
 refine⟨enters_of Tryz.func193 (by kernel_rfl) rfl,?_⟩
 intro w br bv bt str r cs h hlen hv ht hsz d1 d2 d3 d4;have hbt:=ht.lt;have cv:=hv.cell 0;simp only[gq]at cv;have hsz':0+3≤cs.size:=by rw[show Shape.sz .rat=3 from rfl]at hsz;exact hsz
 have HR:=hid h;have HV:=hid hv;have HT:=hid ht;have HG:=hid hg;clear h hv ht hg hsz;go_enter Tryz.func193,Tryz.ntmps193
 go_wp2_with fail
 refine(HG.out _ br str (some r) HR.out (lim hlen)).mono ?_;rintro e w1⟨v,rfl,hty,hst,hf,htx⟩;have hb1:=HT.out.fr hf d1;obtain⟨zb,zA,zk,zc,zD,zl,zd,rfl⟩:=ty_rat hty;rw[val_rat];obtain⟨y0,e0⟩:∃y,w1.cell? ⟨bt,0,none⟩=some y:=⟨_,(hb1.cell 0).trans (Array.getElem?_eq_getElem (by omega))⟩
 have f0:=hb1.frozen 0;obtain⟨y1,e1⟩:∃y,w1.cell? ⟨bt,1,none⟩=some y:=⟨_,(hb1.cell 1).trans (Array.getElem?_eq_getElem (by omega))⟩
 have f1:=hb1.frozen 1;obtain⟨y2,e2⟩:∃y,w1.cell? ⟨bt,2,none⟩=some y:=⟨_,(hb1.cell 2).trans (Array.getElem?_eq_getElem (by omega))⟩
 have f2:=hb1.frozen 2;have HB1:=hid hb1;have HTY:=hid hty;have HST:=hid hst;have HF:=hid hf;have HTX:=hid htx;clear hb1 hty hst hf htx;go_wp2;go_end0
 exact CloPost.of HTY.out HST.out HF.out HTX.out (((HB1.out.set 0 (.bool zb)).set 1 (.slice zA zk zc)).set 2 (.slice zD zl zd)) ((((Fr.refl _ _).wr _ _).wr _ _).wr _ _) hbt d1 d4
set_option maxHeartbeats 4000000 in
theorem clo_term_1(n:Nat)(L:Nat)(hg:Reads 196 (monoS n) (L-1)):CloR 195 (monoS n) L 139 3:=by
 refine⟨enters_of Tryz.func195 (by kernel_rfl) rfl,?_⟩
 intro w br bv bt str r cs h hlen hv ht hsz d1 d2 d3 d4;have hbt:=ht.lt;have cv:=hv.cell 0;simp only[gq]at cv;have hsz':3+2≤cs.size:=by rw[show Shape.sz (monoS n)=2 from sz_mono]at hsz;exact hsz
 have HR:=hid h;have HV:=hid hv;have HT:=hid ht;have HG:=hid hg;clear h hv ht hg hsz;go_enter Tryz.func195,Tryz.ntmps195
 go_wp2_with fail
 refine(HG.out _ br str (some r) HR.out (lim hlen)).mono ?_;rintro e w1⟨v,rfl,hty,hst,hf,htx⟩;have hb1:=HT.out.fr hf d1;obtain⟨z0A,z0k,z0c,z1A,z1k,z1c,rfl⟩:=ty_mono hty;rw[val_mono];obtain⟨y0,e0⟩:∃y,w1.cell? ⟨bt,3,none⟩=some y:=⟨_,(hb1.cell 3).trans (Array.getElem?_eq_getElem (by omega))⟩
 have f0:=hb1.frozen 3;obtain⟨y1,e1⟩:∃y,w1.cell? ⟨bt,4,none⟩=some y:=⟨_,(hb1.cell 4).trans (Array.getElem?_eq_getElem (by omega))⟩
 have f1:=hb1.frozen 4;have HB1:=hid hb1;have HTY:=hid hty;have HST:=hid hst;have HF:=hid hf;have HTX:=hid htx;clear hb1 hty hst hf htx;go_wp2;go_end0
 exact CloPost.of HTY.out HST.out HF.out HTX.out ((HB1.out.set 3 (.slice z0A z0k z0c)).set 4 (.slice z1A z1k z1c)) (((Fr.refl _ _).wr _ _).wr _ _) hbt d1 d4
set_option maxHeartbeats 4000000 in
theorem clo_use_0(L:Nat)(hg:Reads 105 .int (L-1)):CloR 273 .int L 89 0:=by
 refine⟨enters_of Tryz.func273 (by kernel_rfl) rfl,?_⟩
 intro w br bv bt str r cs h hlen hv ht hsz d1 d2 d3 d4;have hbt:=ht.lt;have cv:=hv.cell 0;simp only[gq]at cv;have hsz':0+1≤cs.size:=by rw[show Shape.sz .int=1 from rfl]at hsz;exact hsz
 have HR:=hid h;have HV:=hid hv;have HT:=hid ht;have HG:=hid hg;clear h hv ht hg hsz;go_enter Tryz.func273,Tryz.ntmps273
 go_wp2_with fail
 refine(HG.out _ br str (some r) HR.out (lim hlen)).mono ?_;rintro e w1⟨v,rfl,hty,hst,hf,htx⟩;have hb1:=HT.out.fr hf d1;obtain⟨zn,rfl⟩:=ty_int hty;rw[val_int];obtain⟨y0,e0⟩:∃y,w1.cell? ⟨bt,0,none⟩=some y:=⟨_,(hb1.cell 0).trans (Array.getElem?_eq_getElem (by omega))⟩
 have f0:=hb1.frozen 0;have HB1:=hid hb1;have HTY:=hid hty;have HST:=hid hst;have HF:=hid hf;have HTX:=hid htx;clear hb1 hty hst hf htx;go_wp2;go_end0
 exact CloPost.of HTY.out HST.out HF.out HTX.out (HB1.out.set 0 (.int .i64 zn)) ((Fr.refl _ _).wr _ _) hbt d1 d4
set_option maxHeartbeats 4000000 in
theorem clo_use_1(L:Nat)(hg:Reads 194 .rat (L-1)):CloR 274 .rat L 89 1:=by
 refine⟨enters_of Tryz.func274 (by kernel_rfl) rfl,?_⟩
 intro w br bv bt str r cs h hlen hv ht hsz d1 d2 d3 d4;have hbt:=ht.lt;have cv:=hv.cell 0;simp only[gq]at cv;have hsz':1+3≤cs.size:=by rw[show Shape.sz .rat=3 from rfl]at hsz;exact hsz
 have HR:=hid h;have HV:=hid hv;have HT:=hid ht;have HG:=hid hg;clear h hv ht hg hsz;go_enter Tryz.func274,Tryz.ntmps274
 go_wp2_with fail
 refine(HG.out _ br str (some r) HR.out (lim hlen)).mono ?_;rintro e w1⟨v,rfl,hty,hst,hf,htx⟩;have hb1:=HT.out.fr hf d1;obtain⟨zb,zA,zk,zc,zD,zl,zd,rfl⟩:=ty_rat hty;rw[val_rat];obtain⟨y0,e0⟩:∃y,w1.cell? ⟨bt,1,none⟩=some y:=⟨_,(hb1.cell 1).trans (Array.getElem?_eq_getElem (by omega))⟩
 have f0:=hb1.frozen 1;obtain⟨y1,e1⟩:∃y,w1.cell? ⟨bt,2,none⟩=some y:=⟨_,(hb1.cell 2).trans (Array.getElem?_eq_getElem (by omega))⟩
 have f1:=hb1.frozen 2;obtain⟨y2,e2⟩:∃y,w1.cell? ⟨bt,3,none⟩=some y:=⟨_,(hb1.cell 3).trans (Array.getElem?_eq_getElem (by omega))⟩
 have f2:=hb1.frozen 3;have HB1:=hid hb1;have HTY:=hid hty;have HST:=hid hst;have HF:=hid hf;have HTX:=hid htx;clear hb1 hty hst hf htx;go_wp2;go_end0
 exact CloPost.of HTY.out HST.out HF.out HTX.out (((HB1.out.set 1 (.bool zb)).set 2 (.slice zA zk zc)).set 3 (.slice zD zl zd)) ((((Fr.refl _ _).wr _ _).wr _ _).wr _ _) hbt d1 d4
set_option maxHeartbeats 4000000 in
theorem clo_use_2(n:Nat)(L:Nat)(hg:Reads 196 (monoS n) (L-1)):CloR 275 (monoS n) L 89 4:=by
 refine⟨enters_of Tryz.func275 (by kernel_rfl) rfl,?_⟩
 intro w br bv bt str r cs h hlen hv ht hsz d1 d2 d3 d4;have hbt:=ht.lt;have cv:=hv.cell 0;simp only[gq]at cv;have hsz':4+2≤cs.size:=by rw[show Shape.sz (monoS n)=2 from sz_mono]at hsz;exact hsz
 have HR:=hid h;have HV:=hid hv;have HT:=hid ht;have HG:=hid hg;clear h hv ht hg hsz;go_enter Tryz.func275,Tryz.ntmps275
 go_wp2_with fail
 refine(HG.out _ br str (some r) HR.out (lim hlen)).mono ?_;rintro e w1⟨v,rfl,hty,hst,hf,htx⟩;have hb1:=HT.out.fr hf d1;obtain⟨z0A,z0k,z0c,z1A,z1k,z1c,rfl⟩:=ty_mono hty;rw[val_mono];obtain⟨y0,e0⟩:∃y,w1.cell? ⟨bt,4,none⟩=some y:=⟨_,(hb1.cell 4).trans (Array.getElem?_eq_getElem (by omega))⟩
 have f0:=hb1.frozen 4;obtain⟨y1,e1⟩:∃y,w1.cell? ⟨bt,5,none⟩=some y:=⟨_,(hb1.cell 5).trans (Array.getElem?_eq_getElem (by omega))⟩
 have f1:=hb1.frozen 5;have HB1:=hid hb1;have HTY:=hid hty;have HST:=hid hst;have HF:=hid hf;have HTX:=hid htx;clear hb1 hty hst hf htx;go_wp2;go_end0
 exact CloPost.of HTY.out HST.out HF.out HTX.out ((HB1.out.set 4 (.slice z0A z0k z0c)).set 5 (.slice z1A z1k z1c)) (((Fr.refl _ _).wr _ _).wr _ _) hbt d1 d4
set_option maxHeartbeats 4000000 in
theorem clo_part_0(L:Nat)(hg:Reads 105 .int (L-1)):CloR 202 .int L 82 0:=by
 refine⟨enters_of Tryz.func202 (by kernel_rfl) rfl,?_⟩
 intro w br bv bt str r cs h hlen hv ht hsz d1 d2 d3 d4;have hbt:=ht.lt;have cv:=hv.cell 0;simp only[gq]at cv;have hsz':0+1≤cs.size:=by rw[show Shape.sz .int=1 from rfl]at hsz;exact hsz
 have HR:=hid h;have HV:=hid hv;have HT:=hid ht;have HG:=hid hg;clear h hv ht hg hsz;go_enter Tryz.func202,Tryz.ntmps202
 go_wp2_with fail
 refine(HG.out _ br str (some r) HR.out (lim hlen)).mono ?_;rintro e w1⟨v,rfl,hty,hst,hf,htx⟩;have hb1:=HT.out.fr hf d1;obtain⟨zn,rfl⟩:=ty_int hty;rw[val_int];obtain⟨y0,e0⟩:∃y,w1.cell? ⟨bt,0,none⟩=some y:=⟨_,(hb1.cell 0).trans (Array.getElem?_eq_getElem (by omega))⟩
 have f0:=hb1.frozen 0;have HB1:=hid hb1;have HTY:=hid hty;have HST:=hid hst;have HF:=hid hf;have HTX:=hid htx;clear hb1 hty hst hf htx;go_wp2;go_end0
 exact CloPost.of HTY.out HST.out HF.out HTX.out (HB1.out.set 0 (.int .i64 zn)) ((Fr.refl _ _).wr _ _) hbt d1 d4
set_option maxHeartbeats 4000000 in
theorem clo_part_1(L:Nat)(hg:Reads 194 .rat (L-1)):CloR 203 .rat L 82 1:=by
 refine⟨enters_of Tryz.func203 (by kernel_rfl) rfl,?_⟩
 intro w br bv bt str r cs h hlen hv ht hsz d1 d2 d3 d4;have hbt:=ht.lt;have cv:=hv.cell 0;simp only[gq]at cv;have hsz':1+3≤cs.size:=by rw[show Shape.sz .rat=3 from rfl]at hsz;exact hsz
 have HR:=hid h;have HV:=hid hv;have HT:=hid ht;have HG:=hid hg;clear h hv ht hg hsz;go_enter Tryz.func203,Tryz.ntmps203
 go_wp2_with fail
 refine(HG.out _ br str (some r) HR.out (lim hlen)).mono ?_;rintro e w1⟨v,rfl,hty,hst,hf,htx⟩;have hb1:=HT.out.fr hf d1;obtain⟨zb,zA,zk,zc,zD,zl,zd,rfl⟩:=ty_rat hty;rw[val_rat];obtain⟨y0,e0⟩:∃y,w1.cell? ⟨bt,1,none⟩=some y:=⟨_,(hb1.cell 1).trans (Array.getElem?_eq_getElem (by omega))⟩
 have f0:=hb1.frozen 1;obtain⟨y1,e1⟩:∃y,w1.cell? ⟨bt,2,none⟩=some y:=⟨_,(hb1.cell 2).trans (Array.getElem?_eq_getElem (by omega))⟩
 have f1:=hb1.frozen 2;obtain⟨y2,e2⟩:∃y,w1.cell? ⟨bt,3,none⟩=some y:=⟨_,(hb1.cell 3).trans (Array.getElem?_eq_getElem (by omega))⟩
 have f2:=hb1.frozen 3;have HB1:=hid hb1;have HTY:=hid hty;have HST:=hid hst;have HF:=hid hf;have HTX:=hid htx;clear hb1 hty hst hf htx;go_wp2;go_end0
 exact CloPost.of HTY.out HST.out HF.out HTX.out (((HB1.out.set 1 (.bool zb)).set 2 (.slice zA zk zc)).set 3 (.slice zD zl zd)) ((((Fr.refl _ _).wr _ _).wr _ _).wr _ _) hbt d1 d4
set_option maxHeartbeats 4000000 in
theorem clo_part_2(n:Nat)(L:Nat)(hg:Reads 196 (monoS n) (L-1)):CloR 204 (monoS n) L 82 4:=by
 refine⟨enters_of Tryz.func204 (by kernel_rfl) rfl,?_⟩
 intro w br bv bt str r cs h hlen hv ht hsz d1 d2 d3 d4;have hbt:=ht.lt;have cv:=hv.cell 0;simp only[gq]at cv;have hsz':4+2≤cs.size:=by rw[show Shape.sz (monoS n)=2 from sz_mono]at hsz;exact hsz
 have HR:=hid h;have HV:=hid hv;have HT:=hid ht;have HG:=hid hg;clear h hv ht hg hsz;go_enter Tryz.func204,Tryz.ntmps204
 go_wp2_with fail
 refine(HG.out _ br str (some r) HR.out (lim hlen)).mono ?_;rintro e w1⟨v,rfl,hty,hst,hf,htx⟩;have hb1:=HT.out.fr hf d1;obtain⟨z0A,z0k,z0c,z1A,z1k,z1c,rfl⟩:=ty_mono hty;rw[val_mono];obtain⟨y0,e0⟩:∃y,w1.cell? ⟨bt,4,none⟩=some y:=⟨_,(hb1.cell 4).trans (Array.getElem?_eq_getElem (by omega))⟩
 have f0:=hb1.frozen 4;obtain⟨y1,e1⟩:∃y,w1.cell? ⟨bt,5,none⟩=some y:=⟨_,(hb1.cell 5).trans (Array.getElem?_eq_getElem (by omega))⟩
 have f1:=hb1.frozen 5;have HB1:=hid hb1;have HTY:=hid hty;have HST:=hid hst;have HF:=hid hf;have HTX:=hid htx;clear hb1 hty hst hf htx;go_wp2;go_end0
 exact CloPost.of HTY.out HST.out HF.out HTX.out ((HB1.out.set 4 (.slice z0A z0k z0c)).set 5 (.slice z1A z1k z1c)) (((Fr.refl _ _).wr _ _).wr _ _) hbt d1 d4
set_option maxHeartbeats 4000000 in
theorem clo_target_0(L:Nat)(hg:Reads 105 .int (L-1)):CloR 197 .int L 87 0:=by
 refine⟨enters_of Tryz.func197 (by kernel_rfl) rfl,?_⟩
 intro w br bv bt str r cs h hlen hv ht hsz d1 d2 d3 d4;have hbt:=ht.lt;have cv:=hv.cell 0;simp only[gq]at cv;have hsz':0+1≤cs.size:=by rw[show Shape.sz .int=1 from rfl]at hsz;exact hsz
 have HR:=hid h;have HV:=hid hv;have HT:=hid ht;have HG:=hid hg;clear h hv ht hg hsz;go_enter Tryz.func197,Tryz.ntmps197
 go_wp2_with fail
 refine(HG.out _ br str (some r) HR.out (lim hlen)).mono ?_;rintro e w1⟨v,rfl,hty,hst,hf,htx⟩;have hb1:=HT.out.fr hf d1;obtain⟨zn,rfl⟩:=ty_int hty;rw[val_int];obtain⟨y0,e0⟩:∃y,w1.cell? ⟨bt,0,none⟩=some y:=⟨_,(hb1.cell 0).trans (Array.getElem?_eq_getElem (by omega))⟩
 have f0:=hb1.frozen 0;have HB1:=hid hb1;have HTY:=hid hty;have HST:=hid hst;have HF:=hid hf;have HTX:=hid htx;clear hb1 hty hst hf htx;go_wp2;go_end0
 exact CloPost.of HTY.out HST.out HF.out HTX.out (HB1.out.set 0 (.int .i64 zn)) ((Fr.refl _ _).wr _ _) hbt d1 d4
set_option maxHeartbeats 4000000 in
theorem clo_target_1(n:Nat)(L:Nat)(hg:Reads 200 (useS n) (L-1)):CloR 198 (.list (useS n)) L 87 1:=by
 refine⟨enters_of Tryz.func198 (by kernel_rfl) rfl,?_⟩
 intro w br bv bt str r cs h hlen hv ht hsz d1 d2 d3 d4;have hbt:=ht.lt;have cv:=hv.cell 0;simp only[gq]at cv;have hsz':1+1≤cs.size:=by rw[show Shape.sz (.list (useS n))=1 from rfl]at hsz;exact hsz
 have HR:=hid h;have HV:=hid hv;have HT:=hid ht;have HG:=hid hg;clear h hv ht hg hsz;go_enter Tryz.func198,Tryz.ntmps198
 go_wp2_with fail
 refine(el_use n (L-1) _ _ _ _ br str (some r) HR.out (lim hlen) (ElR.meth (enters_of Tryz.func200 (by kernel_rfl) rfl) HG.out br str _)).mono ?_
 rintro e w1⟨v,rfl,hty,hst,hf,htx⟩;have hb1:=HT.out.fr hf d1;obtain⟨zA,zk,zc,rfl⟩:=ty_list hty;rw[val_list];obtain⟨y0,e0⟩:∃y,w1.cell? ⟨bt,1,none⟩=some y:=⟨_,(hb1.cell 1).trans (Array.getElem?_eq_getElem (by omega))⟩
 have f0:=hb1.frozen 1;have HB1:=hid hb1;have HTY:=hid hty;have HST:=hid hst;have HF:=hid hf;have HTX:=hid htx;clear hb1 hty hst hf htx;go_wp2;go_end0
 exact CloPost.of HTY.out HST.out HF.out HTX.out (HB1.out.set 1 (.slice zA zk zc)) ((Fr.refl _ _).wr _ _) hbt d1 d4
set_option maxHeartbeats 4000000 in
theorem clo_target_2(n:Nat)(L:Nat)(hg:Reads 110 (termS n) (L-1)):CloR 201 (.list (termS n)) L 87 2:=by
 refine⟨enters_of Tryz.func201 (by kernel_rfl) rfl,?_⟩
 intro w br bv bt str r cs h hlen hv ht hsz d1 d2 d3 d4;have hbt:=ht.lt;have cv:=hv.cell 0;simp only[gq]at cv;have hsz':2+1≤cs.size:=by rw[show Shape.sz (.list (termS n))=1 from rfl]at hsz;exact hsz
 have HR:=hid h;have HV:=hid hv;have HT:=hid ht;have HG:=hid hg;clear h hv ht hg hsz;go_enter Tryz.func201,Tryz.ntmps201
 go_wp2_with fail
 refine(el_term n (L-1) _ _ _ _ br str (some r) HR.out (lim hlen) (ElR.meth (enters_of Tryz.func110 (by kernel_rfl) rfl) HG.out br str _)).mono ?_
 rintro e w1⟨v,rfl,hty,hst,hf,htx⟩;have hb1:=HT.out.fr hf d1;obtain⟨zA,zk,zc,rfl⟩:=ty_list hty;rw[val_list];obtain⟨y0,e0⟩:∃y,w1.cell? ⟨bt,2,none⟩=some y:=⟨_,(hb1.cell 2).trans (Array.getElem?_eq_getElem (by omega))⟩
 have f0:=hb1.frozen 2;have HB1:=hid hb1;have HTY:=hid hty;have HST:=hid hst;have HF:=hid hf;have HTX:=hid htx;clear hb1 hty hst hf htx;go_wp2;go_end0
 exact CloPost.of HTY.out HST.out HF.out HTX.out (HB1.out.set 2 (.slice zA zk zc)) ((Fr.refl _ _).wr _ _) hbt d1 d4
set_option maxHeartbeats 4000000 in
theorem clo_axiom_0(L:Nat)(hg:Reads 105 .int (L-1)):CloR 276 .int L 152 0:=by
 refine⟨enters_of Tryz.func276 (by kernel_rfl) rfl,?_⟩
 intro w br bv bt str r cs h hlen hv ht hsz d1 d2 d3 d4;have hbt:=ht.lt;have cv:=hv.cell 0;simp only[gq]at cv;have hsz':0+1≤cs.size:=by rw[show Shape.sz .int=1 from rfl]at hsz;exact hsz
 have HR:=hid h;have HV:=hid hv;have HT:=hid ht;have HG:=hid hg;clear h hv ht hg hsz;go_enter Tryz.func276,Tryz.ntmps276
 go_wp2_with fail
 refine(HG.out _ br str (some r) HR.out (lim hlen)).mono ?_;rintro e w1⟨v,rfl,hty,hst,hf,htx⟩;have hb1:=HT.out.fr hf d1;obtain⟨zn,rfl⟩:=ty_int hty;rw[val_int];obtain⟨y0,e0⟩:∃y,w1.cell? ⟨bt,0,none⟩=some y:=⟨_,(hb1.cell 0).trans (Array.getElem?_eq_getElem (by omega))⟩
 have f0:=hb1.frozen 0;have HB1:=hid hb1;have HTY:=hid hty;have HST:=hid hst;have HF:=hid hf;have HTX:=hid htx;clear hb1 hty hst hf htx;go_wp2;go_end0
 exact CloPost.of HTY.out HST.out HF.out HTX.out (HB1.out.set 0 (.int .i64 zn)) ((Fr.refl _ _).wr _ _) hbt d1 d4
end Go.Proofs.YtellcholbkoakaaGreatDoor
