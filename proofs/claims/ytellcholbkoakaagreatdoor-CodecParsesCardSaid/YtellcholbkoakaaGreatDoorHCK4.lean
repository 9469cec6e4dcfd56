/-
 The reader: fields (printed by gen_codec.py).
-/
import Derived.Test.YtellcholbkoakaaGreatDoorHCRa
import Derived.Test.YtellcholbkoakaaGreatDoorHCE1
namespace Go.Proofs.YtellcholbkoakaaGreatDoor
open Go.Lib (hid)
open Go.RowKit AC
set_option linter.unusedVariables false
set_option linter.unusedSimpArgs false
set_option maxHeartbeats 4000000 in
theorem clo_axiom_1(L:Nat)(hg:Reads 95 linS (L-1)):CloR 277 linS L 152 1:=by
 refine⟨enters_of Tryz.func277 (by kernel_rfl) rfl,?_⟩
 intro w br bv bt str r cs h hlen hv ht hsz d1 d2 d3 d4;have hbt:=ht.lt;have cv:=hv.cell 0;simp only[gq]at cv;have hsz':1+2≤cs.size:=by rw[show Shape.sz linS=2 from sz_lin]at hsz;exact hsz
 have HR:=hid h;have HV:=hid hv;have HT:=hid ht;have HG:=hid hg;clear h hv ht hg hsz;go_enter Tryz.func277,Tryz.ntmps277
 go_wp2_with fail
 refine(HG.out _ br str (some r) HR.out (lim hlen)).mono ?_;rintro e w1⟨v,rfl,hty,hst,hf,htx⟩;have hb1:=HT.out.fr hf d1;obtain⟨z0n,z1A,z1k,z1c,rfl⟩:=ty_lin hty;rw[val_lin];obtain⟨y0,e0⟩:∃y,w1.cell? ⟨bt,1,none⟩=some y:=⟨_,(hb1.cell 1).trans (Array.getElem?_eq_getElem (by omega))⟩
 have f0:=hb1.frozen 1;obtain⟨y1,e1⟩:∃y,w1.cell? ⟨bt,2,none⟩=some y:=⟨_,(hb1.cell 2).trans (Array.getElem?_eq_getElem (by omega))⟩
 have f1:=hb1.frozen 2;have HB1:=hid hb1;have HTY:=hid hty;have HST:=hid hst;have HF:=hid hf;have HTX:=hid htx;clear hb1 hty hst hf htx;go_wp2;go_end0
 exact CloPost.of HTY.out HST.out HF.out HTX.out ((HB1.out.set 1 (.int .i64 z0n)).set 2 (.slice z1A z1k z1c)) (((Fr.refl _ _).wr _ _).wr _ _) hbt d1 d4
set_option maxHeartbeats 4000000 in
theorem clo_axiom_2(L:Nat)(hg:Reads 95 linS (L-1)):CloR 278 linS L 152 3:=by
 refine⟨enters_of Tryz.func278 (by kernel_rfl) rfl,?_⟩
 intro w br bv bt str r cs h hlen hv ht hsz d1 d2 d3 d4;have hbt:=ht.lt;have cv:=hv.cell 0;simp only[gq]at cv;have hsz':3+2≤cs.size:=by rw[show Shape.sz linS=2 from sz_lin]at hsz;exact hsz
 have HR:=hid h;have HV:=hid hv;have HT:=hid ht;have HG:=hid hg;clear h hv ht hg hsz;go_enter Tryz.func278,Tryz.ntmps278
 go_wp2_with fail
 refine(HG.out _ br str (some r) HR.out (lim hlen)).mono ?_;rintro e w1⟨v,rfl,hty,hst,hf,htx⟩;have hb1:=HT.out.fr hf d1;obtain⟨z0n,z1A,z1k,z1c,rfl⟩:=ty_lin hty;rw[val_lin];obtain⟨y0,e0⟩:∃y,w1.cell? ⟨bt,3,none⟩=some y:=⟨_,(hb1.cell 3).trans (Array.getElem?_eq_getElem (by omega))⟩
 have f0:=hb1.frozen 3;obtain⟨y1,e1⟩:∃y,w1.cell? ⟨bt,4,none⟩=some y:=⟨_,(hb1.cell 4).trans (Array.getElem?_eq_getElem (by omega))⟩
 have f1:=hb1.frozen 4;have HB1:=hid hb1;have HTY:=hid hty;have HST:=hid hst;have HF:=hid hf;have HTX:=hid htx;clear hb1 hty hst hf htx;go_wp2;go_end0
 exact CloPost.of HTY.out HST.out HF.out HTX.out ((HB1.out.set 3 (.int .i64 z0n)).set 4 (.slice z1A z1k z1c)) (((Fr.refl _ _).wr _ _).wr _ _) hbt d1 d4
set_option maxHeartbeats 4000000 in
theorem clo_axiom_3(L:Nat)(hg:Reads 105 .int (L-1)):CloR 279 .int L 152 5:=by
 refine⟨enters_of Tryz.func279 (by kernel_rfl) rfl,?_⟩
 intro w br bv bt str r cs h hlen hv ht hsz d1 d2 d3 d4;have hbt:=ht.lt;have cv:=hv.cell 0;simp only[gq]at cv;have hsz':5+1≤cs.size:=by rw[show Shape.sz .int=1 from rfl]at hsz;exact hsz
 have HR:=hid h;have HV:=hid hv;have HT:=hid ht;have HG:=hid hg;clear h hv ht hg hsz;go_enter Tryz.func279,Tryz.ntmps279
 go_wp2_with fail
 refine(HG.out _ br str (some r) HR.out (lim hlen)).mono ?_;rintro e w1⟨v,rfl,hty,hst,hf,htx⟩;have hb1:=HT.out.fr hf d1;obtain⟨zn,rfl⟩:=ty_int hty;rw[val_int];obtain⟨y0,e0⟩:∃y,w1.cell? ⟨bt,5,none⟩=some y:=⟨_,(hb1.cell 5).trans (Array.getElem?_eq_getElem (by omega))⟩
 have f0:=hb1.frozen 5;have HB1:=hid hb1;have HTY:=hid hty;have HST:=hid hst;have HF:=hid hf;have HTX:=hid htx;clear hb1 hty hst hf htx;go_wp2;go_end0
 exact CloPost.of HTY.out HST.out HF.out HTX.out (HB1.out.set 5 (.int .i64 zn)) ((Fr.refl _ _).wr _ _) hbt d1 d4
set_option maxHeartbeats 4000000 in
theorem clo_axiomUse_0(L:Nat)(hg:Reads 207 axS (L-1)):CloR 206 axS L 154 0:=by
 refine⟨enters_of Tryz.func206 (by kernel_rfl) rfl,?_⟩
 intro w br bv bt str r cs h hlen hv ht hsz d1 d2 d3 d4;have hbt:=ht.lt;have cv:=hv.cell 0;simp only[gq]at cv;have hsz':0+6≤cs.size:=by rw[show Shape.sz axS=6 from sz_axiom]at hsz;exact hsz
 have HR:=hid h;have HV:=hid hv;have HT:=hid ht;have HG:=hid hg;clear h hv ht hg hsz;go_enter Tryz.func206,Tryz.ntmps206
 go_wp2_with fail
 refine(HG.out _ br str (some r) HR.out (lim hlen)).mono ?_;rintro e w1⟨v,rfl,hty,hst,hf,htx⟩;have hb1:=HT.out.fr hf d1;obtain⟨z0n,z1_0n,z1_1A,z1_1k,z1_1c,z2_0n,z2_1A,z2_1k,z2_1c,z3n,rfl⟩:=ty_axiom hty;rw[val_axiom];obtain⟨y0,e0⟩:∃y,w1.cell? ⟨bt,0,none⟩=some y:=⟨_,(hb1.cell 0).trans (Array.getElem?_eq_getElem (by omega))⟩
 have f0:=hb1.frozen 0;obtain⟨y1,e1⟩:∃y,w1.cell? ⟨bt,1,none⟩=some y:=⟨_,(hb1.cell 1).trans (Array.getElem?_eq_getElem (by omega))⟩
 have f1:=hb1.frozen 1;obtain⟨y2,e2⟩:∃y,w1.cell? ⟨bt,2,none⟩=some y:=⟨_,(hb1.cell 2).trans (Array.getElem?_eq_getElem (by omega))⟩
 have f2:=hb1.frozen 2;obtain⟨y3,e3⟩:∃y,w1.cell? ⟨bt,3,none⟩=some y:=⟨_,(hb1.cell 3).trans (Array.getElem?_eq_getElem (by omega))⟩
 have f3:=hb1.frozen 3;obtain⟨y4,e4⟩:∃y,w1.cell? ⟨bt,4,none⟩=some y:=⟨_,(hb1.cell 4).trans (Array.getElem?_eq_getElem (by omega))⟩
 have f4:=hb1.frozen 4;obtain⟨y5,e5⟩:∃y,w1.cell? ⟨bt,5,none⟩=some y:=⟨_,(hb1.cell 5).trans (Array.getElem?_eq_getElem (by omega))⟩
 have f5:=hb1.frozen 5;have HB1:=hid hb1;have HTY:=hid hty;have HST:=hid hst;have HF:=hid hf;have HTX:=hid htx;clear hb1 hty hst hf htx;go_wp2;go_end0
 exact CloPost.of HTY.out HST.out HF.out HTX.out ((((((HB1.out.set 0 (.int .i64 z0n)).set 1 (.int .i64 z1_0n)).set 2 (.slice z1_1A z1_1k z1_1c)).set 3 (.int .i64 z2_0n)).set 4 (.slice z2_1A z2_1k z2_1c)).set 5 (.int .i64 z3n)) (((((((Fr.refl _ _).wr _ _).wr _ _).wr _ _).wr _ _).wr _ _).wr _ _) hbt d1 d4
set_option maxHeartbeats 4000000 in
theorem clo_axiomUse_1(L:Nat)(hg:Reads 194 .rat (L-1)):CloR 208 .rat L 154 6:=by
 refine⟨enters_of Tryz.func208 (by kernel_rfl) rfl,?_⟩
 intro w br bv bt str r cs h hlen hv ht hsz d1 d2 d3 d4;have hbt:=ht.lt;have cv:=hv.cell 0;simp only[gq]at cv;have hsz':6+3≤cs.size:=by rw[show Shape.sz .rat=3 from rfl]at hsz;exact hsz
 have HR:=hid h;have HV:=hid hv;have HT:=hid ht;have HG:=hid hg;clear h hv ht hg hsz;go_enter Tryz.func208,Tryz.ntmps208
 go_wp2_with fail
 refine(HG.out _ br str (some r) HR.out (lim hlen)).mono ?_;rintro e w1⟨v,rfl,hty,hst,hf,htx⟩;have hb1:=HT.out.fr hf d1;obtain⟨zb,zA,zk,zc,zD,zl,zd,rfl⟩:=ty_rat hty;rw[val_rat];obtain⟨y0,e0⟩:∃y,w1.cell? ⟨bt,6,none⟩=some y:=⟨_,(hb1.cell 6).trans (Array.getElem?_eq_getElem (by omega))⟩
 have f0:=hb1.frozen 6;obtain⟨y1,e1⟩:∃y,w1.cell? ⟨bt,7,none⟩=some y:=⟨_,(hb1.cell 7).trans (Array.getElem?_eq_getElem (by omega))⟩
 have f1:=hb1.frozen 7;obtain⟨y2,e2⟩:∃y,w1.cell? ⟨bt,8,none⟩=some y:=⟨_,(hb1.cell 8).trans (Array.getElem?_eq_getElem (by omega))⟩
 have f2:=hb1.frozen 8;have HB1:=hid hb1;have HTY:=hid hty;have HST:=hid hst;have HF:=hid hf;have HTX:=hid htx;clear hb1 hty hst hf htx;go_wp2;go_end0
 exact CloPost.of HTY.out HST.out HF.out HTX.out (((HB1.out.set 6 (.bool zb)).set 7 (.slice zA zk zc)).set 8 (.slice zD zl zd)) ((((Fr.refl _ _).wr _ _).wr _ _).wr _ _) hbt d1 d4
set_option maxHeartbeats 4000000 in
theorem clo_axiomUse_2(n:Nat)(L:Nat)(hg:Reads 196 (monoS n) (L-1)):CloR 209 (monoS n) L 154 9:=by
 refine⟨enters_of Tryz.func209 (by kernel_rfl) rfl,?_⟩
 intro w br bv bt str r cs h hlen hv ht hsz d1 d2 d3 d4;have hbt:=ht.lt;have cv:=hv.cell 0;simp only[gq]at cv;have hsz':9+2≤cs.size:=by rw[show Shape.sz (monoS n)=2 from sz_mono]at hsz;exact hsz
 have HR:=hid h;have HV:=hid hv;have HT:=hid ht;have HG:=hid hg;clear h hv ht hg hsz;go_enter Tryz.func209,Tryz.ntmps209
 go_wp2_with fail
 refine(HG.out _ br str (some r) HR.out (lim hlen)).mono ?_;rintro e w1⟨v,rfl,hty,hst,hf,htx⟩;have hb1:=HT.out.fr hf d1;obtain⟨z0A,z0k,z0c,z1A,z1k,z1c,rfl⟩:=ty_mono hty;rw[val_mono];obtain⟨y0,e0⟩:∃y,w1.cell? ⟨bt,9,none⟩=some y:=⟨_,(hb1.cell 9).trans (Array.getElem?_eq_getElem (by omega))⟩
 have f0:=hb1.frozen 9;obtain⟨y1,e1⟩:∃y,w1.cell? ⟨bt,10,none⟩=some y:=⟨_,(hb1.cell 10).trans (Array.getElem?_eq_getElem (by omega))⟩
 have f1:=hb1.frozen 10;have HB1:=hid hb1;have HTY:=hid hty;have HST:=hid hst;have HF:=hid hf;have HTX:=hid htx;clear hb1 hty hst hf htx;go_wp2;go_end0
 exact CloPost.of HTY.out HST.out HF.out HTX.out ((HB1.out.set 9 (.slice z0A z0k z0c)).set 10 (.slice z1A z1k z1c)) (((Fr.refl _ _).wr _ _).wr _ _) hbt d1 d4
set_option maxHeartbeats 4000000 in
theorem clo_axiomUse_3(L:Nat)(hg:Reads 121 (.list .rat) (L-1)):CloR 210 (.list .rat) L 154 11:=by
 refine⟨enters_of Tryz.func210 (by kernel_rfl) rfl,?_⟩
 intro w br bv bt str r cs h hlen hv ht hsz d1 d2 d3 d4;have hbt:=ht.lt;have cv:=hv.cell 0;simp only[gq]at cv;have hsz':11+1≤cs.size:=by rw[show Shape.sz (.list .rat)=1 from rfl]at hsz;exact hsz
 have HR:=hid h;have HV:=hid hv;have HT:=hid ht;have HG:=hid hg;clear h hv ht hg hsz;go_enter Tryz.func210,Tryz.ntmps210
 go_wp2_with fail
 refine(HG.out _ br str (some r) HR.out (lim hlen)).mono ?_;rintro e w1⟨v,rfl,hty,hst,hf,htx⟩;have hb1:=HT.out.fr hf d1;obtain⟨zA,zk,zc,rfl⟩:=ty_list hty;rw[val_list];obtain⟨y0,e0⟩:∃y,w1.cell? ⟨bt,11,none⟩=some y:=⟨_,(hb1.cell 11).trans (Array.getElem?_eq_getElem (by omega))⟩
 have f0:=hb1.frozen 11;have HB1:=hid hb1;have HTY:=hid hty;have HST:=hid hst;have HF:=hid hf;have HTX:=hid htx;clear hb1 hty hst hf htx;go_wp2;go_end0
 exact CloPost.of HTY.out HST.out HF.out HTX.out (HB1.out.set 11 (.slice zA zk zc)) ((Fr.refl _ _).wr _ _) hbt d1 d4
set_option maxHeartbeats 4000000 in
theorem clo_axiomUse_4(L:Nat)(hg:Reads 121 (.list .rat) (L-1)):CloR 211 (.list .rat) L 154 12:=by
 refine⟨enters_of Tryz.func211 (by kernel_rfl) rfl,?_⟩
 intro w br bv bt str r cs h hlen hv ht hsz d1 d2 d3 d4;have hbt:=ht.lt;have cv:=hv.cell 0;simp only[gq]at cv;have hsz':12+1≤cs.size:=by rw[show Shape.sz (.list .rat)=1 from rfl]at hsz;exact hsz
 have HR:=hid h;have HV:=hid hv;have HT:=hid ht;have HG:=hid hg;clear h hv ht hg hsz;go_enter Tryz.func211,Tryz.ntmps211
 go_wp2_with fail
 refine(HG.out _ br str (some r) HR.out (lim hlen)).mono ?_;rintro e w1⟨v,rfl,hty,hst,hf,htx⟩;have hb1:=HT.out.fr hf d1;obtain⟨zA,zk,zc,rfl⟩:=ty_list hty;rw[val_list];obtain⟨y0,e0⟩:∃y,w1.cell? ⟨bt,12,none⟩=some y:=⟨_,(hb1.cell 12).trans (Array.getElem?_eq_getElem (by omega))⟩
 have f0:=hb1.frozen 12;have HB1:=hid hb1;have HTY:=hid hty;have HST:=hid hst;have HF:=hid hf;have HTX:=hid htx;clear hb1 hty hst hf htx;go_wp2;go_end0
 exact CloPost.of HTY.out HST.out HF.out HTX.out (HB1.out.set 12 (.slice zA zk zc)) ((Fr.refl _ _).wr _ _) hbt d1 d4
set_option maxHeartbeats 4000000 in
theorem clo_node_0(L:Nat)(hg:Reads 105 .int (L-1)):CloR 104 .int L 65 0:=by
 refine⟨enters_of Tryz.func104 (by kernel_rfl) rfl,?_⟩
 intro w br bv bt str r cs h hlen hv ht hsz d1 d2 d3 d4;have hbt:=ht.lt;have cv:=hv.cell 0;simp only[gq]at cv;have hsz':0+1≤cs.size:=by rw[show Shape.sz .int=1 from rfl]at hsz;exact hsz
 have HR:=hid h;have HV:=hid hv;have HT:=hid ht;have HG:=hid hg;clear h hv ht hg hsz;go_enter Tryz.func104,Tryz.ntmps104
 go_wp2_with fail
 refine(HG.out _ br str (some r) HR.out (lim hlen)).mono ?_;rintro e w1⟨v,rfl,hty,hst,hf,htx⟩;have hb1:=HT.out.fr hf d1;obtain⟨zn,rfl⟩:=ty_int hty;rw[val_int];obtain⟨y0,e0⟩:∃y,w1.cell? ⟨bt,0,none⟩=some y:=⟨_,(hb1.cell 0).trans (Array.getElem?_eq_getElem (by omega))⟩
 have f0:=hb1.frozen 0;have HB1:=hid hb1;have HTY:=hid hty;have HST:=hid hst;have HF:=hid hf;have HTX:=hid htx;clear hb1 hty hst hf htx;go_wp2;go_end0
 exact CloPost.of HTY.out HST.out HF.out HTX.out (HB1.out.set 0 (.int .i64 zn)) ((Fr.refl _ _).wr _ _) hbt d1 d4
set_option maxHeartbeats 4000000 in
theorem clo_node_1(L:Nat)(hg:Reads 105 .int (L-1)):CloR 106 .int L 65 1:=by
 refine⟨enters_of Tryz.func106 (by kernel_rfl) rfl,?_⟩
 intro w br bv bt str r cs h hlen hv ht hsz d1 d2 d3 d4;have hbt:=ht.lt;have cv:=hv.cell 0;simp only[gq]at cv;have hsz':1+1≤cs.size:=by rw[show Shape.sz .int=1 from rfl]at hsz;exact hsz
 have HR:=hid h;have HV:=hid hv;have HT:=hid ht;have HG:=hid hg;clear h hv ht hg hsz;go_enter Tryz.func106,Tryz.ntmps106
 go_wp2_with fail
 refine(HG.out _ br str (some r) HR.out (lim hlen)).mono ?_;rintro e w1⟨v,rfl,hty,hst,hf,htx⟩;have hb1:=HT.out.fr hf d1;obtain⟨zn,rfl⟩:=ty_int hty;rw[val_int];obtain⟨y0,e0⟩:∃y,w1.cell? ⟨bt,1,none⟩=some y:=⟨_,(hb1.cell 1).trans (Array.getElem?_eq_getElem (by omega))⟩
 have f0:=hb1.frozen 1;have HB1:=hid hb1;have HTY:=hid hty;have HST:=hid hst;have HF:=hid hf;have HTX:=hid htx;clear hb1 hty hst hf htx;go_wp2;go_end0
 exact CloPost.of HTY.out HST.out HF.out HTX.out (HB1.out.set 1 (.int .i64 zn)) ((Fr.refl _ _).wr _ _) hbt d1 d4
set_option maxHeartbeats 4000000 in
theorem clo_node_2(L:Nat)(hg:Reads 33 .bool (L-1)):CloR 107 .bool L 65 2:=by
 refine⟨enters_of Tryz.func107 (by kernel_rfl) rfl,?_⟩
 intro w br bv bt str r cs h hlen hv ht hsz d1 d2 d3 d4;have hbt:=ht.lt;have cv:=hv.cell 0;simp only[gq]at cv;have hsz':2+1≤cs.size:=by rw[show Shape.sz .bool=1 from rfl]at hsz;exact hsz
 have HR:=hid h;have HV:=hid hv;have HT:=hid ht;have HG:=hid hg;clear h hv ht hg hsz;go_enter Tryz.func107,Tryz.ntmps107
 go_wp2_with fail
 refine(HG.out _ br str (some r) HR.out (lim hlen)).mono ?_;rintro e w1⟨v,rfl,hty,hst,hf,htx⟩;have hb1:=HT.out.fr hf d1;obtain⟨zb,rfl⟩:=ty_bool hty;rw[val_bool];obtain⟨y0,e0⟩:∃y,w1.cell? ⟨bt,2,none⟩=some y:=⟨_,(hb1.cell 2).trans (Array.getElem?_eq_getElem (by omega))⟩
 have f0:=hb1.frozen 2;have HB1:=hid hb1;have HTY:=hid hty;have HST:=hid hst;have HF:=hid hf;have HTX:=hid htx;clear hb1 hty hst hf htx;go_wp2;go_end0
 exact CloPost.of HTY.out HST.out HF.out HTX.out (HB1.out.set 2 (.bool zb)) ((Fr.refl _ _).wr _ _) hbt d1 d4
set_option maxHeartbeats 4000000 in
theorem clo_node_3(n:Nat)(L:Nat)(hg:Reads 110 (termS n) (L-1)):CloR 108 (.list (termS n)) L 65 3:=by
 refine⟨enters_of Tryz.func108 (by kernel_rfl) rfl,?_⟩
 intro w br bv bt str r cs h hlen hv ht hsz d1 d2 d3 d4;have hbt:=ht.lt;have cv:=hv.cell 0;simp only[gq]at cv;have hsz':3+1≤cs.size:=by rw[show Shape.sz (.list (termS n))=1 from rfl]at hsz;exact hsz
 have HR:=hid h;have HV:=hid hv;have HT:=hid ht;have HG:=hid hg;clear h hv ht hg hsz;go_enter Tryz.func108,Tryz.ntmps108
 go_wp2_with fail
 refine(el_term n (L-1) _ _ _ _ br str (some r) HR.out (lim hlen) (ElR.meth (enters_of Tryz.func110 (by kernel_rfl) rfl) HG.out br str _)).mono ?_
 rintro e w1⟨v,rfl,hty,hst,hf,htx⟩;have hb1:=HT.out.fr hf d1;obtain⟨zA,zk,zc,rfl⟩:=ty_list hty;rw[val_list];obtain⟨y0,e0⟩:∃y,w1.cell? ⟨bt,3,none⟩=some y:=⟨_,(hb1.cell 3).trans (Array.getElem?_eq_getElem (by omega))⟩
 have f0:=hb1.frozen 3;have HB1:=hid hb1;have HTY:=hid hty;have HST:=hid hst;have HF:=hid hf;have HTX:=hid htx;clear hb1 hty hst hf htx;go_wp2;go_end0
 exact CloPost.of HTY.out HST.out HF.out HTX.out (HB1.out.set 3 (.slice zA zk zc)) ((Fr.refl _ _).wr _ _) hbt d1 d4
set_option maxHeartbeats 4000000 in
theorem elr_x(n L:Nat)(hg:Reads 126 (axuS n) L)(w:World)(br bv:Nat)(str:ByteArray)(hv:Bk w bv 46 #[.pointer (some ⟨br,0,none⟩)])(d:bv≠br):ElR 124 (#[] ++ #[.pointer (some ⟨bv,0,none⟩)]) (.list (axuS n)) L br str w:=by
 refine⟨enters_of Tryz.func124 (by kernel_rfl) rfl,fun W o hf hr hl=>?_⟩
 have cv:=(hv.fr hf d).cell 0;simp only[gq]at cv;have HR:=hid hr;have HL:=hid hl;have HG:=hid hg;clear hv hf hr hl hg;show Calls Tryz.prog 124 #[.pointer (some ⟨bv,0,none⟩)] W _
 go_enter Tryz.func124,Tryz.ntmps124
 go_wp2_with fail
 refine(el_axiomUse n L _ _ _ _ br str o HR.out HL.out (ElR.meth (enters_of Tryz.func126 (by kernel_rfl) rfl) HG.out br str _)).mono ?_
 rintro e w1⟨v,rfl,hp⟩;have hty:=hp.1;obtain⟨zA,zk,zc,rfl⟩:=ty_list hty;rw[val_list];have HP:=hid hp;clear hp hty;go_wp2;go_ret
 exact⟨_,rfl,HP.out⟩
set_option maxHeartbeats 4000000 in
theorem clo_node_4(n:Nat)(L:Nat)(hg:Reads 110 (termS n) (L-1)):CloR 111 (.list (termS n)) L 65 4:=by
 refine⟨enters_of Tryz.func111 (by kernel_rfl) rfl,?_⟩
 intro w br bv bt str r cs h hlen hv ht hsz d1 d2 d3 d4;have hbt:=ht.lt;have cv:=hv.cell 0;simp only[gq]at cv;have hsz':4+1≤cs.size:=by rw[show Shape.sz (.list (termS n))=1 from rfl]at hsz;exact hsz
 have HR:=hid h;have HV:=hid hv;have HT:=hid ht;have HG:=hid hg;clear h hv ht hg hsz;go_enter Tryz.func111,Tryz.ntmps111
 go_wp2_with fail
 refine(el_term n (L-1) _ _ _ _ br str (some r) HR.out (lim hlen) (ElR.meth (enters_of Tryz.func110 (by kernel_rfl) rfl) HG.out br str _)).mono ?_
 rintro e w1⟨v,rfl,hty,hst,hf,htx⟩;have hb1:=HT.out.fr hf d1;obtain⟨zA,zk,zc,rfl⟩:=ty_list hty;rw[val_list];obtain⟨y0,e0⟩:∃y,w1.cell? ⟨bt,4,none⟩=some y:=⟨_,(hb1.cell 4).trans (Array.getElem?_eq_getElem (by omega))⟩
 have f0:=hb1.frozen 4;have HB1:=hid hb1;have HTY:=hid hty;have HST:=hid hst;have HF:=hid hf;have HTX:=hid htx;clear hb1 hty hst hf htx;go_wp2;go_end0
 exact CloPost.of HTY.out HST.out HF.out HTX.out (HB1.out.set 4 (.slice zA zk zc)) ((Fr.refl _ _).wr _ _) hbt d1 d4
set_option maxHeartbeats 4000000 in
theorem clo_node_5(n:Nat)(L:Nat)(hg:Reads 114 (targetS n) (L-1)):CloR 112 (.list (targetS n)) L 65 5:=by
 refine⟨enters_of Tryz.func112 (by kernel_rfl) rfl,?_⟩
 intro w br bv bt str r cs h hlen hv ht hsz d1 d2 d3 d4;have hbt:=ht.lt;have cv:=hv.cell 0;simp only[gq]at cv;have hsz':5+1≤cs.size:=by rw[show Shape.sz (.list (targetS n))=1 from rfl]at hsz;exact hsz
 have HR:=hid h;have HV:=hid hv;have HT:=hid ht;have HG:=hid hg;clear h hv ht hg hsz;go_enter Tryz.func112,Tryz.ntmps112
 go_wp2_with fail
 refine(el_target n (L-1) _ _ _ _ br str (some r) HR.out (lim hlen) (ElR.meth (enters_of Tryz.func114 (by kernel_rfl) rfl) HG.out br str _)).mono ?_
 rintro e w1⟨v,rfl,hty,hst,hf,htx⟩;have hb1:=HT.out.fr hf d1;obtain⟨zA,zk,zc,rfl⟩:=ty_list hty;rw[val_list];obtain⟨y0,e0⟩:∃y,w1.cell? ⟨bt,5,none⟩=some y:=⟨_,(hb1.cell 5).trans (Array.getElem?_eq_getElem (by omega))⟩
 have f0:=hb1.frozen 5;have HB1:=hid hb1;have HTY:=hid hty;have HST:=hid hst;have HF:=hid hf;have HTX:=hid htx;clear hb1 hty hst hf htx;go_wp2;go_end0
 exact CloPost.of HTY.out HST.out HF.out HTX.out (HB1.out.set 5 (.slice zA zk zc)) ((Fr.refl _ _).wr _ _) hbt d1 d4
set_option maxHeartbeats 4000000 in
theorem clo_node_6(n:Nat)(L:Nat)(hg:Reads 117 (useS n) (L-1)):CloR 115 (.list (useS n)) L 65 6:=by
 refine⟨enters_of Tryz.func115 (by kernel_rfl) rfl,?_⟩
 intro w br bv bt str r cs h hlen hv ht hsz d1 d2 d3 d4;have hbt:=ht.lt;have cv:=hv.cell 0;simp only[gq]at cv;have hsz':6+1≤cs.size:=by rw[show Shape.sz (.list (useS n))=1 from rfl]at hsz;exact hsz
 have HR:=hid h;have HV:=hid hv;have HT:=hid ht;have HG:=hid hg;clear h hv ht hg hsz;go_enter Tryz.func115,Tryz.ntmps115
 go_wp2_with fail
 refine(el_part n (L-1) _ _ _ _ br str (some r) HR.out (lim hlen) (ElR.meth (enters_of Tryz.func117 (by kernel_rfl) rfl) HG.out br str _)).mono ?_
 rintro e w1⟨v,rfl,hty,hst,hf,htx⟩;have hb1:=HT.out.fr hf d1;obtain⟨zA,zk,zc,rfl⟩:=ty_list hty;rw[val_list];obtain⟨y0,e0⟩:∃y,w1.cell? ⟨bt,6,none⟩=some y:=⟨_,(hb1.cell 6).trans (Array.getElem?_eq_getElem (by omega))⟩
 have f0:=hb1.frozen 6;have HB1:=hid hb1;have HTY:=hid hty;have HST:=hid hst;have HF:=hid hf;have HTX:=hid htx;clear hb1 hty hst hf htx;go_wp2;go_end0
 exact CloPost.of HTY.out HST.out HF.out HTX.out (HB1.out.set 6 (.slice zA zk zc)) ((Fr.refl _ _).wr _ _) hbt d1 d4
set_option maxHeartbeats 4000000 in
theorem clo_node_7(n:Nat)(L:Nat)(hg:Reads 110 (termS n) (L-1)):CloR 118 (.list (termS n)) L 65 7:=by
 refine⟨enters_of Tryz.func118 (by kernel_rfl) rfl,?_⟩
 intro w br bv bt str r cs h hlen hv ht hsz d1 d2 d3 d4;have hbt:=ht.lt;have cv:=hv.cell 0;simp only[gq]at cv;have hsz':7+1≤cs.size:=by rw[show Shape.sz (.list (termS n))=1 from rfl]at hsz;exact hsz
 have HR:=hid h;have HV:=hid hv;have HT:=hid ht;have HG:=hid hg;clear h hv ht hg hsz;go_enter Tryz.func118,Tryz.ntmps118
 go_wp2_with fail
 refine(el_term n (L-1) _ _ _ _ br str (some r) HR.out (lim hlen) (ElR.meth (enters_of Tryz.func110 (by kernel_rfl) rfl) HG.out br str _)).mono ?_
 rintro e w1⟨v,rfl,hty,hst,hf,htx⟩;have hb1:=HT.out.fr hf d1;obtain⟨zA,zk,zc,rfl⟩:=ty_list hty;rw[val_list];obtain⟨y0,e0⟩:∃y,w1.cell? ⟨bt,7,none⟩=some y:=⟨_,(hb1.cell 7).trans (Array.getElem?_eq_getElem (by omega))⟩
 have f0:=hb1.frozen 7;have HB1:=hid hb1;have HTY:=hid hty;have HST:=hid hst;have HF:=hid hf;have HTX:=hid htx;clear hb1 hty hst hf htx;go_wp2;go_end0
 exact CloPost.of HTY.out HST.out HF.out HTX.out (HB1.out.set 7 (.slice zA zk zc)) ((Fr.refl _ _).wr _ _) hbt d1 d4
set_option maxHeartbeats 4000000 in
theorem clo_node_8(L:Nat)(hg:Reads 99 (.list .int) (L-1)):CloR 119 (.list .int) L 65 8:=by
 refine⟨enters_of Tryz.func119 (by kernel_rfl) rfl,?_⟩
 intro w br bv bt str r cs h hlen hv ht hsz d1 d2 d3 d4;have hbt:=ht.lt;have cv:=hv.cell 0;simp only[gq]at cv;have hsz':8+1≤cs.size:=by rw[show Shape.sz (.list .int)=1 from rfl]at hsz;exact hsz
 have HR:=hid h;have HV:=hid hv;have HT:=hid ht;have HG:=hid hg;clear h hv ht hg hsz;go_enter Tryz.func119,Tryz.ntmps119
 go_wp2_with fail
 refine(HG.out _ br str (some r) HR.out (lim hlen)).mono ?_;rintro e w1⟨v,rfl,hty,hst,hf,htx⟩;have hb1:=HT.out.fr hf d1;obtain⟨zA,zk,zc,rfl⟩:=ty_list hty;rw[val_list];obtain⟨y0,e0⟩:∃y,w1.cell? ⟨bt,8,none⟩=some y:=⟨_,(hb1.cell 8).trans (Array.getElem?_eq_getElem (by omega))⟩
 have f0:=hb1.frozen 8;have HB1:=hid hb1;have HTY:=hid hty;have HST:=hid hst;have HF:=hid hf;have HTX:=hid htx;clear hb1 hty hst hf htx;go_wp2;go_end0
 exact CloPost.of HTY.out HST.out HF.out HTX.out (HB1.out.set 8 (.slice zA zk zc)) ((Fr.refl _ _).wr _ _) hbt d1 d4
set_option maxHeartbeats 4000000 in
theorem clo_node_9(L:Nat)(hg:Reads 121 (.list .rat) (L-1)):CloR 120 (.list .rat) L 65 9:=by
 refine⟨enters_of Tryz.func120 (by kernel_rfl) rfl,?_⟩
 intro w br bv bt str r cs h hlen hv ht hsz d1 d2 d3 d4;have hbt:=ht.lt;have cv:=hv.cell 0;simp only[gq]at cv;have hsz':9+1≤cs.size:=by rw[show Shape.sz (.list .rat)=1 from rfl]at hsz;exact hsz
 have HR:=hid h;have HV:=hid hv;have HT:=hid ht;have HG:=hid hg;clear h hv ht hg hsz;go_enter Tryz.func120,Tryz.ntmps120
 go_wp2_with fail
 refine(HG.out _ br str (some r) HR.out (lim hlen)).mono ?_;rintro e w1⟨v,rfl,hty,hst,hf,htx⟩;have hb1:=HT.out.fr hf d1;obtain⟨zA,zk,zc,rfl⟩:=ty_list hty;rw[val_list];obtain⟨y0,e0⟩:∃y,w1.cell? ⟨bt,9,none⟩=some y:=⟨_,(hb1.cell 9).trans (Array.getElem?_eq_getElem (by omega))⟩
 have f0:=hb1.frozen 9;have HB1:=hid hb1;have HTY:=hid hty;have HST:=hid hst;have HF:=hid hf;have HTX:=hid htx;clear hb1 hty hst hf htx;go_wp2;go_end0
 exact CloPost.of HTY.out HST.out HF.out HTX.out (HB1.out.set 9 (.slice zA zk zc)) ((Fr.refl _ _).wr _ _) hbt d1 d4
set_option maxHeartbeats 4000000 in
theorem clo_node_10(n:Nat)(L:Nat)(hg:Reads 126 (axuS n) (L-1)):CloR 122 (.list (.list (axuS n))) L 65 10:=by
 refine⟨enters_of Tryz.func122 (by kernel_rfl) rfl,?_⟩
 intro w br bv bt str r cs h hlen hv ht hsz d1 d2 d3 d4;have hbt:=ht.lt;have cv:=hv.cell 0;simp only[gq]at cv;have hsz':10+1≤cs.size:=by rw[show Shape.sz (.list (.list (axuS n)))=1 from rfl]at hsz;exact hsz
 have HR:=hid h;have HV:=hid hv;have HT:=hid ht;have HG:=hid hg;clear h hv ht hg hsz;go_enter Tryz.func122,Tryz.ntmps122
 go_wp2_with fail
 refine(el_l_axiomUse n (L-1) _ _ _ _ br str (some r) HR.out (lim hlen) (elr_x n (L-1) HG.out w br bv str HV.out d2)).mono ?_;rintro e w1⟨v,rfl,hty,hst,hf,htx⟩;have hb1:=HT.out.fr hf d1;obtain⟨zA,zk,zc,rfl⟩:=ty_list hty;rw[val_list];obtain⟨y0,e0⟩:∃y,w1.cell? ⟨bt,10,none⟩=some y:=⟨_,(hb1.cell 10).trans (Array.getElem?_eq_getElem (by omega))⟩
 have f0:=hb1.frozen 10;have HB1:=hid hb1;have HTY:=hid hty;have HST:=hid hst;have HF:=hid hf;have HTX:=hid htx;clear hb1 hty hst hf htx;go_wp2;go_end0
 exact CloPost.of HTY.out HST.out HF.out HTX.out (HB1.out.set 10 (.slice zA zk zc)) ((Fr.refl _ _).wr _ _) hbt d1 d4
set_option maxHeartbeats 4000000 in
theorem clo_claim_0(L:Nat)(hg:Reads 105 .int (L-1)):CloR 127 .int L 68 0:=by
 refine⟨enters_of Tryz.func127 (by kernel_rfl) rfl,?_⟩
 intro w br bv bt str r cs h hlen hv ht hsz d1 d2 d3 d4;have hbt:=ht.lt;have cv:=hv.cell 0;simp only[gq]at cv;have hsz':0+1≤cs.size:=by rw[show Shape.sz .int=1 from rfl]at hsz;exact hsz
 have HR:=hid h;have HV:=hid hv;have HT:=hid ht;have HG:=hid hg;clear h hv ht hg hsz;go_enter Tryz.func127,Tryz.ntmps127
 go_wp2_with fail
 refine(HG.out _ br str (some r) HR.out (lim hlen)).mono ?_;rintro e w1⟨v,rfl,hty,hst,hf,htx⟩;have hb1:=HT.out.fr hf d1;obtain⟨zn,rfl⟩:=ty_int hty;rw[val_int];obtain⟨y0,e0⟩:∃y,w1.cell? ⟨bt,0,none⟩=some y:=⟨_,(hb1.cell 0).trans (Array.getElem?_eq_getElem (by omega))⟩
 have f0:=hb1.frozen 0;have HB1:=hid hb1;have HTY:=hid hty;have HST:=hid hst;have HF:=hid hf;have HTX:=hid htx;clear hb1 hty hst hf htx;go_wp2;go_end0
 exact CloPost.of HTY.out HST.out HF.out HTX.out (HB1.out.set 0 (.int .i64 zn)) ((Fr.refl _ _).wr _ _) hbt d1 d4
set_option maxHeartbeats 4000000 in
theorem clo_claim_1(L:Nat)(hg:Reads 105 .int (L-1)):CloR 128 .int L 68 1:=by
 refine⟨enters_of Tryz.func128 (by kernel_rfl) rfl,?_⟩
 intro w br bv bt str r cs h hlen hv ht hsz d1 d2 d3 d4;have hbt:=ht.lt;have cv:=hv.cell 0;simp only[gq]at cv;have hsz':1+1≤cs.size:=by rw[show Shape.sz .int=1 from rfl]at hsz;exact hsz
 have HR:=hid h;have HV:=hid hv;have HT:=hid ht;have HG:=hid hg;clear h hv ht hg hsz;go_enter Tryz.func128,Tryz.ntmps128
 go_wp2_with fail
 refine(HG.out _ br str (some r) HR.out (lim hlen)).mono ?_;rintro e w1⟨v,rfl,hty,hst,hf,htx⟩;have hb1:=HT.out.fr hf d1;obtain⟨zn,rfl⟩:=ty_int hty;rw[val_int];obtain⟨y0,e0⟩:∃y,w1.cell? ⟨bt,1,none⟩=some y:=⟨_,(hb1.cell 1).trans (Array.getElem?_eq_getElem (by omega))⟩
 have f0:=hb1.frozen 1;have HB1:=hid hb1;have HTY:=hid hty;have HST:=hid hst;have HF:=hid hf;have HTX:=hid htx;clear hb1 hty hst hf htx;go_wp2;go_end0
 exact CloPost.of HTY.out HST.out HF.out HTX.out (HB1.out.set 1 (.int .i64 zn)) ((Fr.refl _ _).wr _ _) hbt d1 d4
set_option maxHeartbeats 4000000 in
theorem clo_cert_0(L:Nat)(hg:Reads 33 .bool (L-1)):CloR 32 .bool L 34 0:=by
 refine⟨enters_of Tryz.func32 (by kernel_rfl) rfl,?_⟩
 intro w br bv bt str r cs h hlen hv ht hsz d1 d2 d3 d4;have hbt:=ht.lt;have cv:=hv.cell 0;simp only[gq]at cv;have hsz':0+1≤cs.size:=by rw[show Shape.sz .bool=1 from rfl]at hsz;exact hsz
 have HR:=hid h;have HV:=hid hv;have HT:=hid ht;have HG:=hid hg;clear h hv ht hg hsz;go_enter Tryz.func32,Tryz.ntmps32
 go_wp2_with fail
 refine(HG.out _ br str (some r) HR.out (lim hlen)).mono ?_;rintro e w1⟨v,rfl,hty,hst,hf,htx⟩;have hb1:=HT.out.fr hf d1;obtain⟨zb,rfl⟩:=ty_bool hty;rw[val_bool];obtain⟨y0,e0⟩:∃y,w1.cell? ⟨bt,0,none⟩=some y:=⟨_,(hb1.cell 0).trans (Array.getElem?_eq_getElem (by omega))⟩
 have f0:=hb1.frozen 0;have HB1:=hid hb1;have HTY:=hid hty;have HST:=hid hst;have HF:=hid hf;have HTX:=hid htx;clear hb1 hty hst hf htx;go_wp2;go_end0
 exact CloPost.of HTY.out HST.out HF.out HTX.out (HB1.out.set 0 (.bool zb)) ((Fr.refl _ _).wr _ _) hbt d1 d4
set_option maxHeartbeats 4000000 in
theorem clo_cert_1(L:Nat)(hg:Reads 35 metricS (L-1)):CloR 34 metricS L 34 1:=by
 refine⟨enters_of Tryz.func34 (by kernel_rfl) rfl,?_⟩
 intro w br bv bt str r cs h hlen hv ht hsz d1 d2 d3 d4;have hbt:=ht.lt;have cv:=hv.cell 0;simp only[gq]at cv;have hsz':1+2≤cs.size:=by rw[show Shape.sz metricS=2 from sz_metric]at hsz;exact hsz
 have HR:=hid h;have HV:=hid hv;have HT:=hid ht;have HG:=hid hg;clear h hv ht hg hsz;go_enter Tryz.func34,Tryz.ntmps34
 go_wp2_with fail
 refine(HG.out _ br str (some r) HR.out (lim hlen)).mono ?_;rintro e w1⟨v,rfl,hty,hst,hf,htx⟩;have hb1:=HT.out.fr hf d1;obtain⟨z0A,z0k,z0c,z1A,z1k,z1c,rfl⟩:=ty_metric hty;rw[val_metric];obtain⟨y0,e0⟩:∃y,w1.cell? ⟨bt,1,none⟩=some y:=⟨_,(hb1.cell 1).trans (Array.getElem?_eq_getElem (by omega))⟩
 have f0:=hb1.frozen 1;obtain⟨y1,e1⟩:∃y,w1.cell? ⟨bt,2,none⟩=some y:=⟨_,(hb1.cell 2).trans (Array.getElem?_eq_getElem (by omega))⟩
 have f1:=hb1.frozen 2;have HB1:=hid hb1;have HTY:=hid hty;have HST:=hid hst;have HF:=hid hf;have HTX:=hid htx;clear hb1 hty hst hf htx;go_wp2;go_end0
 exact CloPost.of HTY.out HST.out HF.out HTX.out ((HB1.out.set 1 (.slice z0A z0k z0c)).set 2 (.slice z1A z1k z1c)) (((Fr.refl _ _).wr _ _).wr _ _) hbt d1 d4
set_option maxHeartbeats 4000000 in
theorem clo_cert_2(L:Nat)(hg:Reads 38 relationS (L-1)):CloR 36 (.list relationS) L 34 3:=by
 refine⟨enters_of Tryz.func36 (by kernel_rfl) rfl,?_⟩
 intro w br bv bt str r cs h hlen hv ht hsz d1 d2 d3 d4;have hbt:=ht.lt;have cv:=hv.cell 0;simp only[gq]at cv;have hsz':3+1≤cs.size:=by rw[show Shape.sz (.list relationS)=1 from rfl]at hsz;exact hsz
 have HR:=hid h;have HV:=hid hv;have HT:=hid ht;have HG:=hid hg;clear h hv ht hg hsz;go_enter Tryz.func36,Tryz.ntmps36
 go_wp2_with fail
 refine(el_relation (L-1) _ _ _ _ br str (some r) HR.out (lim hlen) (ElR.meth (enters_of Tryz.func38 (by kernel_rfl) rfl) HG.out br str _)).mono ?_
 rintro e w1⟨v,rfl,hty,hst,hf,htx⟩;have hb1:=HT.out.fr hf d1;obtain⟨zA,zk,zc,rfl⟩:=ty_list hty;rw[val_list];obtain⟨y0,e0⟩:∃y,w1.cell? ⟨bt,3,none⟩=some y:=⟨_,(hb1.cell 3).trans (Array.getElem?_eq_getElem (by omega))⟩
 have f0:=hb1.frozen 3;have HB1:=hid hb1;have HTY:=hid hty;have HST:=hid hst;have HF:=hid hf;have HTX:=hid htx;clear hb1 hty hst hf htx;go_wp2;go_end0
 exact CloPost.of HTY.out HST.out HF.out HTX.out (HB1.out.set 3 (.slice zA zk zc)) ((Fr.refl _ _).wr _ _) hbt d1 d4
set_option maxHeartbeats 4000000 in
theorem clo_cert_3(n:Nat)(L:Nat)(hg:Reads 40 (flowS n) (L-1)):CloR 39 (flowS n) L 34 4:=by
 refine⟨enters_of Tryz.func39 (by kernel_rfl) rfl,?_⟩
 intro w br bv bt str r cs h hlen hv ht hsz d1 d2 d3 d4;have hbt:=ht.lt;have cv:=hv.cell 0;simp only[gq]at cv;have hsz':4+3≤cs.size:=by rw[show Shape.sz (flowS n)=3 from sz_flow]at hsz;exact hsz
 have HR:=hid h;have HV:=hid hv;have HT:=hid ht;have HG:=hid hg;clear h hv ht hg hsz;go_enter Tryz.func39,Tryz.ntmps39
 go_wp2_with fail
 refine(HG.out _ br str (some r) HR.out (lim hlen)).mono ?_;rintro e w1⟨v,rfl,hty,hst,hf,htx⟩;have hb1:=HT.out.fr hf d1;obtain⟨z0A,z0k,z0c,z1A,z1k,z1c,z2A,z2k,z2c,rfl⟩:=ty_flow hty;rw[val_flow];obtain⟨y0,e0⟩:∃y,w1.cell? ⟨bt,4,none⟩=some y:=⟨_,(hb1.cell 4).trans (Array.getElem?_eq_getElem (by omega))⟩
 have f0:=hb1.frozen 4;obtain⟨y1,e1⟩:∃y,w1.cell? ⟨bt,5,none⟩=some y:=⟨_,(hb1.cell 5).trans (Array.getElem?_eq_getElem (by omega))⟩
 have f1:=hb1.frozen 5;obtain⟨y2,e2⟩:∃y,w1.cell? ⟨bt,6,none⟩=some y:=⟨_,(hb1.cell 6).trans (Array.getElem?_eq_getElem (by omega))⟩
 have f2:=hb1.frozen 6;have HB1:=hid hb1;have HTY:=hid hty;have HST:=hid hst;have HF:=hid hf;have HTX:=hid htx;clear hb1 hty hst hf htx;go_wp2;go_end0
 exact CloPost.of HTY.out HST.out HF.out HTX.out (((HB1.out.set 4 (.slice z0A z0k z0c)).set 5 (.slice z1A z1k z1c)).set 6 (.slice z2A z2k z2c)) ((((Fr.refl _ _).wr _ _).wr _ _).wr _ _) hbt d1 d4
set_option maxHeartbeats 4000000 in
theorem clo_cert_4(n:Nat)(L:Nat)(hg:Reads 43 (nodeS n) (L-1)):CloR 41 (.list (nodeS n)) L 34 7:=by
 refine⟨enters_of Tryz.func41 (by kernel_rfl) rfl,?_⟩
 intro w br bv bt str r cs h hlen hv ht hsz d1 d2 d3 d4;have hbt:=ht.lt;have cv:=hv.cell 0;simp only[gq]at cv;have hsz':7+1≤cs.size:=by rw[show Shape.sz (.list (nodeS n))=1 from rfl]at hsz;exact hsz
 have HR:=hid h;have HV:=hid hv;have HT:=hid ht;have HG:=hid hg;clear h hv ht hg hsz;go_enter Tryz.func41,Tryz.ntmps41
 go_wp2_with fail
 refine(el_node n (L-1) _ _ _ _ br str (some r) HR.out (lim hlen) (ElR.meth (enters_of Tryz.func43 (by kernel_rfl) rfl) HG.out br str _)).mono ?_
 rintro e w1⟨v,rfl,hty,hst,hf,htx⟩;have hb1:=HT.out.fr hf d1;obtain⟨zA,zk,zc,rfl⟩:=ty_list hty;rw[val_list];obtain⟨y0,e0⟩:∃y,w1.cell? ⟨bt,7,none⟩=some y:=⟨_,(hb1.cell 7).trans (Array.getElem?_eq_getElem (by omega))⟩
 have f0:=hb1.frozen 7;have HB1:=hid hb1;have HTY:=hid hty;have HST:=hid hst;have HF:=hid hf;have HTX:=hid htx;clear hb1 hty hst hf htx;go_wp2;go_end0
 exact CloPost.of HTY.out HST.out HF.out HTX.out (HB1.out.set 7 (.slice zA zk zc)) ((Fr.refl _ _).wr _ _) hbt d1 d4
set_option maxHeartbeats 4000000 in
theorem clo_cert_5(L:Nat)(hg:Reads 46 claimS (L-1)):CloR 44 (.list claimS) L 34 8:=by
 refine⟨enters_of Tryz.func44 (by kernel_rfl) rfl,?_⟩
 intro w br bv bt str r cs h hlen hv ht hsz d1 d2 d3 d4;have hbt:=ht.lt;have cv:=hv.cell 0;simp only[gq]at cv;have hsz':8+1≤cs.size:=by rw[show Shape.sz (.list claimS)=1 from rfl]at hsz;exact hsz
 have HR:=hid h;have HV:=hid hv;have HT:=hid ht;have HG:=hid hg;clear h hv ht hg hsz;go_enter Tryz.func44,Tryz.ntmps44
 go_wp2_with fail
 refine(el_claim (L-1) _ _ _ _ br str (some r) HR.out (lim hlen) (ElR.meth (enters_of Tryz.func46 (by kernel_rfl) rfl) HG.out br str _)).mono ?_
 rintro e w1⟨v,rfl,hty,hst,hf,htx⟩;have hb1:=HT.out.fr hf d1;obtain⟨zA,zk,zc,rfl⟩:=ty_list hty;rw[val_list];obtain⟨y0,e0⟩:∃y,w1.cell? ⟨bt,8,none⟩=some y:=⟨_,(hb1.cell 8).trans (Array.getElem?_eq_getElem (by omega))⟩
 have f0:=hb1.frozen 8;have HB1:=hid hb1;have HTY:=hid hty;have HST:=hid hst;have HF:=hid hf;have HTX:=hid htx;clear hb1 hty hst hf htx;go_wp2;go_end0
 exact CloPost.of HTY.out HST.out HF.out HTX.out (HB1.out.set 8 (.slice zA zk zc)) ((Fr.refl _ _).wr _ _) hbt d1 d4
set_option maxHeartbeats 4000000 in
theorem reads_integers(L:Nat)(hg:Reads 105 .int L):Reads 99 (.list .int) L:=by
 intro w br str o hr hl;have HR:=hid hr;have HL:=hid hl;have HG:=hid hg;clear hr hl hg;go_enter Tryz.func99,Tryz.ntmps99
 go_wp2_with fail
 refine(el_int L _ _ _ _ br str o HR.out HL.out (ElR.meth (enters_of Tryz.func105 (by kernel_rfl) rfl) HG.out br str _)).mono ?_
 rintro e w1⟨v,rfl,hp⟩;have hty:=hp.1;obtain⟨zA,zk,zc,rfl⟩:=ty_list hty;rw[val_list];have HP:=hid hp;clear hp hty;go_wp2;go_ret
 exact⟨_,rfl,HP.out⟩
set_option maxHeartbeats 4000000 in
theorem reads_longs(L:Nat)(hg:Reads 184 .int L):Reads 90 (.list .int) L:=by
 intro w br str o hr hl;have HR:=hid hr;have HL:=hid hl;have HG:=hid hg;clear hr hl hg;go_enter Tryz.func90,Tryz.ntmps90
 go_wp2_with fail
 refine(el_int64 L _ _ _ _ br str o HR.out HL.out (ElR.meth (enters_of Tryz.func184 (by kernel_rfl) rfl) HG.out br str _)).mono ?_
 rintro e w1⟨v,rfl,hp⟩;have hty:=hp.1;obtain⟨zA,zk,zc,rfl⟩:=ty_list hty;rw[val_list];have HP:=hid hp;clear hp hty;go_wp2;go_ret
 exact⟨_,rfl,HP.out⟩
set_option maxHeartbeats 4000000 in
theorem reads_rats(L:Nat)(hg:Reads 194 .rat L):Reads 121 (.list .rat) L:=by
 intro w br str o hr hl;have HR:=hid hr;have HL:=hid hl;have HG:=hid hg;clear hr hl hg;go_enter Tryz.func121,Tryz.ntmps121
 go_wp2_with fail
 refine(el_rat L _ _ _ _ br str o HR.out HL.out (ElR.meth (enters_of Tryz.func194 (by kernel_rfl) rfl) HG.out br str _)).mono ?_
 rintro e w1⟨v,rfl,hp⟩;have hty:=hp.1;obtain⟨zA,zk,zc,rfl⟩:=ty_list hty;rw[val_list];have HP:=hid hp;clear hp hty;go_wp2;go_ret
 exact⟨_,rfl,HP.out⟩
end Go.Proofs.YtellcholbkoakaaGreatDoor
