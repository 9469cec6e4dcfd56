/-
 The writer: fields (printed by gen_codec.py).
-/
import Derived.Test.YtellcholbkoakaaGreatDoorHCP1
namespace Go.Proofs.YtellcholbkoakaaGreatDoor
open Go.Lib (hid)
open Go.RowKit AC
set_option linter.unusedVariables false
set_option linter.unusedSimpArgs false
set_option maxHeartbeats 4000000 in
theorem uh4(hg:uk 158 .int):uQ 285 .int 219 0:=by
 refine⟨enters_of Tryz.func285 (by kernel_rfl) rfl,?_⟩
 intro w bw bv bt o cs v t h hv ht d1 d2 a1 a0;obtain⟨zn,rfl⟩:=ug a0.ty;have cv:=hv.cell 0;simp only[gq]at cv;have e0:=(ht.cell 0).trans (a1 0 (.int .i64 zn) rfl);have key:=hg w bw o _ t h a0;rw[uo]at key;have a2:=hid key;clear key;clear h hv ht a1 a0 hg;go_enter Tryz.func285,Tryz.ntmps285
 go_wp2_with fail
 refine a2.out.mono ?_;rintro e w1⟨rfl,hp⟩;go_wp2;go_end0
 exact⟨rfl,hp⟩
set_option maxHeartbeats 4000000 in
theorem uh5(hg:uk 224 .int):uQ 286 .int 219 1:=by
 refine⟨enters_of Tryz.func286 (by kernel_rfl) rfl,?_⟩
 intro w bw bv bt o cs v t h hv ht d1 d2 a1 a0;obtain⟨zn,rfl⟩:=ug a0.ty;have cv:=hv.cell 0;simp only[gq]at cv;have e0:=(ht.cell 1).trans (a1 0 (.int .i64 zn) rfl);have key:=hg w bw o _ t h a0;rw[uo]at key;have a2:=hid key;clear key;clear h hv ht a1 a0 hg;go_enter Tryz.func286,Tryz.ntmps286
 go_wp2_with fail
 refine a2.out.mono ?_;rintro e w1⟨rfl,hp⟩;go_wp2;go_end0
 exact⟨rfl,hp⟩
set_option maxHeartbeats 4000000 in
theorem ura(hg:uk 224 .int):uQ 225 .int 148 0:=by
 refine⟨enters_of Tryz.func225 (by kernel_rfl) rfl,?_⟩
 intro w bw bv bt o cs v t h hv ht d1 d2 a1 a0;obtain⟨zn,rfl⟩:=ug a0.ty;have cv:=hv.cell 0;simp only[gq]at cv;have e0:=(ht.cell 0).trans (a1 0 (.int .i64 zn) rfl);have key:=hg w bw o _ t h a0;rw[uo]at key;have a2:=hid key;clear key;clear h hv ht a1 a0 hg;go_enter Tryz.func225,Tryz.ntmps225
 go_wp2_with fail
 refine a2.out.mono ?_;rintro e w1⟨rfl,hp⟩;go_wp2;go_end0
 exact⟨rfl,hp⟩
set_option maxHeartbeats 4000000 in
theorem urb(hg:uk 228 uH):uQ 226 (.list uH) 148 1:=by
 refine⟨enters_of Tryz.func226 (by kernel_rfl) rfl,?_⟩
 intro w bw bv bt o cs v t h hv ht d1 d2 a1 a0;obtain⟨zA,zk,zc,rfl⟩:=ua a0.ty;have cv:=hv.cell 0;simp only[gq]at cv;have e0:=(ht.cell 1).trans (a1 0 (.slice zA zk zc) rfl);have a2:=hid (uq9 228 #[.pointer (some ⟨bw,0,none⟩)] #[] w bw o zA zk zc t h a0 (ElW.meth (enters_of Tryz.func228 (by kernel_rfl) rfl) hg bw w))
 clear h hv ht a1 a0 hg;go_enter Tryz.func226,Tryz.ntmps226
 go_wp2_with fail
 refine a2.out.mono ?_;rintro e w1⟨rfl,hp⟩;go_wp2;go_end0
 exact⟨rfl,hp⟩
set_option maxHeartbeats 4000000 in
theorem uhf(hg:uk 148 uX):uQ 146 (.list uX) 105 0:=by
 refine⟨enters_of Tryz.func146 (by kernel_rfl) rfl,?_⟩
 intro w bw bv bt o cs v t h hv ht d1 d2 a1 a0;obtain⟨zA,zk,zc,rfl⟩:=ua a0.ty;have cv:=hv.cell 0;simp only[gq]at cv;have e0:=(ht.cell 0).trans (a1 0 (.slice zA zk zc) rfl);have a2:=hid (uxf 148 #[.pointer (some ⟨bw,0,none⟩)] #[] w bw o zA zk zc t h a0 (ElW.meth (enters_of Tryz.func148 (by kernel_rfl) rfl) hg bw w))
 clear h hv ht a1 a0 hg;go_enter Tryz.func146,Tryz.ntmps146
 go_wp2_with fail
 refine a2.out.mono ?_;rintro e w1⟨rfl,hp⟩;go_wp2;go_end0
 exact⟨rfl,hp⟩
set_option maxHeartbeats 4000000 in
theorem uhg(hg:uk 148 uX):uQ 149 (.list uX) 105 1:=by
 refine⟨enters_of Tryz.func149 (by kernel_rfl) rfl,?_⟩
 intro w bw bv bt o cs v t h hv ht d1 d2 a1 a0;obtain⟨zA,zk,zc,rfl⟩:=ua a0.ty;have cv:=hv.cell 0;simp only[gq]at cv;have e0:=(ht.cell 1).trans (a1 0 (.slice zA zk zc) rfl);have a2:=hid (uxf 148 #[.pointer (some ⟨bw,0,none⟩)] #[] w bw o zA zk zc t h a0 (ElW.meth (enters_of Tryz.func148 (by kernel_rfl) rfl) hg bw w))
 clear h hv ht a1 a0 hg;go_enter Tryz.func149,Tryz.ntmps149
 go_wp2_with fail
 refine a2.out.mono ?_;rintro e w1⟨rfl,hp⟩;go_wp2;go_end0
 exact⟨rfl,hp⟩
set_option maxHeartbeats 4000000 in
theorem ujl(hg:uk 144 (.list .int)):uQ 143 (.list .int) 25 0:=by
 refine⟨enters_of Tryz.func143 (by kernel_rfl) rfl,?_⟩
 intro w bw bv bt o cs v t h hv ht d1 d2 a1 a0;obtain⟨zA,zk,zc,rfl⟩:=ua a0.ty;have cv:=hv.cell 0;simp only[gq]at cv;have e0:=(ht.cell 0).trans (a1 0 (.slice zA zk zc) rfl);have key:=hg w bw o _ t h a0;rw[ue]at key;have a2:=hid key;clear key;clear h hv ht a1 a0 hg;go_enter Tryz.func143,Tryz.ntmps143
 go_wp2_with fail
 refine a2.out.mono ?_;rintro e w1⟨rfl,hp⟩;go_wp2;go_end0
 exact⟨rfl,hp⟩
set_option maxHeartbeats 4000000 in
theorem ujm(hg:uk 144 (.list .int)):uQ 145 (.list .int) 25 1:=by
 refine⟨enters_of Tryz.func145 (by kernel_rfl) rfl,?_⟩
 intro w bw bv bt o cs v t h hv ht d1 d2 a1 a0;obtain⟨zA,zk,zc,rfl⟩:=ua a0.ty;have cv:=hv.cell 0;simp only[gq]at cv;have e0:=(ht.cell 1).trans (a1 0 (.slice zA zk zc) rfl);have key:=hg w bw o _ t h a0;rw[ue]at key;have a2:=hid key;clear key;clear h hv ht a1 a0 hg;go_enter Tryz.func145,Tryz.ntmps145
 go_wp2_with fail
 refine a2.out.mono ?_;rintro e w1⟨rfl,hp⟩;go_wp2;go_end0
 exact⟨rfl,hp⟩
set_option maxHeartbeats 4000000 in
theorem urc(hg:uk 158 .int):uQ 287 .int 116 0:=by
 refine⟨enters_of Tryz.func287 (by kernel_rfl) rfl,?_⟩
 intro w bw bv bt o cs v t h hv ht d1 d2 a1 a0;obtain⟨zn,rfl⟩:=ug a0.ty;have cv:=hv.cell 0;simp only[gq]at cv;have e0:=(ht.cell 0).trans (a1 0 (.int .i64 zn) rfl);have key:=hg w bw o _ t h a0;rw[uo]at key;have a2:=hid key;clear key;clear h hv ht a1 a0 hg;go_enter Tryz.func287,Tryz.ntmps287
 go_wp2_with fail
 refine a2.out.mono ?_;rintro e w1⟨rfl,hp⟩;go_wp2;go_end0
 exact⟨rfl,hp⟩
set_option maxHeartbeats 4000000 in
theorem urd(hg:uk 158 .int):uQ 288 .int 116 1:=by
 refine⟨enters_of Tryz.func288 (by kernel_rfl) rfl,?_⟩
 intro w bw bv bt o cs v t h hv ht d1 d2 a1 a0;obtain⟨zn,rfl⟩:=ug a0.ty;have cv:=hv.cell 0;simp only[gq]at cv;have e0:=(ht.cell 1).trans (a1 0 (.int .i64 zn) rfl);have key:=hg w bw o _ t h a0;rw[uo]at key;have a2:=hid key;clear key;clear h hv ht a1 a0 hg;go_enter Tryz.func288,Tryz.ntmps288
 go_wp2_with fail
 refine a2.out.mono ?_;rintro e w1⟨rfl,hp⟩;go_wp2;go_end0
 exact⟨rfl,hp⟩
set_option maxHeartbeats 4000000 in
theorem ure(n:Nat)(hg:uk 231 (ua1 n)):uQ 289 (.list (ua1 n)) 116 2:=by
 refine⟨enters_of Tryz.func289 (by kernel_rfl) rfl,?_⟩
 intro w bw bv bt o cs v t h hv ht d1 d2 a1 a0;obtain⟨zA,zk,zc,rfl⟩:=ua a0.ty;have cv:=hv.cell 0;simp only[gq]at cv;have e0:=(ht.cell 2).trans (a1 0 (.slice zA zk zc) rfl);have a2:=hid (uzh n 231 #[.pointer (some ⟨bw,0,none⟩)] #[] w bw o zA zk zc t h a0 (ElW.meth (enters_of Tryz.func231 (by kernel_rfl) rfl) hg bw w))
 clear h hv ht a1 a0 hg;go_enter Tryz.func289,Tryz.ntmps289
 go_wp2_with fail
 refine a2.out.mono ?_;rintro e w1⟨rfl,hp⟩;go_wp2;go_end0
 exact⟨rfl,hp⟩
set_option maxHeartbeats 4000000 in
theorem uk4(n:Nat)(hg:uk 231 (ua1 n)):uQ 230 (ua1 n) 118 0:=by
 refine⟨enters_of Tryz.func230 (by kernel_rfl) rfl,?_⟩
 intro w bw bv bt o cs v t h hv ht d1 d2 a0 a1;obtain⟨a3,a4,a5,a7,a6,rfl⟩:=uek a1.ty;have cv:=hv.cell 0;simp only[gq]at cv;have e0:=(ht.cell 0).trans (a0 0 (.int .i64 a3) rfl);have e1:=(ht.cell 1).trans (a0 1 (.int .i64 a4) rfl);have e2:=(ht.cell 2).trans (a0 2 (.slice a5 a7 a6) rfl);have key:=hg w bw o _ t h a1;rw[udg]at key;have a2:=hid key;clear key;clear h hv ht a0 a1 hg;go_enter Tryz.func230,Tryz.ntmps230
 go_wp2_with fail
 refine a2.out.mono ?_;rintro e w1⟨rfl,hp⟩;go_wp2;go_end0
 exact⟨rfl,hp⟩
set_option maxHeartbeats 4000000 in
theorem uk5(hg:uk 152 (.list .int)):uQ 232 (.list .int) 118 3:=by
 refine⟨enters_of Tryz.func232 (by kernel_rfl) rfl,?_⟩
 intro w bw bv bt o cs v t h hv ht d1 d2 a1 a0;obtain⟨zA,zk,zc,rfl⟩:=ua a0.ty;have cv:=hv.cell 0;simp only[gq]at cv;have e0:=(ht.cell 3).trans (a1 0 (.slice zA zk zc) rfl);have key:=hg w bw o _ t h a0;rw[ue]at key;have a2:=hid key;clear key;clear h hv ht a1 a0 hg;go_enter Tryz.func232,Tryz.ntmps232
 go_wp2_with fail
 refine a2.out.mono ?_;rintro e w1⟨rfl,hp⟩;go_wp2;go_end0
 exact⟨rfl,hp⟩
set_option maxHeartbeats 4000000 in
theorem une(hg:uk 152 (.list .int)):uQ 150 (.list (.list .int)) 30 0:=by
 refine⟨enters_of Tryz.func150 (by kernel_rfl) rfl,?_⟩
 intro w bw bv bt o cs v t h hv ht d1 d2 a1 a0;obtain⟨zA,zk,zc,rfl⟩:=ua a0.ty;have cv:=hv.cell 0;simp only[gq]at cv;have e0:=(ht.cell 0).trans (a1 0 (.slice zA zk zc) rfl);have a2:=hid (uo0 152 #[.pointer (some ⟨bw,0,none⟩)] #[] w bw o zA zk zc t h a0 (ElW.meth (enters_of Tryz.func152 (by kernel_rfl) rfl) hg bw w))
 clear h hv ht a1 a0 hg;go_enter Tryz.func150,Tryz.ntmps150
 go_wp2_with fail
 refine a2.out.mono ?_;rintro e w1⟨rfl,hp⟩;go_wp2;go_end0
 exact⟨rfl,hp⟩
set_option maxHeartbeats 4000000 in
theorem unf(hg:uk 152 (.list .int)):uQ 153 (.list (.list .int)) 30 1:=by
 refine⟨enters_of Tryz.func153 (by kernel_rfl) rfl,?_⟩
 intro w bw bv bt o cs v t h hv ht d1 d2 a1 a0;obtain⟨zA,zk,zc,rfl⟩:=ua a0.ty;have cv:=hv.cell 0;simp only[gq]at cv;have e0:=(ht.cell 1).trans (a1 0 (.slice zA zk zc) rfl);have a2:=hid (uo0 152 #[.pointer (some ⟨bw,0,none⟩)] #[] w bw o zA zk zc t h a0 (ElW.meth (enters_of Tryz.func152 (by kernel_rfl) rfl) hg bw w))
 clear h hv ht a1 a0 hg;go_enter Tryz.func153,Tryz.ntmps153
 go_wp2_with fail
 refine a2.out.mono ?_;rintro e w1⟨rfl,hp⟩;go_wp2;go_end0
 exact⟨rfl,hp⟩
set_option maxHeartbeats 4000000 in
theorem ung(n:Nat)(hg:uk 156 (uae n)):uQ 154 (.list (uae n)) 30 2:=by
 refine⟨enters_of Tryz.func154 (by kernel_rfl) rfl,?_⟩
 intro w bw bv bt o cs v t h hv ht d1 d2 a1 a0;obtain⟨zA,zk,zc,rfl⟩:=ua a0.ty;have cv:=hv.cell 0;simp only[gq]at cv;have e0:=(ht.cell 2).trans (a1 0 (.slice zA zk zc) rfl);have a2:=hid (uwi n 156 #[.pointer (some ⟨bw,0,none⟩)] #[] w bw o zA zk zc t h a0 (ElW.meth (enters_of Tryz.func156 (by kernel_rfl) rfl) hg bw w))
 clear h hv ht a1 a0 hg;go_enter Tryz.func154,Tryz.ntmps154
 go_wp2_with fail
 refine a2.out.mono ?_;rintro e w1⟨rfl,hp⟩;go_wp2;go_end0
 exact⟨rfl,hp⟩
set_option maxHeartbeats 4000000 in
theorem uk6(hg:uk 158 .int):uQ 356 .int 143 0:=by
 refine⟨enters_of Tryz.func356 (by kernel_rfl) rfl,?_⟩
 intro w bw bv bt o cs v t h hv ht d1 d2 a1 a0;obtain⟨zn,rfl⟩:=ug a0.ty;have cv:=hv.cell 0;simp only[gq]at cv;have e0:=(ht.cell 0).trans (a1 0 (.int .i64 zn) rfl);have key:=hg w bw o _ t h a0;rw[uo]at key;have a2:=hid key;clear key;clear h hv ht a1 a0 hg;go_enter Tryz.func356,Tryz.ntmps356
 go_wp2_with fail
 refine a2.out.mono ?_;rintro e w1⟨rfl,hp⟩;go_wp2;go_end0
 exact⟨rfl,hp⟩
set_option maxHeartbeats 4000000 in
theorem uk7(n:Nat)(hg:uk 332 (uy n)):uQ 357 (.list (uy n)) 143 1:=by
 refine⟨enters_of Tryz.func357 (by kernel_rfl) rfl,?_⟩
 intro w bw bv bt o cs v t h hv ht d1 d2 a1 a0;obtain⟨zA,zk,zc,rfl⟩:=ua a0.ty;have cv:=hv.cell 0;simp only[gq]at cv;have e0:=(ht.cell 1).trans (a1 0 (.slice zA zk zc) rfl);have a2:=hid (uwj n 332 #[.pointer (some ⟨bw,0,none⟩)] #[] w bw o zA zk zc t h a0 (ElW.meth (enters_of Tryz.func332 (by kernel_rfl) rfl) hg bw w))
 clear h hv ht a1 a0 hg;go_enter Tryz.func357,Tryz.ntmps357
 go_wp2_with fail
 refine a2.out.mono ?_;rintro e w1⟨rfl,hp⟩;go_wp2;go_end0
 exact⟨rfl,hp⟩
set_option maxHeartbeats 4000000 in
theorem ujn(hg:uk 158 .int):uQ 330 .int 145 0:=by
 refine⟨enters_of Tryz.func330 (by kernel_rfl) rfl,?_⟩
 intro w bw bv bt o cs v t h hv ht d1 d2 a1 a0;obtain⟨zn,rfl⟩:=ug a0.ty;have cv:=hv.cell 0;simp only[gq]at cv;have e0:=(ht.cell 0).trans (a1 0 (.int .i64 zn) rfl);have key:=hg w bw o _ t h a0;rw[uo]at key;have a2:=hid key;clear key;clear h hv ht a1 a0 hg;go_enter Tryz.func330,Tryz.ntmps330
 go_wp2_with fail
 refine a2.out.mono ?_;rintro e w1⟨rfl,hp⟩;go_wp2;go_end0
 exact⟨rfl,hp⟩
set_option maxHeartbeats 4000000 in
theorem ujo(n:Nat)(hg:uk 332 (uy n)):uQ 331 (uy n) 145 1:=by
 refine⟨enters_of Tryz.func331 (by kernel_rfl) rfl,?_⟩
 intro w bw bv bt o cs v t h hv ht d1 d2 a0 a1;obtain⟨a3,a4,a6,a5,rfl⟩:=ubz a1.ty;have cv:=hv.cell 0;simp only[gq]at cv;have e0:=(ht.cell 1).trans (a0 0 (.int .i64 a3) rfl);have e1:=(ht.cell 2).trans (a0 1 (.slice a4 a6 a5) rfl);have key:=hg w bw o _ t h a1;rw[ubp]at key;have a2:=hid key;clear key;clear h hv ht a0 a1 hg;go_enter Tryz.func331,Tryz.ntmps331
 go_wp2_with fail
 refine a2.out.mono ?_;rintro e w1⟨rfl,hp⟩;go_wp2;go_end0
 exact⟨rfl,hp⟩
set_option maxHeartbeats 4000000 in
theorem unh(hg:uk 148 uX):uQ 333 uX 150 0:=by
 refine⟨enters_of Tryz.func333 (by kernel_rfl) rfl,?_⟩
 intro w bw bv bt o cs v t h hv ht d1 d2 a0 a1;obtain⟨a3,a4,a6,a5,rfl⟩:=ua2 a1.ty;have cv:=hv.cell 0;simp only[gq]at cv;have e0:=(ht.cell 0).trans (a0 0 (.int .i64 a3) rfl);have e1:=(ht.cell 1).trans (a0 1 (.slice a4 a6 a5) rfl);have key:=hg w bw o _ t h a1;rw[ubg]at key;have a2:=hid key;clear key;clear h hv ht a0 a1 hg;go_enter Tryz.func333,Tryz.ntmps333
 go_wp2_with fail
 refine a2.out.mono ?_;rintro e w1⟨rfl,hp⟩;go_wp2;go_end0
 exact⟨rfl,hp⟩
set_option maxHeartbeats 4000000 in
theorem uni(hg:uk 158 .int):uQ 334 .int 150 2:=by
 refine⟨enters_of Tryz.func334 (by kernel_rfl) rfl,?_⟩
 intro w bw bv bt o cs v t h hv ht d1 d2 a1 a0;obtain⟨zn,rfl⟩:=ug a0.ty;have cv:=hv.cell 0;simp only[gq]at cv;have e0:=(ht.cell 2).trans (a1 0 (.int .i64 zn) rfl);have key:=hg w bw o _ t h a0;rw[uo]at key;have a2:=hid key;clear key;clear h hv ht a1 a0 hg;go_enter Tryz.func334,Tryz.ntmps334
 go_wp2_with fail
 refine a2.out.mono ?_;rintro e w1⟨rfl,hp⟩;go_wp2;go_end0
 exact⟨rfl,hp⟩
set_option maxHeartbeats 4000000 in
theorem unj(n:Nat)(hg:uk 294 (uO n)):uQ 292 (.list (uO n)) 80 0:=by
 refine⟨enters_of Tryz.func292 (by kernel_rfl) rfl,?_⟩
 intro w bw bv bt o cs v t h hv ht d1 d2 a1 a0;obtain⟨zA,zk,zc,rfl⟩:=ua a0.ty;have cv:=hv.cell 0;simp only[gq]at cv;have e0:=(ht.cell 0).trans (a1 0 (.slice zA zk zc) rfl);have a2:=hid (ut5 n 294 #[.pointer (some ⟨bw,0,none⟩)] #[] w bw o zA zk zc t h a0 (ElW.meth (enters_of Tryz.func294 (by kernel_rfl) rfl) hg bw w))
 clear h hv ht a1 a0 hg;go_enter Tryz.func292,Tryz.ntmps292
 go_wp2_with fail
 refine a2.out.mono ?_;rintro e w1⟨rfl,hp⟩;go_wp2;go_end0
 exact⟨rfl,hp⟩
set_option maxHeartbeats 4000000 in
theorem unk(hg:uk 297 ua5):uQ 295 (.list ua5) 80 1:=by
 refine⟨enters_of Tryz.func295 (by kernel_rfl) rfl,?_⟩
 intro w bw bv bt o cs v t h hv ht d1 d2 a1 a0;obtain⟨zA,zk,zc,rfl⟩:=ua a0.ty;have cv:=hv.cell 0;simp only[gq]at cv;have e0:=(ht.cell 1).trans (a1 0 (.slice zA zk zc) rfl);have a2:=hid (uye 297 #[.pointer (some ⟨bw,0,none⟩)] #[] w bw o zA zk zc t h a0 (ElW.meth (enters_of Tryz.func297 (by kernel_rfl) rfl) hg bw w))
 clear h hv ht a1 a0 hg;go_enter Tryz.func295,Tryz.ntmps295
 go_wp2_with fail
 refine a2.out.mono ?_;rintro e w1⟨rfl,hp⟩;go_wp2;go_end0
 exact⟨rfl,hp⟩
set_option maxHeartbeats 4000000 in
theorem unl(hg:uk 235 .rat):uQ 234 .rat 139 0:=by
 refine⟨enters_of Tryz.func234 (by kernel_rfl) rfl,?_⟩
 intro w bw bv bt o cs v t h hv ht d1 d2 a0 a1;obtain⟨zb,zA,zk,zc,zD,zl,zd,rfl⟩:=uay a1.ty;have cv:=hv.cell 0;simp only[gq]at cv;have e0:=(ht.cell 0).trans (a0 0 (.bool zb) rfl);have e1:=(ht.cell 1).trans (a0 1 (.slice zA zk zc) rfl);have e2:=(ht.cell 2).trans (a0 2 (.slice zD zl zd) rfl);have key:=hg w bw o _ t h a1;rw[uaz]at key;have a2:=hid key;clear key;clear h hv ht a0 a1 hg;go_enter Tryz.func234,Tryz.ntmps234
 go_wp2_with fail
 refine a2.out.mono ?_;rintro e w1⟨rfl,hp⟩;go_wp2;go_end0
 exact⟨rfl,hp⟩
set_option maxHeartbeats 4000000 in
theorem unm(n:Nat)(hg:uk 237 (uC n)):uQ 236 (uC n) 139 3:=by
 refine⟨enters_of Tryz.func236 (by kernel_rfl) rfl,?_⟩
 intro w bw bv bt o cs v t h hv ht d1 d2 a0 a1;obtain⟨a3,a5,a4,a6,a8,a7,rfl⟩:=uaj a1.ty;have cv:=hv.cell 0;simp only[gq]at cv;have e0:=(ht.cell 3).trans (a0 0 (.slice a3 a5 a4) rfl);have e1:=(ht.cell 4).trans (a0 1 (.slice a6 a8 a7) rfl);have key:=hg w bw o _ t h a1;rw[uau]at key;have a2:=hid key;clear key;clear h hv ht a0 a1 hg;go_enter Tryz.func236,Tryz.ntmps236
 go_wp2_with fail
 refine a2.out.mono ?_;rintro e w1⟨rfl,hp⟩;go_wp2;go_end0
 exact⟨rfl,hp⟩
set_option maxHeartbeats 4000000 in
theorem urf(hg:uk 158 .int):uQ 298 .int 89 0:=by
 refine⟨enters_of Tryz.func298 (by kernel_rfl) rfl,?_⟩
 intro w bw bv bt o cs v t h hv ht d1 d2 a1 a0;obtain⟨zn,rfl⟩:=ug a0.ty;have cv:=hv.cell 0;simp only[gq]at cv;have e0:=(ht.cell 0).trans (a1 0 (.int .i64 zn) rfl);have key:=hg w bw o _ t h a0;rw[uo]at key;have a2:=hid key;clear key;clear h hv ht a1 a0 hg;go_enter Tryz.func298,Tryz.ntmps298
 go_wp2_with fail
 refine a2.out.mono ?_;rintro e w1⟨rfl,hp⟩;go_wp2;go_end0
 exact⟨rfl,hp⟩
set_option maxHeartbeats 4000000 in
theorem urg(hg:uk 235 .rat):uQ 299 .rat 89 1:=by
 refine⟨enters_of Tryz.func299 (by kernel_rfl) rfl,?_⟩
 intro w bw bv bt o cs v t h hv ht d1 d2 a0 a1;obtain⟨zb,zA,zk,zc,zD,zl,zd,rfl⟩:=uay a1.ty;have cv:=hv.cell 0;simp only[gq]at cv;have e0:=(ht.cell 1).trans (a0 0 (.bool zb) rfl);have e1:=(ht.cell 2).trans (a0 1 (.slice zA zk zc) rfl);have e2:=(ht.cell 3).trans (a0 2 (.slice zD zl zd) rfl);have key:=hg w bw o _ t h a1;rw[uaz]at key;have a2:=hid key;clear key;clear h hv ht a0 a1 hg;go_enter Tryz.func299,Tryz.ntmps299
 go_wp2_with fail
 refine a2.out.mono ?_;rintro e w1⟨rfl,hp⟩;go_wp2;go_end0
 exact⟨rfl,hp⟩
set_option maxHeartbeats 4000000 in
theorem urh(n:Nat)(hg:uk 237 (uC n)):uQ 300 (uC n) 89 4:=by
 refine⟨enters_of Tryz.func300 (by kernel_rfl) rfl,?_⟩
 intro w bw bv bt o cs v t h hv ht d1 d2 a0 a1;obtain⟨a3,a5,a4,a6,a8,a7,rfl⟩:=uaj a1.ty;have cv:=hv.cell 0;simp only[gq]at cv;have e0:=(ht.cell 4).trans (a0 0 (.slice a3 a5 a4) rfl);have e1:=(ht.cell 5).trans (a0 1 (.slice a6 a8 a7) rfl);have key:=hg w bw o _ t h a1;rw[uau]at key;have a2:=hid key;clear key;clear h hv ht a0 a1 hg;go_enter Tryz.func300,Tryz.ntmps300
 go_wp2_with fail
 refine a2.out.mono ?_;rintro e w1⟨rfl,hp⟩;go_wp2;go_end0
 exact⟨rfl,hp⟩
set_option maxHeartbeats 4000000 in
theorem unn(hg:uk 158 .int):uQ 243 .int 82 0:=by
 refine⟨enters_of Tryz.func243 (by kernel_rfl) rfl,?_⟩
 intro w bw bv bt o cs v t h hv ht d1 d2 a1 a0;obtain⟨zn,rfl⟩:=ug a0.ty;have cv:=hv.cell 0;simp only[gq]at cv;have e0:=(ht.cell 0).trans (a1 0 (.int .i64 zn) rfl);have key:=hg w bw o _ t h a0;rw[uo]at key;have a2:=hid key;clear key;clear h hv ht a1 a0 hg;go_enter Tryz.func243,Tryz.ntmps243
 go_wp2_with fail
 refine a2.out.mono ?_;rintro e w1⟨rfl,hp⟩;go_wp2;go_end0
 exact⟨rfl,hp⟩
set_option maxHeartbeats 4000000 in
theorem uno(hg:uk 235 .rat):uQ 244 .rat 82 1:=by
 refine⟨enters_of Tryz.func244 (by kernel_rfl) rfl,?_⟩
 intro w bw bv bt o cs v t h hv ht d1 d2 a0 a1;obtain⟨zb,zA,zk,zc,zD,zl,zd,rfl⟩:=uay a1.ty;have cv:=hv.cell 0;simp only[gq]at cv;have e0:=(ht.cell 1).trans (a0 0 (.bool zb) rfl);have e1:=(ht.cell 2).trans (a0 1 (.slice zA zk zc) rfl);have e2:=(ht.cell 3).trans (a0 2 (.slice zD zl zd) rfl);have key:=hg w bw o _ t h a1;rw[uaz]at key;have a2:=hid key;clear key;clear h hv ht a0 a1 hg;go_enter Tryz.func244,Tryz.ntmps244
 go_wp2_with fail
 refine a2.out.mono ?_;rintro e w1⟨rfl,hp⟩;go_wp2;go_end0
 exact⟨rfl,hp⟩
set_option maxHeartbeats 4000000 in
theorem unp(n:Nat)(hg:uk 237 (uC n)):uQ 245 (uC n) 82 4:=by
 refine⟨enters_of Tryz.func245 (by kernel_rfl) rfl,?_⟩
 intro w bw bv bt o cs v t h hv ht d1 d2 a0 a1;obtain⟨a3,a5,a4,a6,a8,a7,rfl⟩:=uaj a1.ty;have cv:=hv.cell 0;simp only[gq]at cv;have e0:=(ht.cell 4).trans (a0 0 (.slice a3 a5 a4) rfl);have e1:=(ht.cell 5).trans (a0 1 (.slice a6 a8 a7) rfl);have key:=hg w bw o _ t h a1;rw[uau]at key;have a2:=hid key;clear key;clear h hv ht a0 a1 hg;go_enter Tryz.func245,Tryz.ntmps245
 go_wp2_with fail
 refine a2.out.mono ?_;rintro e w1⟨rfl,hp⟩;go_wp2;go_end0
 exact⟨rfl,hp⟩
set_option maxHeartbeats 4000000 in
theorem ujp(hg:uk 158 .int):uQ 238 .int 87 0:=by
 refine⟨enters_of Tryz.func238 (by kernel_rfl) rfl,?_⟩
 intro w bw bv bt o cs v t h hv ht d1 d2 a1 a0;obtain⟨zn,rfl⟩:=ug a0.ty;have cv:=hv.cell 0;simp only[gq]at cv;have e0:=(ht.cell 0).trans (a1 0 (.int .i64 zn) rfl);have key:=hg w bw o _ t h a0;rw[uo]at key;have a2:=hid key;clear key;clear h hv ht a1 a0 hg;go_enter Tryz.func238,Tryz.ntmps238
 go_wp2_with fail
 refine a2.out.mono ?_;rintro e w1⟨rfl,hp⟩;go_wp2;go_end0
 exact⟨rfl,hp⟩
set_option maxHeartbeats 4000000 in
theorem ujq(n:Nat)(hg:uk 241 (uan n)):uQ 239 (.list (uan n)) 87 1:=by
 refine⟨enters_of Tryz.func239 (by kernel_rfl) rfl,?_⟩
 intro w bw bv bt o cs v t h hv ht d1 d2 a1 a0;obtain⟨zA,zk,zc,rfl⟩:=ua a0.ty;have cv:=hv.cell 0;simp only[gq]at cv;have e0:=(ht.cell 1).trans (a1 0 (.slice zA zk zc) rfl);have a2:=hid (uzi n 241 #[.pointer (some ⟨bw,0,none⟩)] #[] w bw o zA zk zc t h a0 (ElW.meth (enters_of Tryz.func241 (by kernel_rfl) rfl) hg bw w))
 clear h hv ht a1 a0 hg;go_enter Tryz.func239,Tryz.ntmps239
 go_wp2_with fail
 refine a2.out.mono ?_;rintro e w1⟨rfl,hp⟩;go_wp2;go_end0
 exact⟨rfl,hp⟩
set_option maxHeartbeats 4000000 in
theorem ujr(n:Nat)(hg:uk 163 (un n)):uQ 242 (.list (un n)) 87 2:=by
 refine⟨enters_of Tryz.func242 (by kernel_rfl) rfl,?_⟩
 intro w bw bv bt o cs v t h hv ht d1 d2 a1 a0;obtain⟨zA,zk,zc,rfl⟩:=ua a0.ty;have cv:=hv.cell 0;simp only[gq]at cv;have e0:=(ht.cell 2).trans (a1 0 (.slice zA zk zc) rfl);have a2:=hid (ujk n 163 #[.pointer (some ⟨bw,0,none⟩)] #[] w bw o zA zk zc t h a0 (ElW.meth (enters_of Tryz.func163 (by kernel_rfl) rfl) hg bw w))
 clear h hv ht a1 a0 hg;go_enter Tryz.func242,Tryz.ntmps242
 go_wp2_with fail
 refine a2.out.mono ?_;rintro e w1⟨rfl,hp⟩;go_wp2;go_end0
 exact⟨rfl,hp⟩
set_option maxHeartbeats 4000000 in
theorem uk8(hg:uk 158 .int):uQ 301 .int 152 0:=by
 refine⟨enters_of Tryz.func301 (by kernel_rfl) rfl,?_⟩
 intro w bw bv bt o cs v t h hv ht d1 d2 a1 a0;obtain⟨zn,rfl⟩:=ug a0.ty;have cv:=hv.cell 0;simp only[gq]at cv;have e0:=(ht.cell 0).trans (a1 0 (.int .i64 zn) rfl);have key:=hg w bw o _ t h a0;rw[uo]at key;have a2:=hid key;clear key;clear h hv ht a1 a0 hg;go_enter Tryz.func301,Tryz.ntmps301
 go_wp2_with fail
 refine a2.out.mono ?_;rintro e w1⟨rfl,hp⟩;go_wp2;go_end0
 exact⟨rfl,hp⟩
set_option maxHeartbeats 4000000 in
theorem uk9(hg:uk 148 uX):uQ 302 uX 152 1:=by
 refine⟨enters_of Tryz.func302 (by kernel_rfl) rfl,?_⟩
 intro w bw bv bt o cs v t h hv ht d1 d2 a0 a1;obtain⟨a3,a4,a6,a5,rfl⟩:=ua2 a1.ty;have cv:=hv.cell 0;simp only[gq]at cv;have e0:=(ht.cell 1).trans (a0 0 (.int .i64 a3) rfl);have e1:=(ht.cell 2).trans (a0 1 (.slice a4 a6 a5) rfl);have key:=hg w bw o _ t h a1;rw[ubg]at key;have a2:=hid key;clear key;clear h hv ht a0 a1 hg;go_enter Tryz.func302,Tryz.ntmps302
 go_wp2_with fail
 refine a2.out.mono ?_;rintro e w1⟨rfl,hp⟩;go_wp2;go_end0
 exact⟨rfl,hp⟩
set_option maxHeartbeats 4000000 in
theorem ula(hg:uk 148 uX):uQ 303 uX 152 3:=by
 refine⟨enters_of Tryz.func303 (by kernel_rfl) rfl,?_⟩
 intro w bw bv bt o cs v t h hv ht d1 d2 a0 a1;obtain⟨a3,a4,a6,a5,rfl⟩:=ua2 a1.ty;have cv:=hv.cell 0;simp only[gq]at cv;have e0:=(ht.cell 3).trans (a0 0 (.int .i64 a3) rfl);have e1:=(ht.cell 4).trans (a0 1 (.slice a4 a6 a5) rfl);have key:=hg w bw o _ t h a1;rw[ubg]at key;have a2:=hid key;clear key;clear h hv ht a0 a1 hg;go_enter Tryz.func303,Tryz.ntmps303
 go_wp2_with fail
 refine a2.out.mono ?_;rintro e w1⟨rfl,hp⟩;go_wp2;go_end0
 exact⟨rfl,hp⟩
set_option maxHeartbeats 4000000 in
theorem ulb(hg:uk 158 .int):uQ 304 .int 152 5:=by
 refine⟨enters_of Tryz.func304 (by kernel_rfl) rfl,?_⟩
 intro w bw bv bt o cs v t h hv ht d1 d2 a1 a0;obtain⟨zn,rfl⟩:=ug a0.ty;have cv:=hv.cell 0;simp only[gq]at cv;have e0:=(ht.cell 5).trans (a1 0 (.int .i64 zn) rfl);have key:=hg w bw o _ t h a0;rw[uo]at key;have a2:=hid key;clear key;clear h hv ht a1 a0 hg;go_enter Tryz.func304,Tryz.ntmps304
 go_wp2_with fail
 refine a2.out.mono ?_;rintro e w1⟨rfl,hp⟩;go_wp2;go_end0
 exact⟨rfl,hp⟩
set_option maxHeartbeats 4000000 in
theorem uhh(hg:uk 248 axS):uQ 247 axS 154 0:=by
 refine⟨enters_of Tryz.func247 (by kernel_rfl) rfl,?_⟩
 intro w bw bv bt o cs v t h hv ht d1 d2 a0 a1;obtain⟨a3,a4,a5,a7,a6,a8,a9,b1,b0,b2,rfl⟩:=ufe a1.ty;have cv:=hv.cell 0;simp only[gq]at cv;have e0:=(ht.cell 0).trans (a0 0 (.int .i64 a3) rfl);have e1:=(ht.cell 1).trans (a0 1 (.int .i64 a4) rfl);have e2:=(ht.cell 2).trans (a0 2 (.slice a5 a7 a6) rfl);have e3:=(ht.cell 3).trans (a0 3 (.int .i64 a8) rfl);have e4:=(ht.cell 4).trans (a0 4 (.slice a9 b1 b0) rfl);have e5:=(ht.cell 5).trans (a0 5 (.int .i64 b2) rfl);have key:=hg w bw o _ t h a1;rw[uj6]at key;have a2:=hid key;clear key;clear h hv ht a0 a1 hg;go_enter Tryz.func247,Tryz.ntmps247
 go_wp2_with fail
 refine a2.out.mono ?_;rintro e w1⟨rfl,hp⟩;go_wp2;go_end0
 exact⟨rfl,hp⟩
set_option maxHeartbeats 4000000 in
theorem uhi(hg:uk 235 .rat):uQ 249 .rat 154 6:=by
 refine⟨enters_of Tryz.func249 (by kernel_rfl) rfl,?_⟩
 intro w bw bv bt o cs v t h hv ht d1 d2 a0 a1;obtain⟨zb,zA,zk,zc,zD,zl,zd,rfl⟩:=uay a1.ty;have cv:=hv.cell 0;simp only[gq]at cv;have e0:=(ht.cell 6).trans (a0 0 (.bool zb) rfl);have e1:=(ht.cell 7).trans (a0 1 (.slice zA zk zc) rfl);have e2:=(ht.cell 8).trans (a0 2 (.slice zD zl zd) rfl);have key:=hg w bw o _ t h a1;rw[uaz]at key;have a2:=hid key;clear key;clear h hv ht a0 a1 hg;go_enter Tryz.func249,Tryz.ntmps249
 go_wp2_with fail
 refine a2.out.mono ?_;rintro e w1⟨rfl,hp⟩;go_wp2;go_end0
 exact⟨rfl,hp⟩
set_option maxHeartbeats 4000000 in
theorem uhj(n:Nat)(hg:uk 237 (uC n)):uQ 250 (uC n) 154 9:=by
 refine⟨enters_of Tryz.func250 (by kernel_rfl) rfl,?_⟩
 intro w bw bv bt o cs v t h hv ht d1 d2 a0 a1;obtain⟨a3,a5,a4,a6,a8,a7,rfl⟩:=uaj a1.ty;have cv:=hv.cell 0;simp only[gq]at cv;have e0:=(ht.cell 9).trans (a0 0 (.slice a3 a5 a4) rfl);have e1:=(ht.cell 10).trans (a0 1 (.slice a6 a8 a7) rfl);have key:=hg w bw o _ t h a1;rw[uau]at key;have a2:=hid key;clear key;clear h hv ht a0 a1 hg;go_enter Tryz.func250,Tryz.ntmps250
 go_wp2_with fail
 refine a2.out.mono ?_;rintro e w1⟨rfl,hp⟩;go_wp2;go_end0
 exact⟨rfl,hp⟩
set_option maxHeartbeats 4000000 in
theorem uhk(hg:uk 174 (.list .rat)):uQ 251 (.list .rat) 154 11:=by
 refine⟨enters_of Tryz.func251 (by kernel_rfl) rfl,?_⟩
 intro w bw bv bt o cs v t h hv ht d1 d2 a1 a0;obtain⟨zA,zk,zc,rfl⟩:=ua a0.ty;have cv:=hv.cell 0;simp only[gq]at cv;have e0:=(ht.cell 11).trans (a1 0 (.slice zA zk zc) rfl);have key:=hg w bw o _ t h a0;rw[ue]at key;have a2:=hid key;clear key;clear h hv ht a1 a0 hg;go_enter Tryz.func251,Tryz.ntmps251
 go_wp2_with fail
 refine a2.out.mono ?_;rintro e w1⟨rfl,hp⟩;go_wp2;go_end0
 exact⟨rfl,hp⟩
set_option maxHeartbeats 4000000 in
theorem uhl(hg:uk 174 (.list .rat)):uQ 252 (.list .rat) 154 12:=by
 refine⟨enters_of Tryz.func252 (by kernel_rfl) rfl,?_⟩
 intro w bw bv bt o cs v t h hv ht d1 d2 a1 a0;obtain⟨zA,zk,zc,rfl⟩:=ua a0.ty;have cv:=hv.cell 0;simp only[gq]at cv;have e0:=(ht.cell 12).trans (a1 0 (.slice zA zk zc) rfl);have key:=hg w bw o _ t h a0;rw[ue]at key;have a2:=hid key;clear key;clear h hv ht a1 a0 hg;go_enter Tryz.func252,Tryz.ntmps252
 go_wp2_with fail
 refine a2.out.mono ?_;rintro e w1⟨rfl,hp⟩;go_wp2;go_end0
 exact⟨rfl,hp⟩
set_option maxHeartbeats 4000000 in
theorem unq(hg:uk 158 .int):uQ 157 .int 65 0:=by
 refine⟨enters_of Tryz.func157 (by kernel_rfl) rfl,?_⟩
 intro w bw bv bt o cs v t h hv ht d1 d2 a1 a0;obtain⟨zn,rfl⟩:=ug a0.ty;have cv:=hv.cell 0;simp only[gq]at cv;have e0:=(ht.cell 0).trans (a1 0 (.int .i64 zn) rfl);have key:=hg w bw o _ t h a0;rw[uo]at key;have a2:=hid key;clear key;clear h hv ht a1 a0 hg;go_enter Tryz.func157,Tryz.ntmps157
 go_wp2_with fail
 refine a2.out.mono ?_;rintro e w1⟨rfl,hp⟩;go_wp2;go_end0
 exact⟨rfl,hp⟩
set_option maxHeartbeats 4000000 in
theorem unr(hg:uk 158 .int):uQ 159 .int 65 1:=by
 refine⟨enters_of Tryz.func159 (by kernel_rfl) rfl,?_⟩
 intro w bw bv bt o cs v t h hv ht d1 d2 a1 a0;obtain⟨zn,rfl⟩:=ug a0.ty;have cv:=hv.cell 0;simp only[gq]at cv;have e0:=(ht.cell 1).trans (a1 0 (.int .i64 zn) rfl);have key:=hg w bw o _ t h a0;rw[uo]at key;have a2:=hid key;clear key;clear h hv ht a1 a0 hg;go_enter Tryz.func159,Tryz.ntmps159
 go_wp2_with fail
 refine a2.out.mono ?_;rintro e w1⟨rfl,hp⟩;go_wp2;go_end0
 exact⟨rfl,hp⟩
set_option maxHeartbeats 4000000 in
theorem uns(hg:uk 73 .bool):uQ 160 .bool 65 2:=by
 refine⟨enters_of Tryz.func160 (by kernel_rfl) rfl,?_⟩
 intro w bw bv bt o cs v t h hv ht d1 d2 a1 a0;obtain⟨zb,rfl⟩:=ua8 a0.ty;have cv:=hv.cell 0;simp only[gq]at cv;have e0:=(ht.cell 2).trans (a1 0 (.bool zb) rfl);have key:=hg w bw o _ t h a0;rw[ub9]at key;have a2:=hid key;clear key;clear h hv ht a1 a0 hg;go_enter Tryz.func160,Tryz.ntmps160
 go_wp2_with fail
 refine a2.out.mono ?_;rintro e w1⟨rfl,hp⟩;go_wp2;go_end0
 exact⟨rfl,hp⟩
set_option maxHeartbeats 4000000 in
theorem unt(n:Nat)(hg:uk 163 (un n)):uQ 161 (.list (un n)) 65 3:=by
 refine⟨enters_of Tryz.func161 (by kernel_rfl) rfl,?_⟩
 intro w bw bv bt o cs v t h hv ht d1 d2 a1 a0;obtain⟨zA,zk,zc,rfl⟩:=ua a0.ty;have cv:=hv.cell 0;simp only[gq]at cv;have e0:=(ht.cell 3).trans (a1 0 (.slice zA zk zc) rfl);have a2:=hid (ujk n 163 #[.pointer (some ⟨bw,0,none⟩)] #[] w bw o zA zk zc t h a0 (ElW.meth (enters_of Tryz.func163 (by kernel_rfl) rfl) hg bw w))
 clear h hv ht a1 a0 hg;go_enter Tryz.func161,Tryz.ntmps161
 go_wp2_with fail
 refine a2.out.mono ?_;rintro e w1⟨rfl,hp⟩;go_wp2;go_end0
 exact⟨rfl,hp⟩
set_option maxHeartbeats 4000000 in
theorem uz9(n:Nat)(hg:uk 179 (uax n))(w:World)(bw bv:Nat)(hv:Bk w bv 92 #[.pointer (some ⟨bw,0,none⟩)])(d:bv≠bw):ElW 177 #[] #[.pointer (some ⟨bv,0,none⟩)] (.list (uax n)) bw w:=by
 refine⟨enters_of Tryz.func177 (by kernel_rfl) rfl,fun W o v t hf hw hr=>?_⟩
 have cv:=(hf.2 _ _ _ d (by decide) hv).cell 0
 simp only[gq]at cv;obtain⟨zA,zk,zc,rfl⟩:=ua hr.ty;rw[ue];have a0:=hid (und n 179 #[.pointer (some ⟨bw,0,none⟩)] #[] W bw o zA zk zc t hw hr (ElW.meth (enters_of Tryz.func179 (by kernel_rfl) rfl) hg bw W))
 clear hv hf hw hr hg;show Calls Tryz.prog 177 #[.slice zA zk zc,.pointer (some ⟨bv,0,none⟩)] W _
 go_enter Tryz.func177,Tryz.ntmps177
 go_wp2_with fail
 refine a0.out.mono ?_;rintro e w1⟨rfl,hp⟩;go_wp2;go_end0
 exact⟨rfl,hp⟩
set_option maxHeartbeats 4000000 in
theorem unu(n:Nat)(hg:uk 163 (un n)):uQ 164 (.list (un n)) 65 4:=by
 refine⟨enters_of Tryz.func164 (by kernel_rfl) rfl,?_⟩
 intro w bw bv bt o cs v t h hv ht d1 d2 a1 a0;obtain⟨zA,zk,zc,rfl⟩:=ua a0.ty;have cv:=hv.cell 0;simp only[gq]at cv;have e0:=(ht.cell 4).trans (a1 0 (.slice zA zk zc) rfl);have a2:=hid (ujk n 163 #[.pointer (some ⟨bw,0,none⟩)] #[] w bw o zA zk zc t h a0 (ElW.meth (enters_of Tryz.func163 (by kernel_rfl) rfl) hg bw w))
 clear h hv ht a1 a0 hg;go_enter Tryz.func164,Tryz.ntmps164
 go_wp2_with fail
 refine a2.out.mono ?_;rintro e w1⟨rfl,hp⟩;go_wp2;go_end0
 exact⟨rfl,hp⟩
set_option maxHeartbeats 4000000 in
theorem unv(n:Nat)(hg:uk 167 (uD n)):uQ 165 (.list (uD n)) 65 5:=by
 refine⟨enters_of Tryz.func165 (by kernel_rfl) rfl,?_⟩
 intro w bw bv bt o cs v t h hv ht d1 d2 a1 a0;obtain⟨zA,zk,zc,rfl⟩:=ua a0.ty;have cv:=hv.cell 0;simp only[gq]at cv;have e0:=(ht.cell 5).trans (a1 0 (.slice zA zk zc) rfl);have a2:=hid (ut6 n 167 #[.pointer (some ⟨bw,0,none⟩)] #[] w bw o zA zk zc t h a0 (ElW.meth (enters_of Tryz.func167 (by kernel_rfl) rfl) hg bw w))
 clear h hv ht a1 a0 hg;go_enter Tryz.func165,Tryz.ntmps165
 go_wp2_with fail
 refine a2.out.mono ?_;rintro e w1⟨rfl,hp⟩;go_wp2;go_end0
 exact⟨rfl,hp⟩
set_option maxHeartbeats 4000000 in
theorem unw(n:Nat)(hg:uk 170 (uan n)):uQ 168 (.list (uan n)) 65 6:=by
 refine⟨enters_of Tryz.func168 (by kernel_rfl) rfl,?_⟩
 intro w bw bv bt o cs v t h hv ht d1 d2 a1 a0;obtain⟨zA,zk,zc,rfl⟩:=ua a0.ty;have cv:=hv.cell 0;simp only[gq]at cv;have e0:=(ht.cell 6).trans (a1 0 (.slice zA zk zc) rfl);have a2:=hid (uyf n 170 #[.pointer (some ⟨bw,0,none⟩)] #[] w bw o zA zk zc t h a0 (ElW.meth (enters_of Tryz.func170 (by kernel_rfl) rfl) hg bw w))
 clear h hv ht a1 a0 hg;go_enter Tryz.func168,Tryz.ntmps168
 go_wp2_with fail
 refine a2.out.mono ?_;rintro e w1⟨rfl,hp⟩;go_wp2;go_end0
 exact⟨rfl,hp⟩
set_option maxHeartbeats 4000000 in
theorem unx(n:Nat)(hg:uk 163 (un n)):uQ 171 (.list (un n)) 65 7:=by
 refine⟨enters_of Tryz.func171 (by kernel_rfl) rfl,?_⟩
 intro w bw bv bt o cs v t h hv ht d1 d2 a1 a0;obtain⟨zA,zk,zc,rfl⟩:=ua a0.ty;have cv:=hv.cell 0;simp only[gq]at cv;have e0:=(ht.cell 7).trans (a1 0 (.slice zA zk zc) rfl);have a2:=hid (ujk n 163 #[.pointer (some ⟨bw,0,none⟩)] #[] w bw o zA zk zc t h a0 (ElW.meth (enters_of Tryz.func163 (by kernel_rfl) rfl) hg bw w))
 clear h hv ht a1 a0 hg;go_enter Tryz.func171,Tryz.ntmps171
 go_wp2_with fail
 refine a2.out.mono ?_;rintro e w1⟨rfl,hp⟩;go_wp2;go_end0
 exact⟨rfl,hp⟩
set_option maxHeartbeats 4000000 in
theorem uny(hg:uk 152 (.list .int)):uQ 172 (.list .int) 65 8:=by
 refine⟨enters_of Tryz.func172 (by kernel_rfl) rfl,?_⟩
 intro w bw bv bt o cs v t h hv ht d1 d2 a1 a0;obtain⟨zA,zk,zc,rfl⟩:=ua a0.ty;have cv:=hv.cell 0;simp only[gq]at cv;have e0:=(ht.cell 8).trans (a1 0 (.slice zA zk zc) rfl);have key:=hg w bw o _ t h a0;rw[ue]at key;have a2:=hid key;clear key;clear h hv ht a1 a0 hg;go_enter Tryz.func172,Tryz.ntmps172
 go_wp2_with fail
 refine a2.out.mono ?_;rintro e w1⟨rfl,hp⟩;go_wp2;go_end0
 exact⟨rfl,hp⟩
set_option maxHeartbeats 4000000 in
theorem unz(hg:uk 174 (.list .rat)):uQ 173 (.list .rat) 65 9:=by
 refine⟨enters_of Tryz.func173 (by kernel_rfl) rfl,?_⟩
 intro w bw bv bt o cs v t h hv ht d1 d2 a1 a0;obtain⟨zA,zk,zc,rfl⟩:=ua a0.ty;have cv:=hv.cell 0;simp only[gq]at cv;have e0:=(ht.cell 9).trans (a1 0 (.slice zA zk zc) rfl);have key:=hg w bw o _ t h a0;rw[ue]at key;have a2:=hid key;clear key;clear h hv ht a1 a0 hg;go_enter Tryz.func173,Tryz.ntmps173
 go_wp2_with fail
 refine a2.out.mono ?_;rintro e w1⟨rfl,hp⟩;go_wp2;go_end0
 exact⟨rfl,hp⟩
set_option maxHeartbeats 4000000 in
theorem ulc(n:Nat)(hg:uk 179 (uax n)):uQ 175 (.list (.list (uax n))) 65 10:=by
 refine⟨enters_of Tryz.func175 (by kernel_rfl) rfl,?_⟩
 intro w bw bv bt o cs v t h hv ht d1 d2 a1 a0;obtain⟨zA,zk,zc,rfl⟩:=ua a0.ty;have cv:=hv.cell 0;simp only[gq]at cv;have e0:=(ht.cell 10).trans (a1 0 (.slice zA zk zc) rfl);have a2:=hid (ujj n 177 #[] #[.pointer (some ⟨bv,0,none⟩)] w bw o zA zk zc t h a0 (uz9 n hg w bw bv hv d1));clear h hv ht a1 a0 hg;go_enter Tryz.func175,Tryz.ntmps175
 go_wp2_with fail
 refine a2.out.mono ?_;rintro e w1⟨rfl,hp⟩;go_wp2;go_end0
 exact⟨rfl,hp⟩
set_option maxHeartbeats 4000000 in
theorem uld(hg:uk 158 .int):uQ 180 .int 68 0:=by
 refine⟨enters_of Tryz.func180 (by kernel_rfl) rfl,?_⟩
 intro w bw bv bt o cs v t h hv ht d1 d2 a1 a0;obtain⟨zn,rfl⟩:=ug a0.ty;have cv:=hv.cell 0;simp only[gq]at cv;have e0:=(ht.cell 0).trans (a1 0 (.int .i64 zn) rfl);have key:=hg w bw o _ t h a0;rw[uo]at key;have a2:=hid key;clear key;clear h hv ht a1 a0 hg;go_enter Tryz.func180,Tryz.ntmps180
 go_wp2_with fail
 refine a2.out.mono ?_;rintro e w1⟨rfl,hp⟩;go_wp2;go_end0
 exact⟨rfl,hp⟩
set_option maxHeartbeats 4000000 in
theorem ule(hg:uk 158 .int):uQ 181 .int 68 1:=by
 refine⟨enters_of Tryz.func181 (by kernel_rfl) rfl,?_⟩
 intro w bw bv bt o cs v t h hv ht d1 d2 a1 a0;obtain⟨zn,rfl⟩:=ug a0.ty;have cv:=hv.cell 0;simp only[gq]at cv;have e0:=(ht.cell 1).trans (a1 0 (.int .i64 zn) rfl);have key:=hg w bw o _ t h a0;rw[uo]at key;have a2:=hid key;clear key;clear h hv ht a1 a0 hg;go_enter Tryz.func181,Tryz.ntmps181
 go_wp2_with fail
 refine a2.out.mono ?_;rintro e w1⟨rfl,hp⟩;go_wp2;go_end0
 exact⟨rfl,hp⟩
set_option maxHeartbeats 4000000 in
theorem un0(hg:uk 73 .bool):uQ 72 .bool 34 0:=by
 refine⟨enters_of Tryz.func72 (by kernel_rfl) rfl,?_⟩
 intro w bw bv bt o cs v t h hv ht d1 d2 a1 a0;obtain⟨zb,rfl⟩:=ua8 a0.ty;have cv:=hv.cell 0;simp only[gq]at cv;have e0:=(ht.cell 0).trans (a1 0 (.bool zb) rfl);have key:=hg w bw o _ t h a0;rw[ub9]at key;have a2:=hid key;clear key;clear h hv ht a1 a0 hg;go_enter Tryz.func72,Tryz.ntmps72
 go_wp2_with fail
 refine a2.out.mono ?_;rintro e w1⟨rfl,hp⟩;go_wp2;go_end0
 exact⟨rfl,hp⟩
set_option maxHeartbeats 4000000 in
theorem un1(hg:uk 75 uM):uQ 74 uM 34 1:=by
 refine⟨enters_of Tryz.func74 (by kernel_rfl) rfl,?_⟩
 intro w bw bv bt o cs v t h hv ht d1 d2 a0 a1;obtain⟨a3,a5,a4,a6,a8,a7,rfl⟩:=uch a1.ty;have cv:=hv.cell 0;simp only[gq]at cv;have e0:=(ht.cell 1).trans (a0 0 (.slice a3 a5 a4) rfl);have e1:=(ht.cell 2).trans (a0 1 (.slice a6 a8 a7) rfl);have key:=hg w bw o _ t h a1;rw[uic]at key;have a2:=hid key;clear key;clear h hv ht a0 a1 hg;go_enter Tryz.func74,Tryz.ntmps74
 go_wp2_with fail
 refine a2.out.mono ?_;rintro e w1⟨rfl,hp⟩;go_wp2;go_end0
 exact⟨rfl,hp⟩
set_option maxHeartbeats 4000000 in
theorem un3(hg:uk 78 ut):uQ 76 (.list ut) 34 3:=by
 refine⟨enters_of Tryz.func76 (by kernel_rfl) rfl,?_⟩
 intro w bw bv bt o cs v t h hv ht d1 d2 a1 a0;obtain⟨zA,zk,zc,rfl⟩:=ua a0.ty;have cv:=hv.cell 0;simp only[gq]at cv;have e0:=(ht.cell 3).trans (a1 0 (.slice zA zk zc) rfl);have a2:=hid (unc 78 #[.pointer (some ⟨bw,0,none⟩)] #[] w bw o zA zk zc t h a0 (ElW.meth (enters_of Tryz.func78 (by kernel_rfl) rfl) hg bw w))
 clear h hv ht a1 a0 hg;go_enter Tryz.func76,Tryz.ntmps76
 go_wp2_with fail
 refine a2.out.mono ?_;rintro e w1⟨rfl,hp⟩;go_wp2;go_end0
 exact⟨rfl,hp⟩
set_option maxHeartbeats 4000000 in
theorem un4(n:Nat)(hg:uk 80 (uaw n)):uQ 79 (uaw n) 34 4:=by
 refine⟨enters_of Tryz.func79 (by kernel_rfl) rfl,?_⟩
 intro w bw bv bt o cs v t h hv ht d1 d2 a0 a1;obtain⟨a3,a5,a4,a6,a8,a7,a9,b1,b0,rfl⟩:=udy a1.ty;have cv:=hv.cell 0;simp only[gq]at cv;have e0:=(ht.cell 4).trans (a0 0 (.slice a3 a5 a4) rfl);have e1:=(ht.cell 5).trans (a0 1 (.slice a6 a8 a7) rfl);have e2:=(ht.cell 6).trans (a0 2 (.slice a9 b1 b0) rfl);have key:=hg w bw o _ t h a1;rw[ui1]at key;have a2:=hid key;clear key;clear h hv ht a0 a1 hg;go_enter Tryz.func79,Tryz.ntmps79
 go_wp2_with fail
 refine a2.out.mono ?_;rintro e w1⟨rfl,hp⟩;go_wp2;go_end0
 exact⟨rfl,hp⟩
set_option maxHeartbeats 4000000 in
theorem un5(n:Nat)(hg:uk 83 (uac n)):uQ 81 (.list (uac n)) 34 7:=by
 refine⟨enters_of Tryz.func81 (by kernel_rfl) rfl,?_⟩
 intro w bw bv bt o cs v t h hv ht d1 d2 a1 a0;obtain⟨zA,zk,zc,rfl⟩:=ua a0.ty;have cv:=hv.cell 0;simp only[gq]at cv;have e0:=(ht.cell 7).trans (a1 0 (.slice zA zk zc) rfl);have a2:=hid (uyg n 83 #[.pointer (some ⟨bw,0,none⟩)] #[] w bw o zA zk zc t h a0 (ElW.meth (enters_of Tryz.func83 (by kernel_rfl) rfl) hg bw w))
 clear h hv ht a1 a0 hg;go_enter Tryz.func81,Tryz.ntmps81
 go_wp2_with fail
 refine a2.out.mono ?_;rintro e w1⟨rfl,hp⟩;go_wp2;go_end0
 exact⟨rfl,hp⟩
set_option maxHeartbeats 4000000 in
theorem un6(hg:uk 86 uW):uQ 84 (.list uW) 34 8:=by
 refine⟨enters_of Tryz.func84 (by kernel_rfl) rfl,?_⟩
 intro w bw bv bt o cs v t h hv ht d1 d2 a1 a0;obtain⟨zA,zk,zc,rfl⟩:=ua a0.ty;have cv:=hv.cell 0;simp only[gq]at cv;have e0:=(ht.cell 8).trans (a1 0 (.slice zA zk zc) rfl);have a2:=hid (uwk 86 #[.pointer (some ⟨bw,0,none⟩)] #[] w bw o zA zk zc t h a0 (ElW.meth (enters_of Tryz.func86 (by kernel_rfl) rfl) hg bw w))
 clear h hv ht a1 a0 hg;go_enter Tryz.func84,Tryz.ntmps84
 go_wp2_with fail
 refine a2.out.mono ?_;rintro e w1⟨rfl,hp⟩;go_wp2;go_end0
 exact⟨rfl,hp⟩
set_option maxHeartbeats 4000000 in
theorem ubt(hg:uk 158 .int):uk 152 (.list .int):=by
 intro w bw o v t h a0;obtain⟨zA,zk,zc,rfl⟩:=ua a0.ty;rw[ue];have a1:=hid (uzf 158 #[.pointer (some ⟨bw,0,none⟩)] #[] w bw o zA zk zc t h a0 (ElW.meth (enters_of Tryz.func158 (by kernel_rfl) rfl) hg bw w))
 clear h a0 hg;go_enter Tryz.func152,Tryz.ntmps152
 go_wp2_with fail
 refine a1.out.mono ?_;rintro e w1⟨rfl,hp⟩;go_wp2;go_end0
 exact⟨rfl,hp⟩
set_option maxHeartbeats 4000000 in
theorem uga(hg:uk 224 .int):uk 144 (.list .int):=by
 intro w bw o v t h a0;obtain⟨zA,zk,zc,rfl⟩:=ua a0.ty;rw[ue];have a1:=hid (uwg 224 #[.pointer (some ⟨bw,0,none⟩)] #[] w bw o zA zk zc t h a0 (ElW.meth (enters_of Tryz.func224 (by kernel_rfl) rfl) hg bw w))
 clear h a0 hg;go_enter Tryz.func144,Tryz.ntmps144
 go_wp2_with fail
 refine a1.out.mono ?_;rintro e w1⟨rfl,hp⟩;go_wp2;go_end0
 exact⟨rfl,hp⟩
set_option maxHeartbeats 4000000 in
theorem ue6(hg:uk 235 .rat):uk 174 (.list .rat):=by
 intro w bw o v t h a0;obtain⟨zA,zk,zc,rfl⟩:=ua a0.ty;rw[ue];have a1:=hid (uzg 235 #[.pointer (some ⟨bw,0,none⟩)] #[] w bw o zA zk zc t h a0 (ElW.meth (enters_of Tryz.func235 (by kernel_rfl) rfl) hg bw w))
 clear h a0 hg;go_enter Tryz.func174,Tryz.ntmps174
 go_wp2_with fail
 refine a1.out.mono ?_;rintro e w1⟨rfl,hp⟩;go_wp2;go_end0
 exact⟨rfl,hp⟩
end Go.Proofs.YtellcholbkoakaaGreatDoor
