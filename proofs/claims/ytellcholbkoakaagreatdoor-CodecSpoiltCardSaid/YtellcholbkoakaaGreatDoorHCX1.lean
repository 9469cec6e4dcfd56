/-
 The reader: structs (printed by gen_codec.py).
-/
import Derived.Test.YtellcholbkoakaaGreatDoorHCRa
namespace Go.Proofs.YtellcholbkoakaaGreatDoor
open Go.Lib (hid)
open Go.RowKit AC
set_option linter.unusedVariables false
set_option linter.unusedSimpArgs false
set_option maxHeartbeats 4000000 in
set_option maxRecDepth 100000 in
theorem uq8(L:Nat)(h0:uP 259 .int L 219 0)(h1:uP 260 .int L 219 1):Reads 188 (.st (ubd [.int,.int])) L:=by
 intro w br str o hr hl;have b1:=hr.lt;have b3:=hr.gl.2;have HC:Hid (∀i k s,([259,260]:List FuncId)[i]? = some k→([.int,.int]:List Shape)[i]? = some s→uP k s L 219 (uq [.int,.int] i)):=by
  intro i k s hk hs;rcases i with _|_|i
  ·simp only[gq]at hk hs;injection hk with hk;injection hs with hs;subst hk;subst hs;rw[show uq [.int,.int] 0=0 from by simp[uq,Shape.sz]];exact h0
  ·simp only[gq]at hk hs;injection hk with hk;injection hs with hs;subst hk;subst hs;rw[show uq [.int,.int] 1=1 from by simp[uq,Shape.sz]];exact h1
  ·simp at hk
 have HR:=hid hr;have HL:=hid hl;clear hr hl h0 h1;go_enter Tryz.func188,Tryz.ntmps188
 go_wp2_with fail
 refine(uU [.int,.int] [259,260] 219 L rfl (by simp) (by simp) HC.out _ br w.heap.size (w.heap.size+1) (w.heap.size+1+1) str o [[.int .i64 0],[.int .i64 0]] (((HR.out.alloc _).alloc _).alloc _) HL.out (((Bk.new' rfl _ _).alloc _).alloc _) ((Bk.new' (by simp) _ _).alloc _) ⟨_,_,rfl,⟨0,rfl,by omega,by omega⟩,⟨_,_,rfl,⟨0,rfl,by omega,by omega⟩,rfl⟩⟩ (Bk.new' (by simp) _ _) (by omega) (by omega) (by omega) (by omega) (by omega) (by omega)).mono ?_
 rintro e w1⟨rfl,vs,a4,a0,a2,hf,a3⟩;have b0:=hid a4;obtain⟨_,_,rfl,t0,_,_,rfl,t1,rfl⟩:=a4;obtain⟨a5,rfl⟩:=ug t0;obtain⟨a6,rfl⟩:=ug t1;simp only[gf]at a0;have e0:=a0.cell 0;have f0:=a0.frozen 0;have e1:=a0.cell 1;have f1:=a0.frozen 1;simp only[gq]at e0 e1;have a7:=hid a0;have a8:=hid a2;have HF:=hid hf;have a9:=hid a3;clear a0 a2 hf a3;go_wp2;have a1:=((a7.out.set 0 (.int .i64 a5)).set 1 (.int .i64 a6));simp only[List.setIfInBounds_toArray,List.set_cons_zero,List.set_cons_succ]at a1;have r0:=a1.cell 0;have r1:=a1.cell 1;simp only[gq]at r0 r1;have b2:=hid a1;clear a1;refine bodyPost_ret (v:= .agg #[.int .i64 a5,.int .i64 a6]) (by simp[results,Tryz.results188,go_sem,r0,r1]) rfl ?_
 exact RPost.ofF ((((Fr.refl _ _).alloc _).alloc _).alloc _) b0.out a8.out HF.out a9.out (((Fr.refl _ _).wr _ _).wr _ _) (by omega) (by simp) b1 (by simp only[gf])
set_option maxHeartbeats 4000000 in
set_option maxRecDepth 100000 in
theorem uzd(L:Nat)(h0:uP 185 .int L 148 0)(h1:uP 186 (.list uH) L 148 1):Reads 95 (.st (ubd [.int,(.list uH)])) L:=by
 intro w br str o hr hl;have b3:=hr.lt;have b5:=hr.gl.2;have HC:Hid (∀i k s,([185,186]:List FuncId)[i]? = some k→([.int,(.list uH)]:List Shape)[i]? = some s→uP k s L 148 (uq [.int,(.list uH)] i)):=by
  intro i k s hk hs;rcases i with _|_|i
  ·simp only[gq]at hk hs;injection hk with hk;injection hs with hs;subst hk;subst hs;rw[show uq [.int,(.list uH)] 0=0 from by simp[uq,Shape.sz]];exact h0
  ·simp only[gq]at hk hs;injection hk with hk;injection hs with hs;subst hk;subst hs;rw[show uq [.int,(.list uH)] 1=1 from by simp[uq,Shape.sz]];exact h1
  ·simp at hk
 have HR:=hid hr;have HL:=hid hl;clear hr hl h0 h1;go_enter Tryz.func95,Tryz.ntmps95
 go_wp2_with fail
 refine(uU [.int,(.list uH)] [185,186] 148 L rfl (by simp) (by simp) HC.out _ br w.heap.size (w.heap.size+1) (w.heap.size+1+1) str o [[.int .i64 0],[.slice none 0 0]] (((HR.out.alloc _).alloc _).alloc _) HL.out (((Bk.new' rfl _ _).alloc _).alloc _) ((Bk.new' (by simp) _ _).alloc _) ⟨_,_,rfl,⟨0,rfl,by omega,by omega⟩,⟨_,_,rfl,⟨none,0,0,rfl⟩,rfl⟩⟩ (Bk.new' (by simp) _ _) (by omega) (by omega) (by omega) (by omega) (by omega) (by omega)).mono ?_
 rintro e w1⟨rfl,vs,a4,a0,a2,hf,a3⟩;have b2:=hid a4;obtain⟨_,_,rfl,t0,_,_,rfl,t1,rfl⟩:=a4;obtain⟨a5,rfl⟩:=ug t0;obtain⟨a6,a8,a7,rfl⟩:=ua t1;simp only[gf]at a0;have e0:=a0.cell 0;have f0:=a0.frozen 0;have e1:=a0.cell 1;have f1:=a0.frozen 1;simp only[gq]at e0 e1;have a9:=hid a0;have b0:=hid a2;have HF:=hid hf;have b1:=hid a3;clear a0 a2 hf a3;go_wp2;have a1:=((a9.out.set 0 (.int .i64 a5)).set 1 (.slice a6 a8 a7));simp only[List.setIfInBounds_toArray,List.set_cons_zero,List.set_cons_succ]at a1;have r0:=a1.cell 0;have r1:=a1.cell 1;simp only[gq]at r0 r1;have b4:=hid a1;clear a1;refine bodyPost_ret (v:= .agg #[.int .i64 a5,.slice a6 a8 a7]) (by simp[results,Tryz.results95,go_sem,r0,r1]) rfl ?_
 exact RPost.ofF ((((Fr.refl _ _).alloc _).alloc _).alloc _) b2.out b0.out HF.out b1.out (((Fr.refl _ _).wr _ _).wr _ _) (by omega) (by simp) b3 (by simp only[gf])
set_option maxHeartbeats 4000000 in
set_option maxRecDepth 100000 in
theorem una(L:Nat)(h0:uP 93 (.list uX) L 105 0)(h1:uP 96 (.list uX) L 105 1):Reads 38 (.st (ubd [(.list uX),(.list uX)])) L:=by
 intro w br str o hr hl;have b5:=hr.lt;have b7:=hr.gl.2;have HC:Hid (∀i k s,([93,96]:List FuncId)[i]? = some k→([(.list uX),(.list uX)]:List Shape)[i]? = some s→uP k s L 105 (uq [(.list uX),(.list uX)] i)):=by
  intro i k s hk hs;rcases i with _|_|i
  ·simp only[gq]at hk hs;injection hk with hk;injection hs with hs;subst hk;subst hs;rw[show uq [(.list uX),(.list uX)] 0=0 from by simp[uq,Shape.sz]];exact h0
  ·simp only[gq]at hk hs;injection hk with hk;injection hs with hs;subst hk;subst hs;rw[show uq [(.list uX),(.list uX)] 1=1 from by simp[uq,Shape.sz]];exact h1
  ·simp at hk
 have HR:=hid hr;have HL:=hid hl;clear hr hl h0 h1;go_enter Tryz.func38,Tryz.ntmps38
 go_wp2_with fail
 refine(uU [(.list uX),(.list uX)] [93,96] 105 L rfl (by simp) (by simp) HC.out _ br w.heap.size (w.heap.size+1) (w.heap.size+1+1) str o [[.slice none 0 0],[.slice none 0 0]] (((HR.out.alloc _).alloc _).alloc _) HL.out (((Bk.new' rfl _ _).alloc _).alloc _) ((Bk.new' (by simp) _ _).alloc _) ⟨_,_,rfl,⟨none,0,0,rfl⟩,⟨_,_,rfl,⟨none,0,0,rfl⟩,rfl⟩⟩ (Bk.new' (by simp) _ _) (by omega) (by omega) (by omega) (by omega) (by omega) (by omega)).mono ?_
 rintro e w1⟨rfl,vs,a4,a0,a2,hf,a3⟩;have b4:=hid a4;obtain⟨_,_,rfl,t0,_,_,rfl,t1,rfl⟩:=a4;obtain⟨a5,a7,a6,rfl⟩:=ua t0;obtain⟨a8,b0,a9,rfl⟩:=ua t1;simp only[gf]at a0;have e0:=a0.cell 0;have f0:=a0.frozen 0;have e1:=a0.cell 1;have f1:=a0.frozen 1;simp only[gq]at e0 e1;have b1:=hid a0;have b2:=hid a2;have HF:=hid hf;have b3:=hid a3;clear a0 a2 hf a3;go_wp2;have a1:=((b1.out.set 0 (.slice a5 a7 a6)).set 1 (.slice a8 b0 a9));simp only[List.setIfInBounds_toArray,List.set_cons_zero,List.set_cons_succ]at a1;have r0:=a1.cell 0;have r1:=a1.cell 1;simp only[gq]at r0 r1;have b6:=hid a1;clear a1;refine bodyPost_ret (v:= .agg #[.slice a5 a7 a6,.slice a8 b0 a9]) (by simp[results,Tryz.results38,go_sem,r0,r1]) rfl ?_
 exact RPost.ofF ((((Fr.refl _ _).alloc _).alloc _).alloc _) b4.out b2.out HF.out b3.out (((Fr.refl _ _).wr _ _).wr _ _) (by omega) (by simp) b5 (by simp only[gf])
set_option maxHeartbeats 4000000 in
set_option maxRecDepth 100000 in
theorem ut2(L:Nat)(h0:uP 89 (.list .int) L 25 0)(h1:uP 91 (.list .int) L 25 1):Reads 35 (.st (ubd [(.list .int),(.list .int)])) L:=by
 intro w br str o hr hl;have b5:=hr.lt;have b7:=hr.gl.2;have HC:Hid (∀i k s,([89,91]:List FuncId)[i]? = some k→([(.list .int),(.list .int)]:List Shape)[i]? = some s→uP k s L 25 (uq [(.list .int),(.list .int)] i)):=by
  intro i k s hk hs;rcases i with _|_|i
  ·simp only[gq]at hk hs;injection hk with hk;injection hs with hs;subst hk;subst hs;rw[show uq [(.list .int),(.list .int)] 0=0 from by simp[uq,Shape.sz]];exact h0
  ·simp only[gq]at hk hs;injection hk with hk;injection hs with hs;subst hk;subst hs;rw[show uq [(.list .int),(.list .int)] 1=1 from by simp[uq,Shape.sz]];exact h1
  ·simp at hk
 have HR:=hid hr;have HL:=hid hl;clear hr hl h0 h1;go_enter Tryz.func35,Tryz.ntmps35
 go_wp2_with fail
 refine(uU [(.list .int),(.list .int)] [89,91] 25 L rfl (by simp) (by simp) HC.out _ br w.heap.size (w.heap.size+1) (w.heap.size+1+1) str o [[.slice none 0 0],[.slice none 0 0]] (((HR.out.alloc _).alloc _).alloc _) HL.out (((Bk.new' rfl _ _).alloc _).alloc _) ((Bk.new' (by simp) _ _).alloc _) ⟨_,_,rfl,⟨none,0,0,rfl⟩,⟨_,_,rfl,⟨none,0,0,rfl⟩,rfl⟩⟩ (Bk.new' (by simp) _ _) (by omega) (by omega) (by omega) (by omega) (by omega) (by omega)).mono ?_
 rintro e w1⟨rfl,vs,a4,a0,a2,hf,a3⟩;have b4:=hid a4;obtain⟨_,_,rfl,t0,_,_,rfl,t1,rfl⟩:=a4;obtain⟨a5,a7,a6,rfl⟩:=ua t0;obtain⟨a8,b0,a9,rfl⟩:=ua t1;simp only[gf]at a0;have e0:=a0.cell 0;have f0:=a0.frozen 0;have e1:=a0.cell 1;have f1:=a0.frozen 1;simp only[gq]at e0 e1;have b1:=hid a0;have b2:=hid a2;have HF:=hid hf;have b3:=hid a3;clear a0 a2 hf a3;go_wp2;have a1:=((b1.out.set 0 (.slice a5 a7 a6)).set 1 (.slice a8 b0 a9));simp only[List.setIfInBounds_toArray,List.set_cons_zero,List.set_cons_succ]at a1;have r0:=a1.cell 0;have r1:=a1.cell 1;simp only[gq]at r0 r1;have b6:=hid a1;clear a1;refine bodyPost_ret (v:= .agg #[.slice a5 a7 a6,.slice a8 b0 a9]) (by simp[results,Tryz.results35,go_sem,r0,r1]) rfl ?_
 exact RPost.ofF ((((Fr.refl _ _).alloc _).alloc _).alloc _) b4.out b2.out HF.out b3.out (((Fr.refl _ _).wr _ _).wr _ _) (by omega) (by simp) b5 (by simp only[gf])
set_option maxHeartbeats 4000000 in
set_option maxRecDepth 100000 in
theorem uxe(n:Nat)(L:Nat)(h0:uP 261 .int L 116 0)(h1:uP 262 .int L 116 1)(h2:uP 263 (.list (ua1 n)) L 116 2):Reads 191 (.st (ubd [.int,.int,(.list (ua1 n))])) L:=by
 intro w br str o hr hl;have b4:=hr.lt;have b6:=hr.gl.2;have HC:Hid (∀i k s,([261,262,263]:List FuncId)[i]? = some k→([.int,.int,(.list (ua1 n))]:List Shape)[i]? = some s→uP k s L 116 (uq [.int,.int,(.list (ua1 n))] i)):=by
  intro i k s hk hs;rcases i with _|_|_|i
  ·simp only[gq]at hk hs;injection hk with hk;injection hs with hs;subst hk;subst hs;rw[show uq [.int,.int,(.list (ua1 n))] 0=0 from by simp[uq,Shape.sz]];exact h0
  ·simp only[gq]at hk hs;injection hk with hk;injection hs with hs;subst hk;subst hs;rw[show uq [.int,.int,(.list (ua1 n))] 1=1 from by simp[uq,Shape.sz]];exact h1
  ·simp only[gq]at hk hs;injection hk with hk;injection hs with hs;subst hk;subst hs;rw[show uq [.int,.int,(.list (ua1 n))] 2=2 from by simp[uq,Shape.sz]];exact h2
  ·simp at hk
 have HR:=hid hr;have HL:=hid hl;clear hr hl h0 h1 h2;go_enter Tryz.func191,Tryz.ntmps191
 go_wp2_with fail
 refine(uU [.int,.int,(.list (ua1 n))] [261,262,263] 116 L rfl (by simp) (by simp) HC.out _ br w.heap.size (w.heap.size+1) (w.heap.size+1+1) str o [[.int .i64 0],[.int .i64 0],[.slice none 0 0]] (((HR.out.alloc _).alloc _).alloc _) HL.out (((Bk.new' rfl _ _).alloc _).alloc _) ((Bk.new' (by simp) _ _).alloc _) ⟨_,_,rfl,⟨0,rfl,by omega,by omega⟩,⟨_,_,rfl,⟨0,rfl,by omega,by omega⟩,⟨_,_,rfl,⟨none,0,0,rfl⟩,rfl⟩⟩⟩ (Bk.new' (by simp) _ _) (by omega) (by omega) (by omega) (by omega) (by omega) (by omega)).mono ?_
 rintro e w1⟨rfl,vs,a4,a0,a2,hf,a3⟩;have b3:=hid a4;obtain⟨_,_,rfl,t0,_,_,rfl,t1,_,_,rfl,t2,rfl⟩:=a4;obtain⟨a5,rfl⟩:=ug t0;obtain⟨a6,rfl⟩:=ug t1;obtain⟨a7,a9,a8,rfl⟩:=ua t2;simp only[gf]at a0;have e0:=a0.cell 0;have f0:=a0.frozen 0;have e1:=a0.cell 1;have f1:=a0.frozen 1;have e2:=a0.cell 2;have f2:=a0.frozen 2;simp only[gq]at e0 e1 e2;have b0:=hid a0;have b1:=hid a2;have HF:=hid hf;have b2:=hid a3;clear a0 a2 hf a3;go_wp2;have a1:=(((b0.out.set 0 (.int .i64 a5)).set 1 (.int .i64 a6)).set 2 (.slice a7 a9 a8));simp only[List.setIfInBounds_toArray,List.set_cons_zero,List.set_cons_succ]at a1;have r0:=a1.cell 0;have r1:=a1.cell 1;have r2:=a1.cell 2;simp only[gq]at r0 r1 r2;have b5:=hid a1;clear a1;refine bodyPost_ret (v:= .agg #[.int .i64 a5,.int .i64 a6,.slice a7 a9 a8]) (by simp[results,Tryz.results191,go_sem,r0,r1,r2]) rfl ?_
 exact RPost.ofF ((((Fr.refl _ _).alloc _).alloc _).alloc _) b3.out b1.out HF.out b2.out ((((Fr.refl _ _).wr _ _).wr _ _).wr _ _) (by omega) (by simp) b4 (by simp only[gf])
set_option maxHeartbeats 4000000 in
set_option maxRecDepth 100000 in
theorem uwd(n:Nat)(L:Nat)(h0:uP 190 (ua1 n) L 118 0)(h1:uP 192 (.list .int) L 118 3):Reads 103 (.st (ubd [(ua1 n),(.list .int)])) L:=by
 intro w br str o hr hl;have b7:=hr.lt;have b9:=hr.gl.2;have HC:Hid (∀i k s,([190,192]:List FuncId)[i]? = some k→([(ua1 n),(.list .int)]:List Shape)[i]? = some s→uP k s L 118 (uq [(ua1 n),(.list .int)] i)):=by
  intro i k s hk hs;rcases i with _|_|i
  ·simp only[gq]at hk hs;injection hk with hk;injection hs with hs;subst hk;subst hs;rw[show uq [(ua1 n),(.list .int)] 0=0 from by simp[uq,Shape.sz]];exact h0
  ·simp only[gq]at hk hs;injection hk with hk;injection hs with hs;subst hk;subst hs;rw[show uq [(ua1 n),(.list .int)] 1=3 from by simp[uq,Shape.sz,uA]];exact h1
  ·simp at hk
 have HR:=hid hr;have HL:=hid hl;clear hr hl h0 h1;go_enter Tryz.func103,Tryz.ntmps103
 go_wp2_with fail
 refine(uU [(ua1 n),(.list .int)] [190,192] 118 L rfl (by simp) (by simp) HC.out _ br w.heap.size (w.heap.size+1) (w.heap.size+1+1) str o [[.int .i64 0,.int .i64 0,.slice none 0 0],[.slice none 0 0]] (((HR.out.alloc _).alloc _).alloc _) HL.out (((Bk.new' rfl _ _).alloc _).alloc _) ((Bk.new' (by simp) _ _).alloc _) ⟨_,_,rfl,uu4,⟨_,_,rfl,⟨none,0,0,rfl⟩,rfl⟩⟩ (Bk.new' (by simp) _ _) (by omega) (by omega) (by omega) (by omega) (by omega) (by omega)).mono ?_
 rintro e w1⟨rfl,vs,a4,a0,a2,hf,a3⟩;have b6:=hid a4;obtain⟨_,_,rfl,t0,_,_,rfl,t1,rfl⟩:=a4;obtain⟨a5,a6,a7,a9,a8,rfl⟩:=uek t0;obtain⟨b0,b2,b1,rfl⟩:=ua t1;simp only[gf]at a0;have e0:=a0.cell 0;have f0:=a0.frozen 0;have e1:=a0.cell 1;have f1:=a0.frozen 1;have e2:=a0.cell 2;have f2:=a0.frozen 2;have e3:=a0.cell 3;have f3:=a0.frozen 3;simp only[gq]at e0 e1 e2 e3;have b3:=hid a0;have b4:=hid a2;have HF:=hid hf;have b5:=hid a3;clear a0 a2 hf a3;go_wp2;have a1:=((((b3.out.set 0 (.int .i64 a5)).set 1 (.int .i64 a6)).set 2 (.slice a7 a9 a8)).set 3 (.slice b0 b2 b1));simp only[List.setIfInBounds_toArray,List.set_cons_zero,List.set_cons_succ]at a1;have r0:=a1.cell 0;have r1:=a1.cell 1;have r2:=a1.cell 2;have r3:=a1.cell 3;simp only[gq]at r0 r1 r2 r3;have b8:=hid a1;clear a1;refine bodyPost_ret (v:= .agg #[.int .i64 a5,.int .i64 a6,.slice a7 a9 a8,.slice b0 b2 b1]) (by simp[results,Tryz.results103,go_sem,r0,r1,r2,r3]) rfl ?_
 exact RPost.ofF ((((Fr.refl _ _).alloc _).alloc _).alloc _) b6.out b4.out HF.out b5.out (((((Fr.refl _ _).wr _ _).wr _ _).wr _ _).wr _ _) (by omega) (by simp) b7 (by simp only[gf])
set_option maxHeartbeats 4000000 in
set_option maxRecDepth 100000 in
theorem ux7(n:Nat)(L:Nat)(h0:uP 97 (.list (.list .int)) L 30 0)(h1:uP 100 (.list (.list .int)) L 30 1)(h2:uP 101 (.list (uae n)) L 30 2):Reads 40 (.st (ubd [(.list (.list .int)),(.list (.list .int)),(.list (uae n))])) L:=by
 intro w br str o hr hl;have b8:=hr.lt;have c0:=hr.gl.2;have HC:Hid (∀i k s,([97,100,101]:List FuncId)[i]? = some k→([(.list (.list .int)),(.list (.list .int)),(.list (uae n))]:List Shape)[i]? = some s→uP k s L 30 (uq [(.list (.list .int)),(.list (.list .int)),(.list (uae n))] i)):=by
  intro i k s hk hs;rcases i with _|_|_|i
  ·simp only[gq]at hk hs;injection hk with hk;injection hs with hs;subst hk;subst hs;rw[show uq [(.list (.list .int)),(.list (.list .int)),(.list (uae n))] 0=0 from by simp[uq,Shape.sz]];exact h0
  ·simp only[gq]at hk hs;injection hk with hk;injection hs with hs;subst hk;subst hs;rw[show uq [(.list (.list .int)),(.list (.list .int)),(.list (uae n))] 1=1 from by simp[uq,Shape.sz]];exact h1
  ·simp only[gq]at hk hs;injection hk with hk;injection hs with hs;subst hk;subst hs;rw[show uq [(.list (.list .int)),(.list (.list .int)),(.list (uae n))] 2=2 from by simp[uq,Shape.sz]];exact h2
  ·simp at hk
 have HR:=hid hr;have HL:=hid hl;clear hr hl h0 h1 h2;go_enter Tryz.func40,Tryz.ntmps40
 go_wp2_with fail
 refine(uU [(.list (.list .int)),(.list (.list .int)),(.list (uae n))] [97,100,101] 30 L rfl (by simp) (by simp) HC.out _ br w.heap.size (w.heap.size+1) (w.heap.size+1+1) str o [[.slice none 0 0],[.slice none 0 0],[.slice none 0 0]] (((HR.out.alloc _).alloc _).alloc _) HL.out (((Bk.new' rfl _ _).alloc _).alloc _) ((Bk.new' (by simp) _ _).alloc _) ⟨_,_,rfl,⟨none,0,0,rfl⟩,⟨_,_,rfl,⟨none,0,0,rfl⟩,⟨_,_,rfl,⟨none,0,0,rfl⟩,rfl⟩⟩⟩ (Bk.new' (by simp) _ _) (by omega) (by omega) (by omega) (by omega) (by omega) (by omega)).mono ?_
 rintro e w1⟨rfl,vs,a4,a0,a2,hf,a3⟩;have b7:=hid a4;obtain⟨_,_,rfl,t0,_,_,rfl,t1,_,_,rfl,t2,rfl⟩:=a4;obtain⟨a5,a7,a6,rfl⟩:=ua t0;obtain⟨a8,b0,a9,rfl⟩:=ua t1;obtain⟨b1,b3,b2,rfl⟩:=ua t2;simp only[gf]at a0;have e0:=a0.cell 0;have f0:=a0.frozen 0;have e1:=a0.cell 1;have f1:=a0.frozen 1;have e2:=a0.cell 2;have f2:=a0.frozen 2;simp only[gq]at e0 e1 e2;have b4:=hid a0;have b5:=hid a2;have HF:=hid hf;have b6:=hid a3;clear a0 a2 hf a3;go_wp2;have a1:=(((b4.out.set 0 (.slice a5 a7 a6)).set 1 (.slice a8 b0 a9)).set 2 (.slice b1 b3 b2));simp only[List.setIfInBounds_toArray,List.set_cons_zero,List.set_cons_succ]at a1;have r0:=a1.cell 0;have r1:=a1.cell 1;have r2:=a1.cell 2;simp only[gq]at r0 r1 r2;have b9:=hid a1;clear a1;refine bodyPost_ret (v:= .agg #[.slice a5 a7 a6,.slice a8 b0 a9,.slice b1 b3 b2]) (by simp[results,Tryz.results40,go_sem,r0,r1,r2]) rfl ?_
 exact RPost.ofF ((((Fr.refl _ _).alloc _).alloc _).alloc _) b7.out b5.out HF.out b6.out ((((Fr.refl _ _).wr _ _).wr _ _).wr _ _) (by omega) (by simp) b8 (by simp only[gf])
set_option maxHeartbeats 4000000 in
set_option maxRecDepth 100000 in
theorem uoz(n:Nat)(L:Nat)(h0:uP 353 .int L 143 0)(h1:uP 354 (.list (uy n)) L 143 1):Reads 322 (.st (ubd [.int,(.list (uy n))])) L:=by
 intro w br str o hr hl;have b3:=hr.lt;have b5:=hr.gl.2;have HC:Hid (∀i k s,([353,354]:List FuncId)[i]? = some k→([.int,(.list (uy n))]:List Shape)[i]? = some s→uP k s L 143 (uq [.int,(.list (uy n))] i)):=by
  intro i k s hk hs;rcases i with _|_|i
  ·simp only[gq]at hk hs;injection hk with hk;injection hs with hs;subst hk;subst hs;rw[show uq [.int,(.list (uy n))] 0=0 from by simp[uq,Shape.sz]];exact h0
  ·simp only[gq]at hk hs;injection hk with hk;injection hs with hs;subst hk;subst hs;rw[show uq [.int,(.list (uy n))] 1=1 from by simp[uq,Shape.sz]];exact h1
  ·simp at hk
 have HR:=hid hr;have HL:=hid hl;clear hr hl h0 h1;go_enter Tryz.func322,Tryz.ntmps322
 go_wp2_with fail
 refine(uU [.int,(.list (uy n))] [353,354] 143 L rfl (by simp) (by simp) HC.out _ br w.heap.size (w.heap.size+1) (w.heap.size+1+1) str o [[.int .i64 0],[.slice none 0 0]] (((HR.out.alloc _).alloc _).alloc _) HL.out (((Bk.new' rfl _ _).alloc _).alloc _) ((Bk.new' (by simp) _ _).alloc _) ⟨_,_,rfl,⟨0,rfl,by omega,by omega⟩,⟨_,_,rfl,⟨none,0,0,rfl⟩,rfl⟩⟩ (Bk.new' (by simp) _ _) (by omega) (by omega) (by omega) (by omega) (by omega) (by omega)).mono ?_
 rintro e w1⟨rfl,vs,a4,a0,a2,hf,a3⟩;have b2:=hid a4;obtain⟨_,_,rfl,t0,_,_,rfl,t1,rfl⟩:=a4;obtain⟨a5,rfl⟩:=ug t0;obtain⟨a6,a8,a7,rfl⟩:=ua t1;simp only[gf]at a0;have e0:=a0.cell 0;have f0:=a0.frozen 0;have e1:=a0.cell 1;have f1:=a0.frozen 1;simp only[gq]at e0 e1;have a9:=hid a0;have b0:=hid a2;have HF:=hid hf;have b1:=hid a3;clear a0 a2 hf a3;go_wp2;have a1:=((a9.out.set 0 (.int .i64 a5)).set 1 (.slice a6 a8 a7));simp only[List.setIfInBounds_toArray,List.set_cons_zero,List.set_cons_succ]at a1;have r0:=a1.cell 0;have r1:=a1.cell 1;simp only[gq]at r0 r1;have b4:=hid a1;clear a1;refine bodyPost_ret (v:= .agg #[.int .i64 a5,.slice a6 a8 a7]) (by simp[results,Tryz.results322,go_sem,r0,r1]) rfl ?_
 exact RPost.ofF ((((Fr.refl _ _).alloc _).alloc _).alloc _) b2.out b0.out HF.out b1.out (((Fr.refl _ _).wr _ _).wr _ _) (by omega) (by simp) b3 (by simp only[gf])
set_option maxHeartbeats 4000000 in
set_option maxRecDepth 100000 in
theorem ut3(n:Nat)(L:Nat)(h0:uP 320 .int L 145 0)(h1:uP 321 (uy n) L 145 1):Reads 269 (.st (ubd [.int,(uy n)])) L:=by
 intro w br str o hr hl;have b4:=hr.lt;have b6:=hr.gl.2;have HC:Hid (∀i k s,([320,321]:List FuncId)[i]? = some k→([.int,(uy n)]:List Shape)[i]? = some s→uP k s L 145 (uq [.int,(uy n)] i)):=by
  intro i k s hk hs;rcases i with _|_|i
  ·simp only[gq]at hk hs;injection hk with hk;injection hs with hs;subst hk;subst hs;rw[show uq [.int,(uy n)] 0=0 from by simp[uq,Shape.sz]];exact h0
  ·simp only[gq]at hk hs;injection hk with hk;injection hs with hs;subst hk;subst hs;rw[show uq [.int,(uy n)] 1=1 from by simp[uq,Shape.sz]];exact h1
  ·simp at hk
 have HR:=hid hr;have HL:=hid hl;clear hr hl h0 h1;go_enter Tryz.func269,Tryz.ntmps269
 go_wp2_with fail
 refine(uU [.int,(uy n)] [320,321] 145 L rfl (by simp) (by simp) HC.out _ br w.heap.size (w.heap.size+1) (w.heap.size+1+1) str o [[.int .i64 0],[.int .i64 0,.slice none 0 0]] (((HR.out.alloc _).alloc _).alloc _) HL.out (((Bk.new' rfl _ _).alloc _).alloc _) ((Bk.new' (by simp) _ _).alloc _) ⟨_,_,rfl,⟨0,rfl,by omega,by omega⟩,⟨_,_,rfl,upk,rfl⟩⟩ (Bk.new' (by simp) _ _) (by omega) (by omega) (by omega) (by omega) (by omega) (by omega)).mono ?_
 rintro e w1⟨rfl,vs,a4,a0,a2,hf,a3⟩;have b3:=hid a4;obtain⟨_,_,rfl,t0,_,_,rfl,t1,rfl⟩:=a4;obtain⟨a5,rfl⟩:=ug t0;obtain⟨a6,a7,a9,a8,rfl⟩:=ubz t1;simp only[gf]at a0;have e0:=a0.cell 0;have f0:=a0.frozen 0;have e1:=a0.cell 1;have f1:=a0.frozen 1;have e2:=a0.cell 2;have f2:=a0.frozen 2;simp only[gq]at e0 e1 e2;have b0:=hid a0;have b1:=hid a2;have HF:=hid hf;have b2:=hid a3;clear a0 a2 hf a3;go_wp2;have a1:=(((b0.out.set 0 (.int .i64 a5)).set 1 (.int .i64 a6)).set 2 (.slice a7 a9 a8));simp only[List.setIfInBounds_toArray,List.set_cons_zero,List.set_cons_succ]at a1;have r0:=a1.cell 0;have r1:=a1.cell 1;have r2:=a1.cell 2;simp only[gq]at r0 r1 r2;have b5:=hid a1;clear a1;refine bodyPost_ret (v:= .agg #[.int .i64 a5,.int .i64 a6,.slice a7 a9 a8]) (by simp[results,Tryz.results269,go_sem,r0,r1,r2]) rfl ?_
 exact RPost.ofF ((((Fr.refl _ _).alloc _).alloc _).alloc _) b3.out b1.out HF.out b2.out ((((Fr.refl _ _).wr _ _).wr _ _).wr _ _) (by omega) (by simp) b4 (by simp only[gf])
set_option maxHeartbeats 4000000 in
set_option maxRecDepth 100000 in
theorem ux8(L:Nat)(h0:uP 323 uX L 150 0)(h1:uP 324 .int L 150 2):Reads 272 (.st (ubd [uX,.int])) L:=by
 intro w br str o hr hl;have b4:=hr.lt;have b6:=hr.gl.2;have HC:Hid (∀i k s,([323,324]:List FuncId)[i]? = some k→([uX,.int]:List Shape)[i]? = some s→uP k s L 150 (uq [uX,.int] i)):=by
  intro i k s hk hs;rcases i with _|_|i
  ·simp only[gq]at hk hs;injection hk with hk;injection hs with hs;subst hk;subst hs;rw[show uq [uX,.int] 0=0 from by simp[uq,Shape.sz]];exact h0
  ·simp only[gq]at hk hs;injection hk with hk;injection hs with hs;subst hk;subst hs;rw[show uq [uX,.int] 1=2 from by simp[uq,Shape.sz,uw]];exact h1
  ·simp at hk
 have HR:=hid hr;have HL:=hid hl;clear hr hl h0 h1;go_enter Tryz.func272,Tryz.ntmps272
 go_wp2_with fail
 refine(uU [uX,.int] [323,324] 150 L rfl (by simp) (by simp) HC.out _ br w.heap.size (w.heap.size+1) (w.heap.size+1+1) str o [[.int .i64 0,.slice none 0 0],[.int .i64 0]] (((HR.out.alloc _).alloc _).alloc _) HL.out (((Bk.new' rfl _ _).alloc _).alloc _) ((Bk.new' (by simp) _ _).alloc _) ⟨_,_,rfl,ufc,⟨_,_,rfl,⟨0,rfl,by omega,by omega⟩,rfl⟩⟩ (Bk.new' (by simp) _ _) (by omega) (by omega) (by omega) (by omega) (by omega) (by omega)).mono ?_
 rintro e w1⟨rfl,vs,a4,a0,a2,hf,a3⟩;have b3:=hid a4;obtain⟨_,_,rfl,t0,_,_,rfl,t1,rfl⟩:=a4;obtain⟨a5,a6,a8,a7,rfl⟩:=ua2 t0;obtain⟨a9,rfl⟩:=ug t1;simp only[gf]at a0;have e0:=a0.cell 0;have f0:=a0.frozen 0;have e1:=a0.cell 1;have f1:=a0.frozen 1;have e2:=a0.cell 2;have f2:=a0.frozen 2;simp only[gq]at e0 e1 e2;have b0:=hid a0;have b1:=hid a2;have HF:=hid hf;have b2:=hid a3;clear a0 a2 hf a3;go_wp2;have a1:=(((b0.out.set 0 (.int .i64 a5)).set 1 (.slice a6 a8 a7)).set 2 (.int .i64 a9));simp only[List.setIfInBounds_toArray,List.set_cons_zero,List.set_cons_succ]at a1;have r0:=a1.cell 0;have r1:=a1.cell 1;have r2:=a1.cell 2;simp only[gq]at r0 r1 r2;have b5:=hid a1;clear a1;refine bodyPost_ret (v:= .agg #[.int .i64 a5,.slice a6 a8 a7,.int .i64 a9]) (by simp[results,Tryz.results272,go_sem,r0,r1,r2]) rfl ?_
 exact RPost.ofF ((((Fr.refl _ _).alloc _).alloc _).alloc _) b3.out b1.out HF.out b2.out ((((Fr.refl _ _).wr _ _).wr _ _).wr _ _) (by omega) (by simp) b4 (by simp only[gf])
end Go.Proofs.YtellcholbkoakaaGreatDoor
