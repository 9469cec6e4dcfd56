/-
 The reader: structs (printed by gen_codec.py).
-/
import Derived.Test.YtellcholbkoakaaGreatDoorHCRa
namespace Go.Proofs.YtellcholbkoakaaGreatDoor
open Go.Lib (hid)
open Go.RowKit AC
set_option linter.unusedVariables false
set_option linter.unusedSimpArgs false
set_option maxHeartbeats 4000000 in
set_option maxRecDepth 100000 in
theorem st_linTerm(L:Nat)(h0:CloR 259 .int L 219 0)(h1:CloR 260 .int L 219 1):Reads 188 (.st (ands [.int,.int])) L:=by
 intro w br str o hr hl;have hbr:=hr.lt;have hgn:=hr.gl.2;have HC:Hid (∀i k s,([259,260]:List FuncId)[i]? = some k→([.int,.int]:List Shape)[i]? = some s→CloR k s L 219 (offs [.int,.int] i)):=by
  intro i k s hk hs;rcases i with _|_|i
  ·simp only[gq]at hk hs;injection hk with hk;injection hs with hs;subst hk;subst hs;rw[show offs [.int,.int] 0=0 from by simp[offs,Shape.sz]];exact h0
  ·simp only[gq]at hk hs;injection hk with hk;injection hs with hs;subst hk;subst hs;rw[show offs [.int,.int] 1=1 from by simp[offs,Shape.sz]];exact h1
  ·simp at hk
 have HR:=hid hr;have HL:=hid hl;clear hr hl h0 h1;go_enter Tryz.func188,Tryz.ntmps188
 go_wp2_with fail
 refine(fields_any [.int,.int] [259,260] 219 L rfl (by simp) (by simp) HC.out _ br w.heap.size (w.heap.size+1) (w.heap.size+1+1) str o [[.int .i64 0],[.int .i64 0]] (((HR.out.alloc _).alloc _).alloc _) HL.out (((Bk.new' rfl _ _).alloc _).alloc _) ((Bk.new' (by simp) _ _).alloc _) ⟨_,_,rfl,⟨0,rfl,by omega,by omega⟩,⟨_,_,rfl,⟨0,rfl,by omega,by omega⟩,rfl⟩⟩ (Bk.new' (by simp) _ _) (by omega) (by omega) (by omega) (by omega) (by omega) (by omega)).mono ?_
 rintro e w1⟨rfl,vs,htys,hb1,hst,hf,htx⟩;have HTYS:=hid htys;obtain⟨_,_,rfl,t0,_,_,rfl,t1,rfl⟩:=htys;obtain⟨z0n,rfl⟩:=ty_int t0;obtain⟨z1n,rfl⟩:=ty_int t1;simp only[gf]at hb1;have e0:=hb1.cell 0;have f0:=hb1.frozen 0;have e1:=hb1.cell 1;have f1:=hb1.frozen 1;simp only[gq]at e0 e1;have HB1:=hid hb1;have HST:=hid hst;have HF:=hid hf;have HTX:=hid htx;clear hb1 hst hf htx;go_wp2;have hb2:=((HB1.out.set 0 (.int .i64 z0n)).set 1 (.int .i64 z1n));simp only[List.setIfInBounds_toArray,List.set_cons_zero,List.set_cons_succ]at hb2;have r0:=hb2.cell 0;have r1:=hb2.cell 1;simp only[gq]at r0 r1;have HB2:=hid hb2;clear hb2;refine bodyPost_ret (v:= .agg #[.int .i64 z0n,.int .i64 z1n]) (by simp[results,Tryz.results188,go_sem,r0,r1]) rfl ?_
 exact RPost.ofF ((((Fr.refl _ _).alloc _).alloc _).alloc _) HTYS.out HST.out HF.out HTX.out (((Fr.refl _ _).wr _ _).wr _ _) (by omega) (by simp) hbr (by simp only[gf])
set_option maxHeartbeats 4000000 in
set_option maxRecDepth 100000 in
theorem st_lin(L:Nat)(h0:CloR 185 .int L 148 0)(h1:CloR 186 (.list linTermS) L 148 1):Reads 95 (.st (ands [.int,(.list linTermS)])) L:=by
 intro w br str o hr hl;have hbr:=hr.lt;have hgn:=hr.gl.2;have HC:Hid (∀i k s,([185,186]:List FuncId)[i]? = some k→([.int,(.list linTermS)]:List Shape)[i]? = some s→CloR k s L 148 (offs [.int,(.list linTermS)] i)):=by
  intro i k s hk hs;rcases i with _|_|i
  ·simp only[gq]at hk hs;injection hk with hk;injection hs with hs;subst hk;subst hs;rw[show offs [.int,(.list linTermS)] 0=0 from by simp[offs,Shape.sz]];exact h0
  ·simp only[gq]at hk hs;injection hk with hk;injection hs with hs;subst hk;subst hs;rw[show offs [.int,(.list linTermS)] 1=1 from by simp[offs,Shape.sz]];exact h1
  ·simp at hk
 have HR:=hid hr;have HL:=hid hl;clear hr hl h0 h1;go_enter Tryz.func95,Tryz.ntmps95
 go_wp2_with fail
 refine(fields_any [.int,(.list linTermS)] [185,186] 148 L rfl (by simp) (by simp) HC.out _ br w.heap.size (w.heap.size+1) (w.heap.size+1+1) str o [[.int .i64 0],[.slice none 0 0]] (((HR.out.alloc _).alloc _).alloc _) HL.out (((Bk.new' rfl _ _).alloc _).alloc _) ((Bk.new' (by simp) _ _).alloc _) ⟨_,_,rfl,⟨0,rfl,by omega,by omega⟩,⟨_,_,rfl,⟨none,0,0,rfl⟩,rfl⟩⟩ (Bk.new' (by simp) _ _) (by omega) (by omega) (by omega) (by omega) (by omega) (by omega)).mono ?_
 rintro e w1⟨rfl,vs,htys,hb1,hst,hf,htx⟩;have HTYS:=hid htys;obtain⟨_,_,rfl,t0,_,_,rfl,t1,rfl⟩:=htys;obtain⟨z0n,rfl⟩:=ty_int t0;obtain⟨z1A,z1k,z1c,rfl⟩:=ty_list t1;simp only[gf]at hb1;have e0:=hb1.cell 0;have f0:=hb1.frozen 0;have e1:=hb1.cell 1;have f1:=hb1.frozen 1;simp only[gq]at e0 e1;have HB1:=hid hb1;have HST:=hid hst;have HF:=hid hf;have HTX:=hid htx;clear hb1 hst hf htx;go_wp2;have hb2:=((HB1.out.set 0 (.int .i64 z0n)).set 1 (.slice z1A z1k z1c));simp only[List.setIfInBounds_toArray,List.set_cons_zero,List.set_cons_succ]at hb2;have r0:=hb2.cell 0;have r1:=hb2.cell 1;simp only[gq]at r0 r1;have HB2:=hid hb2;clear hb2;refine bodyPost_ret (v:= .agg #[.int .i64 z0n,.slice z1A z1k z1c]) (by simp[results,Tryz.results95,go_sem,r0,r1]) rfl ?_
 exact RPost.ofF ((((Fr.refl _ _).alloc _).alloc _).alloc _) HTYS.out HST.out HF.out HTX.out (((Fr.refl _ _).wr _ _).wr _ _) (by omega) (by simp) hbr (by simp only[gf])
set_option maxHeartbeats 4000000 in
set_option maxRecDepth 100000 in
theorem st_relation(L:Nat)(h0:CloR 93 (.list linS) L 105 0)(h1:CloR 96 (.list linS) L 105 1):Reads 38 (.st (ands [(.list linS),(.list linS)])) L:=by
 intro w br str o hr hl;have hbr:=hr.lt;have hgn:=hr.gl.2;have HC:Hid (∀i k s,([93,96]:List FuncId)[i]? = some k→([(.list linS),(.list linS)]:List Shape)[i]? = some s→CloR k s L 105 (offs [(.list linS),(.list linS)] i)):=by
  intro i k s hk hs;rcases i with _|_|i
  ·simp only[gq]at hk hs;injection hk with hk;injection hs with hs;subst hk;subst hs;rw[show offs [(.list linS),(.list linS)] 0=0 from by simp[offs,Shape.sz]];exact h0
  ·simp only[gq]at hk hs;injection hk with hk;injection hs with hs;subst hk;subst hs;rw[show offs [(.list linS),(.list linS)] 1=1 from by simp[offs,Shape.sz]];exact h1
  ·simp at hk
 have HR:=hid hr;have HL:=hid hl;clear hr hl h0 h1;go_enter Tryz.func38,Tryz.ntmps38
 go_wp2_with fail
 refine(fields_any [(.list linS),(.list linS)] [93,96] 105 L rfl (by simp) (by simp) HC.out _ br w.heap.size (w.heap.size+1) (w.heap.size+1+1) str o [[.slice none 0 0],[.slice none 0 0]] (((HR.out.alloc _).alloc _).alloc _) HL.out (((Bk.new' rfl _ _).alloc _).alloc _) ((Bk.new' (by simp) _ _).alloc _) ⟨_,_,rfl,⟨none,0,0,rfl⟩,⟨_,_,rfl,⟨none,0,0,rfl⟩,rfl⟩⟩ (Bk.new' (by simp) _ _) (by omega) (by omega) (by omega) (by omega) (by omega) (by omega)).mono ?_
 rintro e w1⟨rfl,vs,htys,hb1,hst,hf,htx⟩;have HTYS:=hid htys;obtain⟨_,_,rfl,t0,_,_,rfl,t1,rfl⟩:=htys;obtain⟨z0A,z0k,z0c,rfl⟩:=ty_list t0;obtain⟨z1A,z1k,z1c,rfl⟩:=ty_list t1;simp only[gf]at hb1;have e0:=hb1.cell 0;have f0:=hb1.frozen 0;have e1:=hb1.cell 1;have f1:=hb1.frozen 1;simp only[gq]at e0 e1;have HB1:=hid hb1;have HST:=hid hst;have HF:=hid hf;have HTX:=hid htx;clear hb1 hst hf htx;go_wp2;have hb2:=((HB1.out.set 0 (.slice z0A z0k z0c)).set 1 (.slice z1A z1k z1c));simp only[List.setIfInBounds_toArray,List.set_cons_zero,List.set_cons_succ]at hb2;have r0:=hb2.cell 0;have r1:=hb2.cell 1;simp only[gq]at r0 r1;have HB2:=hid hb2;clear hb2;refine bodyPost_ret (v:= .agg #[.slice z0A z0k z0c,.slice z1A z1k z1c]) (by simp[results,Tryz.results38,go_sem,r0,r1]) rfl ?_
 exact RPost.ofF ((((Fr.refl _ _).alloc _).alloc _).alloc _) HTYS.out HST.out HF.out HTX.out (((Fr.refl _ _).wr _ _).wr _ _) (by omega) (by simp) hbr (by simp only[gf])
set_option maxHeartbeats 4000000 in
set_option maxRecDepth 100000 in
theorem st_metric(L:Nat)(h0:CloR 89 (.list .int) L 25 0)(h1:CloR 91 (.list .int) L 25 1):Reads 35 (.st (ands [(.list .int),(.list .int)])) L:=by
 intro w br str o hr hl;have hbr:=hr.lt;have hgn:=hr.gl.2;have HC:Hid (∀i k s,([89,91]:List FuncId)[i]? = some k→([(.list .int),(.list .int)]:List Shape)[i]? = some s→CloR k s L 25 (offs [(.list .int),(.list .int)] i)):=by
  intro i k s hk hs;rcases i with _|_|i
  ·simp only[gq]at hk hs;injection hk with hk;injection hs with hs;subst hk;subst hs;rw[show offs [(.list .int),(.list .int)] 0=0 from by simp[offs,Shape.sz]];exact h0
  ·simp only[gq]at hk hs;injection hk with hk;injection hs with hs;subst hk;subst hs;rw[show offs [(.list .int),(.list .int)] 1=1 from by simp[offs,Shape.sz]];exact h1
  ·simp at hk
 have HR:=hid hr;have HL:=hid hl;clear hr hl h0 h1;go_enter Tryz.func35,Tryz.ntmps35
 go_wp2_with fail
 refine(fields_any [(.list .int),(.list .int)] [89,91] 25 L rfl (by simp) (by simp) HC.out _ br w.heap.size (w.heap.size+1) (w.heap.size+1+1) str o [[.slice none 0 0],[.slice none 0 0]] (((HR.out.alloc _).alloc _).alloc _) HL.out (((Bk.new' rfl _ _).alloc _).alloc _) ((Bk.new' (by simp) _ _).alloc _) ⟨_,_,rfl,⟨none,0,0,rfl⟩,⟨_,_,rfl,⟨none,0,0,rfl⟩,rfl⟩⟩ (Bk.new' (by simp) _ _) (by omega) (by omega) (by omega) (by omega) (by omega) (by omega)).mono ?_
 rintro e w1⟨rfl,vs,htys,hb1,hst,hf,htx⟩;have HTYS:=hid htys;obtain⟨_,_,rfl,t0,_,_,rfl,t1,rfl⟩:=htys;obtain⟨z0A,z0k,z0c,rfl⟩:=ty_list t0;obtain⟨z1A,z1k,z1c,rfl⟩:=ty_list t1;simp only[gf]at hb1;have e0:=hb1.cell 0;have f0:=hb1.frozen 0;have e1:=hb1.cell 1;have f1:=hb1.frozen 1;simp only[gq]at e0 e1;have HB1:=hid hb1;have HST:=hid hst;have HF:=hid hf;have HTX:=hid htx;clear hb1 hst hf htx;go_wp2;have hb2:=((HB1.out.set 0 (.slice z0A z0k z0c)).set 1 (.slice z1A z1k z1c));simp only[List.setIfInBounds_toArray,List.set_cons_zero,List.set_cons_succ]at hb2;have r0:=hb2.cell 0;have r1:=hb2.cell 1;simp only[gq]at r0 r1;have HB2:=hid hb2;clear hb2;refine bodyPost_ret (v:= .agg #[.slice z0A z0k z0c,.slice z1A z1k z1c]) (by simp[results,Tryz.results35,go_sem,r0,r1]) rfl ?_
 exact RPost.ofF ((((Fr.refl _ _).alloc _).alloc _).alloc _) HTYS.out HST.out HF.out HTX.out (((Fr.refl _ _).wr _ _).wr _ _) (by omega) (by simp) hbr (by simp only[gf])
set_option maxHeartbeats 4000000 in
set_option maxRecDepth 100000 in
theorem st_typ(n:Nat)(L:Nat)(h0:CloR 261 .int L 116 0)(h1:CloR 262 .int L 116 1)(h2:CloR 263 (.list (typS n)) L 116 2):Reads 191 (.st (ands [.int,.int,(.list (typS n))])) L:=by
 intro w br str o hr hl;have hbr:=hr.lt;have hgn:=hr.gl.2;have HC:Hid (∀i k s,([261,262,263]:List FuncId)[i]? = some k→([.int,.int,(.list (typS n))]:List Shape)[i]? = some s→CloR k s L 116 (offs [.int,.int,(.list (typS n))] i)):=by
  intro i k s hk hs;rcases i with _|_|_|i
  ·simp only[gq]at hk hs;injection hk with hk;injection hs with hs;subst hk;subst hs;rw[show offs [.int,.int,(.list (typS n))] 0=0 from by simp[offs,Shape.sz]];exact h0
  ·simp only[gq]at hk hs;injection hk with hk;injection hs with hs;subst hk;subst hs;rw[show offs [.int,.int,(.list (typS n))] 1=1 from by simp[offs,Shape.sz]];exact h1
  ·simp only[gq]at hk hs;injection hk with hk;injection hs with hs;subst hk;subst hs;rw[show offs [.int,.int,(.list (typS n))] 2=2 from by simp[offs,Shape.sz]];exact h2
  ·simp at hk
 have HR:=hid hr;have HL:=hid hl;clear hr hl h0 h1 h2;go_enter Tryz.func191,Tryz.ntmps191
 go_wp2_with fail
 refine(fields_any [.int,.int,(.list (typS n))] [261,262,263] 116 L rfl (by simp) (by simp) HC.out _ br w.heap.size (w.heap.size+1) (w.heap.size+1+1) str o [[.int .i64 0],[.int .i64 0],[.slice none 0 0]] (((HR.out.alloc _).alloc _).alloc _) HL.out (((Bk.new' rfl _ _).alloc _).alloc _) ((Bk.new' (by simp) _ _).alloc _) ⟨_,_,rfl,⟨0,rfl,by omega,by omega⟩,⟨_,_,rfl,⟨0,rfl,by omega,by omega⟩,⟨_,_,rfl,⟨none,0,0,rfl⟩,rfl⟩⟩⟩ (Bk.new' (by simp) _ _) (by omega) (by omega) (by omega) (by omega) (by omega) (by omega)).mono ?_
 rintro e w1⟨rfl,vs,htys,hb1,hst,hf,htx⟩;have HTYS:=hid htys;obtain⟨_,_,rfl,t0,_,_,rfl,t1,_,_,rfl,t2,rfl⟩:=htys;obtain⟨z0n,rfl⟩:=ty_int t0;obtain⟨z1n,rfl⟩:=ty_int t1;obtain⟨z2A,z2k,z2c,rfl⟩:=ty_list t2;simp only[gf]at hb1;have e0:=hb1.cell 0;have f0:=hb1.frozen 0;have e1:=hb1.cell 1;have f1:=hb1.frozen 1;have e2:=hb1.cell 2;have f2:=hb1.frozen 2;simp only[gq]at e0 e1 e2;have HB1:=hid hb1;have HST:=hid hst;have HF:=hid hf;have HTX:=hid htx;clear hb1 hst hf htx;go_wp2;have hb2:=(((HB1.out.set 0 (.int .i64 z0n)).set 1 (.int .i64 z1n)).set 2 (.slice z2A z2k z2c));simp only[List.setIfInBounds_toArray,List.set_cons_zero,List.set_cons_succ]at hb2;have r0:=hb2.cell 0;have r1:=hb2.cell 1;have r2:=hb2.cell 2;simp only[gq]at r0 r1 r2;have HB2:=hid hb2;clear hb2;refine bodyPost_ret (v:= .agg #[.int .i64 z0n,.int .i64 z1n,.slice z2A z2k z2c]) (by simp[results,Tryz.results191,go_sem,r0,r1,r2]) rfl ?_
 exact RPost.ofF ((((Fr.refl _ _).alloc _).alloc _).alloc _) HTYS.out HST.out HF.out HTX.out ((((Fr.refl _ _).wr _ _).wr _ _).wr _ _) (by omega) (by simp) hbr (by simp only[gf])
set_option maxHeartbeats 4000000 in
set_option maxRecDepth 100000 in
theorem st_store(n:Nat)(L:Nat)(h0:CloR 190 (typS n) L 118 0)(h1:CloR 192 (.list .int) L 118 3):Reads 103 (.st (ands [(typS n),(.list .int)])) L:=by
 intro w br str o hr hl;have hbr:=hr.lt;have hgn:=hr.gl.2;have HC:Hid (∀i k s,([190,192]:List FuncId)[i]? = some k→([(typS n),(.list .int)]:List Shape)[i]? = some s→CloR k s L 118 (offs [(typS n),(.list .int)] i)):=by
  intro i k s hk hs;rcases i with _|_|i
  ·simp only[gq]at hk hs;injection hk with hk;injection hs with hs;subst hk;subst hs;rw[show offs [(typS n),(.list .int)] 0=0 from by simp[offs,Shape.sz]];exact h0
  ·simp only[gq]at hk hs;injection hk with hk;injection hs with hs;subst hk;subst hs;rw[show offs [(typS n),(.list .int)] 1=3 from by simp[offs,Shape.sz,sz_typ]];exact h1
  ·simp at hk
 have HR:=hid hr;have HL:=hid hl;clear hr hl h0 h1;go_enter Tryz.func103,Tryz.ntmps103
 go_wp2_with fail
 refine(fields_any [(typS n),(.list .int)] [190,192] 118 L rfl (by simp) (by simp) HC.out _ br w.heap.size (w.heap.size+1) (w.heap.size+1+1) str o [[.int .i64 0,.int .i64 0,.slice none 0 0],[.slice none 0 0]] (((HR.out.alloc _).alloc _).alloc _) HL.out (((Bk.new' rfl _ _).alloc _).alloc _) ((Bk.new' (by simp) _ _).alloc _) ⟨_,_,rfl,zero_typ,⟨_,_,rfl,⟨none,0,0,rfl⟩,rfl⟩⟩ (Bk.new' (by simp) _ _) (by omega) (by omega) (by omega) (by omega) (by omega) (by omega)).mono ?_
 rintro e w1⟨rfl,vs,htys,hb1,hst,hf,htx⟩;have HTYS:=hid htys;obtain⟨_,_,rfl,t0,_,_,rfl,t1,rfl⟩:=htys;obtain⟨z0_0n,z0_1n,z0_2A,z0_2k,z0_2c,rfl⟩:=ty_typ t0;obtain⟨z1A,z1k,z1c,rfl⟩:=ty_list t1;simp only[gf]at hb1;have e0:=hb1.cell 0;have f0:=hb1.frozen 0;have e1:=hb1.cell 1;have f1:=hb1.frozen 1;have e2:=hb1.cell 2;have f2:=hb1.frozen 2;have e3:=hb1.cell 3;have f3:=hb1.frozen 3;simp only[gq]at e0 e1 e2 e3;have HB1:=hid hb1;have HST:=hid hst;have HF:=hid hf;have HTX:=hid htx;clear hb1 hst hf htx;go_wp2;have hb2:=((((HB1.out.set 0 (.int .i64 z0_0n)).set 1 (.int .i64 z0_1n)).set 2 (.slice z0_2A z0_2k z0_2c)).set 3 (.slice z1A z1k z1c));simp only[List.setIfInBounds_toArray,List.set_cons_zero,List.set_cons_succ]at hb2;have r0:=hb2.cell 0;have r1:=hb2.cell 1;have r2:=hb2.cell 2;have r3:=hb2.cell 3;simp only[gq]at r0 r1 r2 r3;have HB2:=hid hb2;clear hb2;refine bodyPost_ret (v:= .agg #[.int .i64 z0_0n,.int .i64 z0_1n,.slice z0_2A z0_2k z0_2c,.slice z1A z1k z1c]) (by simp[results,Tryz.results103,go_sem,r0,r1,r2,r3]) rfl ?_
 exact RPost.ofF ((((Fr.refl _ _).alloc _).alloc _).alloc _) HTYS.out HST.out HF.out HTX.out (((((Fr.refl _ _).wr _ _).wr _ _).wr _ _).wr _ _) (by omega) (by simp) hbr (by simp only[gf])
set_option maxHeartbeats 4000000 in
set_option maxRecDepth 100000 in
theorem st_flow(n:Nat)(L:Nat)(h0:CloR 97 (.list (.list .int)) L 30 0)(h1:CloR 100 (.list (.list .int)) L 30 1)(h2:CloR 101 (.list (storeS n)) L 30 2):Reads 40 (.st (ands [(.list (.list .int)),(.list (.list .int)),(.list (storeS n))])) L:=by
 intro w br str o hr hl;have hbr:=hr.lt;have hgn:=hr.gl.2;have HC:Hid (∀i k s,([97,100,101]:List FuncId)[i]? = some k→([(.list (.list .int)),(.list (.list .int)),(.list (storeS n))]:List Shape)[i]? = some s→CloR k s L 30 (offs [(.list (.list .int)),(.list (.list .int)),(.list (storeS n))] i)):=by
  intro i k s hk hs;rcases i with _|_|_|i
  ·simp only[gq]at hk hs;injection hk with hk;injection hs with hs;subst hk;subst hs;rw[show offs [(.list (.list .int)),(.list (.list .int)),(.list (storeS n))] 0=0 from by simp[offs,Shape.sz]];exact h0
  ·simp only[gq]at hk hs;injection hk with hk;injection hs with hs;subst hk;subst hs;rw[show offs [(.list (.list .int)),(.list (.list .int)),(.list (storeS n))] 1=1 from by simp[offs,Shape.sz]];exact h1
  ·simp only[gq]at hk hs;injection hk with hk;injection hs with hs;subst hk;subst hs;rw[show offs [(.list (.list .int)),(.list (.list .int)),(.list (storeS n))] 2=2 from by simp[offs,Shape.sz]];exact h2
  ·simp at hk
 have HR:=hid hr;have HL:=hid hl;clear hr hl h0 h1 h2;go_enter Tryz.func40,Tryz.ntmps40
 go_wp2_with fail
 refine(fields_any [(.list (.list .int)),(.list (.list .int)),(.list (storeS n))] [97,100,101] 30 L rfl (by simp) (by simp) HC.out _ br w.heap.size (w.heap.size+1) (w.heap.size+1+1) str o [[.slice none 0 0],[.slice none 0 0],[.slice none 0 0]] (((HR.out.alloc _).alloc _).alloc _) HL.out (((Bk.new' rfl _ _).alloc _).alloc _) ((Bk.new' (by simp) _ _).alloc _) ⟨_,_,rfl,⟨none,0,0,rfl⟩,⟨_,_,rfl,⟨none,0,0,rfl⟩,⟨_,_,rfl,⟨none,0,0,rfl⟩,rfl⟩⟩⟩ (Bk.new' (by simp) _ _) (by omega) (by omega) (by omega) (by omega) (by omega) (by omega)).mono ?_
 rintro e w1⟨rfl,vs,htys,hb1,hst,hf,htx⟩;have HTYS:=hid htys;obtain⟨_,_,rfl,t0,_,_,rfl,t1,_,_,rfl,t2,rfl⟩:=htys;obtain⟨z0A,z0k,z0c,rfl⟩:=ty_list t0;obtain⟨z1A,z1k,z1c,rfl⟩:=ty_list t1;obtain⟨z2A,z2k,z2c,rfl⟩:=ty_list t2;simp only[gf]at hb1;have e0:=hb1.cell 0;have f0:=hb1.frozen 0;have e1:=hb1.cell 1;have f1:=hb1.frozen 1;have e2:=hb1.cell 2;have f2:=hb1.frozen 2;simp only[gq]at e0 e1 e2;have HB1:=hid hb1;have HST:=hid hst;have HF:=hid hf;have HTX:=hid htx;clear hb1 hst hf htx;go_wp2;have hb2:=(((HB1.out.set 0 (.slice z0A z0k z0c)).set 1 (.slice z1A z1k z1c)).set 2 (.slice z2A z2k z2c));simp only[List.setIfInBounds_toArray,List.set_cons_zero,List.set_cons_succ]at hb2;have r0:=hb2.cell 0;have r1:=hb2.cell 1;have r2:=hb2.cell 2;simp only[gq]at r0 r1 r2;have HB2:=hid hb2;clear hb2;refine bodyPost_ret (v:= .agg #[.slice z0A z0k z0c,.slice z1A z1k z1c,.slice z2A z2k z2c]) (by simp[results,Tryz.results40,go_sem,r0,r1,r2]) rfl ?_
 exact RPost.ofF ((((Fr.refl _ _).alloc _).alloc _).alloc _) HTYS.out HST.out HF.out HTX.out ((((Fr.refl _ _).wr _ _).wr _ _).wr _ _) (by omega) (by simp) hbr (by simp only[gf])
set_option maxHeartbeats 4000000 in
set_option maxRecDepth 100000 in
theorem st_index(n:Nat)(L:Nat)(h0:CloR 353 .int L 143 0)(h1:CloR 354 (.list (indexS n)) L 143 1):Reads 322 (.st (ands [.int,(.list (indexS n))])) L:=by
 intro w br str o hr hl;have hbr:=hr.lt;have hgn:=hr.gl.2;have HC:Hid (∀i k s,([353,354]:List FuncId)[i]? = some k→([.int,(.list (indexS n))]:List Shape)[i]? = some s→CloR k s L 143 (offs [.int,(.list (indexS n))] i)):=by
  intro i k s hk hs;rcases i with _|_|i
  ·simp only[gq]at hk hs;injection hk with hk;injection hs with hs;subst hk;subst hs;rw[show offs [.int,(.list (indexS n))] 0=0 from by simp[offs,Shape.sz]];exact h0
  ·simp only[gq]at hk hs;injection hk with hk;injection hs with hs;subst hk;subst hs;rw[show offs [.int,(.list (indexS n))] 1=1 from by simp[offs,Shape.sz]];exact h1
  ·simp at hk
 have HR:=hid hr;have HL:=hid hl;clear hr hl h0 h1;go_enter Tryz.func322,Tryz.ntmps322
 go_wp2_with fail
 refine(fields_any [.int,(.list (indexS n))] [353,354] 143 L rfl (by simp) (by simp) HC.out _ br w.heap.size (w.heap.size+1) (w.heap.size+1+1) str o [[.int .i64 0],[.slice none 0 0]] (((HR.out.alloc _).alloc _).alloc _) HL.out (((Bk.new' rfl _ _).alloc _).alloc _) ((Bk.new' (by simp) _ _).alloc _) ⟨_,_,rfl,⟨0,rfl,by omega,by omega⟩,⟨_,_,rfl,⟨none,0,0,rfl⟩,rfl⟩⟩ (Bk.new' (by simp) _ _) (by omega) (by omega) (by omega) (by omega) (by omega) (by omega)).mono ?_
 rintro e w1⟨rfl,vs,htys,hb1,hst,hf,htx⟩;have HTYS:=hid htys;obtain⟨_,_,rfl,t0,_,_,rfl,t1,rfl⟩:=htys;obtain⟨z0n,rfl⟩:=ty_int t0;obtain⟨z1A,z1k,z1c,rfl⟩:=ty_list t1;simp only[gf]at hb1;have e0:=hb1.cell 0;have f0:=hb1.frozen 0;have e1:=hb1.cell 1;have f1:=hb1.frozen 1;simp only[gq]at e0 e1;have HB1:=hid hb1;have HST:=hid hst;have HF:=hid hf;have HTX:=hid htx;clear hb1 hst hf htx;go_wp2;have hb2:=((HB1.out.set 0 (.int .i64 z0n)).set 1 (.slice z1A z1k z1c));simp only[List.setIfInBounds_toArray,List.set_cons_zero,List.set_cons_succ]at hb2;have r0:=hb2.cell 0;have r1:=hb2.cell 1;simp only[gq]at r0 r1;have HB2:=hid hb2;clear hb2;refine bodyPost_ret (v:= .agg #[.int .i64 z0n,.slice z1A z1k z1c]) (by simp[results,Tryz.results322,go_sem,r0,r1]) rfl ?_
 exact RPost.ofF ((((Fr.refl _ _).alloc _).alloc _).alloc _) HTYS.out HST.out HF.out HTX.out (((Fr.refl _ _).wr _ _).wr _ _) (by omega) (by simp) hbr (by simp only[gf])
set_option maxHeartbeats 4000000 in
set_option maxRecDepth 100000 in
theorem st_factor(n:Nat)(L:Nat)(h0:CloR 320 .int L 145 0)(h1:CloR 321 (indexS n) L 145 1):Reads 269 (.st (ands [.int,(indexS n)])) L:=by
 intro w br str o hr hl;have hbr:=hr.lt;have hgn:=hr.gl.2;have HC:Hid (∀i k s,([320,321]:List FuncId)[i]? = some k→([.int,(indexS n)]:List Shape)[i]? = some s→CloR k s L 145 (offs [.int,(indexS n)] i)):=by
  intro i k s hk hs;rcases i with _|_|i
  ·simp only[gq]at hk hs;injection hk with hk;injection hs with hs;subst hk;subst hs;rw[show offs [.int,(indexS n)] 0=0 from by simp[offs,Shape.sz]];exact h0
  ·simp only[gq]at hk hs;injection hk with hk;injection hs with hs;subst hk;subst hs;rw[show offs [.int,(indexS n)] 1=1 from by simp[offs,Shape.sz]];exact h1
  ·simp at hk
 have HR:=hid hr;have HL:=hid hl;clear hr hl h0 h1;go_enter Tryz.func269,Tryz.ntmps269
 go_wp2_with fail
 refine(fields_any [.int,(indexS n)] [320,321] 145 L rfl (by simp) (by simp) HC.out _ br w.heap.size (w.heap.size+1) (w.heap.size+1+1) str o [[.int .i64 0],[.int .i64 0,.slice none 0 0]] (((HR.out.alloc _).alloc _).alloc _) HL.out (((Bk.new' rfl _ _).alloc _).alloc _) ((Bk.new' (by simp) _ _).alloc _) ⟨_,_,rfl,⟨0,rfl,by omega,by omega⟩,⟨_,_,rfl,zero_index,rfl⟩⟩ (Bk.new' (by simp) _ _) (by omega) (by omega) (by omega) (by omega) (by omega) (by omega)).mono ?_
 rintro e w1⟨rfl,vs,htys,hb1,hst,hf,htx⟩;have HTYS:=hid htys;obtain⟨_,_,rfl,t0,_,_,rfl,t1,rfl⟩:=htys;obtain⟨z0n,rfl⟩:=ty_int t0;obtain⟨z1_0n,z1_1A,z1_1k,z1_1c,rfl⟩:=ty_index t1;simp only[gf]at hb1;have e0:=hb1.cell 0;have f0:=hb1.frozen 0;have e1:=hb1.cell 1;have f1:=hb1.frozen 1;have e2:=hb1.cell 2;have f2:=hb1.frozen 2;simp only[gq]at e0 e1 e2;have HB1:=hid hb1;have HST:=hid hst;have HF:=hid hf;have HTX:=hid htx;clear hb1 hst hf htx;go_wp2;have hb2:=(((HB1.out.set 0 (.int .i64 z0n)).set 1 (.int .i64 z1_0n)).set 2 (.slice z1_1A z1_1k z1_1c));simp only[List.setIfInBounds_toArray,List.set_cons_zero,List.set_cons_succ]at hb2;have r0:=hb2.cell 0;have r1:=hb2.cell 1;have r2:=hb2.cell 2;simp only[gq]at r0 r1 r2;have HB2:=hid hb2;clear hb2;refine bodyPost_ret (v:= .agg #[.int .i64 z0n,.int .i64 z1_0n,.slice z1_1A z1_1k z1_1c]) (by simp[results,Tryz.results269,go_sem,r0,r1,r2]) rfl ?_
 exact RPost.ofF ((((Fr.refl _ _).alloc _).alloc _).alloc _) HTYS.out HST.out HF.out HTX.out ((((Fr.refl _ _).wr _ _).wr _ _).wr _ _) (by omega) (by simp) hbr (by simp only[gf])
set_option maxHeartbeats 4000000 in
set_option maxRecDepth 100000 in
theorem st_atom(L:Nat)(h0:CloR 323 linS L 150 0)(h1:CloR 324 .int L 150 2):Reads 272 (.st (ands [linS,.int])) L:=by
 intro w br str o hr hl;have hbr:=hr.lt;have hgn:=hr.gl.2;have HC:Hid (∀i k s,([323,324]:List FuncId)[i]? = some k→([linS,.int]:List Shape)[i]? = some s→CloR k s L 150 (offs [linS,.int] i)):=by
  intro i k s hk hs;rcases i with _|_|i
  ·simp only[gq]at hk hs;injection hk with hk;injection hs with hs;subst hk;subst hs;rw[show offs [linS,.int] 0=0 from by simp[offs,Shape.sz]];exact h0
  ·simp only[gq]at hk hs;injection hk with hk;injection hs with hs;subst hk;subst hs;rw[show offs [linS,.int] 1=2 from by simp[offs,Shape.sz,sz_lin]];exact h1
  ·simp at hk
 have HR:=hid hr;have HL:=hid hl;clear hr hl h0 h1;go_enter Tryz.func272,Tryz.ntmps272
 go_wp2_with fail
 refine(fields_any [linS,.int] [323,324] 150 L rfl (by simp) (by simp) HC.out _ br w.heap.size (w.heap.size+1) (w.heap.size+1+1) str o [[.int .i64 0,.slice none 0 0],[.int .i64 0]] (((HR.out.alloc _).alloc _).alloc _) HL.out (((Bk.new' rfl _ _).alloc _).alloc _) ((Bk.new' (by simp) _ _).alloc _) ⟨_,_,rfl,zero_lin,⟨_,_,rfl,⟨0,rfl,by omega,by omega⟩,rfl⟩⟩ (Bk.new' (by simp) _ _) (by omega) (by omega) (by omega) (by omega) (by omega) (by omega)).mono ?_
 rintro e w1⟨rfl,vs,htys,hb1,hst,hf,htx⟩;have HTYS:=hid htys;obtain⟨_,_,rfl,t0,_,_,rfl,t1,rfl⟩:=htys;obtain⟨z0_0n,z0_1A,z0_1k,z0_1c,rfl⟩:=ty_lin t0;obtain⟨z1n,rfl⟩:=ty_int t1;simp only[gf]at hb1;have e0:=hb1.cell 0;have f0:=hb1.frozen 0;have e1:=hb1.cell 1;have f1:=hb1.frozen 1;have e2:=hb1.cell 2;have f2:=hb1.frozen 2;simp only[gq]at e0 e1 e2;have HB1:=hid hb1;have HST:=hid hst;have HF:=hid hf;have HTX:=hid htx;clear hb1 hst hf htx;go_wp2;have hb2:=(((HB1.out.set 0 (.int .i64 z0_0n)).set 1 (.slice z0_1A z0_1k z0_1c)).set 2 (.int .i64 z1n));simp only[List.setIfInBounds_toArray,List.set_cons_zero,List.set_cons_succ]at hb2;have r0:=hb2.cell 0;have r1:=hb2.cell 1;have r2:=hb2.cell 2;simp only[gq]at r0 r1 r2;have HB2:=hid hb2;clear hb2;refine bodyPost_ret (v:= .agg #[.int .i64 z0_0n,.slice z0_1A z0_1k z0_1c,.int .i64 z1n]) (by simp[results,Tryz.results272,go_sem,r0,r1,r2]) rfl ?_
 exact RPost.ofF ((((Fr.refl _ _).alloc _).alloc _).alloc _) HTYS.out HST.out HF.out HTX.out ((((Fr.refl _ _).wr _ _).wr _ _).wr _ _) (by omega) (by simp) hbr (by simp only[gf])
end Go.Proofs.YtellcholbkoakaaGreatDoor
