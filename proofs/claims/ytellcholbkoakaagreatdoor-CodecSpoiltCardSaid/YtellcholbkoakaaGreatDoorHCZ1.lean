/-
 The writer: structs (printed by gen_codec.py).
-/
import Derived.Test.YtellcholbkoakaaGreatDoorHCWa
import Derived.Test.YtellcholbkoakaaGreatDoorHCRa
namespace Go.Proofs.YtellcholbkoakaaGreatDoor
open Go.Lib (hid)
open Go.RowKit AC
set_option linter.unusedVariables false
set_option linter.unusedSimpArgs false
set_option maxHeartbeats 4000000 in
set_option maxRecDepth 100000 in
theorem un7(h0:uQ 285 .int 219 0)(h1:uQ 286 .int 219 1):uk 228 (.st (ubd [.int,.int])):=by
 intro w bw o v t h a7;have a5:=h.lt;have HC:Hid (∀i k s,([285,286]:List FuncId)[i]? = some k→([.int,.int]:List Shape)[i]? = some s→uQ k s 219 (uq [.int,.int] i)):=by
  intro i k s hk hs;rcases i with _|_|i
  ·simp only[gq]at hk hs;injection hk with hk;injection hs with hs;subst hk;subst hs;rw[show uq [.int,.int] 0=0 from by simp[uq,Shape.sz]];exact h0
  ·simp only[gq]at hk hs;injection hk with hk;injection hs with hs;subst hk;subst hs;rw[show uq [.int,.int] 1=1 from by simp[uq,Shape.sz]];exact h1
  ·simp at hk
 obtain⟨tx,ht,hf⟩:=a7;injection ht with ht _;subst ht;obtain⟨a0,vs,rfl,a2,a1⟩:=Rep.split hf;rw[a0];have a4:=hid a2;have a3:=hid a1;have HW:=hid h;obtain⟨v0,_,rfl,t0,v1,_,rfl,t1,rfl⟩:=a2;obtain⟨a9,rfl⟩:=ug t0;obtain⟨b0,rfl⟩:=ug t1;show Calls Tryz.prog 228 #[.pointer (some ⟨bw,0,none⟩),.agg #[.int .i64 a9,.int .i64 b0]] w _
 clear h a1 hf a0 h0 h1;go_enter Tryz.func228,Tryz.ntmps228
 go_wp2_with fail
 refine(uL [.int,.int] [285,286] 219 (by decide) rfl (by simp) HC.out _ bw w.heap.size (w.heap.size+1) (w.heap.size+1+1) o _ (fun i=>tx.getD i []) (((HW.out.alloc _).alloc _).alloc _) (by simp) (((Bk.new' rfl _ _).alloc _).alloc _) ((Bk.new' (by simp) _ _).alloc _) a4.out (((a3.out.allocW _).allocW _).allocW _) (Bk.new' (by simp) _ _) (by omega) (by omega) (by omega)).mono ?_
 rintro e w1⟨rfl,a8,a6⟩;go_wp2;go_end0
 exact⟨rfl,a8,((((Wfr.refl _ _).allocs a5 _).allocs (by simp;omega) _).allocs (by simp;omega) _).trans a6⟩
set_option maxHeartbeats 4000000 in
set_option maxRecDepth 100000 in
theorem uyh(h0:uQ 225 .int 148 0)(h1:uQ 226 (.list uH) 148 1):uk 148 (.st (ubd [.int,(.list uH)])):=by
 intro w bw o v t h a7;have a5:=h.lt;have HC:Hid (∀i k s,([225,226]:List FuncId)[i]? = some k→([.int,(.list uH)]:List Shape)[i]? = some s→uQ k s 148 (uq [.int,(.list uH)] i)):=by
  intro i k s hk hs;rcases i with _|_|i
  ·simp only[gq]at hk hs;injection hk with hk;injection hs with hs;subst hk;subst hs;rw[show uq [.int,(.list uH)] 0=0 from by simp[uq,Shape.sz]];exact h0
  ·simp only[gq]at hk hs;injection hk with hk;injection hs with hs;subst hk;subst hs;rw[show uq [.int,(.list uH)] 1=1 from by simp[uq,Shape.sz]];exact h1
  ·simp at hk
 obtain⟨tx,ht,hf⟩:=a7;injection ht with ht _;subst ht;obtain⟨a0,vs,rfl,a2,a1⟩:=Rep.split hf;rw[a0];have a4:=hid a2;have a3:=hid a1;have HW:=hid h;obtain⟨v0,_,rfl,t0,v1,_,rfl,t1,rfl⟩:=a2;obtain⟨a9,rfl⟩:=ug t0;obtain⟨b0,b2,b1,rfl⟩:=ua t1;show Calls Tryz.prog 148 #[.pointer (some ⟨bw,0,none⟩),.agg #[.int .i64 a9,.slice b0 b2 b1]] w _
 clear h a1 hf a0 h0 h1;go_enter Tryz.func148,Tryz.ntmps148
 go_wp2_with fail
 refine(uL [.int,(.list uH)] [225,226] 148 (by decide) rfl (by simp) HC.out _ bw w.heap.size (w.heap.size+1) (w.heap.size+1+1) o _ (fun i=>tx.getD i []) (((HW.out.alloc _).alloc _).alloc _) (by simp) (((Bk.new' rfl _ _).alloc _).alloc _) ((Bk.new' (by simp) _ _).alloc _) a4.out (((a3.out.allocW _).allocW _).allocW _) (Bk.new' (by simp) _ _) (by omega) (by omega) (by omega)).mono ?_
 rintro e w1⟨rfl,a8,a6⟩;go_wp2;go_end0
 exact⟨rfl,a8,((((Wfr.refl _ _).allocs a5 _).allocs (by simp;omega) _).allocs (by simp;omega) _).trans a6⟩
set_option maxHeartbeats 4000000 in
set_option maxRecDepth 100000 in
theorem ulf(h0:uQ 146 (.list uX) 105 0)(h1:uQ 149 (.list uX) 105 1):uk 78 (.st (ubd [(.list uX),(.list uX)])):=by
 intro w bw o v t h a7;have a5:=h.lt;have HC:Hid (∀i k s,([146,149]:List FuncId)[i]? = some k→([(.list uX),(.list uX)]:List Shape)[i]? = some s→uQ k s 105 (uq [(.list uX),(.list uX)] i)):=by
  intro i k s hk hs;rcases i with _|_|i
  ·simp only[gq]at hk hs;injection hk with hk;injection hs with hs;subst hk;subst hs;rw[show uq [(.list uX),(.list uX)] 0=0 from by simp[uq,Shape.sz]];exact h0
  ·simp only[gq]at hk hs;injection hk with hk;injection hs with hs;subst hk;subst hs;rw[show uq [(.list uX),(.list uX)] 1=1 from by simp[uq,Shape.sz]];exact h1
  ·simp at hk
 obtain⟨tx,ht,hf⟩:=a7;injection ht with ht _;subst ht;obtain⟨a0,vs,rfl,a2,a1⟩:=Rep.split hf;rw[a0];have a4:=hid a2;have a3:=hid a1;have HW:=hid h;obtain⟨v0,_,rfl,t0,v1,_,rfl,t1,rfl⟩:=a2;obtain⟨a9,b1,b0,rfl⟩:=ua t0;obtain⟨b2,b4,b3,rfl⟩:=ua t1;show Calls Tryz.prog 78 #[.pointer (some ⟨bw,0,none⟩),.agg #[.slice a9 b1 b0,.slice b2 b4 b3]] w _
 clear h a1 hf a0 h0 h1;go_enter Tryz.func78,Tryz.ntmps78
 go_wp2_with fail
 refine(uL [(.list uX),(.list uX)] [146,149] 105 (by decide) rfl (by simp) HC.out _ bw w.heap.size (w.heap.size+1) (w.heap.size+1+1) o _ (fun i=>tx.getD i []) (((HW.out.alloc _).alloc _).alloc _) (by simp) (((Bk.new' rfl _ _).alloc _).alloc _) ((Bk.new' (by simp) _ _).alloc _) a4.out (((a3.out.allocW _).allocW _).allocW _) (Bk.new' (by simp) _ _) (by omega) (by omega) (by omega)).mono ?_
 rintro e w1⟨rfl,a8,a6⟩;go_wp2;go_end0
 exact⟨rfl,a8,((((Wfr.refl _ _).allocs a5 _).allocs (by simp;omega) _).allocs (by simp;omega) _).trans a6⟩
set_option maxHeartbeats 4000000 in
set_option maxRecDepth 100000 in
theorem uri(h0:uQ 143 (.list .int) 25 0)(h1:uQ 145 (.list .int) 25 1):uk 75 (.st (ubd [(.list .int),(.list .int)])):=by
 intro w bw o v t h a7;have a5:=h.lt;have HC:Hid (∀i k s,([143,145]:List FuncId)[i]? = some k→([(.list .int),(.list .int)]:List Shape)[i]? = some s→uQ k s 25 (uq [(.list .int),(.list .int)] i)):=by
  intro i k s hk hs;rcases i with _|_|i
  ·simp only[gq]at hk hs;injection hk with hk;injection hs with hs;subst hk;subst hs;rw[show uq [(.list .int),(.list .int)] 0=0 from by simp[uq,Shape.sz]];exact h0
  ·simp only[gq]at hk hs;injection hk with hk;injection hs with hs;subst hk;subst hs;rw[show uq [(.list .int),(.list .int)] 1=1 from by simp[uq,Shape.sz]];exact h1
  ·simp at hk
 obtain⟨tx,ht,hf⟩:=a7;injection ht with ht _;subst ht;obtain⟨a0,vs,rfl,a2,a1⟩:=Rep.split hf;rw[a0];have a4:=hid a2;have a3:=hid a1;have HW:=hid h;obtain⟨v0,_,rfl,t0,v1,_,rfl,t1,rfl⟩:=a2;obtain⟨a9,b1,b0,rfl⟩:=ua t0;obtain⟨b2,b4,b3,rfl⟩:=ua t1;show Calls Tryz.prog 75 #[.pointer (some ⟨bw,0,none⟩),.agg #[.slice a9 b1 b0,.slice b2 b4 b3]] w _
 clear h a1 hf a0 h0 h1;go_enter Tryz.func75,Tryz.ntmps75
 go_wp2_with fail
 refine(uL [(.list .int),(.list .int)] [143,145] 25 (by decide) rfl (by simp) HC.out _ bw w.heap.size (w.heap.size+1) (w.heap.size+1+1) o _ (fun i=>tx.getD i []) (((HW.out.alloc _).alloc _).alloc _) (by simp) (((Bk.new' rfl _ _).alloc _).alloc _) ((Bk.new' (by simp) _ _).alloc _) a4.out (((a3.out.allocW _).allocW _).allocW _) (Bk.new' (by simp) _ _) (by omega) (by omega) (by omega)).mono ?_
 rintro e w1⟨rfl,a8,a6⟩;go_wp2;go_end0
 exact⟨rfl,a8,((((Wfr.refl _ _).allocs a5 _).allocs (by simp;omega) _).allocs (by simp;omega) _).trans a6⟩
set_option maxHeartbeats 4000000 in
set_option maxRecDepth 100000 in
theorem uyi(n:Nat)(h0:uQ 287 .int 116 0)(h1:uQ 288 .int 116 1)(h2:uQ 289 (.list (ua1 n)) 116 2):uk 231 (.st (ubd [.int,.int,(.list (ua1 n))])):=by
 intro w bw o v t h a7;have a5:=h.lt;have HC:Hid (∀i k s,([287,288,289]:List FuncId)[i]? = some k→([.int,.int,(.list (ua1 n))]:List Shape)[i]? = some s→uQ k s 116 (uq [.int,.int,(.list (ua1 n))] i)):=by
  intro i k s hk hs;rcases i with _|_|_|i
  ·simp only[gq]at hk hs;injection hk with hk;injection hs with hs;subst hk;subst hs;rw[show uq [.int,.int,(.list (ua1 n))] 0=0 from by simp[uq,Shape.sz]];exact h0
  ·simp only[gq]at hk hs;injection hk with hk;injection hs with hs;subst hk;subst hs;rw[show uq [.int,.int,(.list (ua1 n))] 1=1 from by simp[uq,Shape.sz]];exact h1
  ·simp only[gq]at hk hs;injection hk with hk;injection hs with hs;subst hk;subst hs;rw[show uq [.int,.int,(.list (ua1 n))] 2=2 from by simp[uq,Shape.sz]];exact h2
  ·simp at hk
 obtain⟨tx,ht,hf⟩:=a7;injection ht with ht _;subst ht;obtain⟨a0,vs,rfl,a2,a1⟩:=Rep.split hf;rw[a0];have a4:=hid a2;have a3:=hid a1;have HW:=hid h;obtain⟨v0,_,rfl,t0,v1,_,rfl,t1,v2,_,rfl,t2,rfl⟩:=a2;obtain⟨a9,rfl⟩:=ug t0;obtain⟨b0,rfl⟩:=ug t1;obtain⟨b1,b3,b2,rfl⟩:=ua t2;show Calls Tryz.prog 231 #[.pointer (some ⟨bw,0,none⟩),.agg #[.int .i64 a9,.int .i64 b0,.slice b1 b3 b2]] w _
 clear h a1 hf a0 h0 h1 h2;go_enter Tryz.func231,Tryz.ntmps231
 go_wp2_with fail
 refine(uL [.int,.int,(.list (ua1 n))] [287,288,289] 116 (by decide) rfl (by simp) HC.out _ bw w.heap.size (w.heap.size+1) (w.heap.size+1+1) o _ (fun i=>tx.getD i []) (((HW.out.alloc _).alloc _).alloc _) (by simp) (((Bk.new' rfl _ _).alloc _).alloc _) ((Bk.new' (by simp) _ _).alloc _) a4.out (((a3.out.allocW _).allocW _).allocW _) (Bk.new' (by simp) _ _) (by omega) (by omega) (by omega)).mono ?_
 rintro e w1⟨rfl,a8,a6⟩;go_wp2;go_end0
 exact⟨rfl,a8,((((Wfr.refl _ _).allocs a5 _).allocs (by simp;omega) _).allocs (by simp;omega) _).trans a6⟩
set_option maxHeartbeats 4000000 in
set_option maxRecDepth 100000 in
theorem ut7(n:Nat)(h0:uQ 230 (ua1 n) 118 0)(h1:uQ 232 (.list .int) 118 3):uk 156 (.st (ubd [(ua1 n),(.list .int)])):=by
 intro w bw o v t h a7;have a5:=h.lt;have HC:Hid (∀i k s,([230,232]:List FuncId)[i]? = some k→([(ua1 n),(.list .int)]:List Shape)[i]? = some s→uQ k s 118 (uq [(ua1 n),(.list .int)] i)):=by
  intro i k s hk hs;rcases i with _|_|i
  ·simp only[gq]at hk hs;injection hk with hk;injection hs with hs;subst hk;subst hs;rw[show uq [(ua1 n),(.list .int)] 0=0 from by simp[uq,Shape.sz]];exact h0
  ·simp only[gq]at hk hs;injection hk with hk;injection hs with hs;subst hk;subst hs;rw[show uq [(ua1 n),(.list .int)] 1=3 from by simp[uq,Shape.sz,uA]];exact h1
  ·simp at hk
 obtain⟨tx,ht,hf⟩:=a7;injection ht with ht _;subst ht;obtain⟨a0,vs,rfl,a2,a1⟩:=Rep.split hf;rw[a0];have a4:=hid a2;have a3:=hid a1;have HW:=hid h;obtain⟨v0,_,rfl,t0,v1,_,rfl,t1,rfl⟩:=a2;obtain⟨a9,b0,b1,b3,b2,rfl⟩:=uek t0;obtain⟨b4,b6,b5,rfl⟩:=ua t1;show Calls Tryz.prog 156 #[.pointer (some ⟨bw,0,none⟩),.agg #[.int .i64 a9,.int .i64 b0,.slice b1 b3 b2,.slice b4 b6 b5]] w _
 clear h a1 hf a0 h0 h1;go_enter Tryz.func156,Tryz.ntmps156
 go_wp2_with fail
 refine(uL [(ua1 n),(.list .int)] [230,232] 118 (by decide) rfl (by simp) HC.out _ bw w.heap.size (w.heap.size+1) (w.heap.size+1+1) o _ (fun i=>tx.getD i []) (((HW.out.alloc _).alloc _).alloc _) (by simp) (((Bk.new' rfl _ _).alloc _).alloc _) ((Bk.new' (by simp) _ _).alloc _) a4.out (((a3.out.allocW _).allocW _).allocW _) (Bk.new' (by simp) _ _) (by omega) (by omega) (by omega)).mono ?_
 rintro e w1⟨rfl,a8,a6⟩;go_wp2;go_end0
 exact⟨rfl,a8,((((Wfr.refl _ _).allocs a5 _).allocs (by simp;omega) _).allocs (by simp;omega) _).trans a6⟩
set_option maxHeartbeats 4000000 in
set_option maxRecDepth 100000 in
theorem uwl(n:Nat)(h0:uQ 150 (.list (.list .int)) 30 0)(h1:uQ 153 (.list (.list .int)) 30 1)(h2:uQ 154 (.list (uae n)) 30 2):uk 80 (.st (ubd [(.list (.list .int)),(.list (.list .int)),(.list (uae n))])):=by
 intro w bw o v t h a7;have a5:=h.lt;have HC:Hid (∀i k s,([150,153,154]:List FuncId)[i]? = some k→([(.list (.list .int)),(.list (.list .int)),(.list (uae n))]:List Shape)[i]? = some s→uQ k s 30 (uq [(.list (.list .int)),(.list (.list .int)),(.list (uae n))] i)):=by
  intro i k s hk hs;rcases i with _|_|_|i
  ·simp only[gq]at hk hs;injection hk with hk;injection hs with hs;subst hk;subst hs;rw[show uq [(.list (.list .int)),(.list (.list .int)),(.list (uae n))] 0=0 from by simp[uq,Shape.sz]];exact h0
  ·simp only[gq]at hk hs;injection hk with hk;injection hs with hs;subst hk;subst hs;rw[show uq [(.list (.list .int)),(.list (.list .int)),(.list (uae n))] 1=1 from by simp[uq,Shape.sz]];exact h1
  ·simp only[gq]at hk hs;injection hk with hk;injection hs with hs;subst hk;subst hs;rw[show uq [(.list (.list .int)),(.list (.list .int)),(.list (uae n))] 2=2 from by simp[uq,Shape.sz]];exact h2
  ·simp at hk
 obtain⟨tx,ht,hf⟩:=a7;injection ht with ht _;subst ht;obtain⟨a0,vs,rfl,a2,a1⟩:=Rep.split hf;rw[a0];have a4:=hid a2;have a3:=hid a1;have HW:=hid h;obtain⟨v0,_,rfl,t0,v1,_,rfl,t1,v2,_,rfl,t2,rfl⟩:=a2;obtain⟨a9,b1,b0,rfl⟩:=ua t0;obtain⟨b2,b4,b3,rfl⟩:=ua t1;obtain⟨b5,b7,b6,rfl⟩:=ua t2;show Calls Tryz.prog 80 #[.pointer (some ⟨bw,0,none⟩),.agg #[.slice a9 b1 b0,.slice b2 b4 b3,.slice b5 b7 b6]] w _
 clear h a1 hf a0 h0 h1 h2;go_enter Tryz.func80,Tryz.ntmps80
 go_wp2_with fail
 refine(uL [(.list (.list .int)),(.list (.list .int)),(.list (uae n))] [150,153,154] 30 (by decide) rfl (by simp) HC.out _ bw w.heap.size (w.heap.size+1) (w.heap.size+1+1) o _ (fun i=>tx.getD i []) (((HW.out.alloc _).alloc _).alloc _) (by simp) (((Bk.new' rfl _ _).alloc _).alloc _) ((Bk.new' (by simp) _ _).alloc _) a4.out (((a3.out.allocW _).allocW _).allocW _) (Bk.new' (by simp) _ _) (by omega) (by omega) (by omega)).mono ?_
 rintro e w1⟨rfl,a8,a6⟩;go_wp2;go_end0
 exact⟨rfl,a8,((((Wfr.refl _ _).allocs a5 _).allocs (by simp;omega) _).allocs (by simp;omega) _).trans a6⟩
set_option maxHeartbeats 4000000 in
set_option maxRecDepth 100000 in
theorem ut8(n:Nat)(h0:uQ 356 .int 143 0)(h1:uQ 357 (.list (uy n)) 143 1):uk 332 (.st (ubd [.int,(.list (uy n))])):=by
 intro w bw o v t h a7;have a5:=h.lt;have HC:Hid (∀i k s,([356,357]:List FuncId)[i]? = some k→([.int,(.list (uy n))]:List Shape)[i]? = some s→uQ k s 143 (uq [.int,(.list (uy n))] i)):=by
  intro i k s hk hs;rcases i with _|_|i
  ·simp only[gq]at hk hs;injection hk with hk;injection hs with hs;subst hk;subst hs;rw[show uq [.int,(.list (uy n))] 0=0 from by simp[uq,Shape.sz]];exact h0
  ·simp only[gq]at hk hs;injection hk with hk;injection hs with hs;subst hk;subst hs;rw[show uq [.int,(.list (uy n))] 1=1 from by simp[uq,Shape.sz]];exact h1
  ·simp at hk
 obtain⟨tx,ht,hf⟩:=a7;injection ht with ht _;subst ht;obtain⟨a0,vs,rfl,a2,a1⟩:=Rep.split hf;rw[a0];have a4:=hid a2;have a3:=hid a1;have HW:=hid h;obtain⟨v0,_,rfl,t0,v1,_,rfl,t1,rfl⟩:=a2;obtain⟨a9,rfl⟩:=ug t0;obtain⟨b0,b2,b1,rfl⟩:=ua t1;show Calls Tryz.prog 332 #[.pointer (some ⟨bw,0,none⟩),.agg #[.int .i64 a9,.slice b0 b2 b1]] w _
 clear h a1 hf a0 h0 h1;go_enter Tryz.func332,Tryz.ntmps332
 go_wp2_with fail
 refine(uL [.int,(.list (uy n))] [356,357] 143 (by decide) rfl (by simp) HC.out _ bw w.heap.size (w.heap.size+1) (w.heap.size+1+1) o _ (fun i=>tx.getD i []) (((HW.out.alloc _).alloc _).alloc _) (by simp) (((Bk.new' rfl _ _).alloc _).alloc _) ((Bk.new' (by simp) _ _).alloc _) a4.out (((a3.out.allocW _).allocW _).allocW _) (Bk.new' (by simp) _ _) (by omega) (by omega) (by omega)).mono ?_
 rintro e w1⟨rfl,a8,a6⟩;go_wp2;go_end0
 exact⟨rfl,a8,((((Wfr.refl _ _).allocs a5 _).allocs (by simp;omega) _).allocs (by simp;omega) _).trans a6⟩
set_option maxHeartbeats 4000000 in
set_option maxRecDepth 100000 in
theorem urj(n:Nat)(h0:uQ 330 .int 145 0)(h1:uQ 331 (uy n) 145 1):uk 294 (.st (ubd [.int,(uy n)])):=by
 intro w bw o v t h a7;have a5:=h.lt;have HC:Hid (∀i k s,([330,331]:List FuncId)[i]? = some k→([.int,(uy n)]:List Shape)[i]? = some s→uQ k s 145 (uq [.int,(uy n)] i)):=by
  intro i k s hk hs;rcases i with _|_|i
  ·simp only[gq]at hk hs;injection hk with hk;injection hs with hs;subst hk;subst hs;rw[show uq [.int,(uy n)] 0=0 from by simp[uq,Shape.sz]];exact h0
  ·simp only[gq]at hk hs;injection hk with hk;injection hs with hs;subst hk;subst hs;rw[show uq [.int,(uy n)] 1=1 from by simp[uq,Shape.sz]];exact h1
  ·simp at hk
 obtain⟨tx,ht,hf⟩:=a7;injection ht with ht _;subst ht;obtain⟨a0,vs,rfl,a2,a1⟩:=Rep.split hf;rw[a0];have a4:=hid a2;have a3:=hid a1;have HW:=hid h;obtain⟨v0,_,rfl,t0,v1,_,rfl,t1,rfl⟩:=a2;obtain⟨a9,rfl⟩:=ug t0;obtain⟨b0,b1,b3,b2,rfl⟩:=ubz t1;show Calls Tryz.prog 294 #[.pointer (some ⟨bw,0,none⟩),.agg #[.int .i64 a9,.int .i64 b0,.slice b1 b3 b2]] w _
 clear h a1 hf a0 h0 h1;go_enter Tryz.func294,Tryz.ntmps294
 go_wp2_with fail
 refine(uL [.int,(uy n)] [330,331] 145 (by decide) rfl (by simp) HC.out _ bw w.heap.size (w.heap.size+1) (w.heap.size+1+1) o _ (fun i=>tx.getD i []) (((HW.out.alloc _).alloc _).alloc _) (by simp) (((Bk.new' rfl _ _).alloc _).alloc _) ((Bk.new' (by simp) _ _).alloc _) a4.out (((a3.out.allocW _).allocW _).allocW _) (Bk.new' (by simp) _ _) (by omega) (by omega) (by omega)).mono ?_
 rintro e w1⟨rfl,a8,a6⟩;go_wp2;go_end0
 exact⟨rfl,a8,((((Wfr.refl _ _).allocs a5 _).allocs (by simp;omega) _).allocs (by simp;omega) _).trans a6⟩
set_option maxHeartbeats 4000000 in
set_option maxRecDepth 100000 in
theorem uwm(h0:uQ 333 uX 150 0)(h1:uQ 334 .int 150 2):uk 297 (.st (ubd [uX,.int])):=by
 intro w bw o v t h a7;have a5:=h.lt;have HC:Hid (∀i k s,([333,334]:List FuncId)[i]? = some k→([uX,.int]:List Shape)[i]? = some s→uQ k s 150 (uq [uX,.int] i)):=by
  intro i k s hk hs;rcases i with _|_|i
  ·simp only[gq]at hk hs;injection hk with hk;injection hs with hs;subst hk;subst hs;rw[show uq [uX,.int] 0=0 from by simp[uq,Shape.sz]];exact h0
  ·simp only[gq]at hk hs;injection hk with hk;injection hs with hs;subst hk;subst hs;rw[show uq [uX,.int] 1=2 from by simp[uq,Shape.sz,uw]];exact h1
  ·simp at hk
 obtain⟨tx,ht,hf⟩:=a7;injection ht with ht _;subst ht;obtain⟨a0,vs,rfl,a2,a1⟩:=Rep.split hf;rw[a0];have a4:=hid a2;have a3:=hid a1;have HW:=hid h;obtain⟨v0,_,rfl,t0,v1,_,rfl,t1,rfl⟩:=a2;obtain⟨a9,b0,b2,b1,rfl⟩:=ua2 t0;obtain⟨b3,rfl⟩:=ug t1;show Calls Tryz.prog 297 #[.pointer (some ⟨bw,0,none⟩),.agg #[.int .i64 a9,.slice b0 b2 b1,.int .i64 b3]] w _
 clear h a1 hf a0 h0 h1;go_enter Tryz.func297,Tryz.ntmps297
 go_wp2_with fail
 refine(uL [uX,.int] [333,334] 150 (by decide) rfl (by simp) HC.out _ bw w.heap.size (w.heap.size+1) (w.heap.size+1+1) o _ (fun i=>tx.getD i []) (((HW.out.alloc _).alloc _).alloc _) (by simp) (((Bk.new' rfl _ _).alloc _).alloc _) ((Bk.new' (by simp) _ _).alloc _) a4.out (((a3.out.allocW _).allocW _).allocW _) (Bk.new' (by simp) _ _) (by omega) (by omega) (by omega)).mono ?_
 rintro e w1⟨rfl,a8,a6⟩;go_wp2;go_end0
 exact⟨rfl,a8,((((Wfr.refl _ _).allocs a5 _).allocs (by simp;omega) _).allocs (by simp;omega) _).trans a6⟩
set_option maxHeartbeats 4000000 in
set_option maxRecDepth 100000 in
theorem uwn(n:Nat)(h0:uQ 292 (.list (uO n)) 80 0)(h1:uQ 295 (.list ua5) 80 1):uk 237 (.st (ubd [(.list (uO n)),(.list ua5)])):=by
 intro w bw o v t h a7;have a5:=h.lt;have HC:Hid (∀i k s,([292,295]:List FuncId)[i]? = some k→([(.list (uO n)),(.list ua5)]:List Shape)[i]? = some s→uQ k s 80 (uq [(.list (uO n)),(.list ua5)] i)):=by
  intro i k s hk hs;rcases i with _|_|i
  ·simp only[gq]at hk hs;injection hk with hk;injection hs with hs;subst hk;subst hs;rw[show uq [(.list (uO n)),(.list ua5)] 0=0 from by simp[uq,Shape.sz]];exact h0
  ·simp only[gq]at hk hs;injection hk with hk;injection hs with hs;subst hk;subst hs;rw[show uq [(.list (uO n)),(.list ua5)] 1=1 from by simp[uq,Shape.sz]];exact h1
  ·simp at hk
 obtain⟨tx,ht,hf⟩:=a7;injection ht with ht _;subst ht;obtain⟨a0,vs,rfl,a2,a1⟩:=Rep.split hf;rw[a0];have a4:=hid a2;have a3:=hid a1;have HW:=hid h;obtain⟨v0,_,rfl,t0,v1,_,rfl,t1,rfl⟩:=a2;obtain⟨a9,b1,b0,rfl⟩:=ua t0;obtain⟨b2,b4,b3,rfl⟩:=ua t1;show Calls Tryz.prog 237 #[.pointer (some ⟨bw,0,none⟩),.agg #[.slice a9 b1 b0,.slice b2 b4 b3]] w _
 clear h a1 hf a0 h0 h1;go_enter Tryz.func237,Tryz.ntmps237
 go_wp2_with fail
 refine(uL [(.list (uO n)),(.list ua5)] [292,295] 80 (by decide) rfl (by simp) HC.out _ bw w.heap.size (w.heap.size+1) (w.heap.size+1+1) o _ (fun i=>tx.getD i []) (((HW.out.alloc _).alloc _).alloc _) (by simp) (((Bk.new' rfl _ _).alloc _).alloc _) ((Bk.new' (by simp) _ _).alloc _) a4.out (((a3.out.allocW _).allocW _).allocW _) (Bk.new' (by simp) _ _) (by omega) (by omega) (by omega)).mono ?_
 rintro e w1⟨rfl,a8,a6⟩;go_wp2;go_end0
 exact⟨rfl,a8,((((Wfr.refl _ _).allocs a5 _).allocs (by simp;omega) _).allocs (by simp;omega) _).trans a6⟩
set_option maxHeartbeats 4000000 in
set_option maxRecDepth 100000 in
theorem uwo(n:Nat)(h0:uQ 234 .rat 139 0)(h1:uQ 236 (uC n) 139 3):uk 163 (.st (ubd [.rat,(uC n)])):=by
 intro w bw o v t h a7;have a5:=h.lt;have HC:Hid (∀i k s,([234,236]:List FuncId)[i]? = some k→([.rat,(uC n)]:List Shape)[i]? = some s→uQ k s 139 (uq [.rat,(uC n)] i)):=by
  intro i k s hk hs;rcases i with _|_|i
  ·simp only[gq]at hk hs;injection hk with hk;injection hs with hs;subst hk;subst hs;rw[show uq [.rat,(uC n)] 0=0 from by simp[uq,Shape.sz]];exact h0
  ·simp only[gq]at hk hs;injection hk with hk;injection hs with hs;subst hk;subst hs;rw[show uq [.rat,(uC n)] 1=3 from by simp[uq,Shape.sz]];exact h1
  ·simp at hk
 obtain⟨tx,ht,hf⟩:=a7;injection ht with ht _;subst ht;obtain⟨a0,vs,rfl,a2,a1⟩:=Rep.split hf;rw[a0];have a4:=hid a2;have a3:=hid a1;have HW:=hid h;obtain⟨v0,_,rfl,t0,v1,_,rfl,t1,rfl⟩:=a2;obtain⟨b1,a9,b4,b2,b0,b5,b3,rfl⟩:=uay t0;obtain⟨b6,b8,b7,b9,c1,c0,rfl⟩:=uaj t1;show Calls Tryz.prog 163 #[.pointer (some ⟨bw,0,none⟩),.agg #[.bool b1,.slice a9 b4 b2,.slice b0 b5 b3,.slice b6 b8 b7,.slice b9 c1 c0]] w _
 clear h a1 hf a0 h0 h1;go_enter Tryz.func163,Tryz.ntmps163
 go_wp2_with fail
 refine(uL [.rat,(uC n)] [234,236] 139 (by decide) rfl (by simp) HC.out _ bw w.heap.size (w.heap.size+1) (w.heap.size+1+1) o _ (fun i=>tx.getD i []) (((HW.out.alloc _).alloc _).alloc _) (by simp) (((Bk.new' rfl _ _).alloc _).alloc _) ((Bk.new' (by simp) _ _).alloc _) a4.out (((a3.out.allocW _).allocW _).allocW _) (Bk.new' (by simp) _ _) (by omega) (by omega) (by omega)).mono ?_
 rintro e w1⟨rfl,a8,a6⟩;go_wp2;go_end0
 exact⟨rfl,a8,((((Wfr.refl _ _).allocs a5 _).allocs (by simp;omega) _).allocs (by simp;omega) _).trans a6⟩
set_option maxHeartbeats 4000000 in
set_option maxRecDepth 100000 in
theorem uyj(n:Nat)(h0:uQ 298 .int 89 0)(h1:uQ 299 .rat 89 1)(h2:uQ 300 (uC n) 89 4):uk 241 (.st (ubd [.int,.rat,(uC n)])):=by
 intro w bw o v t h a7;have a5:=h.lt;have HC:Hid (∀i k s,([298,299,300]:List FuncId)[i]? = some k→([.int,.rat,(uC n)]:List Shape)[i]? = some s→uQ k s 89 (uq [.int,.rat,(uC n)] i)):=by
  intro i k s hk hs;rcases i with _|_|_|i
  ·simp only[gq]at hk hs;injection hk with hk;injection hs with hs;subst hk;subst hs;rw[show uq [.int,.rat,(uC n)] 0=0 from by simp[uq,Shape.sz]];exact h0
  ·simp only[gq]at hk hs;injection hk with hk;injection hs with hs;subst hk;subst hs;rw[show uq [.int,.rat,(uC n)] 1=1 from by simp[uq,Shape.sz]];exact h1
  ·simp only[gq]at hk hs;injection hk with hk;injection hs with hs;subst hk;subst hs;rw[show uq [.int,.rat,(uC n)] 2=4 from by simp[uq,Shape.sz]];exact h2
  ·simp at hk
 obtain⟨tx,ht,hf⟩:=a7;injection ht with ht _;subst ht;obtain⟨a0,vs,rfl,a2,a1⟩:=Rep.split hf;rw[a0];have a4:=hid a2;have a3:=hid a1;have HW:=hid h;obtain⟨v0,_,rfl,t0,v1,_,rfl,t1,v2,_,rfl,t2,rfl⟩:=a2;obtain⟨a9,rfl⟩:=ug t0;obtain⟨b2,b0,b5,b3,b1,b6,b4,rfl⟩:=uay t1;obtain⟨b7,b9,b8,c0,c2,c1,rfl⟩:=uaj t2;show Calls Tryz.prog 241 #[.pointer (some ⟨bw,0,none⟩),.agg #[.int .i64 a9,.bool b2,.slice b0 b5 b3,.slice b1 b6 b4,.slice b7 b9 b8,.slice c0 c2 c1]] w _
 clear h a1 hf a0 h0 h1 h2;go_enter Tryz.func241,Tryz.ntmps241
 go_wp2_with fail
 refine(uL [.int,.rat,(uC n)] [298,299,300] 89 (by decide) rfl (by simp) HC.out _ bw w.heap.size (w.heap.size+1) (w.heap.size+1+1) o _ (fun i=>tx.getD i []) (((HW.out.alloc _).alloc _).alloc _) (by simp) (((Bk.new' rfl _ _).alloc _).alloc _) ((Bk.new' (by simp) _ _).alloc _) a4.out (((a3.out.allocW _).allocW _).allocW _) (Bk.new' (by simp) _ _) (by omega) (by omega) (by omega)).mono ?_
 rintro e w1⟨rfl,a8,a6⟩;go_wp2;go_end0
 exact⟨rfl,a8,((((Wfr.refl _ _).allocs a5 _).allocs (by simp;omega) _).allocs (by simp;omega) _).trans a6⟩
set_option maxHeartbeats 4000000 in
set_option maxRecDepth 100000 in
theorem uwp(n:Nat)(h0:uQ 243 .int 82 0)(h1:uQ 244 .rat 82 1)(h2:uQ 245 (uC n) 82 4):uk 170 (.st (ubd [.int,.rat,(uC n)])):=by
 intro w bw o v t h a7;have a5:=h.lt;have HC:Hid (∀i k s,([243,244,245]:List FuncId)[i]? = some k→([.int,.rat,(uC n)]:List Shape)[i]? = some s→uQ k s 82 (uq [.int,.rat,(uC n)] i)):=by
  intro i k s hk hs;rcases i with _|_|_|i
  ·simp only[gq]at hk hs;injection hk with hk;injection hs with hs;subst hk;subst hs;rw[show uq [.int,.rat,(uC n)] 0=0 from by simp[uq,Shape.sz]];exact h0
  ·simp only[gq]at hk hs;injection hk with hk;injection hs with hs;subst hk;subst hs;rw[show uq [.int,.rat,(uC n)] 1=1 from by simp[uq,Shape.sz]];exact h1
  ·simp only[gq]at hk hs;injection hk with hk;injection hs with hs;subst hk;subst hs;rw[show uq [.int,.rat,(uC n)] 2=4 from by simp[uq,Shape.sz]];exact h2
  ·simp at hk
 obtain⟨tx,ht,hf⟩:=a7;injection ht with ht _;subst ht;obtain⟨a0,vs,rfl,a2,a1⟩:=Rep.split hf;rw[a0];have a4:=hid a2;have a3:=hid a1;have HW:=hid h;obtain⟨v0,_,rfl,t0,v1,_,rfl,t1,v2,_,rfl,t2,rfl⟩:=a2;obtain⟨a9,rfl⟩:=ug t0;obtain⟨b2,b0,b5,b3,b1,b6,b4,rfl⟩:=uay t1;obtain⟨b7,b9,b8,c0,c2,c1,rfl⟩:=uaj t2;show Calls Tryz.prog 170 #[.pointer (some ⟨bw,0,none⟩),.agg #[.int .i64 a9,.bool b2,.slice b0 b5 b3,.slice b1 b6 b4,.slice b7 b9 b8,.slice c0 c2 c1]] w _
 clear h a1 hf a0 h0 h1 h2;go_enter Tryz.func170,Tryz.ntmps170
 go_wp2_with fail
 refine(uL [.int,.rat,(uC n)] [243,244,245] 82 (by decide) rfl (by simp) HC.out _ bw w.heap.size (w.heap.size+1) (w.heap.size+1+1) o _ (fun i=>tx.getD i []) (((HW.out.alloc _).alloc _).alloc _) (by simp) (((Bk.new' rfl _ _).alloc _).alloc _) ((Bk.new' (by simp) _ _).alloc _) a4.out (((a3.out.allocW _).allocW _).allocW _) (Bk.new' (by simp) _ _) (by omega) (by omega) (by omega)).mono ?_
 rintro e w1⟨rfl,a8,a6⟩;go_wp2;go_end0
 exact⟨rfl,a8,((((Wfr.refl _ _).allocs a5 _).allocs (by simp;omega) _).allocs (by simp;omega) _).trans a6⟩
set_option maxHeartbeats 4000000 in
set_option maxRecDepth 100000 in
theorem urk(n:Nat)(h0:uQ 238 .int 87 0)(h1:uQ 239 (.list (uan n)) 87 1)(h2:uQ 242 (.list (un n)) 87 2):uk 167 (.st (ubd [.int,(.list (uan n)),(.list (un n))])):=by
 intro w bw o v t h a7;have a5:=h.lt;have HC:Hid (∀i k s,([238,239,242]:List FuncId)[i]? = some k→([.int,(.list (uan n)),(.list (un n))]:List Shape)[i]? = some s→uQ k s 87 (uq [.int,(.list (uan n)),(.list (un n))] i)):=by
  intro i k s hk hs;rcases i with _|_|_|i
  ·simp only[gq]at hk hs;injection hk with hk;injection hs with hs;subst hk;subst hs;rw[show uq [.int,(.list (uan n)),(.list (un n))] 0=0 from by simp[uq,Shape.sz]];exact h0
  ·simp only[gq]at hk hs;injection hk with hk;injection hs with hs;subst hk;subst hs;rw[show uq [.int,(.list (uan n)),(.list (un n))] 1=1 from by simp[uq,Shape.sz]];exact h1
  ·simp only[gq]at hk hs;injection hk with hk;injection hs with hs;subst hk;subst hs;rw[show uq [.int,(.list (uan n)),(.list (un n))] 2=2 from by simp[uq,Shape.sz]];exact h2
  ·simp at hk
 obtain⟨tx,ht,hf⟩:=a7;injection ht with ht _;subst ht;obtain⟨a0,vs,rfl,a2,a1⟩:=Rep.split hf;rw[a0];have a4:=hid a2;have a3:=hid a1;have HW:=hid h;obtain⟨v0,_,rfl,t0,v1,_,rfl,t1,v2,_,rfl,t2,rfl⟩:=a2;obtain⟨a9,rfl⟩:=ug t0;obtain⟨b0,b2,b1,rfl⟩:=ua t1;obtain⟨b3,b5,b4,rfl⟩:=ua t2;show Calls Tryz.prog 167 #[.pointer (some ⟨bw,0,none⟩),.agg #[.int .i64 a9,.slice b0 b2 b1,.slice b3 b5 b4]] w _
 clear h a1 hf a0 h0 h1 h2;go_enter Tryz.func167,Tryz.ntmps167
 go_wp2_with fail
 refine(uL [.int,(.list (uan n)),(.list (un n))] [238,239,242] 87 (by decide) rfl (by simp) HC.out _ bw w.heap.size (w.heap.size+1) (w.heap.size+1+1) o _ (fun i=>tx.getD i []) (((HW.out.alloc _).alloc _).alloc _) (by simp) (((Bk.new' rfl _ _).alloc _).alloc _) ((Bk.new' (by simp) _ _).alloc _) a4.out (((a3.out.allocW _).allocW _).allocW _) (Bk.new' (by simp) _ _) (by omega) (by omega) (by omega)).mono ?_
 rintro e w1⟨rfl,a8,a6⟩;go_wp2;go_end0
 exact⟨rfl,a8,((((Wfr.refl _ _).allocs a5 _).allocs (by simp;omega) _).allocs (by simp;omega) _).trans a6⟩
set_option maxHeartbeats 4000000 in
set_option maxRecDepth 100000 in
theorem ut9(h0:uQ 301 .int 152 0)(h1:uQ 302 uX 152 1)(h2:uQ 303 uX 152 3)(h3:uQ 304 .int 152 5):uk 248 (.st (ubd [.int,uX,uX,.int])):=by
 intro w bw o v t h a7;have a5:=h.lt;have HC:Hid (∀i k s,([301,302,303,304]:List FuncId)[i]? = some k→([.int,uX,uX,.int]:List Shape)[i]? = some s→uQ k s 152 (uq [.int,uX,uX,.int] i)):=by
  intro i k s hk hs;rcases i with _|_|_|_|i
  ·simp only[gq]at hk hs;injection hk with hk;injection hs with hs;subst hk;subst hs;rw[show uq [.int,uX,uX,.int] 0=0 from by simp[uq,Shape.sz]];exact h0
  ·simp only[gq]at hk hs;injection hk with hk;injection hs with hs;subst hk;subst hs;rw[show uq [.int,uX,uX,.int] 1=1 from by simp[uq,Shape.sz]];exact h1
  ·simp only[gq]at hk hs;injection hk with hk;injection hs with hs;subst hk;subst hs;rw[show uq [.int,uX,uX,.int] 2=3 from by simp[uq,Shape.sz,uw]];exact h2
  ·simp only[gq]at hk hs;injection hk with hk;injection hs with hs;subst hk;subst hs;rw[show uq [.int,uX,uX,.int] 3=5 from by simp[uq,Shape.sz,uw]];exact h3
  ·simp at hk
 obtain⟨tx,ht,hf⟩:=a7;injection ht with ht _;subst ht;obtain⟨a0,vs,rfl,a2,a1⟩:=Rep.split hf;rw[a0];have a4:=hid a2;have a3:=hid a1;have HW:=hid h;obtain⟨v0,_,rfl,t0,v1,_,rfl,t1,v2,_,rfl,t2,v3,_,rfl,t3,rfl⟩:=a2;obtain⟨a9,rfl⟩:=ug t0;obtain⟨b0,b1,b3,b2,rfl⟩:=ua2 t1;obtain⟨b4,b5,b7,b6,rfl⟩:=ua2 t2;obtain⟨b8,rfl⟩:=ug t3;show Calls Tryz.prog 248 #[.pointer (some ⟨bw,0,none⟩),.agg #[.int .i64 a9,.int .i64 b0,.slice b1 b3 b2,.int .i64 b4,.slice b5 b7 b6,.int .i64 b8]] w _
 clear h a1 hf a0 h0 h1 h2 h3;go_enter Tryz.func248,Tryz.ntmps248
 go_wp2_with fail
 refine(uL [.int,uX,uX,.int] [301,302,303,304] 152 (by decide) rfl (by simp) HC.out _ bw w.heap.size (w.heap.size+1) (w.heap.size+1+1) o _ (fun i=>tx.getD i []) (((HW.out.alloc _).alloc _).alloc _) (by simp) (((Bk.new' rfl _ _).alloc _).alloc _) ((Bk.new' (by simp) _ _).alloc _) a4.out (((a3.out.allocW _).allocW _).allocW _) (Bk.new' (by simp) _ _) (by omega) (by omega) (by omega)).mono ?_
 rintro e w1⟨rfl,a8,a6⟩;go_wp2;go_end0
 exact⟨rfl,a8,((((Wfr.refl _ _).allocs a5 _).allocs (by simp;omega) _).allocs (by simp;omega) _).trans a6⟩
set_option maxHeartbeats 4000000 in
set_option maxRecDepth 100000 in
theorem ulg(n:Nat)(h0:uQ 247 axS 154 0)(h1:uQ 249 .rat 154 6)(h2:uQ 250 (uC n) 154 9)(h3:uQ 251 (.list .rat) 154 11)(h4:uQ 252 (.list .rat) 154 12):uk 179 (.st (ubd [axS,.rat,(uC n),(.list .rat),(.list .rat)])):=by
 intro w bw o v t h a7;have a5:=h.lt;have HC:Hid (∀i k s,([247,249,250,251,252]:List FuncId)[i]? = some k→([axS,.rat,(uC n),(.list .rat),(.list .rat)]:List Shape)[i]? = some s→uQ k s 154 (uq [axS,.rat,(uC n),(.list .rat),(.list .rat)] i)):=by
  intro i k s hk hs;rcases i with _|_|_|_|_|i
  ·simp only[gq]at hk hs;injection hk with hk;injection hs with hs;subst hk;subst hs;rw[show uq [axS,.rat,(uC n),(.list .rat),(.list .rat)] 0=0 from by simp[uq,Shape.sz]];exact h0
  ·simp only[gq]at hk hs;injection hk with hk;injection hs with hs;subst hk;subst hs;rw[show uq [axS,.rat,(uC n),(.list .rat),(.list .rat)] 1=6 from by simp[uq,Shape.sz,uh]];exact h1
  ·simp only[gq]at hk hs;injection hk with hk;injection hs with hs;subst hk;subst hs;rw[show uq [axS,.rat,(uC n),(.list .rat),(.list .rat)] 2=9 from by simp[uq,Shape.sz,uh]];exact h2
  ·simp only[gq]at hk hs;injection hk with hk;injection hs with hs;subst hk;subst hs;rw[show uq [axS,.rat,(uC n),(.list .rat),(.list .rat)] 3=11 from by simp[uq,Shape.sz,uh,um]];exact h3
  ·simp only[gq]at hk hs;injection hk with hk;injection hs with hs;subst hk;subst hs;rw[show uq [axS,.rat,(uC n),(.list .rat),(.list .rat)] 4=12 from by simp[uq,Shape.sz,uh,um]];exact h4
  ·simp at hk
 obtain⟨tx,ht,hf⟩:=a7;injection ht with ht _;subst ht;obtain⟨a0,vs,rfl,a2,a1⟩:=Rep.split hf;rw[a0];have a4:=hid a2;have a3:=hid a1;have HW:=hid h;obtain⟨v0,_,rfl,t0,v1,_,rfl,t1,v2,_,rfl,t2,v3,_,rfl,t3,v4,_,rfl,t4,rfl⟩:=a2;obtain⟨a9,b0,b1,b3,b2,b4,b5,b7,b6,b8,rfl⟩:=ufe t0;obtain⟨c1,b9,c4,c2,c0,c5,c3,rfl⟩:=uay t1;obtain⟨c6,c8,c7,c9,d1,d0,rfl⟩:=uaj t2;obtain⟨d2,d4,d3,rfl⟩:=ua t3;obtain⟨d5,d7,d6,rfl⟩:=ua t4;show Calls Tryz.prog 179 #[.pointer (some ⟨bw,0,none⟩),.agg #[.int .i64 a9,.int .i64 b0,.slice b1 b3 b2,.int .i64 b4,.slice b5 b7 b6,.int .i64 b8,.bool c1,.slice b9 c4 c2,.slice c0 c5 c3,.slice c6 c8 c7,.slice c9 d1 d0,.slice d2 d4 d3,.slice d5 d7 d6]] w _
 clear h a1 hf a0 h0 h1 h2 h3 h4;go_enter Tryz.func179,Tryz.ntmps179
 go_wp2_with fail
 refine(uL [axS,.rat,(uC n),(.list .rat),(.list .rat)] [247,249,250,251,252] 154 (by decide) rfl (by simp) HC.out _ bw w.heap.size (w.heap.size+1) (w.heap.size+1+1) o _ (fun i=>tx.getD i []) (((HW.out.alloc _).alloc _).alloc _) (by simp) (((Bk.new' rfl _ _).alloc _).alloc _) ((Bk.new' (by simp) _ _).alloc _) a4.out (((a3.out.allocW _).allocW _).allocW _) (Bk.new' (by simp) _ _) (by omega) (by omega) (by omega)).mono ?_
 rintro e w1⟨rfl,a8,a6⟩;go_wp2;go_end0
 exact⟨rfl,a8,((((Wfr.refl _ _).allocs a5 _).allocs (by simp;omega) _).allocs (by simp;omega) _).trans a6⟩
set_option maxHeartbeats 4000000 in
set_option maxRecDepth 100000 in
theorem uwq(n:Nat)(h0:uQ 157 .int 65 0)(h1:uQ 159 .int 65 1)(h2:uQ 160 .bool 65 2)(h3:uQ 161 (.list (un n)) 65 3)(h4:uQ 164 (.list (un n)) 65 4)(h5:uQ 165 (.list (uD n)) 65 5)(h6:uQ 168 (.list (uan n)) 65 6)(h7:uQ 171 (.list (un n)) 65 7)(h8:uQ 172 (.list .int) 65 8)(h9:uQ 173 (.list .rat) 65 9)(a0:uQ 175 (.list (.list (uax n))) 65 10):uk 83 (.st (ubd [.int,.int,.bool,(.list (un n)),(.list (un n)),(.list (uD n)),(.list (uan n)),(.list (un n)),(.list .int),(.list .rat),(.list (.list (uax n)))])):=by
 intro w bw o v t h a8;have a6:=h.lt;have HC:Hid (∀i k s,([157,159,160,161,164,165,168,171,172,173,175]:List FuncId)[i]? = some k→([.int,.int,.bool,(.list (un n)),(.list (un n)),(.list (uD n)),(.list (uan n)),(.list (un n)),(.list .int),(.list .rat),(.list (.list (uax n)))]:List Shape)[i]? = some s→uQ k s 65 (uq [.int,.int,.bool,(.list (un n)),(.list (un n)),(.list (uD n)),(.list (uan n)),(.list (un n)),(.list .int),(.list .rat),(.list (.list (uax n)))] i)):=by
  intro i k s hk hs;rcases i with _|_|_|_|_|_|_|_|_|_|_|i
  ·simp only[gq]at hk hs;injection hk with hk;injection hs with hs;subst hk;subst hs;rw[show uq [.int,.int,.bool,(.list (un n)),(.list (un n)),(.list (uD n)),(.list (uan n)),(.list (un n)),(.list .int),(.list .rat),(.list (.list (uax n)))] 0=0 from by simp[uq,Shape.sz]];exact h0
  ·simp only[gq]at hk hs;injection hk with hk;injection hs with hs;subst hk;subst hs;rw[show uq [.int,.int,.bool,(.list (un n)),(.list (un n)),(.list (uD n)),(.list (uan n)),(.list (un n)),(.list .int),(.list .rat),(.list (.list (uax n)))] 1=1 from by simp[uq,Shape.sz]];exact h1
  ·simp only[gq]at hk hs;injection hk with hk;injection hs with hs;subst hk;subst hs;rw[show uq [.int,.int,.bool,(.list (un n)),(.list (un n)),(.list (uD n)),(.list (uan n)),(.list (un n)),(.list .int),(.list .rat),(.list (.list (uax n)))] 2=2 from by simp[uq,Shape.sz]];exact h2
  ·simp only[gq]at hk hs;injection hk with hk;injection hs with hs;subst hk;subst hs;rw[show uq [.int,.int,.bool,(.list (un n)),(.list (un n)),(.list (uD n)),(.list (uan n)),(.list (un n)),(.list .int),(.list .rat),(.list (.list (uax n)))] 3=3 from by simp[uq,Shape.sz]];exact h3
  ·simp only[gq]at hk hs;injection hk with hk;injection hs with hs;subst hk;subst hs;rw[show uq [.int,.int,.bool,(.list (un n)),(.list (un n)),(.list (uD n)),(.list (uan n)),(.list (un n)),(.list .int),(.list .rat),(.list (.list (uax n)))] 4=4 from by simp[uq,Shape.sz]];exact h4
  ·simp only[gq]at hk hs;injection hk with hk;injection hs with hs;subst hk;subst hs;rw[show uq [.int,.int,.bool,(.list (un n)),(.list (un n)),(.list (uD n)),(.list (uan n)),(.list (un n)),(.list .int),(.list .rat),(.list (.list (uax n)))] 5=5 from by simp[uq,Shape.sz]];exact h5
  ·simp only[gq]at hk hs;injection hk with hk;injection hs with hs;subst hk;subst hs;rw[show uq [.int,.int,.bool,(.list (un n)),(.list (un n)),(.list (uD n)),(.list (uan n)),(.list (un n)),(.list .int),(.list .rat),(.list (.list (uax n)))] 6=6 from by simp[uq,Shape.sz]];exact h6
  ·simp only[gq]at hk hs;injection hk with hk;injection hs with hs;subst hk;subst hs;rw[show uq [.int,.int,.bool,(.list (un n)),(.list (un n)),(.list (uD n)),(.list (uan n)),(.list (un n)),(.list .int),(.list .rat),(.list (.list (uax n)))] 7=7 from by simp[uq,Shape.sz]];exact h7
  ·simp only[gq]at hk hs;injection hk with hk;injection hs with hs;subst hk;subst hs;rw[show uq [.int,.int,.bool,(.list (un n)),(.list (un n)),(.list (uD n)),(.list (uan n)),(.list (un n)),(.list .int),(.list .rat),(.list (.list (uax n)))] 8=8 from by simp[uq,Shape.sz]];exact h8
  ·simp only[gq]at hk hs;injection hk with hk;injection hs with hs;subst hk;subst hs;rw[show uq [.int,.int,.bool,(.list (un n)),(.list (un n)),(.list (uD n)),(.list (uan n)),(.list (un n)),(.list .int),(.list .rat),(.list (.list (uax n)))] 9=9 from by simp[uq,Shape.sz]];exact h9
  ·simp only[gq]at hk hs;injection hk with hk;injection hs with hs;subst hk;subst hs;rw[show uq [.int,.int,.bool,(.list (un n)),(.list (un n)),(.list (uD n)),(.list (uan n)),(.list (un n)),(.list .int),(.list .rat),(.list (.list (uax n)))] 10=10 from by simp[uq,Shape.sz]];exact a0
  ·simp at hk
 obtain⟨tx,ht,hf⟩:=a8;injection ht with ht _;subst ht;obtain⟨a1,vs,rfl,a3,a2⟩:=Rep.split hf;rw[a1];have a5:=hid a3;have a4:=hid a2;have HW:=hid h;obtain⟨v0,_,rfl,t0,v1,_,rfl,t1,v2,_,rfl,t2,v3,_,rfl,t3,v4,_,rfl,t4,v5,_,rfl,t5,v6,_,rfl,t6,v7,_,rfl,t7,v8,_,rfl,t8,v9,_,rfl,t9,d8,_,rfl,b0,rfl⟩:=a3;obtain⟨b1,rfl⟩:=ug t0;obtain⟨b5,rfl⟩:=ug t1;obtain⟨b6,rfl⟩:=ua8 t2;obtain⟨b7,b9,b8,rfl⟩:=ua t3;obtain⟨c0,c2,c1,rfl⟩:=ua t4;obtain⟨c3,c5,c4,rfl⟩:=ua t5;obtain⟨c6,c8,c7,rfl⟩:=ua t6;obtain⟨c9,d1,d0,rfl⟩:=ua t7;obtain⟨d2,d4,d3,rfl⟩:=ua t8;obtain⟨d5,d7,d6,rfl⟩:=ua t9;obtain⟨b2,b4,b3,rfl⟩:=ua b0;show Calls Tryz.prog 83 #[.pointer (some ⟨bw,0,none⟩),.agg #[.int .i64 b1,.int .i64 b5,.bool b6,.slice b7 b9 b8,.slice c0 c2 c1,.slice c3 c5 c4,.slice c6 c8 c7,.slice c9 d1 d0,.slice d2 d4 d3,.slice d5 d7 d6,.slice b2 b4 b3]] w _
 clear h a2 hf a1 h0 h1 h2 h3 h4 h5 h6 h7 h8 h9 a0;go_enter Tryz.func83,Tryz.ntmps83
 go_wp2_with fail
 refine(uL [.int,.int,.bool,(.list (un n)),(.list (un n)),(.list (uD n)),(.list (uan n)),(.list (un n)),(.list .int),(.list .rat),(.list (.list (uax n)))] [157,159,160,161,164,165,168,171,172,173,175] 65 (by decide) rfl (by simp) HC.out _ bw w.heap.size (w.heap.size+1) (w.heap.size+1+1) o _ (fun i=>tx.getD i []) (((HW.out.alloc _).alloc _).alloc _) (by simp) (((Bk.new' rfl _ _).alloc _).alloc _) ((Bk.new' (by simp) _ _).alloc _) a5.out (((a4.out.allocW _).allocW _).allocW _) (Bk.new' (by simp) _ _) (by omega) (by omega) (by omega)).mono ?_
 rintro e w1⟨rfl,a9,a7⟩;go_wp2;go_end0
 exact⟨rfl,a9,((((Wfr.refl _ _).allocs a6 _).allocs (by simp;omega) _).allocs (by simp;omega) _).trans a7⟩
set_option maxHeartbeats 4000000 in
set_option maxRecDepth 100000 in
theorem uua(h0:uQ 180 .int 68 0)(h1:uQ 181 .int 68 1):uk 86 (.st (ubd [.int,.int])):=by
 intro w bw o v t h a7;have a5:=h.lt;have HC:Hid (∀i k s,([180,181]:List FuncId)[i]? = some k→([.int,.int]:List Shape)[i]? = some s→uQ k s 68 (uq [.int,.int] i)):=by
  intro i k s hk hs;rcases i with _|_|i
  ·simp only[gq]at hk hs;injection hk with hk;injection hs with hs;subst hk;subst hs;rw[show uq [.int,.int] 0=0 from by simp[uq,Shape.sz]];exact h0
  ·simp only[gq]at hk hs;injection hk with hk;injection hs with hs;subst hk;subst hs;rw[show uq [.int,.int] 1=1 from by simp[uq,Shape.sz]];exact h1
  ·simp at hk
 obtain⟨tx,ht,hf⟩:=a7;injection ht with ht _;subst ht;obtain⟨a0,vs,rfl,a2,a1⟩:=Rep.split hf;rw[a0];have a4:=hid a2;have a3:=hid a1;have HW:=hid h;obtain⟨v0,_,rfl,t0,v1,_,rfl,t1,rfl⟩:=a2;obtain⟨a9,rfl⟩:=ug t0;obtain⟨b0,rfl⟩:=ug t1;show Calls Tryz.prog 86 #[.pointer (some ⟨bw,0,none⟩),.agg #[.int .i64 a9,.int .i64 b0]] w _
 clear h a1 hf a0 h0 h1;go_enter Tryz.func86,Tryz.ntmps86
 go_wp2_with fail
 refine(uL [.int,.int] [180,181] 68 (by decide) rfl (by simp) HC.out _ bw w.heap.size (w.heap.size+1) (w.heap.size+1+1) o _ (fun i=>tx.getD i []) (((HW.out.alloc _).alloc _).alloc _) (by simp) (((Bk.new' rfl _ _).alloc _).alloc _) ((Bk.new' (by simp) _ _).alloc _) a4.out (((a3.out.allocW _).allocW _).allocW _) (Bk.new' (by simp) _ _) (by omega) (by omega) (by omega)).mono ?_
 rintro e w1⟨rfl,a8,a6⟩;go_wp2;go_end0
 exact⟨rfl,a8,((((Wfr.refl _ _).allocs a5 _).allocs (by simp;omega) _).allocs (by simp;omega) _).trans a6⟩
set_option maxHeartbeats 4000000 in
set_option maxRecDepth 100000 in
theorem uwr(n:Nat)(h0:uQ 72 .bool 34 0)(h1:uQ 74 uM 34 1)(h2:uQ 76 (.list ut) 34 3)(h3:uQ 79 (uaw n) 34 4)(h4:uQ 81 (.list (uac n)) 34 7)(h5:uQ 84 (.list uW) 34 8):uk 29 (.st (ubd [.bool,uM,(.list ut),(uaw n),(.list (uac n)),(.list uW)])):=by
 intro w bw o v t h a7;have a5:=h.lt;have HC:Hid (∀i k s,([72,74,76,79,81,84]:List FuncId)[i]? = some k→([.bool,uM,(.list ut),(uaw n),(.list (uac n)),(.list uW)]:List Shape)[i]? = some s→uQ k s 34 (uq [.bool,uM,(.list ut),(uaw n),(.list (uac n)),(.list uW)] i)):=by
  intro i k s hk hs;rcases i with _|_|_|_|_|_|i
  ·simp only[gq]at hk hs;injection hk with hk;injection hs with hs;subst hk;subst hs;rw[show uq [.bool,uM,(.list ut),(uaw n),(.list (uac n)),(.list uW)] 0=0 from by simp[uq,Shape.sz]];exact h0
  ·simp only[gq]at hk hs;injection hk with hk;injection hs with hs;subst hk;subst hs;rw[show uq [.bool,uM,(.list ut),(uaw n),(.list (uac n)),(.list uW)] 1=1 from by simp[uq,Shape.sz]];exact h1
  ·simp only[gq]at hk hs;injection hk with hk;injection hs with hs;subst hk;subst hs;rw[show uq [.bool,uM,(.list ut),(uaw n),(.list (uac n)),(.list uW)] 2=3 from by simp[uq,Shape.sz,ud]];exact h2
  ·simp only[gq]at hk hs;injection hk with hk;injection hs with hs;subst hk;subst hs;rw[show uq [.bool,uM,(.list ut),(uaw n),(.list (uac n)),(.list uW)] 3=4 from by simp[uq,Shape.sz,ud]];exact h3
  ·simp only[gq]at hk hs;injection hk with hk;injection hs with hs;subst hk;subst hs;rw[show uq [.bool,uM,(.list ut),(uaw n),(.list (uac n)),(.list uW)] 4=7 from by simp[uq,Shape.sz,ud,uu]];exact h4
  ·simp only[gq]at hk hs;injection hk with hk;injection hs with hs;subst hk;subst hs;rw[show uq [.bool,uM,(.list ut),(uaw n),(.list (uac n)),(.list uW)] 5=8 from by simp[uq,Shape.sz,ud,uu]];exact h5
  ·simp at hk
 obtain⟨tx,ht,hf⟩:=a7;injection ht with ht _;subst ht;obtain⟨a0,vs,rfl,a2,a1⟩:=Rep.split hf;rw[a0];have a4:=hid a2;have a3:=hid a1;have HW:=hid h;obtain⟨v0,_,rfl,t0,v1,_,rfl,t1,v2,_,rfl,t2,v3,_,rfl,t3,v4,_,rfl,t4,v5,_,rfl,t5,rfl⟩:=a2;obtain⟨a9,rfl⟩:=ua8 t0;obtain⟨b0,b2,b1,b3,b5,b4,rfl⟩:=uch t1;obtain⟨b6,b8,b7,rfl⟩:=ua t2;obtain⟨b9,c1,c0,c2,c4,c3,c5,c7,c6,rfl⟩:=udy t3;obtain⟨c8,d0,c9,rfl⟩:=ua t4;obtain⟨d1,d3,d2,rfl⟩:=ua t5;show Calls Tryz.prog 29 #[.pointer (some ⟨bw,0,none⟩),.agg #[.bool a9,.slice b0 b2 b1,.slice b3 b5 b4,.slice b6 b8 b7,.slice b9 c1 c0,.slice c2 c4 c3,.slice c5 c7 c6,.slice c8 d0 c9,.slice d1 d3 d2]] w _
 clear h a1 hf a0 h0 h1 h2 h3 h4 h5;go_enter Tryz.func29,Tryz.ntmps29
 go_wp2_with fail
 refine(uL [.bool,uM,(.list ut),(uaw n),(.list (uac n)),(.list uW)] [72,74,76,79,81,84] 34 (by decide) rfl (by simp) HC.out _ bw w.heap.size (w.heap.size+1) (w.heap.size+1+1) o _ (fun i=>tx.getD i []) (((HW.out.alloc _).alloc _).alloc _) (by simp) (((Bk.new' rfl _ _).alloc _).alloc _) ((Bk.new' (by simp) _ _).alloc _) a4.out (((a3.out.allocW _).allocW _).allocW _) (Bk.new' (by simp) _ _) (by omega) (by omega) (by omega)).mono ?_
 rintro e w1⟨rfl,a8,a6⟩;go_wp2;go_end0
 exact⟨rfl,a8,((((Wfr.refl _ _).allocs a5 _).allocs (by simp;omega) _).allocs (by simp;omega) _).trans a6⟩
end Go.Proofs.YtellcholbkoakaaGreatDoor
