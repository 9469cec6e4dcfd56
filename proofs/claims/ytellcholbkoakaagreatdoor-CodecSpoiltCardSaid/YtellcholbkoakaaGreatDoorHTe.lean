/-
  The reference's writer: what its lists and structs want.
-/
import Derived.Test.YtellcholbkoakaaGreatDoorHTa
import Derived.Test.YtellcholbkoakaaGreatDoorHCRa
import Derived.Test.YtellcholbkoakaaGreatDoorHRTa
import Derived.Test.YtellcholbkoakaaGreatDoorHRegion
namespace Go.Proofs.YtellcholbkoakaaGreatDoor
open Go.Lib (hid)
open Go.RowKit AC
set_option linter.unusedVariables false
set_option linter.unusedSimpArgs false
theorem uwy:(Tryz.prog.info? 9).map (fun i=>(i.size,i.bytes,i.zero.map fun z=>z.cells.size))=some (1,16,some 1):=by kernel_rfl
theorem nm:(∀(a:Act) (k:Nat) (s:Nat→Value),uF a [] k s=a)∧(∀(a:Act) (t:Nat) (r:List Nat) (k:Nat) (s:Nat→Value),uF a (t::r) k s=uF (a.put (some t) (s k)) r (k+1) s) ∧
 (∀(l:List Value) (d) (i:Nat) (v:Value),Act.put ⟨l.toArray,d⟩ (some i) v=⟨(l.set i v).toArray,d⟩)∧(∀(x y:Value) (l:List Value) (i:Nat),(x::l).set (i+1) y=x::l.set i y)∧(∀(x y:Value) (l:List Value),(x::l).set 0 y=y::l) ∧
 (∀(x y:Nat) (l:List Nat),(x::l).getD 0 y=x)∧(∀(x y i:Nat) (l:List Nat),(x::l).getD (i+1) y=l.getD i y)∧(∀n:Nat,0+n=n):=
 ⟨fun _ _ _=>rfl,fun _ _ _ _ _=>rfl,fun l d i v=>by simp[Act.put],fun _ _ _ _=>rfl,fun _ _ _=>rfl,fun _ _ _=>rfl,fun _ _ _ _=>rfl,Nat.zero_add⟩
theorem uag{a b:List UInt8}{n:Nat}(h:a=b)(hl:a.length≤n):b.length≤n:=h▸hl
theorem Strs.one{w:World}{v:Value}{tx:Nat→List UInt8}(h:Strs w v 1 tx):∃b off c,v = .slice (some ⟨b,off,none⟩) 1 c∧w.cell? ⟨b,off,none⟩=some (.string ⟨(tx 0).toArray⟩):=by
 obtain⟨A,c,rfl,_,_,h⟩:=h;obtain⟨b,off,rfl,_,hc⟩:=h (by omega)
 exact⟨b,off,c,rfl,hc 0 (by omega)⟩
theorem Strs.new1(w:World)(T:TypeId)(t:List UInt8):Strs (w.alloc (.cells #[.string ⟨t.toArray⟩] T)) (.slice (some ⟨w.heap.size,0,none⟩) 1 1) 1 (fun _=>t):=
 (Strs.new w T [t] _ rfl 1 rfl (by decide)).congr fun i hi=>by
  have:i=0:=by omega
  subst this;rfl
theorem uI(w2:World){ops:Array Oper}{rest:List Oper}{op:Oper}{a:Act}{Q:Exit→Act→World→Prop}(hgd:op.guard=none)(sl x:Operand)
 (ho:op.op = .call { callee:= .builtin .append,args:=#[sl,x],argTypes:=#[126,126] })
 (wb:World) (tx:Nat→List UInt8) (k:Nat) (lv:Value) (hs:a.eval sl=lv) (hTI:TI tx wb lv k w2) (b off c:Nat) (hx:a.eval x = .slice (some ⟨b,off,none⟩) 1 c) (t:List UInt8) (hcell:w2.cell? ⟨b,off,none⟩=some (.string ⟨t.toArray⟩)) (ht:t=tx k) (hk:k≤100000000)
 (h:∀g cap w3,TI tx wb (.slice (some ⟨g,0,none⟩) (k+1) cap) (k+1) w3→wpList Tryz.prog ops Q rest (a.put op.dst (.slice (some ⟨g,0,none⟩) (k+1) cap)) w3) :
 wpList Tryz.prog ops Q (op::rest) a w2:=by
 obtain⟨i,hi,hzz⟩:=Option.map_eq_some_iff.1 uwy;simp only[Prod.mk.injEq]at hzz;obtain⟨hsize,hbytes,hzero⟩:=hzz;obtain⟨z,hz0,hzc⟩:=Option.map_eq_some_iff.1 hzero;refine wpList_append_lies _ hgd sl x 126 ho wb.heap.size 9 i z 1 16 Tryz.underlying126 hi hz0 hsize hbytes hzc (by decide) lv k _ hs hTI.1 ⟨b,off,none⟩ 1 c [.string ⟨t.toArray⟩] hx (by simp) ?_ ?_ (by omega) (by unfold maxLen;omega) (by omega) hTI.2.size w2.heap.size rfl ?_
 ·intro j u hu
  have hj:j=0:=by
   have:=(List.getElem?_eq_some_iff.1 hu).1;simpa using this
  subst hj;simp at hu;subst hu;rw[Addr.add_lit];exact hcell
 ·intro u hu
  simp at hu;subst hu;rfl
 ·intro g cap w3 h2 h3 h4 h5
  refine h g cap w3 ⟨?_,?_⟩
  ·have e:ug9 tx (k+1)=ug9 tx k++[.string ⟨(tx k).toArray⟩]:=ubj _ _
   rw[e,←ht];exact h2
  ·have hlv:∀x,lv.ownBlock=some x→wb.heap.size≤x:=fun x hx=>(hTI.1.lt x hx).1
   exact⟨h3.os.trans hTI.2.os,h3.tape.trans hTI.2.tape,h3.output.trans hTI.2.output,Nat.le_trans hTI.2.size h3.size,fun i hi=>(h3.block i (Nat.lt_of_lt_of_le hi hTI.2.size) fun e=>by have:=hlv i e.symm;omega).trans (hTI.2.block i hi)⟩
theorem udo:ud8 64 .int:=by
 intro w D v t hrep _;obtain⟨n,rfl,h1,h2,ht⟩:=hrep;injection ht with ht _;subst ht;exact uha w n h1 h2
theorem uxg:ud8 66 .bool:=by
 intro w D v t hrep _;obtain⟨b,rfl,ht⟩:=hrep;injection ht with ht _;subst ht;exact uqd w b
theorem uui:ud8 135 .rat:=by
 intro w D v t hrep _;obtain⟨q,hq,ht⟩:=hrep;injection ht with ht _;subst ht;exact ue5 w 0 _ q hq.ratV
set_option maxHeartbeats 16000000 in
set_option maxRecDepth 100000 in
theorem uuj:ud8 62 (.list .int):=by
 intro w D v t a9 hl;obtain⟨zA,zk,zc,rfl⟩:=ua a9.ty;have c6:=hid a9;have HL:=hid hl;clear a9 hl;show Calls Tryz.prog 62 #[.slice zA zk zc] w _
 go_enter Tryz.func62,Tryz.ntmps62
 have b2:=hid (Below.refl w.heap.size w);obtain⟨d9,a1,d7,e7,d5,c0,c1⟩:=c6.out.unlist;subst d7;have c5:=hid c0;have c8:=hid c1;have e6:zk≤100000000:=Nat.le_trans (uN a1 zk) HL.out;unfold maxLen at d5;clear c0 c1;go_wp2;have b3:=hid (TI.start a1 (Below.refl w.heap.size w));go_loopw [3,8] (fun ov iv wr=>∃(k:Nat),k≤zk∧iv = .int .i64 k∧Hid (TI a1 w ov k wr)) (fun _ iv _=>zk-(intOf iv).toNat)
 case atStart=>exact⟨0,by omega,rfl,b3⟩
 obtain⟨a0,e5,rfl,a4⟩:=hrel;clear b3;obtain⟨e0,d8⟩:∃w:World,w=wr:=⟨_,rfl⟩;subst d8;obtain⟨e8,e9,rfl,_,_⟩:=a4.out.form;have b6:=a4.out.2;have a2:=hid (b2.out.trans (b6.mono b2.out.size));clear b6;by_cases a8:a0<zk
 ·obtain⟨b4,c3,d2,_,d3,b9⟩:=c5.out (by omega)
  subst d2;have a5:=c8.out a0 a8;obtain⟨f0,b0⟩:∃u,d9 a0=u:=⟨_,rfl⟩;rw[b0]at a5;have d6:Hid ((a1 a0).length≤MX):=Nat.le_trans (uc a1 a8) HL.out;have c2:Shape.sz .int=1:=rfl;obtain⟨b1,rfl⟩:=ug a5.ty;have c7:=hid a5;clear a5;have e4:e0.cell? ⟨b4,c3+a0,none⟩=some (.int .i64 b1):=by
   have h9:=(a2.out.cell (p:=⟨b4,c3+a0*Shape.sz .int+0,none⟩) d3).trans (b9 a0 a8 0 (.int .i64 b1) (by rw[b0];rfl))
   rw[c2]at h9;simpa using h9
  clear b9 b0 c2;go_wp2_with fail
  have key:=udo _ D [.int .i64 b1] (a1 a0) (c7.out.below a2.out) d6.out;rw[uo]at key;refine key.mono ?_;rintro e a3⟨rfl,b7⟩;have a6:=b7;have e1:=hid (a2.out.trans (a6.mono a2.out.size));have c9:=hid (a4.out.below a6);clear a6 b7;have d4:(a3.alloc (.cells #[.string ⟨(a1 a0).toArray⟩] 9)).cell? ⟨a3.heap.size,0,none⟩=some (.string ⟨(a1 a0).toArray⟩):=by rw[World.cell?_alloc_at _ _ _ _ rfl];rfl
  have d0:=hid (c9.out.below ((Below.refl a3.heap.size a3).alloc (Nat.le_refl _) (.cells #[.string ⟨(a1 a0).toArray⟩] 9)));go_wp2_with (at_builtin;refine uI (a3.alloc (.cells #[.string ⟨(a1 a0).toArray⟩] 9)) rfl _ _ rfl w a1 a0 _ rfl d0.out a3.heap.size 0 1 rfl (a1 a0) d4 (rfl) (by omega) ?_)
  intro g2 e3 w4 b5;have d1:=hid b5;clear b5;go_wp2;go_roundw
  case rel=>exact⟨a0+1,by omega,by go_num,d1⟩
  case measure=>simp[intOf];omega
 obtain rfl:a0=zk:=by omega
 go_wp2_with fail
 refine(ux _ _ a0 a1 (a4.out.strs) HL.out).mono ?_;rintro e f1⟨rfl,b8⟩;have a7:=b8;have c4:=hid (a2.out.trans (a7.mono a2.out.size));have e2:=hid (a4.out.below a7);clear a7 b8;go_wp2;go_ret
 exact⟨rfl,c4.out⟩
set_option maxHeartbeats 16000000 in
set_option maxRecDepth 100000 in
theorem uuk:ud8 67 (.list .int):=by
 intro w D v t a9 hl;obtain⟨zA,zk,zc,rfl⟩:=ua a9.ty;have c6:=hid a9;have HL:=hid hl;clear a9 hl;show Calls Tryz.prog 67 #[.slice zA zk zc] w _
 go_enter Tryz.func67,Tryz.ntmps67
 have b2:=hid (Below.refl w.heap.size w);obtain⟨d9,a1,d7,e7,d5,c0,c1⟩:=c6.out.unlist;subst d7;have c5:=hid c0;have c8:=hid c1;have e6:zk≤100000000:=Nat.le_trans (uN a1 zk) HL.out;unfold maxLen at d5;clear c0 c1;go_wp2;have b3:=hid (TI.start a1 (Below.refl w.heap.size w));go_loopw [3,8] (fun ov iv wr=>∃(k:Nat),k≤zk∧iv = .int .i64 k∧Hid (TI a1 w ov k wr)) (fun _ iv _=>zk-(intOf iv).toNat)
 case atStart=>exact⟨0,by omega,rfl,b3⟩
 obtain⟨a0,e5,rfl,a4⟩:=hrel;clear b3;obtain⟨e0,d8⟩:∃w:World,w=wr:=⟨_,rfl⟩;subst d8;obtain⟨e8,e9,rfl,_,_⟩:=a4.out.form;have b6:=a4.out.2;have a2:=hid (b2.out.trans (b6.mono b2.out.size));clear b6;by_cases a8:a0<zk
 ·obtain⟨b4,c3,d2,_,d3,b9⟩:=c5.out (by omega)
  subst d2;have a5:=c8.out a0 a8;obtain⟨f0,b0⟩:∃u,d9 a0=u:=⟨_,rfl⟩;rw[b0]at a5;have d6:Hid ((a1 a0).length≤MX):=Nat.le_trans (uc a1 a8) HL.out;have c2:Shape.sz .int=1:=rfl;obtain⟨b1,rfl⟩:=ug a5.ty;have c7:=hid a5;clear a5;have e4:e0.cell? ⟨b4,c3+a0,none⟩=some (.int .i64 b1):=by
   have h9:=(a2.out.cell (p:=⟨b4,c3+a0*Shape.sz .int+0,none⟩) d3).trans (b9 a0 a8 0 (.int .i64 b1) (by rw[b0];rfl))
   rw[c2]at h9;simpa using h9
  clear b9 b0 c2;go_wp2_with fail
  have key:=udo _ D [.int .i64 b1] (a1 a0) (c7.out.below a2.out) d6.out;rw[uo]at key;refine key.mono ?_;rintro e a3⟨rfl,b7⟩;have a6:=b7;have e1:=hid (a2.out.trans (a6.mono a2.out.size));have d0:=hid (a4.out.below a6);clear a6 b7;have d4:(a3.alloc (.cells #[.string ⟨(a1 a0).toArray⟩] 9)).cell? ⟨a3.heap.size,0,none⟩=some (.string ⟨(a1 a0).toArray⟩):=by rw[World.cell?_alloc_at _ _ _ _ rfl];rfl
  have d1:=hid (d0.out.below ((Below.refl a3.heap.size a3).alloc (Nat.le_refl _) (.cells #[.string ⟨(a1 a0).toArray⟩] 9)));go_wp2_with (at_builtin;refine uI (a3.alloc (.cells #[.string ⟨(a1 a0).toArray⟩] 9)) rfl _ _ rfl w a1 a0 _ rfl d1.out a3.heap.size 0 1 rfl (a1 a0) d4 (rfl) (by omega) ?_)
  intro g2 e3 w4 b5;have c9:=hid b5;clear b5;go_wp2;go_roundw
  case rel=>exact⟨a0+1,by omega,by go_num,c9⟩
  case measure=>simp[intOf];omega
 obtain rfl:a0=zk:=by omega
 go_wp2_with fail
 refine(ux _ _ a0 a1 (a4.out.strs) HL.out).mono ?_;rintro e f1⟨rfl,b8⟩;have a7:=b8;have c4:=hid (a2.out.trans (a7.mono a2.out.size));have e2:=hid (a4.out.below a7);clear a7 b8;go_wp2;go_ret
 exact⟨rfl,c4.out⟩
set_option maxHeartbeats 16000000 in
set_option maxRecDepth 100000 in
theorem uul:ud8 138 (.list .rat):=by
 intro w D v t c7 hl;obtain⟨zA,zk,zc,rfl⟩:=ua c7.ty;have d9:=hid c7;have HL:=hid hl;clear c7 hl;show Calls Tryz.prog 138 #[.slice zA zk zc] w _
 go_enter Tryz.func138,Tryz.ntmps138
 have c8:=hid (Below.refl w.heap.size w);obtain⟨f5,a1,f3,g4,f1,d5,d6⟩:=d9.out.unlist;subst f3;have d8:=hid d5;have e1:=hid d6;have g3:zk≤100000000:=Nat.le_trans (uN a1 zk) HL.out;unfold maxLen at f1;clear d5 d6;go_wp2;have c9:=hid (TI.start a1 (Below.refl w.heap.size w));go_loopw [3,8] (fun ov iv wr=>∃(k:Nat),k≤zk∧iv = .int .i64 k∧Hid (TI a1 w ov k wr)) (fun _ iv _=>zk-(intOf iv).toNat)
 case atStart=>exact⟨0,by omega,rfl,c9⟩
 obtain⟨a0,g1,rfl,a7⟩:=hrel;clear c9;obtain⟨a3,f4⟩:∃w:World,w=wr:=⟨_,rfl⟩;subst f4;obtain⟨g5,g6,rfl,_,_⟩:=a7.out.form;have d4:=a7.out.2;have a2:=hid (c8.out.trans (d4.mono c8.out.size));clear d4;by_cases a8:a0<zk
 ·obtain⟨a4,a5,e6,_,c6,b9⟩:=d8.out (by omega)
  subst e6;have c0:=e1.out a0 a8;obtain⟨g7,a9⟩:∃u,f5 a0=u:=⟨_,rfl⟩;rw[a9]at c0;have f2:Hid ((a1 a0).length≤MX):=Nat.le_trans (uc a1 a8) HL.out;have c1:Shape.sz .rat=3:=rfl;obtain⟨b2,b0,b5,b3,b1,b6,b4,rfl⟩:=uay c0.ty;have e0:=hid c0;clear c0;have e7:a3.cell? ⟨a4,a5+a0*3,none⟩=some (.bool b2):=by
   have h9:=(a2.out.cell (p:=⟨a4,a5+a0*Shape.sz .rat+0,none⟩) c6).trans (b9 a0 a8 0 (.bool b2) (by rw[a9];rfl))
   rw[c1]at h9;simpa using h9
  have e8:a3.cell? ⟨a4,a5+a0*3+1,none⟩=some (.slice b0 b5 b3):=by
   have h9:=(a2.out.cell (p:=⟨a4,a5+a0*Shape.sz .rat+1,none⟩) c6).trans (b9 a0 a8 1 (.slice b0 b5 b3) (by rw[a9];rfl))
   rw[c1]at h9;simpa using h9
  have e9:a3.cell? ⟨a4,a5+a0*3+2,none⟩=some (.slice b1 b6 b4):=by
   have h9:=(a2.out.cell (p:=⟨a4,a5+a0*Shape.sz .rat+2,none⟩) c6).trans (b9 a0 a8 2 (.slice b1 b6 b4) (by rw[a9];rfl))
   rw[c1]at h9;simpa using h9
  clear b9 a9 c1;go_upto_region 5 with(fail)
  obtain⟨d0,b7⟩:∃W,W=a3.alloc (.cells #[.bool b2,.slice b0 b5 b3,.slice b1 b6 b4] 76):=⟨_,rfl⟩;have c4:Below a3.heap.size a3 d0:=by rw[b7];exact(Below.refl _ _).alloc (Nat.le_refl _) _
  have c2:=hid (a2.out.trans (c4.mono a2.out.size));have e2:=hid (a7.out.below c4);have c3:Hid (Bk d0 a3.heap.size 76 #[.bool b2,.slice b0 b5 b3,.slice b1 b6 b4]):=by rw[b7];exact Bk.new _ _ _
  rw[←b7];clear b7 c4;clear e7 e8 e9;obtain⟨g0,_,_⟩:=c3.out.facts;go_wp2_with fail
  have key:=uui _ D [.bool b2,.slice b0 b5 b3,.slice b1 b6 b4] (a1 a0) (e0.out.below c2.out) f2.out;rw[uaz]at key;refine key.mono ?_;rintro e a6⟨rfl,d2⟩;have b8:=d2;have f6:=hid (c2.out.trans (b8.mono c2.out.size));have f7:=hid (c3.out.below b8 c3.out.lt);have e3:=hid (e2.out.below b8);clear b8 d2;have f0:(a6.alloc (.cells #[.string ⟨(a1 a0).toArray⟩] 9)).cell? ⟨a6.heap.size,0,none⟩=some (.string ⟨(a1 a0).toArray⟩):=by rw[World.cell?_alloc_at _ _ _ _ rfl];rfl
  have e4:=hid (e3.out.below ((Below.refl a6.heap.size a6).alloc (Nat.le_refl _) (.cells #[.string ⟨(a1 a0).toArray⟩] 9)));go_wp2_with (at_builtin;refine uI (a6.alloc (.cells #[.string ⟨(a1 a0).toArray⟩] 9)) rfl _ _ rfl w a1 a0 _ rfl e4.out a6.heap.size 0 1 rfl (a1 a0) f0 (rfl) (by omega) ?_)
  intro g2 f9 w4 d1;have e5:=hid d1;clear d1;go_wp2;go_roundw
  case rel=>exact⟨a0+1,by omega,by go_num,e5⟩
  case measure=>simp[intOf];omega
 obtain rfl:a0=zk:=by omega
 go_wp2_with fail
 refine(ux _ _ a0 a1 (a7.out.strs) HL.out).mono ?_;rintro e g8⟨rfl,d3⟩;have c5:=d3;have d7:=hid (a2.out.trans (c5.mono a2.out.size));have f8:=hid (a7.out.below c5);clear c5 d3;go_wp2;go_ret
 exact⟨rfl,d7.out⟩
set_option maxHeartbeats 16000000 in
set_option maxRecDepth 100000 in
theorem uwz:ud8 134 uX:=by
 intro w D v t l8 hl;obtain⟨_,e0,n7,_,b6,_,rfl,rfl,e1,n8,_,e5,_,rfl,rfl,e2,rfl,rfl⟩:=l8;injection e0 with e0 _;obtain⟨d3,rfl⟩:=ug e1.ty;obtain⟨e7,a8,e8,rfl⟩:=ua e2.ty;subst e0;have HL:=hid hl;clear hl;have l5:Hid (b6.length≤MX):=Nat.le_trans (uc (fun i=>[b6,e5].getD i []) (i:=0) (k:=2) (by decide)) (HL.out)
 have k1:=hid e1;clear e1;have d7:Hid (e5.length≤MX):=Nat.le_trans (uc (fun i=>[b6,e5].getD i []) (i:=1) (k:=2) (by decide)) (HL.out)
 have k2:=hid e2;clear e2;show Calls Tryz.prog 134 #[.agg #[.int .i64 d3,.slice e7 a8 e8]] w _
 go_enter Tryz.func134,Tryz.ntmps134
 have e9:=hid (Below.refl w.heap.size w);go_upto_region 1 with(fail)
 obtain⟨b5,c3⟩:∃W,W=w.alloc (.cells #[.int .i64 d3,.slice e7 a8 e8] 148):=⟨_,rfl⟩;have h0:Below w.heap.size w b5:=by rw[c3];exact(Below.refl _ _).alloc (Nat.le_refl _) _
 have f0:=hid (e9.out.trans (h0.mono e9.out.size));have d4:Hid (Bk b5 w.heap.size 148 #[.int .i64 d3,.slice e7 a8 e8]):=by rw[c3];exact Bk.new _ _ _
 rw[←c3];clear c3 h0;obtain⟨n0,_,_⟩:=d4.out.facts;obtain⟨m2,a7,l9,n6,l4,j4,j6⟩:=k2.out.unlist;subst l9;have k0:=hid j4;have k5:=hid j6;have n5:a8≤100000000:=Nat.le_trans (uN a7 a8) d7.out;unfold maxLen at l4;clear j4 j6;go_wp2;have f6:=hid (TI.start a7 (Below.refl b5.heap.size b5));go_loopw [3,9] (fun ov iv wr=>∃(k:Nat),k≤a8∧iv = .int .i64 k∧Hid (TI a7 b5 ov k wr)) (fun _ iv _=>a8-(intOf iv).toNat)
 case atStart=>exact⟨0,by omega,rfl,f6⟩
 obtain⟨a1,n4,rfl,c2⟩:=hrel;clear f6;obtain⟨a5,m0⟩:∃w:World,w=wr:=⟨_,rfl⟩;subst m0;obtain⟨j7,j8,rfl,_,_⟩:=c2.out.form;have d5:=c2.out.2;have b2:=hid (f0.out.trans (d5.mono f0.out.size));have b7:=hid (d4.out.below d5 d4.out.lt);clear d5;by_cases c9:a1<a8
 ·obtain⟨c0,d2,l0,_,j3,d6⟩:=k0.out (by omega)
  subst l0;have j5:=k5.out a1 c9;obtain⟨o2,d1⟩:∃u,m2 a1=u:=⟨_,rfl⟩;rw[d1]at j5;have d8:Hid ((a7 a1).length≤MX):=Nat.le_trans (uc a7 c9) d7.out;have d9:Shape.sz uH=2:=ubw;obtain⟨_,d0,n9,_,a2,_,rfl,rfl,e3,o0,_,a3,_,rfl,rfl,e4,rfl,rfl⟩:=j5;injection d0 with d0 _;obtain⟨a9,rfl⟩:=ug e3.ty;obtain⟨b0,rfl⟩:=ug e4.ty;have b9:=hid d0;have l6:Hid (a2.length≤MX):=Nat.le_trans (uc (fun i=>[a2,a3].getD i []) (i:=0) (k:=2) (by decide)) (uag b9.out d8.out)
  have k3:=hid e3;clear e3;have l7:Hid (a3.length≤MX):=Nat.le_trans (uc (fun i=>[a2,a3].getD i []) (i:=1) (k:=2) (by decide)) (uag b9.out d8.out)
  have k4:=hid e4;clear e4;clear d0;have l1:a5.cell? ⟨c0,d2+a1*2,none⟩=some (.int .i64 a9):=by
   have h9:=(b2.out.cell (p:=⟨c0,d2+a1*Shape.sz uH+0,none⟩) j3).trans (d6 a1 c9 0 (.int .i64 a9) (by rw[d1];rfl))
   rw[d9]at h9;simpa using h9
  have l2:a5.cell? ⟨c0,d2+a1*2+1,none⟩=some (.int .i64 b0):=by
   have h9:=(b2.out.cell (p:=⟨c0,d2+a1*Shape.sz uH+1,none⟩) j3).trans (d6 a1 c9 1 (.int .i64 b0) (by rw[d1];rfl))
   rw[d9]at h9;simpa using h9
  clear d6 d1 d9;go_upto_region 5 with(fail)
  obtain⟨f8,c4⟩:∃W,W=a5.alloc (.cells #[.int .i64 a9,.int .i64 b0] 219):=⟨_,rfl⟩;have c5:Below a5.heap.size a5 f8:=by rw[c4];exact(Below.refl _ _).alloc (Nat.le_refl _) _
  have b3:=hid (b2.out.trans (c5.mono b2.out.size));have f3:=hid (b7.out.below c5 b7.out.lt);have k6:=hid (c2.out.below c5);have b4:Hid (Bk f8 a5.heap.size 219 #[.int .i64 a9,.int .i64 b0]):=by rw[c4];exact Bk.new _ _ _
  rw[←c4];clear c4 c5;clear l1 l2;go_upto_region 5 with(fail)
  refine uv (by kernel_rfl) (by kernel_rfl) [13,14,15,16,17,18,19,20,21,22] 40 (by kernel_rfl) (fun io v x=>match io with
   | 0=>v = .slice j7 a1 j8
   | 1=>v = .pointer (some ⟨a5.heap.size,0,none⟩)
   | 2=>v = .int .i64 a9
   | 3=>v = .string ⟨a2.toArray⟩
   | 4=>v = .pointer (some ⟨a5.heap.size,1,none⟩)
   | 5=>v = .int .i64 b0
   | 6=>v = .string ⟨a3.toArray⟩
   | 7=>Strs x v 2 (fun i=>[a2,a3].getD i [])
   | 8=>v = .string ⟨(par (fun i=>[a2,a3].getD i []) 2).toArray⟩
   | _=>Strs x v 1 (fun _=>(par (fun i=>[a2,a3].getD i []) 2))) ?_ ?_ ?_
  ·intro io v x x' a4 h hb
   rcases io with _|_|_|_|_|_|_|_|_|io
   ·exact h
   ·exact h
   ·exact h
   ·exact h
   ·exact h
   ·exact h
   ·exact h
   ·exact Strs.below h hb
   ·exact h
   ·exact Strs.below h hb
  ·intro io oo S x ho a4 a6 a0
   rcases io with _|_|_|_|_|_|_|_|_|_|io
   ·cases ho
    refine ub rfl rfl fun KK HK=>?_
    clear a0 a4;simp only[nm,Nat.reduceAdd]at HK ⊢;go_wp2;exact HK.out _ _ ⟨_,rfl,rfl,Below.refl _ _⟩
   ·cases ho
    refine ub rfl rfl fun KK HK=>?_
    clear a0 a4;simp only[nm,Nat.reduceAdd]at HK ⊢;go_wp2;exact HK.out _ _ ⟨_,rfl,rfl,Below.refl _ _⟩
   ·cases ho
    have h1:S 1 = .pointer (some ⟨a5.heap.size,0,none⟩):=a0 1 (by kernel_rfl) (by decide)
    obtain⟨n1,_,_⟩:=(b4.out.below a6 b4.out.lt).facts;refine ub rfl rfl fun KK HK=>?_
    clear a0 a4;simp only[nm,Nat.reduceAdd]at HK ⊢;generalize S 1=t1 at *;subst h1;go_wp2;exact HK.out _ _ ⟨_,rfl,rfl,Below.refl _ _⟩
   ·cases ho
    have h2:S 2 = .int .i64 a9:=a0 2 (by kernel_rfl) (by decide)
    refine ub rfl rfl fun KK HK=>?_
    clear a0 a4;simp only[nm,Nat.reduceAdd]at HK ⊢;generalize S 2=t2 at *;subst h2;go_wp2_with fail
    have key:=udo x D [.int .i64 a9] a2 (k3.out.below (b3.out.trans (a6.mono b3.out.size))) l6.out;rw[uo]at key;refine(key).mono ?_;rintro e xN⟨rfl,b8⟩;exact HK.out _ _ ⟨_,rfl,rfl,b8⟩
   ·cases ho
    refine ub rfl rfl fun KK HK=>?_
    clear a0 a4;simp only[nm,Nat.reduceAdd]at HK ⊢;go_wp2;exact HK.out _ _ ⟨_,rfl,rfl,Below.refl _ _⟩
   ·cases ho
    have h4:S 4 = .pointer (some ⟨a5.heap.size,1,none⟩):=a0 4 (by kernel_rfl) (by decide)
    obtain⟨n2,_,_⟩:=(b4.out.below a6 b4.out.lt).facts;refine ub rfl rfl fun KK HK=>?_
    clear a0 a4;simp only[nm,Nat.reduceAdd]at HK ⊢;generalize S 4=t4 at *;subst h4;go_wp2;exact HK.out _ _ ⟨_,rfl,rfl,Below.refl _ _⟩
   ·cases ho
    have h5:S 5 = .int .i64 b0:=a0 5 (by kernel_rfl) (by decide)
    refine ub rfl rfl fun KK HK=>?_
    clear a0 a4;simp only[nm,Nat.reduceAdd]at HK ⊢;generalize S 5=t5 at *;subst h5;go_wp2_with fail
    have key:=udo x D [.int .i64 b0] a3 (k4.out.below (b3.out.trans (a6.mono b3.out.size))) l7.out;rw[uo]at key;refine(key).mono ?_;rintro e xN⟨rfl,b8⟩;exact HK.out _ _ ⟨_,rfl,rfl,b8⟩
   ·cases ho
    have h3:S 3 = .string ⟨a2.toArray⟩:=a0 3 (by kernel_rfl) (by decide)
    have h6:S 6 = .string ⟨a3.toArray⟩:=a0 6 (by kernel_rfl) (by decide)
    refine ub rfl rfl fun KK HK=>?_
    clear a0 a4;simp only[nm,Nat.reduceAdd]at HK ⊢;generalize S 3=t3 at *;subst h3;generalize S 6=t6 at *;subst h6;go_wp2;exact HK.out _ _ ⟨_,rfl,Strs.new x _ [a2,a3] _ rfl _ rfl (by decide),(Below.refl _ _).alloc (Nat.le_refl _) _⟩
   ·cases ho
    have h7:Strs x (S 7) 2 (fun i=>[a2,a3].getD i []):=a0 7 (by kernel_rfl) (by decide)
    refine ub rfl rfl fun KK HK=>?_
    clear a0 a4;simp only[nm,Nat.reduceAdd]at HK ⊢;go_wp2_with fail
    refine(ux _ _ 2 _ h7 (uag b9.out d8.out)).mono ?_;rintro e xN⟨rfl,b8⟩;exact HK.out _ _ ⟨_,rfl,rfl,b8⟩
   ·cases ho
    have h8:S 8 = .string ⟨(par (fun i=>[a2,a3].getD i []) 2).toArray⟩:=a0 8 (by kernel_rfl) (by decide)
    refine ub rfl rfl fun KK HK=>?_
    clear a0 a4;simp only[nm,Nat.reduceAdd]at HK ⊢;generalize S 8=t8 at *;subst h8;go_wp2;exact HK.out _ _ ⟨_,rfl,Strs.new1 x _ _,(Below.refl _ _).alloc (Nat.le_refl _) _⟩
   ·exact absurd a4 (by simp)
  intro S x a6 hF;have g0:S 0 = .slice j7 a1 j8:=hF 0 (by decide)
  have g1:S 1 = .pointer (some ⟨a5.heap.size,0,none⟩):=hF 1 (by decide)
  have g2:S 2 = .int .i64 a9:=hF 2 (by decide)
  have g3:S 3 = .string ⟨a2.toArray⟩:=hF 3 (by decide)
  have g4:S 4 = .pointer (some ⟨a5.heap.size,1,none⟩):=hF 4 (by decide)
  have g5:S 5 = .int .i64 b0:=hF 5 (by decide)
  have g6:S 6 = .string ⟨a3.toArray⟩:=hF 6 (by decide)
  have g7:Strs x (S 7) 2 (fun i=>[a2,a3].getD i []):=hF 7 (by decide)
  have g8:S 8 = .string ⟨(par (fun i=>[a2,a3].getD i []) 2).toArray⟩:=hF 8 (by decide)
  have g9:Strs x (S 9) 1 (fun _=>(par (fun i=>[a2,a3].getD i []) 2)):=hF 9 (by decide)
  clear hF;simp only[nm,Nat.reduceAdd,List.length_cons,List.length_nil,List.drop_succ_cons,List.drop_zero];generalize S 0=t0 at *;subst g0;generalize S 1=t1 at *;subst g1;generalize S 2=t2 at *;subst g2;generalize S 3=t3 at *;subst g3;generalize S 4=t4 at *;subst g4;generalize S 5=t5 at *;subst g5;generalize S 6=t6 at *;subst g6;generalize S 7=t7 at *;generalize S 8=t8 at *;subst g8;generalize S 9=t9 at *;obtain⟨m3,m1⟩:∃y:World,y=x:=⟨_,rfl⟩;subst m1;have m4:=hid (b3.out.trans (a6.mono b3.out.size));have m5:=hid (f3.out.below a6 f3.out.lt);have m6:=hid (b4.out.below a6 b4.out.lt);have k7:=hid (k6.out.below a6);obtain⟨b1,o1,c1,rfl,l3⟩:=Strs.one g9;go_wp2_with (at_builtin;refine uI m3 rfl _ _ rfl b5 a7 a1 _ rfl k7.out b1 o1 c1 rfl (par (fun i=>[a2,a3].getD i []) 2) l3 (b9.out.symm) (by omega) ?_)
  intro g2 m9 w4 f9;have k9:=hid f9;clear f9;go_wp2;go_roundw
  case rel=>exact⟨a1+1,by omega,by go_num,k9⟩
  case measure=>simp[intOf];omega
 obtain rfl:a1=a8:=by omega
 obtain⟨n3,_,_⟩:=b7.out.facts;go_wp2_with fail
 have key:=udo _ D [.int .i64 d3] b6 (k1.out.below b2.out) l5.out;rw[uo]at key;refine key.mono ?_;rintro e o3⟨rfl,j0⟩;have c6:=j0;have f1:=hid (b2.out.trans (c6.mono b2.out.size));have f4:=hid (b7.out.below c6 b7.out.lt);have f7:=hid (c2.out.below c6);clear c6 j0;go_wp2_with fail
 refine(ux _ _ a1 a7 (f7.out.strs) d7.out).mono ?_;rintro e e6⟨rfl,j1⟩;have c7:=j1;have f2:=hid (f1.out.trans (c7.mono f1.out.size));have f5:=hid (f4.out.below c7 f4.out.lt);have k8:=hid (f7.out.below c7);clear c7 j1;go_wp2_with fail
 refine(ux _ _ 2 _ (Strs.new e6 _ [b6,(par a7 a1)] _ rfl _ rfl (by decide)) (HL.out)).mono ?_
 rintro e o4⟨rfl,j2⟩;have c8:=((Below.refl e6.heap.size e6).alloc (Nat.le_refl _) (.cells #[.string ⟨b6.toArray⟩,.string ⟨(par a7 a1).toArray⟩] 9)).trans (j2.mono (by simp;try omega))
 have j9:=hid (f2.out.trans (c8.mono f2.out.size));have m7:=hid (f5.out.below c8 f5.out.lt);have m8:=hid (k8.out.below c8);clear c8 j2;go_wp2;go_ret
 exact⟨rfl,j9.out⟩
set_option maxHeartbeats 16000000 in
set_option maxRecDepth 100000 in
theorem uxh:ud8 60 (.list uX):=by
 intro w D v t c2 hl;obtain⟨zA,zk,zc,rfl⟩:=ua c2.ty;have d6:=hid c2;have HL:=hid hl;clear c2 hl;show Calls Tryz.prog 60 #[.slice zA zk zc] w _
 go_enter Tryz.func60,Tryz.ntmps60
 have c4:=hid (Below.refl w.heap.size w);obtain⟨f1,a1,e9,f9,e7,d2,d3⟩:=d6.out.unlist;subst e9;have d5:=hid d2;have d8:=hid d3;have f8:zk≤100000000:=Nat.le_trans (uN a1 zk) HL.out;unfold maxLen at e7;clear d2 d3;go_wp2;have c5:=hid (TI.start a1 (Below.refl w.heap.size w));go_loopw [3,8] (fun ov iv wr=>∃(k:Nat),k≤zk∧iv = .int .i64 k∧Hid (TI a1 w ov k wr)) (fun _ iv _=>zk-(intOf iv).toNat)
 case atStart=>exact⟨0,by omega,rfl,c5⟩
 obtain⟨a0,f7,rfl,a5⟩:=hrel;clear c5;obtain⟨a4,f0⟩:∃w:World,w=wr:=⟨_,rfl⟩;subst f0;obtain⟨g0,g1,rfl,_,_⟩:=a5.out.form;have c8:=a5.out.2;have a2:=hid (c4.out.trans (c8.mono c4.out.size));clear c8;by_cases b3:a0<zk
 ·obtain⟨b0,b6,e3,_,d1,c1⟩:=d5.out (by omega)
  subst e3;have b4:=d8.out a0 b3;obtain⟨g3,b5⟩:∃u,f1 a0=u:=⟨_,rfl⟩;rw[b5]at b4;have e8:Hid ((a1 a0).length≤MX):=Nat.le_trans (uc a1 b3) HL.out;have c3:Shape.sz uX=2:=uw;obtain⟨a6,a7,a9,a8,rfl⟩:=ua2 b4.ty;have d7:=hid b4;clear b4;have e4:a4.cell? ⟨b0,b6+a0*2,none⟩=some (.int .i64 a6):=by
   have h9:=(a2.out.cell (p:=⟨b0,b6+a0*Shape.sz uX+0,none⟩) d1).trans (c1 a0 b3 0 (.int .i64 a6) (by rw[b5];rfl))
   rw[c3]at h9;simpa using h9
  have e5:a4.cell? ⟨b0,b6+a0*2+1,none⟩=some (.slice a7 a9 a8):=by
   have h9:=(a2.out.cell (p:=⟨b0,b6+a0*Shape.sz uX+1,none⟩) d1).trans (c1 a0 b3 1 (.slice a7 a9 a8) (by rw[b5];rfl))
   rw[c3]at h9;simpa using h9
  clear c1 b5 c3;go_upto_region 5 with(fail)
  obtain⟨c6,b1⟩:∃W,W=a4.alloc (.cells #[.int .i64 a6,.slice a7 a9 a8] 148):=⟨_,rfl⟩;have b9:Below a4.heap.size a4 c6:=by rw[b1];exact(Below.refl _ _).alloc (Nat.le_refl _) _
  have b7:=hid (a2.out.trans (b9.mono a2.out.size));have d9:=hid (a5.out.below b9);have b8:Hid (Bk c6 a4.heap.size 148 #[.int .i64 a6,.slice a7 a9 a8]):=by rw[b1];exact Bk.new _ _ _
  rw[←b1];clear b1 b9;clear e4 e5;obtain⟨f6,_,_⟩:=b8.out.facts;go_wp2_with fail
  have key:=uwz _ D [.int .i64 a6,.slice a7 a9 a8] (a1 a0) (d7.out.below b7.out) e8.out;rw[ubg]at key;refine key.mono ?_;rintro e a3⟨rfl,c9⟩;have b2:=c9;have f2:=hid (b7.out.trans (b2.mono b7.out.size));have f3:=hid (b8.out.below b2 b8.out.lt);have e0:=hid (d9.out.below b2);clear b2 c9;have e6:(a3.alloc (.cells #[.string ⟨(a1 a0).toArray⟩] 9)).cell? ⟨a3.heap.size,0,none⟩=some (.string ⟨(a1 a0).toArray⟩):=by rw[World.cell?_alloc_at _ _ _ _ rfl];rfl
  have e1:=hid (e0.out.below ((Below.refl a3.heap.size a3).alloc (Nat.le_refl _) (.cells #[.string ⟨(a1 a0).toArray⟩] 9)));go_wp2_with (at_builtin;refine uI (a3.alloc (.cells #[.string ⟨(a1 a0).toArray⟩] 9)) rfl _ _ rfl w a1 a0 _ rfl e1.out a3.heap.size 0 1 rfl (a1 a0) e6 (rfl) (by omega) ?_)
  intro g2 f5 w4 c7;have e2:=hid c7;clear c7;go_wp2;go_roundw
  case rel=>exact⟨a0+1,by omega,by go_num,e2⟩
  case measure=>simp[intOf];omega
 obtain rfl:a0=zk:=by omega
 go_wp2_with fail
 refine(ux _ _ a0 a1 (a5.out.strs) HL.out).mono ?_;rintro e g4⟨rfl,d0⟩;have c0:=d0;have d4:=hid (a2.out.trans (c0.mono a2.out.size));have f4:=hid (a5.out.below c0);clear c0 d0;go_wp2;go_ret
 exact⟨rfl,d4.out⟩
set_option maxHeartbeats 16000000 in
set_option maxRecDepth 100000 in
theorem uum:ud8 65 (.list (.list .int)):=by
 intro w D v t b1 hl;obtain⟨zA,zk,zc,rfl⟩:=ua b1.ty;have d3:=hid b1;have HL:=hid hl;clear b1 hl;show Calls Tryz.prog 65 #[.slice zA zk zc] w _
 go_enter Tryz.func65,Tryz.ntmps65
 have b6:=hid (Below.refl w.heap.size w);obtain⟨e4,a1,e2,f2,e1,c5,c7⟩:=d3.out.unlist;subst e2;have d1:=hid c5;have d4:=hid c7;have f1:zk≤100000000:=Nat.le_trans (uN a1 zk) HL.out;unfold maxLen at e1;clear c5 c7;go_wp2;have b8:=hid (TI.start a1 (Below.refl w.heap.size w));go_loopw [3,8] (fun ov iv wr=>∃(k:Nat),k≤zk∧iv = .int .i64 k∧Hid (TI a1 w ov k wr)) (fun _ iv _=>zk-(intOf iv).toNat)
 case atStart=>exact⟨0,by omega,rfl,b8⟩
 obtain⟨a0,f0,rfl,a5⟩:=hrel;clear b8;obtain⟨e5,e3⟩:∃w:World,w=wr:=⟨_,rfl⟩;subst e3;obtain⟨f3,f4,rfl,_,_⟩:=a5.out.form;have c1:=a5.out.2;have a2:=hid (b6.out.trans (c1.mono b6.out.size));clear c1;by_cases b0:a0<zk
 ·obtain⟨b9,c9,d8,_,d9,c4⟩:=d1.out (by omega)
  subst d8;have a6:=d4.out a0 b0;obtain⟨f5,b2⟩:∃u,e4 a0=u:=⟨_,rfl⟩;rw[b2]at a6;have c6:Hid ((a1 a0).length≤MX):=Nat.le_trans (uc a1 b0) HL.out;have c8:Shape.sz (.list .int)=1:=rfl;obtain⟨b3,b5,b4,rfl⟩:=ua a6.ty;have b7:=hid a6;clear a6;obtain⟨a3,a7⟩:∃t,a1 a0=t:=⟨_,rfl⟩;rw[a7]at b7 c6;have d2:=hid a7;clear a7;have e9:e5.cell? ⟨b9,c9+a0,none⟩=some (.slice b3 b5 b4):=by
   have h9:=(a2.out.cell (p:=⟨b9,c9+a0*Shape.sz (.list .int)+0,none⟩) d9).trans (c4 a0 b0 0 (.slice b3 b5 b4) (by rw[b2];rfl))
   rw[c8]at h9;simpa using h9
  clear c4 b2 c8;go_wp2_with fail
  have key:=uuj _ D [.slice b3 b5 b4] a3 (b7.out.below a2.out) c6.out;rw[ue]at key;refine key.mono ?_;rintro e a4⟨rfl,c2⟩;have a8:=c2;have e6:=hid (a2.out.trans (a8.mono a2.out.size));have d5:=hid (a5.out.below a8);clear a8 c2;have e0:(a4.alloc (.cells #[.string ⟨a3.toArray⟩] 9)).cell? ⟨a4.heap.size,0,none⟩=some (.string ⟨a3.toArray⟩):=by rw[World.cell?_alloc_at _ _ _ _ rfl];rfl
  have d6:=hid (d5.out.below ((Below.refl a4.heap.size a4).alloc (Nat.le_refl _) (.cells #[.string ⟨a3.toArray⟩] 9)));go_wp2_with (at_builtin;refine uI (a4.alloc (.cells #[.string ⟨a3.toArray⟩] 9)) rfl _ _ rfl w a1 a0 _ rfl d6.out a4.heap.size 0 1 rfl a3 e0 (d2.out.symm) (by omega) ?_)
  intro g2 e8 w4 c0;have d7:=hid c0;clear c0;go_wp2;go_roundw
  case rel=>exact⟨a0+1,by omega,by go_num,d7⟩
  case measure=>simp[intOf];omega
 obtain rfl:a0=zk:=by omega
 go_wp2_with fail
 refine(ux _ _ a0 a1 (a5.out.strs) HL.out).mono ?_;rintro e f6⟨rfl,c3⟩;have a9:=c3;have d0:=hid (a2.out.trans (a9.mono a2.out.size));have e7:=hid (a5.out.below a9);clear a9 c3;go_wp2;go_ret
 exact⟨rfl,d0.out⟩
end Go.Proofs.YtellcholbkoakaaGreatDoor
