/-
  The reference's writer: what its lists and structs want.
-/
import Derived.Test.YtellcholbkoakaaGreatDoorHTa
import Derived.Test.YtellcholbkoakaaGreatDoorHCRa
import Derived.Test.YtellcholbkoakaaGreatDoorHRTa
import Derived.Test.YtellcholbkoakaaGreatDoorHRegion
namespace Go.Proofs.YtellcholbkoakaaGreatDoor
open Go.Lib (hid)
open Go.RowKit AC
set_option linter.unusedVariables false
set_option linter.unusedSimpArgs false
theorem info_str:(Tryz.prog.info? 9).map (fun i=>(i.size,i.bytes,i.zero.map fun z=>z.cells.size))=some (1,16,some 1):=by kernel_rfl
theorem nm:(∀(a:Act) (k:Nat) (s:Nat→Value),putAll a [] k s=a)∧(∀(a:Act) (t:Nat) (r:List Nat) (k:Nat) (s:Nat→Value),putAll a (t::r) k s=putAll (a.put (some t) (s k)) r (k+1) s) ∧
 (∀(l:List Value) (d) (i:Nat) (v:Value),Act.put ⟨l.toArray,d⟩ (some i) v=⟨(l.set i v).toArray,d⟩)∧(∀(x y:Value) (l:List Value) (i:Nat),(x::l).set (i+1) y=x::l.set i y)∧(∀(x y:Value) (l:List Value),(x::l).set 0 y=y::l) ∧
 (∀(x y:Nat) (l:List Nat),(x::l).getD 0 y=x)∧(∀(x y i:Nat) (l:List Nat),(x::l).getD (i+1) y=l.getD i y)∧(∀n:Nat,0+n=n):=
 ⟨fun _ _ _=>rfl,fun _ _ _ _ _=>rfl,fun l d i v=>by simp[Act.put],fun _ _ _ _=>rfl,fun _ _ _=>rfl,fun _ _ _=>rfl,fun _ _ _ _=>rfl,Nat.zero_add⟩
theorem len_eq{a b:List UInt8}{n:Nat}(h:a=b)(hl:a.length≤n):b.length≤n:=h▸hl
theorem Strs.one{w:World}{v:Value}{tx:Nat→List UInt8}(h:Strs w v 1 tx):∃b off c,v = .slice (some ⟨b,off,none⟩) 1 c∧w.cell? ⟨b,off,none⟩=some (.string ⟨(tx 0).toArray⟩):=by
 obtain⟨A,c,rfl,_,_,h⟩:=h;obtain⟨b,off,rfl,_,hc⟩:=h (by omega)
 exact⟨b,off,c,rfl,hc 0 (by omega)⟩
theorem Strs.new1(w:World)(T:TypeId)(t:List UInt8):Strs (w.alloc (.cells #[.string ⟨t.toArray⟩] T)) (.slice (some ⟨w.heap.size,0,none⟩) 1 1) 1 (fun _=>t):=
 (Strs.new w T [t] _ rfl 1 rfl (by decide)).congr fun i hi=>by
  have:i=0:=by omega
  subst this;rfl
theorem wpList_pushT (w2 : World) {ops : Array Oper} {rest : List Oper} {op : Oper} {a : Act} {Q : Exit → Act → World → Prop} (hgd : op.guard = none) (sl x : Operand)
    (ho : op.op = .call { callee := .builtin .append, args := #[sl, x], argTypes := #[126, 126] })
    (wb : World) (tx : Nat → List UInt8) (k : Nat) (lv : Value) (hs : a.eval sl = lv) (hTI : TI tx wb lv k w2) (b off c : Nat) (hx : a.eval x = .slice (some ⟨b, off, none⟩) 1 c) (t : List UInt8) (hcell : w2.cell? ⟨b, off, none⟩ = some (.string ⟨t.toArray⟩)) (ht : t = tx k) (hk : k ≤ 100000000)
    (h : ∀ g cap w3, TI tx wb (.slice (some ⟨g, 0, none⟩) (k + 1) cap) (k + 1) w3 → wpList Tryz.prog ops Q rest (a.put op.dst (.slice (some ⟨g, 0, none⟩) (k + 1) cap)) w3) :
    wpList Tryz.prog ops Q (op :: rest) a w2 := by
  obtain ⟨i, hi, hzz⟩ := Option.map_eq_some_iff.1 info_str
  simp only [Prod.mk.injEq] at hzz
  obtain ⟨hsize, hbytes, hzero⟩ := hzz
  obtain ⟨z, hz0, hzc⟩ := Option.map_eq_some_iff.1 hzero
  refine wpList_append_lies _ hgd sl x 126 ho wb.heap.size 9 i z 1 16 Tryz.underlying126 hi hz0 hsize hbytes hzc (by decide) lv k _ hs hTI.1 ⟨b, off, none⟩ 1 c [.string ⟨t.toArray⟩] hx (by simp) ?_ ?_ (by omega) (by unfold maxLen; omega) (by omega) hTI.2.size w2.heap.size rfl ?_
  · intro j u hu
    have hj : j = 0 := by
      have := (List.getElem?_eq_some_iff.1 hu).1
      simpa using this
    subst hj
    simp at hu
    subst hu
    rw [Addr.add_lit]
    exact hcell
  · intro u hu
    simp at hu
    subst hu
    rfl
  · intro g cap w3 h2 h3 h4 h5
    refine h g cap w3 ⟨?_, ?_⟩
    · have e : strRow tx (k + 1) = strRow tx k ++ [.string ⟨(tx k).toArray⟩] := rowOf_succ _ _
      rw [e, ← ht]
      exact h2
    · have hlv : ∀ x, lv.ownBlock = some x → wb.heap.size ≤ x := fun x hx => (hTI.1.lt x hx).1
      exact ⟨h3.os.trans hTI.2.os, h3.tape.trans hTI.2.tape, h3.output.trans hTI.2.output, Nat.le_trans hTI.2.size h3.size, fun i hi => (h3.block i (Nat.lt_of_lt_of_le hi hTI.2.size) fun e => by have := hlv i e.symm; omega).trans (hTI.2.block i hi)⟩

theorem t_dec:Texts 64 .int:=by
 intro w D v t hrep _;obtain⟨n,rfl,h1,h2,ht⟩:=hrep;injection ht with ht _;subst ht;exact decimal_any w n h1 h2
theorem t_flag:Texts 66 .bool:=by
 intro w D v t hrep _;obtain⟨b,rfl,ht⟩:=hrep;injection ht with ht _;subst ht;exact flag41_any w b
theorem t_fmt:Texts 135 .rat:=by
 intro w D v t hrep _;obtain⟨q,hq,ht⟩:=hrep;injection ht with ht _;subst ht;exact rFormat_any w 0 _ q hq.ratV
set_option maxHeartbeats 16000000 in
set_option maxRecDepth 100000 in
theorem t_ints:Texts 62 (.list .int):=by
 intro w D v t hrep hl;obtain⟨zA,zk,zc,rfl⟩:=ty_list hrep.ty;have HR0:=hid hrep;have HL:=hid hl;clear hrep hl;show Calls Tryz.prog 62 #[.slice zA zk zc] w _
 go_enter Tryz.func62,Tryz.ntmps62
 have a7:=hid (Below.refl w.heap.size w);obtain⟨us1,tx2,b8,d1,b9,a8,a9⟩:=HR0.out.unlist;subst b8;have c0:=hid a8;have c1:=hid a9;have d2:zk≤100000000:=Nat.le_trans (par_len_ge tx2 zk) HL.out;unfold maxLen at b9;clear a8 a9;go_wp2;have b0:=hid (TI.start tx2 (Below.refl w.heap.size w));go_loopw [3,8] (fun ov iv wr=>∃(k:Nat),k≤zk∧iv = .int .i64 k∧Hid (TI tx2 w ov k wr)) (fun _ iv _=>zk-(intOf iv).toNat)
 case atStart=>exact⟨0,by omega,rfl,b0⟩
 obtain⟨k12,d3,rfl,a1⟩:=hrel;clear b0;obtain⟨c2,hwr⟩:∃w:World,w=wr:=⟨_,rfl⟩;subst hwr;obtain⟨d4,d5,rfl,_,_⟩:=a1.out.form;have b1:=a1.out.2;have a0:=hid (a7.out.trans (b1.mono a7.out.size));clear b1;by_cases hlt:k12<zk
 ·obtain⟨b20,b2,hAx,_,c3,b3⟩:=c0.out (by omega)
  subst hAx;have a2:=c1.out k12 hlt;obtain⟨u24,a3⟩:∃u,us1 k12=u:=⟨_,rfl⟩;rw[a3]at a2;have c4:Hid ((tx2 k12).length≤MX):=Nat.le_trans (par_len_at tx2 hlt) HL.out;have b4:Shape.sz .int=1:=rfl;obtain⟨a4,rfl⟩:=ty_int a2.ty;have c5:=hid a2;clear a2;have d6:c2.cell? ⟨b20,b2+k12,none⟩=some (.int .i64 a4):=by
   have h9:=(a0.out.cell (p:=⟨b20,b2+k12*Shape.sz .int+0,none⟩) c3).trans (b3 k12 hlt 0 (.int .i64 a4) (by rw[a3];rfl))
   rw[b4]at h9;simpa using h9
  clear b3 a3 b4;go_wp2_with fail
  have key:=t_dec _ D [.int .i64 a4] (tx2 k12) (c5.out.below a0.out) c4.out;rw[val_int]at key;refine key.mono ?_;rintro e w31⟨rfl,b5⟩;have a5:=b5;have d7:=hid (a0.out.trans (a5.mono a0.out.size));have c6:=hid (a1.out.below a5);clear a5 b5;have c7:(w31.alloc (.cells #[.string ⟨(tx2 k12).toArray⟩] 9)).cell? ⟨w31.heap.size,0,none⟩=some (.string ⟨(tx2 k12).toArray⟩):=by rw[World.cell?_alloc_at _ _ _ _ rfl];rfl
  have c8:=hid (c6.out.below ((Below.refl w31.heap.size w31).alloc (Nat.le_refl _) (.cells #[.string ⟨(tx2 k12).toArray⟩] 9)));go_wp2_with (at_builtin;refine wpList_pushT (w31.alloc (.cells #[.string ⟨(tx2 k12).toArray⟩] 9)) rfl _ _ rfl w tx2 k12 _ rfl c8.out w31.heap.size 0 1 rfl (tx2 k12) c7 (rfl) (by omega) ?_)
  intro g2 d8 w4 b6;have c9:=hid b6;clear b6;go_wp2;go_roundw
  case rel=>exact⟨k12+1,by omega,by go_num,c9⟩
  case measure=>simp[intOf];omega
 obtain rfl:k12=zk:=by omega
 go_wp2_with fail
 refine(group_any _ _ k12 tx2 (a1.out.strs) HL.out).mono ?_;rintro e w37⟨rfl,b7⟩;have a6:=b7;have d0:=hid (a0.out.trans (a6.mono a0.out.size));have d9:=hid (a1.out.below a6);clear a6 b7;go_wp2;go_ret
 exact⟨rfl,d0.out⟩
set_option maxHeartbeats 16000000 in
set_option maxRecDepth 100000 in
theorem t_longs:Texts 67 (.list .int):=by
 intro w D v t hrep hl;obtain⟨zA,zk,zc,rfl⟩:=ty_list hrep.ty;have HR0:=hid hrep;have HL:=hid hl;clear hrep hl;show Calls Tryz.prog 67 #[.slice zA zk zc] w _
 go_enter Tryz.func67,Tryz.ntmps67
 have a8:=hid (Below.refl w.heap.size w);obtain⟨b9,a0,c0,d3,c1,a9,b0⟩:=HR0.out.unlist;subst c0;have c2:=hid a9;have c3:=hid b0;have d4:zk≤100000000:=Nat.le_trans (par_len_ge a0 zk) HL.out;unfold maxLen at c1;clear a9 b0;go_wp2;have b1:=hid (TI.start a0 (Below.refl w.heap.size w));go_loopw [3,8] (fun ov iv wr=>∃(k:Nat),k≤zk∧iv = .int .i64 k∧Hid (TI a0 w ov k wr)) (fun _ iv _=>zk-(intOf iv).toNat)
 case atStart=>exact⟨0,by omega,rfl,b1⟩
 obtain⟨k52,d5,rfl,a2⟩:=hrel;clear b1;obtain⟨c4,hwr⟩:∃w:World,w=wr:=⟨_,rfl⟩;subst hwr;obtain⟨d6,d7,rfl,_,_⟩:=a2.out.form;have b2:=a2.out.2;have a1:=hid (a8.out.trans (b2.mono a8.out.size));clear b2;by_cases hlt:k52<zk
 ·obtain⟨b60,b3,hAx,_,c5,b4⟩:=c2.out (by omega)
  subst hAx;have a3:=c3.out k52 hlt;obtain⟨u64,a4⟩:∃u,b9 k52=u:=⟨_,rfl⟩;rw[a4]at a3;have c6:Hid ((a0 k52).length≤MX):=Nat.le_trans (par_len_at a0 hlt) HL.out;have b5:Shape.sz .int=1:=rfl;obtain⟨a5,rfl⟩:=ty_int a3.ty;have c7:=hid a3;clear a3;have d8:c4.cell? ⟨b60,b3+k52,none⟩=some (.int .i64 a5):=by
   have h9:=(a1.out.cell (p:=⟨b60,b3+k52*Shape.sz .int+0,none⟩) c5).trans (b4 k52 hlt 0 (.int .i64 a5) (by rw[a4];rfl))
   rw[b5]at h9;simpa using h9
  clear b4 a4 b5;go_wp2_with fail
  have key:=t_dec _ D [.int .i64 a5] (a0 k52) (c7.out.below a1.out) c6.out;rw[val_int]at key;refine key.mono ?_;rintro e w71⟨rfl,b6⟩;have a6:=b6;have d9:=hid (a1.out.trans (a6.mono a1.out.size));have c8:=hid (a2.out.below a6);clear a6 b6;have c9:(w71.alloc (.cells #[.string ⟨(a0 k52).toArray⟩] 9)).cell? ⟨w71.heap.size,0,none⟩=some (.string ⟨(a0 k52).toArray⟩):=by rw[World.cell?_alloc_at _ _ _ _ rfl];rfl
  have d0:=hid (c8.out.below ((Below.refl w71.heap.size w71).alloc (Nat.le_refl _) (.cells #[.string ⟨(a0 k52).toArray⟩] 9)));go_wp2_with (at_builtin;refine wpList_pushT (w71.alloc (.cells #[.string ⟨(a0 k52).toArray⟩] 9)) rfl _ _ rfl w a0 k52 _ rfl d0.out w71.heap.size 0 1 rfl (a0 k52) c9 (rfl) (by omega) ?_)
  intro g2 e0 w4 b7;have d1:=hid b7;clear b7;go_wp2;go_roundw
  case rel=>exact⟨k52+1,by omega,by go_num,d1⟩
  case measure=>simp[intOf];omega
 obtain rfl:k52=zk:=by omega
 go_wp2_with fail
 refine(group_any _ _ k52 a0 (a2.out.strs) HL.out).mono ?_;rintro e w77⟨rfl,b8⟩;have a7:=b8;have d2:=hid (a1.out.trans (a7.mono a1.out.size));have e1:=hid (a2.out.below a7);clear a7 b8;go_wp2;go_ret
 exact⟨rfl,d2.out⟩
set_option maxHeartbeats 16000000 in
set_option maxRecDepth 100000 in
theorem t_rats:Texts 138 (.list .rat):=by
 intro w D v t hrep hl;obtain⟨zA,zk,zc,rfl⟩:=ty_list hrep.ty;have HR0:=hid hrep;have HL:=hid hl;clear hrep hl;show Calls Tryz.prog 138 #[.slice zA zk zc] w _
 go_enter Tryz.func138,Tryz.ntmps138
 have c5:=hid (Below.refl w.heap.size w);obtain⟨d4,a0,d5,f0,d6,c6,c7⟩:=HR0.out.unlist;subst d5;have d7:=hid c6;have d8:=hid c7;have f1:zk≤100000000:=Nat.le_trans (par_len_ge a0 zk) HL.out;unfold maxLen at d6;clear c6 c7;go_wp2;have c8:=hid (TI.start a0 (Below.refl w.heap.size w));go_loopw [3,8] (fun ov iv wr=>∃(k:Nat),k≤zk∧iv = .int .i64 k∧Hid (TI a0 w ov k wr)) (fun _ iv _=>zk-(intOf iv).toNat)
 case atStart=>exact⟨0,by omega,rfl,c8⟩
 obtain⟨k92,f2,rfl,a6⟩:=hrel;clear c8;obtain⟨a1,hwr⟩:∃w:World,w=wr:=⟨_,rfl⟩;subst hwr;obtain⟨f3,f4,rfl,_,_⟩:=a6.out.form;have c9:=a6.out.2;have a2:=hid (c5.out.trans (c9.mono c5.out.size));clear c9;by_cases hlt:k92<zk
 ·obtain⟨a3,a4,hAx,_,c0,b5⟩:=d7.out (by omega)
  subst hAx;have b6:=d8.out k92 hlt;obtain⟨f5,a7⟩:∃u,d4 k92=u:=⟨_,rfl⟩;rw[a7]at b6;have d9:Hid ((a0 k92).length≤MX):=Nat.le_trans (par_len_at a0 hlt) HL.out;have b7:Shape.sz .rat=3:=rfl;obtain⟨a8,a9,b0,b1,b2,b3,b4,rfl⟩:=ty_rat b6.ty;have e0:=hid b6;clear b6;have e1:a1.cell? ⟨a3,a4+k92*3,none⟩=some (.bool a8):=by
   have h9:=(a2.out.cell (p:=⟨a3,a4+k92*Shape.sz .rat+0,none⟩) c0).trans (b5 k92 hlt 0 (.bool a8) (by rw[a7];rfl))
   rw[b7]at h9;simpa using h9
  have e2:a1.cell? ⟨a3,a4+k92*3+1,none⟩=some (.slice a9 b0 b1):=by
   have h9:=(a2.out.cell (p:=⟨a3,a4+k92*Shape.sz .rat+1,none⟩) c0).trans (b5 k92 hlt 1 (.slice a9 b0 b1) (by rw[a7];rfl))
   rw[b7]at h9;simpa using h9
  have e3:a1.cell? ⟨a3,a4+k92*3+2,none⟩=some (.slice b2 b3 b4):=by
   have h9:=(a2.out.cell (p:=⟨a3,a4+k92*Shape.sz .rat+2,none⟩) c0).trans (b5 k92 hlt 2 (.slice b2 b3 b4) (by rw[a7];rfl))
   rw[b7]at h9;simpa using h9
  clear b5 a7 b7;go_upto_region 5 with(fail)
  obtain⟨d0,b8⟩:∃W,W=a1.alloc (.cells #[.bool a8,.slice a9 b0 b1,.slice b2 b3 b4] 76):=⟨_,rfl⟩;have c1:Below a1.heap.size a1 d0:=by rw[b8];exact(Below.refl _ _).alloc (Nat.le_refl _) _
  have c2:=hid (a2.out.trans (c1.mono a2.out.size));have e4:=hid (a6.out.below c1);have c3:Hid (Bk d0 a1.heap.size 76 #[.bool a8,.slice a9 b0 b1,.slice b2 b3 b4]):=by rw[b8];exact Bk.new _ _ _
  rw[←b8];clear b8 c1;clear e1 e2 e3;obtain⟨f6,_,_⟩:=c3.out.facts;go_wp2_with fail
  have key:=t_fmt _ D [.bool a8,.slice a9 b0 b1,.slice b2 b3 b4] (a0 k92) (e0.out.below c2.out) d9.out;rw[val_rat]at key;refine key.mono ?_;rintro e a5⟨rfl,d1⟩;have b9:=d1;have f7:=hid (c2.out.trans (b9.mono c2.out.size));have f8:=hid (c3.out.below b9 c3.out.lt);have e5:=hid (e4.out.below b9);clear b9 d1;have e6:(a5.alloc (.cells #[.string ⟨(a0 k92).toArray⟩] 9)).cell? ⟨a5.heap.size,0,none⟩=some (.string ⟨(a0 k92).toArray⟩):=by rw[World.cell?_alloc_at _ _ _ _ rfl];rfl
  have e7:=hid (e5.out.below ((Below.refl a5.heap.size a5).alloc (Nat.le_refl _) (.cells #[.string ⟨(a0 k92).toArray⟩] 9)));go_wp2_with (at_builtin;refine wpList_pushT (a5.alloc (.cells #[.string ⟨(a0 k92).toArray⟩] 9)) rfl _ _ rfl w a0 k92 _ rfl e7.out a5.heap.size 0 1 rfl (a0 k92) e6 (rfl) (by omega) ?_)
  intro g2 f9 w4 d2;have e8:=hid d2;clear d2;go_wp2;go_roundw
  case rel=>exact⟨k92+1,by omega,by go_num,e8⟩
  case measure=>simp[intOf];omega
 obtain rfl:k92=zk:=by omega
 go_wp2_with fail
 refine(group_any _ _ k92 a0 (a6.out.strs) HL.out).mono ?_;rintro e g0⟨rfl,d3⟩;have c4:=d3;have e9:=hid (a2.out.trans (c4.mono a2.out.size));have g1:=hid (a6.out.below c4);clear c4 d3;go_wp2;go_ret
 exact⟨rfl,e9.out⟩
set_option maxHeartbeats 16000000 in
set_option maxRecDepth 100000 in
theorem t_lin:Texts 134 linS:=by
 intro w D v t hrep hl;obtain⟨_,c9,l4,_,a9,_,rfl,rfl,d0,l5,_,d1,_,rfl,rfl,d2,rfl,rfl⟩:=hrep;injection c9 with c9 _;obtain⟨b5,rfl⟩:=ty_int d0.ty;obtain⟨d3,a4,d4,rfl⟩:=ty_list d2.ty;subst c9;have HL:=hid hl;clear hl;have j4:Hid (a9.length≤MX):=Nat.le_trans (par_len_at (fun i=>[a9,d1].getD i []) (i:=0) (k:=2) (by decide)) (HL.out)
 have j5:=hid d0;clear d0;have d5:Hid (d1.length≤MX):=Nat.le_trans (par_len_at (fun i=>[a9,d1].getD i []) (i:=1) (k:=2) (by decide)) (HL.out)
 have j6:=hid d2;clear d2;show Calls Tryz.prog 134 #[.agg #[.int .i64 b5,.slice d3 a4 d4]] w _
 go_enter Tryz.func134,Tryz.ntmps134
 have e4:=hid (Below.refl w.heap.size w);go_upto_region 1 with(fail)
 obtain⟨b0,b6⟩:∃W,W=w.alloc (.cells #[.int .i64 b5,.slice d3 a4 d4] 148):=⟨_,rfl⟩;have e5:Below w.heap.size w b0:=by rw[b6];exact(Below.refl _ _).alloc (Nat.le_refl _) _
 have e6:=hid (e4.out.trans (e5.mono e4.out.size));have d6:Hid (Bk b0 w.heap.size 148 #[.int .i64 b5,.slice d3 a4 d4]):=by rw[b6];exact Bk.new _ _ _
 rw[←b6];clear b6 e5;obtain⟨l6,_,_⟩:=d6.out.facts;obtain⟨j7,a5,j8,l7,j9,e7,e8⟩:=j6.out.unlist;subst j8;have k0:=hid e7;have k1:=hid e8;have l8:a4≤100000000:=Nat.le_trans (par_len_ge a5 a4) d5.out;unfold maxLen at j9;clear e7 e8;go_wp2;have e9:=hid (TI.start a5 (Below.refl b0.heap.size b0));go_loopw [3,9] (fun ov iv wr=>∃(k:Nat),k≤a4∧iv = .int .i64 k∧Hid (TI a5 b0 ov k wr)) (fun _ iv _=>a4-(intOf iv).toNat)
 case atStart=>exact⟨0,by omega,rfl,e9⟩
 obtain⟨a0,l9,rfl,b7⟩:=hrel;clear e9;obtain⟨a3,hwr⟩:∃w:World,w=wr:=⟨_,rfl⟩;subst hwr;obtain⟨f0,f1,rfl,_,_⟩:=b7.out.form;have d7:=b7.out.2;have a8:=hid (e6.out.trans (d7.mono e6.out.size));have b4:=hid (d6.out.below d7 d6.out.lt);clear d7;by_cases hlt:a0<a4
 ·obtain⟨b8,b9,hAx,_,f2,d8⟩:=k0.out (by omega)
  subst hAx;have f3:=k1.out a0 hlt;obtain⟨m0,c0⟩:∃u,j7 a0=u:=⟨_,rfl⟩;rw[c0]at f3;have d9:Hid ((a5 a0).length≤MX):=Nat.le_trans (par_len_at a5 hlt) d5.out;have e0:Shape.sz linTermS=2:=sz_linTerm;obtain⟨_,c2,m1,_,a1,_,rfl,rfl,e1,m2,_,a2,_,rfl,rfl,e2,rfl,rfl⟩:=f3;injection c2 with c2 _;obtain⟨a6,rfl⟩:=ty_int e1.ty;obtain⟨a7,rfl⟩:=ty_int e2.ty;have c3:=hid c2;have k2:Hid (a1.length≤MX):=Nat.le_trans (par_len_at (fun i=>[a1,a2].getD i []) (i:=0) (k:=2) (by decide)) (len_eq c3.out d9.out)
  have k3:=hid e1;clear e1;have k4:Hid (a2.length≤MX):=Nat.le_trans (par_len_at (fun i=>[a1,a2].getD i []) (i:=1) (k:=2) (by decide)) (len_eq c3.out d9.out)
  have k5:=hid e2;clear e2;clear c2;have k6:a3.cell? ⟨b8,b9+a0*2,none⟩=some (.int .i64 a6):=by
   have h9:=(a8.out.cell (p:=⟨b8,b9+a0*Shape.sz linTermS+0,none⟩) f2).trans (d8 a0 hlt 0 (.int .i64 a6) (by rw[c0];rfl))
   rw[e0]at h9;simpa using h9
  have k7:a3.cell? ⟨b8,b9+a0*2+1,none⟩=some (.int .i64 a7):=by
   have h9:=(a8.out.cell (p:=⟨b8,b9+a0*Shape.sz linTermS+1,none⟩) f2).trans (d8 a0 hlt 1 (.int .i64 a7) (by rw[c0];rfl))
   rw[e0]at h9;simpa using h9
  clear d8 c0 e0;go_upto_region 5 with(fail)
  obtain⟨f4,c4⟩:∃W,W=a3.alloc (.cells #[.int .i64 a6,.int .i64 a7] 219):=⟨_,rfl⟩;have c5:Below a3.heap.size a3 f4:=by rw[c4];exact(Below.refl _ _).alloc (Nat.le_refl _) _
  have b2:=hid (a8.out.trans (c5.mono a8.out.size));have f5:=hid (b4.out.below c5 b4.out.lt);have k8:=hid (b7.out.below c5);have b3:Hid (Bk f4 a3.heap.size 219 #[.int .i64 a6,.int .i64 a7]):=by rw[c4];exact Bk.new _ _ _
  rw[←c4];clear c4 c5;clear k6 k7;go_upto_region 5 with(fail)
  refine wp_region_facts (by kernel_rfl) (by kernel_rfl) [13,14,15,16,17,18,19,20,21,22] 40 (by kernel_rfl) (fun io v x=>match io with
   | 0=>v = .slice f0 a0 f1
   | 1=>v = .pointer (some ⟨a3.heap.size,0,none⟩)
   | 2=>v = .int .i64 a6
   | 3=>v = .string ⟨a1.toArray⟩
   | 4=>v = .pointer (some ⟨a3.heap.size,1,none⟩)
   | 5=>v = .int .i64 a7
   | 6=>v = .string ⟨a2.toArray⟩
   | 7=>Strs x v 2 (fun i=>[a1,a2].getD i [])
   | 8=>v = .string ⟨(par (fun i=>[a1,a2].getD i []) 2).toArray⟩
   | _=>Strs x v 1 (fun _=>(par (fun i=>[a1,a2].getD i []) 2))) ?_ ?_ ?_
  ·intro io v x x' hio h hb
   rcases io with _|_|_|_|_|_|_|_|_|io
   ·exact h
   ·exact h
   ·exact h
   ·exact h
   ·exact h
   ·exact h
   ·exact h
   ·exact Strs.below h hb
   ·exact h
   ·exact Strs.below h hb
  ·intro io oo S x ho hio hbx hdep
   rcases io with _|_|_|_|_|_|_|_|_|_|io
   ·cases ho
    refine opOk_h rfl rfl fun KK HK=>?_
    clear hdep hio;simp only[nm,Nat.reduceAdd]at HK ⊢;go_wp2;exact HK.out _ _ ⟨_,rfl,rfl,Below.refl _ _⟩
   ·cases ho
    refine opOk_h rfl rfl fun KK HK=>?_
    clear hdep hio;simp only[nm,Nat.reduceAdd]at HK ⊢;go_wp2;exact HK.out _ _ ⟨_,rfl,rfl,Below.refl _ _⟩
   ·cases ho
    have h1:S 1 = .pointer (some ⟨a3.heap.size,0,none⟩):=hdep 1 (by kernel_rfl) (by decide)
    obtain⟨m3,_,_⟩:=(b3.out.below hbx b3.out.lt).facts;refine opOk_h rfl rfl fun KK HK=>?_
    clear hdep hio;simp only[nm,Nat.reduceAdd]at HK ⊢;generalize S 1=t1 at *;subst h1;go_wp2;exact HK.out _ _ ⟨_,rfl,rfl,Below.refl _ _⟩
   ·cases ho
    have h2:S 2 = .int .i64 a6:=hdep 2 (by kernel_rfl) (by decide)
    refine opOk_h rfl rfl fun KK HK=>?_
    clear hdep hio;simp only[nm,Nat.reduceAdd]at HK ⊢;generalize S 2=t2 at *;subst h2;go_wp2_with fail
    have key:=t_dec x D [.int .i64 a6] a1 (k3.out.below (b2.out.trans (hbx.mono b2.out.size))) k2.out;rw[val_int]at key;refine(key).mono ?_;rintro e xN⟨rfl,hbN⟩;exact HK.out _ _ ⟨_,rfl,rfl,hbN⟩
   ·cases ho
    refine opOk_h rfl rfl fun KK HK=>?_
    clear hdep hio;simp only[nm,Nat.reduceAdd]at HK ⊢;go_wp2;exact HK.out _ _ ⟨_,rfl,rfl,Below.refl _ _⟩
   ·cases ho
    have h4:S 4 = .pointer (some ⟨a3.heap.size,1,none⟩):=hdep 4 (by kernel_rfl) (by decide)
    obtain⟨m4,_,_⟩:=(b3.out.below hbx b3.out.lt).facts;refine opOk_h rfl rfl fun KK HK=>?_
    clear hdep hio;simp only[nm,Nat.reduceAdd]at HK ⊢;generalize S 4=t4 at *;subst h4;go_wp2;exact HK.out _ _ ⟨_,rfl,rfl,Below.refl _ _⟩
   ·cases ho
    have h5:S 5 = .int .i64 a7:=hdep 5 (by kernel_rfl) (by decide)
    refine opOk_h rfl rfl fun KK HK=>?_
    clear hdep hio;simp only[nm,Nat.reduceAdd]at HK ⊢;generalize S 5=t5 at *;subst h5;go_wp2_with fail
    have key:=t_dec x D [.int .i64 a7] a2 (k5.out.below (b2.out.trans (hbx.mono b2.out.size))) k4.out;rw[val_int]at key;refine(key).mono ?_;rintro e xN⟨rfl,hbN⟩;exact HK.out _ _ ⟨_,rfl,rfl,hbN⟩
   ·cases ho
    have h3:S 3 = .string ⟨a1.toArray⟩:=hdep 3 (by kernel_rfl) (by decide)
    have h6:S 6 = .string ⟨a2.toArray⟩:=hdep 6 (by kernel_rfl) (by decide)
    refine opOk_h rfl rfl fun KK HK=>?_
    clear hdep hio;simp only[nm,Nat.reduceAdd]at HK ⊢;generalize S 3=t3 at *;subst h3;generalize S 6=t6 at *;subst h6;go_wp2;exact HK.out _ _ ⟨_,rfl,Strs.new x _ [a1,a2] _ rfl _ rfl (by decide),(Below.refl _ _).alloc (Nat.le_refl _) _⟩
   ·cases ho
    have h7:Strs x (S 7) 2 (fun i=>[a1,a2].getD i []):=hdep 7 (by kernel_rfl) (by decide)
    refine opOk_h rfl rfl fun KK HK=>?_
    clear hdep hio;simp only[nm,Nat.reduceAdd]at HK ⊢;go_wp2_with fail
    refine(group_any _ _ 2 _ h7 (len_eq c3.out d9.out)).mono ?_;rintro e xN⟨rfl,hbN⟩;exact HK.out _ _ ⟨_,rfl,rfl,hbN⟩
   ·cases ho
    have h8:S 8 = .string ⟨(par (fun i=>[a1,a2].getD i []) 2).toArray⟩:=hdep 8 (by kernel_rfl) (by decide)
    refine opOk_h rfl rfl fun KK HK=>?_
    clear hdep hio;simp only[nm,Nat.reduceAdd]at HK ⊢;generalize S 8=t8 at *;subst h8;go_wp2;exact HK.out _ _ ⟨_,rfl,Strs.new1 x _ _,(Below.refl _ _).alloc (Nat.le_refl _) _⟩
   ·exact absurd hio (by simp)
  intro S x hbx hF;have g0:S 0 = .slice f0 a0 f1:=hF 0 (by decide)
  have g1:S 1 = .pointer (some ⟨a3.heap.size,0,none⟩):=hF 1 (by decide)
  have g2:S 2 = .int .i64 a6:=hF 2 (by decide)
  have g3:S 3 = .string ⟨a1.toArray⟩:=hF 3 (by decide)
  have g4:S 4 = .pointer (some ⟨a3.heap.size,1,none⟩):=hF 4 (by decide)
  have g5:S 5 = .int .i64 a7:=hF 5 (by decide)
  have g6:S 6 = .string ⟨a2.toArray⟩:=hF 6 (by decide)
  have g7:Strs x (S 7) 2 (fun i=>[a1,a2].getD i []):=hF 7 (by decide)
  have g8:S 8 = .string ⟨(par (fun i=>[a1,a2].getD i []) 2).toArray⟩:=hF 8 (by decide)
  have g9:Strs x (S 9) 1 (fun _=>(par (fun i=>[a1,a2].getD i []) 2)):=hF 9 (by decide)
  clear hF;simp only[nm,Nat.reduceAdd,List.length_cons,List.length_nil,List.drop_succ_cons,List.drop_zero];generalize S 0=t0 at *;subst g0;generalize S 1=t1 at *;subst g1;generalize S 2=t2 at *;subst g2;generalize S 3=t3 at *;subst g3;generalize S 4=t4 at *;subst g4;generalize S 5=t5 at *;subst g5;generalize S 6=t6 at *;subst g6;generalize S 7=t7 at *;generalize S 8=t8 at *;subst g8;generalize S 9=t9 at *;obtain⟨k9,hxn⟩:∃y:World,y=x:=⟨_,rfl⟩;subst hxn;have m5:=hid (b2.out.trans (hbx.mono b2.out.size));have m6:=hid (f5.out.below hbx f5.out.lt);have m7:=hid (b3.out.below hbx b3.out.lt);have l0:=hid (k8.out.below hbx);obtain⟨b1,o1,c1,rfl,hce⟩:=Strs.one g9;go_wp2_with (at_builtin;refine wpList_pushT k9 rfl _ _ rfl b0 a5 a0 _ rfl l0.out b1 o1 c1 rfl (par (fun i=>[a1,a2].getD i []) 2) hce (c3.out.symm) (by omega) ?_)
  intro g2 m8 w4 f6;have l1:=hid f6;clear f6;go_wp2;go_roundw
  case rel=>exact⟨a0+1,by omega,by go_num,l1⟩
  case measure=>simp[intOf];omega
 obtain rfl:a0=a4:=by omega
 obtain⟨m9,_,_⟩:=b4.out.facts;go_wp2_with fail
 have key:=t_dec _ D [.int .i64 b5] a9 (j5.out.below a8.out) j4.out;rw[val_int]at key;refine key.mono ?_;rintro e n0⟨rfl,f7⟩;have c6:=f7;have f8:=hid (a8.out.trans (c6.mono a8.out.size));have f9:=hid (b4.out.below c6 b4.out.lt);have h0:=hid (b7.out.below c6);clear c6 f7;go_wp2_with fail
 refine(group_any _ _ a0 a5 (h0.out.strs) d5.out).mono ?_;rintro e e3⟨rfl,j0⟩;have c7:=j0;have j1:=hid (f8.out.trans (c7.mono f8.out.size));have j2:=hid (f9.out.below c7 f9.out.lt);have l2:=hid (h0.out.below c7);clear c7 j0;go_wp2_with fail
 refine(group_any _ _ 2 _ (Strs.new e3 _ [a9,(par a5 a0)] _ rfl _ rfl (by decide)) (HL.out)).mono ?_
 rintro e n1⟨rfl,j3⟩;have c8:=((Below.refl e3.heap.size e3).alloc (Nat.le_refl _) (.cells #[.string ⟨a9.toArray⟩,.string ⟨(par a5 a0).toArray⟩] 9)).trans (j3.mono (by simp;try omega))
 have l3:=hid (j1.out.trans (c8.mono j1.out.size));have n2:=hid (j2.out.below c8 j2.out.lt);have n3:=hid (l2.out.below c8);clear c8 j3;go_wp2;go_ret
 exact⟨rfl,l3.out⟩
set_option maxHeartbeats 16000000 in
set_option maxRecDepth 100000 in
theorem t_lins:Texts 60 (.list linS):=by
 intro w D v t hrep hl;obtain⟨zA,zk,zc,rfl⟩:=ty_list hrep.ty;have HR0:=hid hrep;have HL:=hid hl;clear hrep hl;show Calls Tryz.prog 60 #[.slice zA zk zc] w _
 go_enter Tryz.func60,Tryz.ntmps60
 have c2:=hid (Below.refl w.heap.size w);obtain⟨d2,a1,d3,e7,d4,c3,c4⟩:=HR0.out.unlist;subst d3;have d5:=hid c3;have d6:=hid c4;have e8:zk≤100000000:=Nat.le_trans (par_len_ge a1 zk) HL.out;unfold maxLen at d4;clear c3 c4;go_wp2;have c5:=hid (TI.start a1 (Below.refl w.heap.size w));go_loopw [3,8] (fun ov iv wr=>∃(k:Nat),k≤zk∧iv = .int .i64 k∧Hid (TI a1 w ov k wr)) (fun _ iv _=>zk-(intOf iv).toNat)
 case atStart=>exact⟨0,by omega,rfl,c5⟩
 obtain⟨a0,e9,rfl,a5⟩:=hrel;clear c5;obtain⟨a2,hwr⟩:∃w:World,w=wr:=⟨_,rfl⟩;subst hwr;obtain⟨f0,f1,rfl,_,_⟩:=a5.out.form;have c6:=a5.out.2;have a3:=hid (c2.out.trans (c6.mono c2.out.size));clear c6;by_cases hlt:a0<zk
 ·obtain⟨b0,b1,hAx,_,c7,b6⟩:=d5.out (by omega)
  subst hAx;have b2:=d6.out a0 hlt;obtain⟨f2,b3⟩:∃u,d2 a0=u:=⟨_,rfl⟩;rw[b3]at b2;have d7:Hid ((a1 a0).length≤MX):=Nat.le_trans (par_len_at a1 hlt) HL.out;have b7:Shape.sz linS=2:=sz_lin;obtain⟨a6,a7,a8,a9,rfl⟩:=ty_lin b2.ty;have d8:=hid b2;clear b2;have d9:a2.cell? ⟨b0,b1+a0*2,none⟩=some (.int .i64 a6):=by
   have h9:=(a3.out.cell (p:=⟨b0,b1+a0*Shape.sz linS+0,none⟩) c7).trans (b6 a0 hlt 0 (.int .i64 a6) (by rw[b3];rfl))
   rw[b7]at h9;simpa using h9
  have e0:a2.cell? ⟨b0,b1+a0*2+1,none⟩=some (.slice a7 a8 a9):=by
   have h9:=(a3.out.cell (p:=⟨b0,b1+a0*Shape.sz linS+1,none⟩) c7).trans (b6 a0 hlt 1 (.slice a7 a8 a9) (by rw[b3];rfl))
   rw[b7]at h9;simpa using h9
  clear b6 b3 b7;go_upto_region 5 with(fail)
  obtain⟨c8,b4⟩:∃W,W=a2.alloc (.cells #[.int .i64 a6,.slice a7 a8 a9] 148):=⟨_,rfl⟩;have b8:Below a2.heap.size a2 c8:=by rw[b4];exact(Below.refl _ _).alloc (Nat.le_refl _) _
  have b9:=hid (a3.out.trans (b8.mono a3.out.size));have e1:=hid (a5.out.below b8);have c0:Hid (Bk c8 a2.heap.size 148 #[.int .i64 a6,.slice a7 a8 a9]):=by rw[b4];exact Bk.new _ _ _
  rw[←b4];clear b4 b8;clear d9 e0;obtain⟨f3,_,_⟩:=c0.out.facts;go_wp2_with fail
  have key:=t_lin _ D [.int .i64 a6,.slice a7 a8 a9] (a1 a0) (d8.out.below b9.out) d7.out;rw[val_lin]at key;refine key.mono ?_;rintro e a4⟨rfl,c9⟩;have b5:=c9;have f4:=hid (b9.out.trans (b5.mono b9.out.size));have f5:=hid (c0.out.below b5 c0.out.lt);have e2:=hid (e1.out.below b5);clear b5 c9;have e3:(a4.alloc (.cells #[.string ⟨(a1 a0).toArray⟩] 9)).cell? ⟨a4.heap.size,0,none⟩=some (.string ⟨(a1 a0).toArray⟩):=by rw[World.cell?_alloc_at _ _ _ _ rfl];rfl
  have e4:=hid (e2.out.below ((Below.refl a4.heap.size a4).alloc (Nat.le_refl _) (.cells #[.string ⟨(a1 a0).toArray⟩] 9)));go_wp2_with (at_builtin;refine wpList_pushT (a4.alloc (.cells #[.string ⟨(a1 a0).toArray⟩] 9)) rfl _ _ rfl w a1 a0 _ rfl e4.out a4.heap.size 0 1 rfl (a1 a0) e3 (rfl) (by omega) ?_)
  intro g2 f6 w4 d0;have e5:=hid d0;clear d0;go_wp2;go_roundw
  case rel=>exact⟨a0+1,by omega,by go_num,e5⟩
  case measure=>simp[intOf];omega
 obtain rfl:a0=zk:=by omega
 go_wp2_with fail
 refine(group_any _ _ a0 a1 (a5.out.strs) HL.out).mono ?_;rintro e f7⟨rfl,d1⟩;have c1:=d1;have e6:=hid (a3.out.trans (c1.mono a3.out.size));have f8:=hid (a5.out.below c1);clear c1 d1;go_wp2;go_ret
 exact⟨rfl,e6.out⟩
set_option maxHeartbeats 16000000 in
set_option maxRecDepth 100000 in
theorem t_lists:Texts 65 (.list (.list .int)):=by
 intro w D v t hrep hl;obtain⟨zA,zk,zc,rfl⟩:=ty_list hrep.ty;have HR0:=hid hrep;have HL:=hid hl;clear hrep hl;show Calls Tryz.prog 65 #[.slice zA zk zc] w _
 go_enter Tryz.func65,Tryz.ntmps65
 have b4:=hid (Below.refl w.heap.size w);obtain⟨c8,a1,c9,e1,d0,b5,b6⟩:=HR0.out.unlist;subst c9;have d1:=hid b5;have d2:=hid b6;have e2:zk≤100000000:=Nat.le_trans (par_len_ge a1 zk) HL.out;unfold maxLen at d0;clear b5 b6;go_wp2;have b7:=hid (TI.start a1 (Below.refl w.heap.size w));go_loopw [3,8] (fun ov iv wr=>∃(k:Nat),k≤zk∧iv = .int .i64 k∧Hid (TI a1 w ov k wr)) (fun _ iv _=>zk-(intOf iv).toNat)
 case atStart=>exact⟨0,by omega,rfl,b7⟩
 obtain⟨a0,e3,rfl,a5⟩:=hrel;clear b7;obtain⟨d3,hwr⟩:∃w:World,w=wr:=⟨_,rfl⟩;subst hwr;obtain⟨e4,e5,rfl,_,_⟩:=a5.out.form;have b8:=a5.out.2;have a2:=hid (b4.out.trans (b8.mono b4.out.size));clear b8;by_cases hlt:a0<zk
 ·obtain⟨b9,c0,hAx,_,d4,c1⟩:=d1.out (by omega)
  subst hAx;have a6:=d2.out a0 hlt;obtain⟨e6,a7⟩:∃u,c8 a0=u:=⟨_,rfl⟩;rw[a7]at a6;have c2:Hid ((a1 a0).length≤MX):=Nat.le_trans (par_len_at a1 hlt) HL.out;have c3:Shape.sz (.list .int)=1:=rfl;obtain⟨a8,a9,b0,rfl⟩:=ty_list a6.ty;have c4:=hid a6;clear a6;obtain⟨a3,b1⟩:∃t,a1 a0=t:=⟨_,rfl⟩;rw[b1]at c4 c2;have d5:=hid b1;clear b1;have e7:d3.cell? ⟨b9,c0+a0,none⟩=some (.slice a8 a9 b0):=by
   have h9:=(a2.out.cell (p:=⟨b9,c0+a0*Shape.sz (.list .int)+0,none⟩) d4).trans (c1 a0 hlt 0 (.slice a8 a9 b0) (by rw[a7];rfl))
   rw[c3]at h9;simpa using h9
  clear c1 a7 c3;go_wp2_with fail
  have key:=t_ints _ D [.slice a8 a9 b0] a3 (c4.out.below a2.out) c2.out;rw[val_list]at key;refine key.mono ?_;rintro e a4⟨rfl,c5⟩;have b2:=c5;have e8:=hid (a2.out.trans (b2.mono a2.out.size));have d6:=hid (a5.out.below b2);clear b2 c5;have d7:(a4.alloc (.cells #[.string ⟨a3.toArray⟩] 9)).cell? ⟨a4.heap.size,0,none⟩=some (.string ⟨a3.toArray⟩):=by rw[World.cell?_alloc_at _ _ _ _ rfl];rfl
  have d8:=hid (d6.out.below ((Below.refl a4.heap.size a4).alloc (Nat.le_refl _) (.cells #[.string ⟨a3.toArray⟩] 9)));go_wp2_with (at_builtin;refine wpList_pushT (a4.alloc (.cells #[.string ⟨a3.toArray⟩] 9)) rfl _ _ rfl w a1 a0 _ rfl d8.out a4.heap.size 0 1 rfl a3 d7 (d5.out.symm) (by omega) ?_)
  intro g2 e9 w4 c6;have d9:=hid c6;clear c6;go_wp2;go_roundw
  case rel=>exact⟨a0+1,by omega,by go_num,d9⟩
  case measure=>simp[intOf];omega
 obtain rfl:a0=zk:=by omega
 go_wp2_with fail
 refine(group_any _ _ a0 a1 (a5.out.strs) HL.out).mono ?_;rintro e f0⟨rfl,c7⟩;have b3:=c7;have e0:=hid (a2.out.trans (b3.mono a2.out.size));have f1:=hid (a5.out.below b3);clear b3 c7;go_wp2;go_ret
 exact⟨rfl,e0.out⟩
end Go.Proofs.YtellcholbkoakaaGreatDoor
