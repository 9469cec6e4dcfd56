/-
 The writer: lists of values of one cell (printed by gen_codec.py).
-/
import Derived.Test.YtellcholbkoakaaGreatDoorHCWa
import Derived.Test.YtellcholbkoakaaGreatDoorHCE1
import Derived.Deep.MidRow
import Derived.Great.Walk
import Derived.Deep.WholeRow
namespace Go.Proofs.YtellcholbkoakaaGreatDoor
open Go.Lib (hid)
open Go.RowKit AC
set_option linter.unusedVariables false
set_option linter.unusedSimpArgs false
set_option maxHeartbeats 2000000 in
set_option maxRecDepth 100000 in
theorem uwg(g:FuncId)(fi ca:Array Value)(w:World)(bw:Nat)(o:Option (List UInt8))(A:Option Addr)(m c:Nat)(t:List UInt8)(h:Wst w bw o)(c6:Rep w (· < bw) (.list .int) [.slice A m c] [t])(a3:ElW g fi ca .int bw w) :
 Calls Tryz.prog 223 #[.pointer (some ⟨bw,0,none⟩),.slice A m c,.func (.func g) fi ca] w (ul4 bw w (put o t)):=by
 obtain⟨he,a3⟩:=a3;unfold Enters at he;obtain⟨A',m',c',us,tx,hl,d1,c3,ht,b0,b5⟩:=c6;injection hl with hl _;injection hl with hl1 hl2 hl3;subst hl1;subst hl2;subst hl3;injection ht with ht _;subst ht;have c8:=h.lt;have a1:Shape.sz .int=1:=rfl;unfold maxLen at c3;have HW:=hid h;have HE:=hid a3;have b8:=hid b0;have c0:=hid b5;have c1:=hid a1;clear h a3 b0 b5 a1;go_enter Tryz.func223,Tryz.ntmps223
 go_wp2_with fail
 refine(uaf _ bw o ⟨#[40]⟩ HW.out (by decide)).mono ?_
 rintro e w1⟨rfl,b4,b1⟩;have I0:=hid (LInv.start (tx:=tx) b4 b1);clear b4 b1;go_wp2;go_loopw [12] (fun iv wr=>∃(k:Nat),k≤m∧iv = .int .i64 k∧Hid (LInv o tx bw w k wr)) (fun iv _=>m-(intOf iv).toNat)
 case atStart=>exact⟨0,by omega,rfl,I0⟩
 case round=>
  obtain⟨k,hk,rfl,hI⟩:=hrel;clear I0;have c9:bw<wr.heap.size:=by have:=hI.out.2.1.size;omega
  by_cases b3:k<m
  ·obtain⟨b,b7,hA,hD,c7,a9⟩:=b8.out (by omega)
   subst hA;have a4:=c0.out k b3;obtain⟨zn,a7⟩:=ug a4.ty;have a1:=c1.out;have e0:wr.cell? ⟨b,b7+k,none⟩=some (.int .i64 zn):=by
    have h9:=(hI.out.2.1.cell (p:=⟨b,b7+k*Shape.sz .int+0,none⟩) hD).trans (a9 k b3 0 (.int .i64 zn) (by rw[a7];rfl))
    rw[a1]at h9;simpa using h9
   have c2:=hI.out.1.cell;rw[a7]at a4;have a8:=hid (a4.wfr hI.out.2);clear a7 a4 a9 a1;cases hf:listed o tx k with
   | none=>
    rw[hf]at c2;have HF:=hid hf;clear hf;go_wp2;go_end0
    exact hI.out.full (n:=m) (by omega) HF.out (Wfr.refl bw wr) (by have:=hI.out.1;rw[HF.out]at this;exact this)
   | some l=>
    rw[hf]at c2;have HF:=hid hf;clear hf;by_cases c4:k=0
    ·subst c4
     simp only[Nat.zero_mul,Nat.add_zero]at e0;have key:=HE.out wr (listed o tx 0) [.int .i64 zn] (tx 0) (hI.out.2.trans (Wfr.refl bw wr)) hI.out.1 a8.out;rw[uo]at key;have a6:=hid key;clear key;go_wp2_with fail
     refine(show Calls Tryz.prog g (fi ++ #[.int .i64 zn]++ca) _ _ from a6.out).mono ?_
     rintro e w2⟨rfl,a2,a0⟩;have a5:=hid (hI.out.first ((Wfr.refl bw wr).trans a0) a2);clear a2 a0;go_wp2;go_roundw
     case rel=>exact⟨1,by omega,by go_num,a5⟩
     case measure=>simp[intOf];omega
    ·have d0:decide (0<(k:Int))=true:=by simp;omega
     go_wp2_with fail
     refine(uaf _ bw (listed o tx k) ⟨#[32]⟩ hI.out.1 (by decide)).mono ?_
     rintro e w2⟨rfl,a2,a0⟩;have b9:=hid a0;have key:=HE.out w2 (put (listed o tx k) [32]) [.int .i64 zn] (tx k) (hI.out.2.trans ((Wfr.refl bw wr).trans a0)) a2 (a8.out.wfr a0);rw[uo]at key;have a6:=hid key;clear key a2 a0;go_wp2_with fail
     refine(show Calls Tryz.prog g (fi ++ #[.int .i64 zn]++ca) _ _ from a6.out).mono ?_
     rintro e w3⟨rfl,b6,b2⟩;have a5:=hid (hI.out.next (by omega) (((Wfr.refl bw wr).trans b9.out).trans b2) b6)
     clear b6 b2;go_wp2;go_roundw
     case rel=>exact⟨k+1,by omega,by go_num,a5⟩
     case measure=>simp[intOf];omega
  ·obtain rfl:k=m:=by omega
   go_wp2_with fail
   refine(uaf _ bw (listed o tx k) ⟨#[41]⟩ hI.out.1 (by decide)).mono ?_
   rintro e w2⟨rfl,c5,a0⟩;go_wp2;go_end0
   exact hI.out.last a0 c5
set_option maxHeartbeats 2000000 in
set_option maxRecDepth 100000 in
theorem uzf(g:FuncId)(fi ca:Array Value)(w:World)(bw:Nat)(o:Option (List UInt8))(A:Option Addr)(m c:Nat)(t:List UInt8)(h:Wst w bw o)(c6:Rep w (· < bw) (.list .int) [.slice A m c] [t])(a3:ElW g fi ca .int bw w) :
 Calls Tryz.prog 229 #[.pointer (some ⟨bw,0,none⟩),.slice A m c,.func (.func g) fi ca] w (ul4 bw w (put o t)):=by
 obtain⟨he,a3⟩:=a3;unfold Enters at he;obtain⟨A',m',c',us,tx,hl,d1,c3,ht,b0,b5⟩:=c6;injection hl with hl _;injection hl with hl1 hl2 hl3;subst hl1;subst hl2;subst hl3;injection ht with ht _;subst ht;have c8:=h.lt;have a1:Shape.sz .int=1:=rfl;unfold maxLen at c3;have HW:=hid h;have HE:=hid a3;have b8:=hid b0;have c0:=hid b5;have c1:=hid a1;clear h a3 b0 b5 a1;go_enter Tryz.func229,Tryz.ntmps229
 go_wp2_with fail
 refine(uaf _ bw o ⟨#[40]⟩ HW.out (by decide)).mono ?_
 rintro e w1⟨rfl,b4,b1⟩;have I0:=hid (LInv.start (tx:=tx) b4 b1);clear b4 b1;go_wp2;go_loopw [12] (fun iv wr=>∃(k:Nat),k≤m∧iv = .int .i64 k∧Hid (LInv o tx bw w k wr)) (fun iv _=>m-(intOf iv).toNat)
 case atStart=>exact⟨0,by omega,rfl,I0⟩
 case round=>
  obtain⟨k,hk,rfl,hI⟩:=hrel;clear I0;have c9:bw<wr.heap.size:=by have:=hI.out.2.1.size;omega
  by_cases b3:k<m
  ·obtain⟨b,b7,hA,hD,c7,a9⟩:=b8.out (by omega)
   subst hA;have a4:=c0.out k b3;obtain⟨zn,a7⟩:=ug a4.ty;have a1:=c1.out;have e0:wr.cell? ⟨b,b7+k,none⟩=some (.int .i64 zn):=by
    have h9:=(hI.out.2.1.cell (p:=⟨b,b7+k*Shape.sz .int+0,none⟩) hD).trans (a9 k b3 0 (.int .i64 zn) (by rw[a7];rfl))
    rw[a1]at h9;simpa using h9
   have c2:=hI.out.1.cell;rw[a7]at a4;have a8:=hid (a4.wfr hI.out.2);clear a7 a4 a9 a1;cases hf:listed o tx k with
   | none=>
    rw[hf]at c2;have HF:=hid hf;clear hf;go_wp2;go_end0
    exact hI.out.full (n:=m) (by omega) HF.out (Wfr.refl bw wr) (by have:=hI.out.1;rw[HF.out]at this;exact this)
   | some l=>
    rw[hf]at c2;have HF:=hid hf;clear hf;by_cases c4:k=0
    ·subst c4
     simp only[Nat.zero_mul,Nat.add_zero]at e0;have key:=HE.out wr (listed o tx 0) [.int .i64 zn] (tx 0) (hI.out.2.trans (Wfr.refl bw wr)) hI.out.1 a8.out;rw[uo]at key;have a6:=hid key;clear key;go_wp2_with fail
     refine(show Calls Tryz.prog g (fi ++ #[.int .i64 zn]++ca) _ _ from a6.out).mono ?_
     rintro e w2⟨rfl,a2,a0⟩;have a5:=hid (hI.out.first ((Wfr.refl bw wr).trans a0) a2);clear a2 a0;go_wp2;go_roundw
     case rel=>exact⟨1,by omega,by go_num,a5⟩
     case measure=>simp[intOf];omega
    ·have d0:decide (0<(k:Int))=true:=by simp;omega
     go_wp2_with fail
     refine(uaf _ bw (listed o tx k) ⟨#[32]⟩ hI.out.1 (by decide)).mono ?_
     rintro e w2⟨rfl,a2,a0⟩;have b9:=hid a0;have key:=HE.out w2 (put (listed o tx k) [32]) [.int .i64 zn] (tx k) (hI.out.2.trans ((Wfr.refl bw wr).trans a0)) a2 (a8.out.wfr a0);rw[uo]at key;have a6:=hid key;clear key a2 a0;go_wp2_with fail
     refine(show Calls Tryz.prog g (fi ++ #[.int .i64 zn]++ca) _ _ from a6.out).mono ?_
     rintro e w3⟨rfl,b6,b2⟩;have a5:=hid (hI.out.next (by omega) (((Wfr.refl bw wr).trans b9.out).trans b2) b6)
     clear b6 b2;go_wp2;go_roundw
     case rel=>exact⟨k+1,by omega,by go_num,a5⟩
     case measure=>simp[intOf];omega
  ·obtain rfl:k=m:=by omega
   go_wp2_with fail
   refine(uaf _ bw (listed o tx k) ⟨#[41]⟩ hI.out.1 (by decide)).mono ?_
   rintro e w2⟨rfl,c5,a0⟩;go_wp2;go_end0
   exact hI.out.last a0 c5
set_option maxHeartbeats 2000000 in
set_option maxRecDepth 100000 in
theorem uo0(g:FuncId)(fi ca:Array Value)(w:World)(bw:Nat)(o:Option (List UInt8))(A:Option Addr)(m c:Nat)(t:List UInt8)(h:Wst w bw o)(c6:Rep w (· < bw) (.list (.list .int)) [.slice A m c] [t])(a3:ElW g fi ca (.list .int) bw w) :
 Calls Tryz.prog 151 #[.pointer (some ⟨bw,0,none⟩),.slice A m c,.func (.func g) fi ca] w (ul4 bw w (put o t)):=by
 obtain⟨he,a3⟩:=a3;unfold Enters at he;obtain⟨A',m',c',us,tx,hl,d1,c3,ht,b0,b5⟩:=c6;injection hl with hl _;injection hl with hl1 hl2 hl3;subst hl1;subst hl2;subst hl3;injection ht with ht _;subst ht;have c8:=h.lt;have a1:Shape.sz (.list .int)=1:=rfl;unfold maxLen at c3;have HW:=hid h;have HE:=hid a3;have b8:=hid b0;have c0:=hid b5;have c1:=hid a1;clear h a3 b0 b5 a1;go_enter Tryz.func151,Tryz.ntmps151
 go_wp2_with fail
 refine(uaf _ bw o ⟨#[40]⟩ HW.out (by decide)).mono ?_
 rintro e w1⟨rfl,b4,b1⟩;have I0:=hid (LInv.start (tx:=tx) b4 b1);clear b4 b1;go_wp2;go_loopw [12] (fun iv wr=>∃(k:Nat),k≤m∧iv = .int .i64 k∧Hid (LInv o tx bw w k wr)) (fun iv _=>m-(intOf iv).toNat)
 case atStart=>exact⟨0,by omega,rfl,I0⟩
 case round=>
  obtain⟨k,hk,rfl,hI⟩:=hrel;clear I0;have c9:bw<wr.heap.size:=by have:=hI.out.2.1.size;omega
  by_cases b3:k<m
  ·obtain⟨b,b7,hA,hD,c7,a9⟩:=b8.out (by omega)
   subst hA;have a4:=c0.out k b3;obtain⟨zA,zk,zc,a7⟩:=ua a4.ty;have a1:=c1.out;have e0:wr.cell? ⟨b,b7+k,none⟩=some (.slice zA zk zc):=by
    have h9:=(hI.out.2.1.cell (p:=⟨b,b7+k*Shape.sz (.list .int)+0,none⟩) hD).trans (a9 k b3 0 (.slice zA zk zc) (by rw[a7];rfl))
    rw[a1]at h9;simpa using h9
   have c2:=hI.out.1.cell;rw[a7]at a4;have a8:=hid (a4.wfr hI.out.2);clear a7 a4 a9 a1;cases hf:listed o tx k with
   | none=>
    rw[hf]at c2;have HF:=hid hf;clear hf;go_wp2;go_end0
    exact hI.out.full (n:=m) (by omega) HF.out (Wfr.refl bw wr) (by have:=hI.out.1;rw[HF.out]at this;exact this)
   | some l=>
    rw[hf]at c2;have HF:=hid hf;clear hf;by_cases c4:k=0
    ·subst c4
     simp only[Nat.zero_mul,Nat.add_zero]at e0;have key:=HE.out wr (listed o tx 0) [.slice zA zk zc] (tx 0) (hI.out.2.trans (Wfr.refl bw wr)) hI.out.1 a8.out;rw[ue]at key;have a6:=hid key;clear key;go_wp2_with fail
     refine(show Calls Tryz.prog g (fi ++ #[.slice zA zk zc]++ca) _ _ from a6.out).mono ?_
     rintro e w2⟨rfl,a2,a0⟩;have a5:=hid (hI.out.first ((Wfr.refl bw wr).trans a0) a2);clear a2 a0;go_wp2;go_roundw
     case rel=>exact⟨1,by omega,by go_num,a5⟩
     case measure=>simp[intOf];omega
    ·have d0:decide (0<(k:Int))=true:=by simp;omega
     go_wp2_with fail
     refine(uaf _ bw (listed o tx k) ⟨#[32]⟩ hI.out.1 (by decide)).mono ?_
     rintro e w2⟨rfl,a2,a0⟩;have b9:=hid a0;have key:=HE.out w2 (put (listed o tx k) [32]) [.slice zA zk zc] (tx k) (hI.out.2.trans ((Wfr.refl bw wr).trans a0)) a2 (a8.out.wfr a0);rw[ue]at key;have a6:=hid key;clear key a2 a0;go_wp2_with fail
     refine(show Calls Tryz.prog g (fi ++ #[.slice zA zk zc]++ca) _ _ from a6.out).mono ?_
     rintro e w3⟨rfl,b6,b2⟩;have a5:=hid (hI.out.next (by omega) (((Wfr.refl bw wr).trans b9.out).trans b2) b6)
     clear b6 b2;go_wp2;go_roundw
     case rel=>exact⟨k+1,by omega,by go_num,a5⟩
     case measure=>simp[intOf];omega
  ·obtain rfl:k=m:=by omega
   go_wp2_with fail
   refine(uaf _ bw (listed o tx k) ⟨#[41]⟩ hI.out.1 (by decide)).mono ?_
   rintro e w2⟨rfl,c5,a0⟩;go_wp2;go_end0
   exact hI.out.last a0 c5
set_option maxHeartbeats 2000000 in
set_option maxRecDepth 100000 in
theorem ujj(n:Nat)(g:FuncId)(fi ca:Array Value)(w:World)(bw:Nat)(o:Option (List UInt8))(A:Option Addr)(m c:Nat)(t:List UInt8)(h:Wst w bw o)(c6:Rep w (· < bw) (.list (.list (uax n))) [.slice A m c] [t])(a3:ElW g fi ca (.list (uax n)) bw w) :
 Calls Tryz.prog 176 #[.pointer (some ⟨bw,0,none⟩),.slice A m c,.func (.func g) fi ca] w (ul4 bw w (put o t)):=by
 obtain⟨he,a3⟩:=a3;unfold Enters at he;obtain⟨A',m',c',us,tx,hl,d1,c3,ht,b0,b5⟩:=c6;injection hl with hl _;injection hl with hl1 hl2 hl3;subst hl1;subst hl2;subst hl3;injection ht with ht _;subst ht;have c8:=h.lt;have a1:Shape.sz (.list (uax n))=1:=rfl;unfold maxLen at c3;have HW:=hid h;have HE:=hid a3;have b8:=hid b0;have c0:=hid b5;have c1:=hid a1;clear h a3 b0 b5 a1;go_enter Tryz.func176,Tryz.ntmps176
 go_wp2_with fail
 refine(uaf _ bw o ⟨#[40]⟩ HW.out (by decide)).mono ?_
 rintro e w1⟨rfl,b4,b1⟩;have I0:=hid (LInv.start (tx:=tx) b4 b1);clear b4 b1;go_wp2;go_loopw [12] (fun iv wr=>∃(k:Nat),k≤m∧iv = .int .i64 k∧Hid (LInv o tx bw w k wr)) (fun iv _=>m-(intOf iv).toNat)
 case atStart=>exact⟨0,by omega,rfl,I0⟩
 case round=>
  obtain⟨k,hk,rfl,hI⟩:=hrel;clear I0;have c9:bw<wr.heap.size:=by have:=hI.out.2.1.size;omega
  by_cases b3:k<m
  ·obtain⟨b,b7,hA,hD,c7,a9⟩:=b8.out (by omega)
   subst hA;have a4:=c0.out k b3;obtain⟨zA,zk,zc,a7⟩:=ua a4.ty;have a1:=c1.out;have e0:wr.cell? ⟨b,b7+k,none⟩=some (.slice zA zk zc):=by
    have h9:=(hI.out.2.1.cell (p:=⟨b,b7+k*Shape.sz (.list (uax n))+0,none⟩) hD).trans (a9 k b3 0 (.slice zA zk zc) (by rw[a7];rfl))
    rw[a1]at h9;simpa using h9
   have c2:=hI.out.1.cell;rw[a7]at a4;have a8:=hid (a4.wfr hI.out.2);clear a7 a4 a9 a1;cases hf:listed o tx k with
   | none=>
    rw[hf]at c2;have HF:=hid hf;clear hf;go_wp2;go_end0
    exact hI.out.full (n:=m) (by omega) HF.out (Wfr.refl bw wr) (by have:=hI.out.1;rw[HF.out]at this;exact this)
   | some l=>
    rw[hf]at c2;have HF:=hid hf;clear hf;by_cases c4:k=0
    ·subst c4
     simp only[Nat.zero_mul,Nat.add_zero]at e0;have key:=HE.out wr (listed o tx 0) [.slice zA zk zc] (tx 0) (hI.out.2.trans (Wfr.refl bw wr)) hI.out.1 a8.out;rw[ue]at key;have a6:=hid key;clear key;go_wp2_with fail
     refine(show Calls Tryz.prog g (fi ++ #[.slice zA zk zc]++ca) _ _ from a6.out).mono ?_
     rintro e w2⟨rfl,a2,a0⟩;have a5:=hid (hI.out.first ((Wfr.refl bw wr).trans a0) a2);clear a2 a0;go_wp2;go_roundw
     case rel=>exact⟨1,by omega,by go_num,a5⟩
     case measure=>simp[intOf];omega
    ·have d0:decide (0<(k:Int))=true:=by simp;omega
     go_wp2_with fail
     refine(uaf _ bw (listed o tx k) ⟨#[32]⟩ hI.out.1 (by decide)).mono ?_
     rintro e w2⟨rfl,a2,a0⟩;have b9:=hid a0;have key:=HE.out w2 (put (listed o tx k) [32]) [.slice zA zk zc] (tx k) (hI.out.2.trans ((Wfr.refl bw wr).trans a0)) a2 (a8.out.wfr a0);rw[ue]at key;have a6:=hid key;clear key a2 a0;go_wp2_with fail
     refine(show Calls Tryz.prog g (fi ++ #[.slice zA zk zc]++ca) _ _ from a6.out).mono ?_
     rintro e w3⟨rfl,b6,b2⟩;have a5:=hid (hI.out.next (by omega) (((Wfr.refl bw wr).trans b9.out).trans b2) b6)
     clear b6 b2;go_wp2;go_roundw
     case rel=>exact⟨k+1,by omega,by go_num,a5⟩
     case measure=>simp[intOf];omega
  ·obtain rfl:k=m:=by omega
   go_wp2_with fail
   refine(uaf _ bw (listed o tx k) ⟨#[41]⟩ hI.out.1 (by decide)).mono ?_
   rintro e w2⟨rfl,c5,a0⟩;go_wp2;go_end0
   exact hI.out.last a0 c5
def lsM(ts te tf t:Nat):Nat:=if t=65 then te else if t=31 then ts else if t=161 then tf else t
def lsC(f:Func)(ts te tf:Nat):Option Code:=f.body.map (uhw (lsM ts te tf))
def ueb(F:FuncId)(s:Shape):Prop:=∀(g:FuncId) (fi ca:Array Value) (w:World) (bw:Nat) (o:Option (List UInt8)) (A:Option Addr) (m c:Nat) (t:List UInt8) (h:Wst w bw o) (hrep:Rep w (· < bw) (.list s) [.slice A m c] [t]) (hel:ElW g fi ca s bw w),Calls Tryz.prog F #[.pointer (some ⟨bw,0,none⟩),.slice A m c,.func (.func g) fi ca] w (ul4 bw w (put o t))
theorem uwh(e:TypeId)(sz a1:Nat)(a3:(Tryz.prog.info? e).map (fun i=>(i.size,i.bytes,i.zero.map fun z=>z.cells.size))=some (sz,a1,some sz)):∃zs:Array Value,
 (∀ {ops:Array Oper} {rest:List Oper} {op:Oper} {a:Act} {w:World} {Q:Exit→Act→World→Prop},op.guard=none→op.op = .alloc e →
  wpList Tryz.prog ops Q rest (a.put op.dst (.pointer (some ⟨w.heap.size,0,none⟩))) (w.alloc (.cells zs e))→wpList Tryz.prog ops Q (op::rest) a w) ∧
 ∀ {ops:Array Oper} {rest:List Oper} {op:Oper} {a:Act} {w:World} {Q:Exit→Act→World→Prop} (x y:Operand) (v:List Value),op.guard=none→op.op = .store e x y→op.dst=none →
  a.eval x = .pointer (some ⟨w.heap.size,0,none⟩)→a.eval y = .agg v.toArray→v.length=sz→(∀u∈v,u.oneCell'=true) →
  wpList Tryz.prog ops Q rest a (w.alloc (.cells v.toArray e))→wpList Tryz.prog ops Q (op::rest) a (w.alloc (.cells zs e)):=by
 obtain⟨i,hi,a0⟩:=Option.map_eq_some_iff.1 a3;simp only[Prod.mk.injEq]at a0;obtain⟨a4,_,a7⟩:=a0;obtain⟨z,a5,a6⟩:=Option.map_eq_some_iff.1 a7;refine⟨z.cells,?_,?_⟩
 ·intro ops rest op a w Q hg ho h
  refine Great.wpList_allocTo hg op.dst rfl (.pointer (some ⟨w.heap.size,0,none⟩)) (.cells z.cells e) ?_ h;unfold execOp;simp[ho,newVar,zeroValue,typeInfo,hi,a5,Instr.alloc,newRow]
 ·intro ops rest op a w Q x y v hg ho a2 hx hy hl h1 h
  have hs:(w.alloc (.cells z.cells e)).setRow w.heap.size v.toArray=w.alloc (.cells v.toArray e):=World.setRow_alloc_new w _ _ _;refine wpList_store_rowTo hg e x y ho a2 w.heap.size v.toArray hx hy e z.cells (by exact heap_alloc_new w _) (by rw[hi];simp[a4,hl]) (by simp[a6,hl]) (by simpa using h1) ?_
  rw[hs];exact h
set_option maxHeartbeats 4000000 in
set_option maxRecDepth 100000 in
theorem ub7{F:FuncId}{fn:Func}{ts te tf:Nat}(hf:Tryz.prog.funcs[F]? = some fn)(hb:fn.body=lsC Tryz.f82 ts te tf)(hn:fn.ntmps=31)(d0:fn.results = #[])
 {s:Shape} (sz c0:Nat) (f0:sz≤4096) (f2:Tryz.prog.underlying ts=some (.slice te)) (b6:(Tryz.prog.info? te).map (fun i=>(i.size,i.bytes,i.zero.map fun z=>z.cells.size))=some (sz,c0,some sz)) (hz:0<sz) (a3:Shape.sz s=sz) (hv:∀v,uas s v = .agg v.toArray) (e4:te≠5) {d:TypeDesc} (a4:Tryz.prog.underlying te=some d) (hd:d.isRow=true) :
 ueb F s:=by
 intro g fi ca w bw o A m c t h e3 a8;obtain⟨he,a8⟩:=a8;unfold Enters at he;obtain⟨A',m',c',us,tx,hl,e9,e1,ht,c3,d1⟩:=e3;injection hl with hl _;injection hl with hl1 hl2 hl3;subst hl1;subst hl2;subst hl3;injection ht with ht _;subst ht;have e5:=h.lt;unfold maxLen at e1;have HW:=hid h;have HE:=hid a8;have d4:=hid c3;have d8:=hid d1;have d9:=hid a3;clear h a8 c3 d1 a3;obtain⟨zs,b5,b7⟩:=uwh te sz c0 b6;have h0:Tryz.f82.body=some _:=rfl;rw[lsC,h0,Option.map_some]at hb;clear h0;simp only[uhw,ux3,mOp,List.map_toArray,List.map_cons,List.map_nil,lsM,reduceIte,Nat.reduceEqDiff]at hb;refine calls_of_wp hf hb ?_;simp only[hn,List.size_toArray,List.length_cons,List.length_nil,Nat.reduceAdd,Nat.reduceSub,Array.replicate_succ,
  Array.replicate_zero,List.push_toArray,List.append_toArray,List.nil_append,List.cons_append]
 clear hb;go_wp2_with fail
 refine(uaf _ bw o ⟨#[40]⟩ HW.out (by decide)).mono ?_
 rintro e w1⟨rfl,c8,c4⟩;have I0:=hid (LInv.start (tx:=tx) c8 c4);clear c8 c4;go_wp2;go_loopw [12] (fun iv wr=>∃(k:Nat),k≤m∧iv = .int .i64 k∧Hid (LInv o tx bw w k wr)) (fun iv _=>m-(intOf iv).toNat)
 case atStart=>exact⟨0,by omega,rfl,I0⟩
 case round=>
  obtain⟨k,hk,rfl,hI⟩:=hrel;clear I0;have a1:bw<wr.heap.size:=by have:=hI.out.2.1.size;omega
  by_cases c6:k<m
  ·obtain⟨b,a7,hA,hD,e0,c1⟩:=d4.out (by omega)
   subst hA;have b0:=d8.out k c6;have a3:=d9.out;have f1:∀w:World,(sizeOf te).run Tryz.prog w = .ok sz w:=fun w=>by
    obtain⟨i,hi,a6⟩:=Option.map_eq_some_iff.1 b6;simp only[Prod.mk.injEq]at a6;simp[sizeOf,typeInfo,hi,a6.1]
   have c7:=b0.ty.one;have a2:=b0.ty.len;rw[a3]at a2;have c9:∀j x,(us k)[j]? = some x→wr.cell? ⟨b,a7+k*sz+j,none⟩=some x:=by
    intro j x hx;have h9:=(hI.out.2.1.cell (p:=⟨b,a7+k*Shape.sz s+j,none⟩) hD).trans (c1 k c6 j x hx);rwa [a3]at h9
   have hi2:(Tryz.prog.info? te).map (·.size)=some (us k).length:=by
    obtain⟨i,hi,a6⟩:=Option.map_eq_some_iff.1 b6;simp only[Prod.mk.injEq]at a6;rw[hi,a2,Option.map_some,a6.1]
   have b3:=hid c9;have b2:=hid c7;have b9:=hid (b0.wfr hI.out.2);have c2:=hI.out.1.cell;clear c9 c7 b0 c1 hD e0;have HB:=hid (Bk.new wr te (us k).toArray);have d6:=hid (show World.rangeAt (wr.alloc (.cells (us k).toArray te)) wr.heap.size 0 (us k) from fun j x hx=>by rw[Nat.zero_add,HB.out.cell j];simpa using hx)
   cases hf:listed o tx k with
   | none=>
    rw[hf]at c2;have HF:=hid hf;clear hf;go_wp2_with (first|refine wpList_load_mid rfl te (.tmp 15) rfl b (a7+k*sz) rfl (us k) d b3.out a4 hd hi2 ?_|refine b5 rfl rfl ?_|refine b7 (.tmp 7) (.tmp 16) (us k) rfl rfl rfl rfl rfl a2 b2.out ?_)
    (try simp only[Exit.inBlock,Exit.then])
    refine bodyPost_end (results_none d0 _ _ _) rfl ?_;exact hI.out.full (n:=m) (by omega) HF.out ((Wfr.refl bw wr).allocs a1 (.cells (us k).toArray te)) (by have:=(hI.out.1.alloc (.cells (us k).toArray te));rw[HF.out]at this;exact this)
   | some l=>
    rw[hf]at c2;have HF:=hid hf;clear hf;by_cases a9:k=0
    ·have e7:decide (0<(k:Int))=false:=by simp;omega
     have e6:¬(0:Int)<(k:Int):=by omega
     have d5:=hid a9;clear a9;have key:=HE.out (wr.alloc (.cells (us k).toArray te)) (listed o tx k) (us k) (tx k) (hI.out.2.trans ((Wfr.refl bw wr).allocs a1 (.cells (us k).toArray te))) (hI.out.1.alloc (.cells (us k).toArray te)) (b9.out.allocW _);rw[hv]at key;have b4:=hid key;clear key;go_wp2_with (first|(first|refine wpList_load_mid rfl te (.tmp 15) rfl b (a7+k*sz) rfl (us k) d b3.out a4 hd hi2 ?_|refine b5 rfl rfl ?_|refine b7 (.tmp 7) (.tmp 16) (us k) rfl rfl rfl rfl rfl a2 b2.out ?_)|(refine wpList_load_mid rfl te (.tmp 7) rfl wr.heap.size 0 rfl (us k) d d6.out a4 hd hi2 ?_))
     refine(show Calls Tryz.prog g (fi ++ #[.agg (us k).toArray]++ca) _ _ from b4.out).mono ?_
     rintro e w2⟨rfl,a5,a0⟩;have a9:=d5.out;subst a9;have b1:=hid (hI.out.first (((Wfr.refl bw wr).allocs a1 (.cells (us 0).toArray te)).trans a0) a5);clear a5 a0;go_wp2;go_roundw
     case rel=>exact⟨1,by omega,by go_num,b1⟩
     case measure=>simp[intOf];omega
    ·have e8:decide (0<(k:Int))=true:=by simp;omega
     go_wp2_with (first|refine wpList_load_mid rfl te (.tmp 15) rfl b (a7+k*sz) rfl (us k) d b3.out a4 hd hi2 ?_|refine b5 rfl rfl ?_|refine b7 (.tmp 7) (.tmp 16) (us k) rfl rfl rfl rfl rfl a2 b2.out ?_)
     refine(uaf _ bw (listed o tx k) ⟨#[32]⟩ (hI.out.1.alloc (.cells (us k).toArray te)) (by decide)).mono ?_
     rintro e w2⟨rfl,a5,a0⟩;have b8:=hid a0;have d3:=hid (b8.out.2 wr.heap.size _ te (by omega) e4 HB.out)
     have d7:=hid (show World.rangeAt w2 wr.heap.size 0 (us k) from fun j x hx=>by rw[Nat.zero_add,d3.out.cell j];simpa using hx)
     have key:=HE.out w2 (put (listed o tx k) [32]) (us k) (tx k) (hI.out.2.trans (((Wfr.refl bw wr).allocs a1 (.cells (us k).toArray te)).trans a0)) a5 ((b9.out.allocW _).wfr a0);rw[hv]at key;have b4:=hid key;clear key a5 a0;go_wp2_with (first|refine wpList_load_mid rfl te (.tmp 7) rfl wr.heap.size 0 rfl (us k) d d7.out a4 hd hi2 ?_|fail)
     refine(show Calls Tryz.prog g (fi ++ #[.agg (us k).toArray]++ca) _ _ from b4.out).mono ?_
     rintro e w3⟨rfl,d2,c5⟩;have b1:=hid (hI.out.next (by omega) ((((Wfr.refl bw wr).allocs a1 (.cells (us k).toArray te)).trans b8.out).trans c5) d2)
     clear d2 c5;go_wp2;go_roundw
     case rel=>exact⟨k+1,by omega,by go_num,b1⟩
     case measure=>simp[intOf];omega
  ·obtain rfl:k=m:=by omega
   go_wp2_with fail
   refine(uaf _ bw (listed o tx k) ⟨#[41]⟩ hI.out.1 (by decide)).mono ?_
   rintro e w2⟨rfl,e2,a0⟩;go_wp2
   (try simp only[Exit.inBlock,Exit.then])
   refine bodyPost_end (results_none d0 _ _ _) rfl ?_;exact hI.out.last a0 e2
theorem uzg:ueb 246 .rat:=ub7 (ts:=62) (te:=76) (tf:=248) Tryz.func246 (by kernel_rfl) rfl rfl 3 56 (by decide) Tryz.underlying62 (by kernel_rfl) (by decide) rfl uaz (by decide) Tryz.underlying76 rfl
theorem uq9:ueb 227 uH:=ub7 (ts:=146) (te:=219) (tf:=244) Tryz.func227 (by kernel_rfl) rfl rfl 2 16 (by decide) Tryz.underlying146 (by kernel_rfl) (by decide) ubw ulz (by decide) Tryz.underlying219 rfl
theorem uxf:ueb 147 uX:=ub7 (ts:=103) (te:=148) (tf:=198) Tryz.func147 (by kernel_rfl) rfl rfl 2 32 (by decide) Tryz.underlying103 (by kernel_rfl) (by decide) uw ubg (by decide) Tryz.underlying148 rfl
theorem unc:ueb 77 ut:=ub7 (ts:=26) (te:=105) (tf:=158) Tryz.func77 (by kernel_rfl) rfl rfl 2 48 (by decide) Tryz.underlying26 (by kernel_rfl) (by decide) ua9 uj5 (by decide) Tryz.underlying105 rfl
theorem uzh(n:Nat):ueb 290 (ua1 n):=ub7 (ts:=114) (te:=116) (tf:=246) Tryz.func290 (by kernel_rfl) rfl rfl 3 40 (by decide) Tryz.underlying114 (by kernel_rfl) (by decide) uA udg (by decide) Tryz.underlying116 rfl
theorem uwi(n:Nat):ueb 155 (uae n):=ub7 (ts:=28) (te:=118) (tf:=202) Tryz.func155 (by kernel_rfl) rfl rfl 4 64 (by decide) Tryz.underlying28 (by kernel_rfl) (by decide) ucr ur5 (by decide) Tryz.underlying118 rfl
theorem uwj(n:Nat):ueb 358 (uy n):=ub7 (ts:=141) (te:=143) (tf:=300) Tryz.func358 (by kernel_rfl) rfl rfl 2 32 (by decide) Tryz.underlying141 (by kernel_rfl) (by decide) uj ubp (by decide) Tryz.underlying143 rfl
theorem ut5(n:Nat):ueb 293 (uO n):=ub7 (ts:=77) (te:=145) (tf:=274) Tryz.func293 (by kernel_rfl) rfl rfl 3 40 (by decide) Tryz.underlying77 (by kernel_rfl) (by decide) ub2 upm (by decide) Tryz.underlying145 rfl
theorem uye:ueb 296 ua5:=ub7 (ts:=78) (te:=150) (tf:=276) Tryz.func296 (by kernel_rfl) rfl rfl 3 40 (by decide) Tryz.underlying78 (by kernel_rfl) (by decide) udz uu6 (by decide) Tryz.underlying150 rfl
theorem ujk(n:Nat):ueb 162 (un n):=ub7 (ts:=58) (te:=139) (tf:=205) Tryz.func162 (by kernel_rfl) rfl rfl 5 104 (by decide) Tryz.underlying58 (by kernel_rfl) (by decide) ugr uu8 (by decide) Tryz.underlying139 rfl
theorem uzi(n:Nat):ueb 240 (uan n):=ub7 (ts:=85) (te:=89) (tf:=251) Tryz.func240 (by kernel_rfl) rfl rfl 6 112 (by decide) Tryz.underlying85 (by kernel_rfl) (by decide) uel ur8 (by decide) Tryz.underlying89 rfl
theorem uyf(n:Nat):ueb 169 (uan n):=ub7 (ts:=60) (te:=82) (tf:=209) Tryz.func169 (by kernel_rfl) rfl rfl 6 112 (by decide) Tryz.underlying60 (by kernel_rfl) (by decide) uel ur8 (by decide) Tryz.underlying82 rfl
theorem ut6(n:Nat):ueb 166 (uD n):=ub7 (ts:=59) (te:=87) (tf:=207) Tryz.func166 (by kernel_rfl) rfl rfl 3 56 (by decide) Tryz.underlying59 (by kernel_rfl) (by decide) ud0 upo (by decide) Tryz.underlying87 rfl
theorem und(n:Nat):ueb 178 (uax n):=ub7 (ts:=90) (te:=154) (tf:=213) Tryz.func178 (by kernel_rfl) rfl rfl 13 232 (by decide) Tryz.underlying90 (by kernel_rfl) (by decide) uci uj8 (by decide) Tryz.underlying154 rfl
theorem uyg(n:Nat):ueb 82 (uac n):=ub7 (ts:=31) (te:=65) (tf:=161) Tryz.func82 (by kernel_rfl) rfl rfl 11 216 (by decide) Tryz.underlying31 (by kernel_rfl) (by decide) ugs ui2 (by decide) Tryz.underlying65 rfl
theorem uwk:ueb 85 uW:=ub7 (ts:=32) (te:=68) (tf:=163) Tryz.func85 (by kernel_rfl) rfl rfl 2 16 (by decide) Tryz.underlying32 (by kernel_rfl) (by decide) udh usb (by decide) Tryz.underlying68 rfl
end Go.Proofs.YtellcholbkoakaaGreatDoor
