/-
 The writer: lists of values of one cell (printed by gen_codec.py).
-/
import Derived.Test.YtellcholbkoakaaGreatDoorHCWa
namespace Go.Proofs.YtellcholbkoakaaGreatDoor
open Go.Lib (hid)
open Go.RowKit AC
set_option linter.unusedVariables false
set_option linter.unusedSimpArgs false
set_option maxHeartbeats 2000000 in
set_option maxRecDepth 100000 in
theorem ls_int64(g:FuncId)(fi ca:Array Value)(w:World)(bw:Nat)(o:Option (List UInt8))(A:Option Addr)(m c:Nat)(t:List UInt8)(h:Wst w bw o)(hrep:Rep w (· < bw) (.list .int) [.slice A m c] [t])(hel:ElW g fi ca .int bw w) :
 Calls Tryz.prog 223 #[.pointer (some ⟨bw,0,none⟩),.slice A m c,.func (.func g) fi ca] w (WRet bw w (put o t)):=by
 obtain⟨he,hel⟩:=hel;unfold Enters at he;obtain⟨A',m',c',us,tx,hl,hmc,hcm,ht,hcl,hrp⟩:=hrep;injection hl with hl _;injection hl with hl1 hl2 hl3;subst hl1;subst hl2;subst hl3;injection ht with ht _;subst ht;have hbw:=h.lt;have hsz:Shape.sz .int=1:=rfl;unfold maxLen at hcm;have HW:=hid h;have HE:=hid hel;have HCL:=hid hcl;have HRP:=hid hrp;have HSZ:=hid hsz;clear h hel hcl hrp hsz;go_enter Tryz.func223,Tryz.ntmps223
 go_wp2_with fail
 refine(text_any _ bw o ⟨#[40]⟩ HW.out (by decide)).mono ?_
 rintro e w1⟨rfl,hr1,hf1⟩;have I0:=hid (LInv.start (tx:=tx) hr1 hf1);clear hr1 hf1;go_wp2;go_loopw [12] (fun iv wr=>∃(k:Nat),k≤m∧iv = .int .i64 k∧Hid (LInv o tx bw w k wr)) (fun iv _=>m-(intOf iv).toNat)
 case atStart=>exact⟨0,by omega,rfl,I0⟩
 case round=>
  obtain⟨k,hk,rfl,hI⟩:=hrel;clear I0;have hbwr:bw<wr.heap.size:=by have:=hI.out.2.1.size;omega
  by_cases hlt:k<m
  ·obtain⟨b,off,hA,hD,hblt,hcells⟩:=HCL.out (by omega)
   subst hA;have hrk:=HRP.out k hlt;obtain⟨zn,hus⟩:=ty_int hrk.ty;have hsz:=HSZ.out;have e0:wr.cell? ⟨b,off+k,none⟩=some (.int .i64 zn):=by
    have h9:=(hI.out.2.1.cell (p:=⟨b,off+k*Shape.sz .int+0,none⟩) hD).trans (hcells k hlt 0 (.int .i64 zn) (by rw[hus];rfl))
    rw[hsz]at h9;simpa using h9
   have c2:=hI.out.1.cell;rw[hus]at hrk;have HRK:=hid (hrk.wfr hI.out.2);clear hus hrk hcells hsz;cases hf:listed o tx k with
   | none=>
    rw[hf]at c2;have HF:=hid hf;clear hf;go_wp2;go_end0
    exact hI.out.full (n:=m) (by omega) HF.out (Wfr.refl bw wr) (by have:=hI.out.1;rw[HF.out]at this;exact this)
   | some l=>
    rw[hf]at c2;have HF:=hid hf;clear hf;by_cases hk0:k=0
    ·subst hk0
     simp only[Nat.zero_mul,Nat.add_zero]at e0;have key:=HE.out wr (listed o tx 0) [.int .i64 zn] (tx 0) (hI.out.2.trans (Wfr.refl bw wr)) hI.out.1 HRK.out;rw[val_int]at key;have KEY:=hid key;clear key;go_wp2_with fail
     refine(show Calls Tryz.prog g (fi ++ #[.int .i64 zn]++ca) _ _ from KEY.out).mono ?_
     rintro e w2⟨rfl,hw2,hf2⟩;have HI2:=hid (hI.out.first ((Wfr.refl bw wr).trans hf2) hw2);clear hw2 hf2;go_wp2;go_roundw
     case rel=>exact⟨1,by omega,by go_num,HI2⟩
     case measure=>simp[intOf];omega
    ·have hkp:decide (0<(k:Int))=true:=by simp;omega
     go_wp2_with fail
     refine(text_any _ bw (listed o tx k) ⟨#[32]⟩ hI.out.1 (by decide)).mono ?_
     rintro e w2⟨rfl,hw2,hf2⟩;have HF2:=hid hf2;have key:=HE.out w2 (put (listed o tx k) [32]) [.int .i64 zn] (tx k) (hI.out.2.trans ((Wfr.refl bw wr).trans hf2)) hw2 (HRK.out.wfr hf2);rw[val_int]at key;have KEY:=hid key;clear key hw2 hf2;go_wp2_with fail
     refine(show Calls Tryz.prog g (fi ++ #[.int .i64 zn]++ca) _ _ from KEY.out).mono ?_
     rintro e w3⟨rfl,hw3,hf3⟩;have HI2:=hid (hI.out.next (by omega) (((Wfr.refl bw wr).trans HF2.out).trans hf3) hw3)
     clear hw3 hf3;go_wp2;go_roundw
     case rel=>exact⟨k+1,by omega,by go_num,HI2⟩
     case measure=>simp[intOf];omega
  ·obtain rfl:k=m:=by omega
   go_wp2_with fail
   refine(text_any _ bw (listed o tx k) ⟨#[41]⟩ hI.out.1 (by decide)).mono ?_
   rintro e w2⟨rfl,hr2,hf2⟩;go_wp2;go_end0
   exact hI.out.last hf2 hr2
end Go.Proofs.YtellcholbkoakaaGreatDoor
