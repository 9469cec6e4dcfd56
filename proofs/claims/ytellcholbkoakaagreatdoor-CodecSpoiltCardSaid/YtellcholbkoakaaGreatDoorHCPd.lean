/-
  rational.parseDigits.
-/
import Derived.Test.YtellcholbkoakaaGreatDoorHCDi
import Derived.Lib.ConvBytes
import Derived.Test.YtellcholbkoakaaGreatDoorHCWa
namespace Go.Proofs.YtellcholbkoakaaGreatDoor
open Go.Lib (hid)
open Go.RowKit AC
set_option linter.unusedVariables false
set_option linter.unusedSimpArgs false
def PDPost(l:List UInt8)(w:World)(e:Ending)(w':World):Prop:=
 (∃v n,uap l=some n∧e = .returned (.tuple #[v,.bool true])∧NatR w' w.heap.size v n∧Below w.heap.size w w') ∨
 (uap l=none∧e = .returned (.tuple #[.slice none 0 0,.bool false])∧Below w.heap.size w w')
theorem PDPost.no{l:List UInt8}{w:World}(h:uap l=none){w':World}(hb:Below w.heap.size w w'):PDPost l w (.returned (.tuple #[.slice none 0 0,.bool false])) w':= .inr ⟨h,rfl,hb⟩
theorem uim{l:List UInt8}(h:¬(0<l.length∧l.length≤200)):uap l=none:=by
 unfold uap;rw[if_neg (fun h'=>h ⟨h'.1,h'.2.1⟩)]
theorem uin{l:List UInt8}(h:uaa l=false):uap l=none:=by
 unfold uap;rw[if_neg (fun h'=>by rw[h]at h';exact absurd h'.2.2 (by decide))]
theorem uio{l:List UInt8}(h0:0<l.length)(h1:l.length≤200)(h:uaa l=true):uap l=some (uR l):=by
 unfold uap;rw[if_pos ⟨h0,h1,h⟩]
theorem _root_.AC.Own.bel{w w':World}{base:Nat}{e:TypeId}{v:Value}{k:Nat}{f:Nat→Nat}(h:Own w base e v k f)(hb:Below w.heap.size w w'):Own w' base e v k f:=by
 unfold Own at *;exact h.kept (row:=none) (World.grownBy.ofBelow hb none) (by cases v.ownBlock<;>simp)
set_option maxHeartbeats 4000000 in
theorem uf0(w:World)(s:ByteArray)(h:¬(0<s.size∧s.size≤200))(hs:s.size≤262144):Calls Tryz.prog 314 #[.string s] w (PDPost s.data.toList w):=by
 have hn:uap s.data.toList=none:=uim (by simpa using h)
 have HN:=hid hn;clear hn;by_cases h0:s.size=0
 ·have e0:((s.size:Int)==0)=true:=by rw[beq_iff_eq];omega
  have HZ:=hid h0;clear h h0;go_enter Tryz.func314,Tryz.ntmps314
  go_wp2;go_ret2
  exact .no HN.out (Below.refl _ _)
 ·have e0:((s.size:Int)==0)=false:=beq_eq_false_iff_ne.2 (by omega)
  have e1:decide (200<s.size)=true:=by simp;omega
  have e2:decide ((200:Int)<(s.size:Int))=true:=by simp;omega
  clear h h0;go_enter Tryz.func314,Tryz.ntmps314
  go_wp2;go_ret2
  exact .no HN.out (Below.refl _ _)
set_option maxHeartbeats 8000000 in
set_option maxRecDepth 100000 in
theorem ud7(w:World)(s:ByteArray)(hs:s.size≤262144):Calls Tryz.prog 314 #[.string s] w (PDPost s.data.toList w):=by
 rcases Classical.em (0<s.size∧s.size≤200)with h|h
 rotate_left
 ·exact uf0 w s h hs
 obtain⟨h0,h200⟩:=h;have e0:((s.size:Int)==0)=false:=beq_eq_false_iff_ne.2 (by omega)
 have e1:decide ((200:Int)<(s.size:Int))=false:=by simp;omega
 obtain⟨l,hl⟩:∃l,s.data.toList=l:=⟨_,rfl⟩;have hll:l.length=s.size:=by rw[←hl];simp
 have HL:=hid hl;have HLL:=hid hll;rw[hl];clear hl hll;go_enter Tryz.func314,Tryz.ntmps314
 go_wp2;go_loop [20] (fun iv=>∃i:Nat,i≤s.size∧iv = .int .i64 i∧Hid (DigTo l i)) (fun iv=>s.size-(intOf iv).toNat)
 case atStart=>exact⟨0,by omega,rfl,fun j c hj=>absurd hj (by omega)⟩
 case round=>
  obtain⟨i,hi,rfl,hD⟩:=hrel;by_cases hlt:i<s.size
  ·obtain⟨c,hc⟩:∃c:UInt8,s[i]'hlt=c:=⟨_,rfl⟩
   have hcl:l[i]? = some c:=by rw[←HL.out,←hc];exact Lib.data_getElem? s i hlt
   have HCL:=hid hcl;clear hcl;by_cases hd:48≤c.toNat∧c.toNat≤57
   ·obtain⟨d1,d2⟩:=hd
    have f1:decide ((c.toNat:Int)<48)=false:=by simp;omega
    have f2:decide ((57:Int)<(c.toNat:Int))=false:=by simp;omega
    go_wp2;go_round
    case rel=>exact⟨i+1,by omega,by go_num,fun j c' hj hc'=>by
     rcases Nat.lt_or_ge j i with h1|h1
     ·exact hD.out j c' h1 hc'
     ·obtain rfl:j=i:=by omega
      rw[HCL.out]at hc';injection hc' with hc';subst hc';exact⟨d1,d2⟩⟩
    case measure=>simp[intOf];omega
   ·have hno:uap l=none:=uin (DigTo.not HCL.out (by omega))
    have HNO:=hid hno;clear hno;by_cases hd1:c.toNat<48
    ·have f1:decide ((c.toNat:Int)<48)=true:=by simp;omega
     clear hd;go_wp2;go_ret2
     exact .no HNO.out (Below.refl _ _)
    ·have f1:decide ((c.toNat:Int)<48)=false:=by simp;omega
     have f2:decide ((57:Int)<(c.toNat:Int))=true:=by simp;omega
     clear hd;go_wp2;go_ret2
     exact .no HNO.out (Below.refl _ _)
  ·obtain rfl:i=s.size:=by omega
   have hall:uaa l=true:=DigTo.all (by rw[HLL.out];exact hD.out)
   have HA:=hid hall;clear hall hD;obtain⟨N,hN⟩:∃N,uR l=N:=⟨_,rfl⟩;have HN:=hid hN;clear hN;go_wp2;go_loopw [5,6] (fun ov ev wr=>∃j:Nat,9*j≤s.size+8∧ev = .int .i64 ((s.size:Int)-9*(j:Int))∧Hid (Own wr w.heap.size 228 ov j (dg N))∧Hid (Below w.heap.size w wr)) (fun _ ev _=>(intOf ev).toNat)
   case atStart=>exact⟨0,by omega,by simp,World.ownsRow_nil _ _ _ _,Below.refl _ _⟩
   case round=>
    obtain⟨j,hj,rfl,hown,hbw⟩:=hrel;by_cases hpos:9*j<s.size
    ·obtain⟨e,he⟩:∃e:Nat,s.size-9*j=e:=⟨_,rfl⟩
     obtain⟨a,ha⟩:∃a:Nat,e-9=a:=⟨_,rfl⟩;have hee:((s.size:Int)-9*(j:Int))=(e:Int):=by omega
     rw[hee];have HEE:=hid hee;have hae:a≤e:=by omega
     have hes:e≤s.size:=by omega
     have he0:0<e:=by omega
     have hmax:max (0:Int) ((e:Int)-9)=(a:Int):=by omega
     have HM:=hid hmax;have hch:(s.extract a e).data.toList=ua3 l j:=by
      rw[Lib.extract_data,HL.out];unfold ua3;rw[HLL.out,he,ha,List.drop_take]
     have hchs:(s.extract a e).size=e-a:=by rw[ByteArray.size_extract];omega
     have hcl:(ua3 l j).length=e-a:=by rw[←hch,←hchs,Array.length_toList];rfl
     have HCH:=hid hch;have HCL:=hid hcl;have HCS:=hid hchs;have HE:=hid he;have HAA:=hid ha;clear hee hmax hch hcl hchs he ha;go_wp2_with fail
     rw[show(max (0:Int) ((e:Int)-9)).toNat=a from by have:=HAA.out;omega,Lib.run_convert_string_bytes wr 9 44 5 _ Tryz.underlying9 Tryz.underlying44 Tryz.underlying5]
     simp only[Result.andThen];rw[Oper.upon_value];obtain⟨t,hext⟩:∃t,s.extract a e=t:=⟨_,rfl⟩;rw[hext];have HT:=hid (show t.data.toList=ua3 l j by rw[←hext];exact HCH.out)
     have HTS:=hid (show t.size=e-a by rw[←hext];exact HCS.out)
     have hts:t.size≤9:=by rw[HTS.out];have:=HAA.out;omega
     have hbytes:=fun i hi=>Lib.bytesWorld_cell wr 5 t i hi
     have HBY:=hid hbytes;have HBB:=hid (Lib.bytesWorld_below wr 5 t);clear hext hbytes;obtain⟨wb,hwb⟩:∃wb,Lib.bytesWorld wr 5 t=wb:=⟨_,rfl⟩;rw[hwb]at HBY HBB ⊢;have HWB:=hid hwb;clear hwb;go_wp2;go_loop [7,48] (fun lv iv=>∃i:Nat,i≤t.size∧iv = .int .i64 i∧lv = .int .u32 ((uR ((ua3 l j).take i):Nat):Int)) (fun _ iv=>t.size-(intOf iv).toNat)
     case atStart=>exact⟨0,by omega,rfl,rfl⟩
     case round=>
      obtain⟨i,hi,rfl,rfl⟩:=hrel;by_cases hit:i<t.size
      ·obtain⟨c,hc⟩:∃c:UInt8,(ua3 l j)[i]? = some c:=⟨_,List.getElem?_eq_getElem (by rw[HCL.out,←HTS.out];exact hit)⟩
       have hcd:=ucj (uka HA.out j) hc;have hcell:wb.cell? ⟨wr.heap.size,i,none⟩=some (.int .u8 (c.toNat:Int)):=by rw[HBY.out i hit,HT.out];simp[List.getD,hc]
       have hval:uR ((ua3 l j).take i)<10^8:=by
        have h1:=ub3 (uex (uka HA.out j) i);have h2:((ua3 l j).take i).length≤8:=by rw[List.length_take,HCL.out,←HTS.out];omega
        exact Nat.lt_of_lt_of_le h1 (Nat.pow_le_pow_right (by decide) h2)
       have hnext:uR ((ua3 l j).take (i+1))=uR ((ua3 l j).take i)*10+(c.toNat-48):=by
        have hlen:i<(ua3 l j).length:=by rw[HCL.out,←HTS.out];exact hit
        rw[List.take_succ_eq_append_getElem hlen,ue0];have:(ua3 l j)[i]=c:=by rw[List.getElem?_eq_getElem hlen]at hc;injection hc
        rw[this]
       obtain⟨D,hDD⟩:∃D,uR ((ua3 l j).take i)=D:=⟨_,rfl⟩;rw[hDD]at hval hnext ⊢;have HX:=hid hnext;have HDD:=hid hDD;obtain⟨hc1,hc2⟩:=hcd;clear hnext hDD hc;have hval':D<100000000:=hval;clear hval;go_wp2;go_round
       case rel=>exact⟨i+1,by omega,by go_num,by rw[HX.out];congr 1;omega⟩
       case measure=>simp[intOf];omega
      ·obtain rfl:i=t.size:=by omega
       have hD:uR ((ua3 l j).take t.size)=dg N j:=by
        rw[HTS.out,←HCL.out,List.take_length,uj9 HA.out,HN.out]
       rw[hD];clear hD;have hown1:=AC.Own.bel hown.out HBB.out;have hbw1:=hbw.out.trans (HBB.out.mono hbw.out.size);go_wp2_with (at_builtin;refine ua7 wb rfl _ _ 287 rfl w.heap.size 228 Tryz.underlying287 uak _ j (dg N) (by rfl) hown1 (by rfl) w hbw1 hbw1.size (by omega) rfl ?_)
       intro v1 w1 hown2 hb2;have HO2:=hid hown2;have HB2:=hid hb2;clear hown1 hbw1 hown2 hb2;go_wp2;go_roundw
       case rel=>exact⟨j+1,by omega,by congr 1;have:=HE.out;omega,HO2,HB2⟩
       case measure=>simp[intOf];omega
    ·have hle:((s.size:Int)-9*(j:Int))≤0:=by omega
     have hdz:decide (0<((s.size:Int)-9*(j:Int)))=false:=by simp;omega
     have hfit:N<B^j:=by rw[←HN.out];exact uez HA.out (by rw[HLL.out];omega)
     have hlim:=hown.out.limbs fun i _=>Nat.lt_trans (uai N i) (by decide)
     have HLI:=hid hlim;have HFI:=hid hfit;clear hlim hfit;go_wp2_with fail
     refine(uef _ w.heap.size _ j N HLI.out HFI.out).mono ?_;rintro e w1⟨v1,rfl,hn1,rfl⟩;have HN1:=hid hn1;obtain⟨A1,c1,rfl⟩:=Limbs.len hn1;clear hn1;go_wp2;go_ret2
     exact .inl ⟨_,N,by rw[uio (by rw[HLL.out];exact h0) (by rw[HLL.out];exact h200) HA.out,HN.out],rfl,HN1.out,hbw.out⟩
theorem uvz(l p:List UInt8):(Lib.cut l p).1.length≤l.length:=by unfold Lib.cut;split<;>simp<;>omega
theorem uv0(l p:List UInt8):(Lib.cut l p).2.1.length≤l.length:=by unfold Lib.cut;split<;>simp
theorem uv1(l p:List UInt8):(Lib.trimPrefix l p).length≤l.length:=by unfold Lib.trimPrefix;split<;>simp
def uon(l:List UInt8)(w:World)(e:Ending)(w':World):Prop:=
 (∃v q,ubc l=some q∧e = .returned (.tuple #[v,.bool true])∧RatV w' w.heap.size v 64 q∧Below w.heap.size w w') ∨
 (ubc l=none∧e = .returned (.tuple #[.agg #[.bool false,.slice none 0 0,.slice none 0 0],.bool false])∧Below w.heap.size w w')
theorem ub5{l:List UInt8}{n:Nat}(h:uap l=some n):dl n≤23:=by
 unfold uap at h;split at h
 ·rename_i hc
  injection h with h;subst h;exact ucp (uez hc.2.2 (by omega))
 ·cases h
set_option maxHeartbeats 8000000 in
set_option maxRecDepth 100000 in
theorem ute(w:World)(s:ByteArray)(hs:s.size≤262144)(hg:Gl w):Calls Tryz.prog 265 #[.string s] w (uon s.data.toList w):=by
 obtain⟨l,hl⟩:∃l,s.data.toList=l:=⟨_,rfl⟩;have hll:l.length≤262144:=by rw[←hl];simpa using hs
 obtain⟨tx,htx⟩:∃tx,Lib.trimPrefix l [45]=tx:=⟨_,rfl⟩;obtain⟨neg,hneg⟩:∃neg,Lib.hasPrefix l [45]=neg:=⟨_,rfl⟩;obtain⟨num,den,quo,hcut⟩:∃num den quo,Lib.cut tx [47]=(num,den,quo):=⟨_,_,_,rfl⟩;have h1:tx.length≤262144:=by rw[←htx];have:=uv1 l [45];omega
 have h2:num.length≤262144:=by have:=uvz tx [47];rw[hcut]at this;simp only at this;omega
 have h3:den.length≤262144:=by have:=uv0 tx [47];rw[hcut]at this;simp only at this;omega
 have hq:ubc l=(match uap num with
  | none=>none
  | some n=>if quo then(match uap den with
   | none=>none
   | some d=>if d=0 then none else some (mkRat (if neg then -(n:Int)else n) d))else some (mkRat (if neg then -(n:Int)else n) 1)):=by
  unfold ubc;rw[htx,hneg,hcut];rfl
 have HL:=hid hl;have HQ:=hid hq;have HTX:=hid htx;have HNE:=hid hneg;have HCU:=hid hcut;have HG:=hid hg;rw[hl];clear hl hq htx hneg hcut hg;go_enter Tryz.func265,Tryz.ntmps265
 go_wp2_with fail
 refine(Tryz.strings_CutPrefix _ _ _).mono ?_;rintro e w1⟨rfl,rfl⟩;have e1:Lib.trimPrefix s.data.toList (⟨#[45]⟩:ByteArray).data.toList=tx:=by rw[HL.out];exact HTX.out
 have e2:Lib.hasPrefix s.data.toList (⟨#[45]⟩:ByteArray).data.toList=neg:=by rw[HL.out];exact HNE.out
 rw[e1,e2];clear e1 e2;obtain⟨mx,hmx⟩:=(HG.out.alloc (.cells #[.bool false,.slice none 0 0,.slice none 0 0] 76)).2.2.2.1;have HMX:=hid hmx;clear hmx;go_wp2_with fail
 refine(Tryz.strings_Cut ⟨tx.toArray⟩ _ mx _ (by rw[udq];omega) HMX.out).mono ?_
 rintro e w1⟨rfl,q1,rfl⟩;have e1:Lib.cut (⟨tx.toArray⟩:ByteArray).data.toList (⟨#[47]⟩:ByteArray).data.toList=(num,den,quo):=by simpa using HCU.out
 rw[e1];clear e1;go_wp2_with fail
 have hk0:Bk ((w.alloc (.cells #[.bool false,.slice none 0 0,.slice none 0 0] 76)).drewN q1) w.heap.size 76 #[.bool false,.slice none 0 0,.slice none 0 0]:=(AC.Bk.new w _ _).drewN _;have hB0:Below w.heap.size w ((w.alloc (.cells #[.bool false,.slice none 0 0,.slice none 0 0] 76)).drewN q1):=((Below.refl _ _).alloc (Nat.le_refl _) _).drewN _;have HK0:=hid hk0;have HB0:=hid hB0;clear hk0 hB0;refine(ud7 _ ⟨num.toArray⟩ (by rw[udq];exact h2)).mono ?_
 intro e w2 hpd;have e3:(⟨num.toArray⟩:ByteArray).data.toList=num:=by simp
 rw[e3]at hpd;clear e3;rcases hpd with⟨vn,n,hpn,rfl,hnr,hb2⟩|⟨hpn,rfl,hb2⟩
 ·have hdn:=ub5 hpn
  have HPN:=hid hpn;have hk2:=HK0.out.below hb2 HK0.out.lt;have HB2:=hid (HB0.out.trans (hb2.mono (by simp)))
  have hsz2:w.heap.size+1≤w2.heap.size:=by have:=hb2.size;simpa using this
  have HNR:=hid (show NatR w2 (w.heap.size+1) vn n by simpa using hnr)
  obtain⟨A,c,rfl⟩:=Limbs.len hnr;have HK2:=hid hk2;clear hnr hpn hb2 hk2;cases quo with
  | false=>
   have HK3:=hid (HK2.out.alloc (.cells #[.int .u32 1] 228));have hB3:=HB2.out.alloc HB2.out.size (.cells #[.int .u32 1] 228);have HB3:=hid hB3;have HN3:=hid (HNR.out.alloc (.cells #[.int .u32 1] 228));have HO3:=hid (NatR.oneNew w2 (w.heap.size+1) 228 hsz2);clear hB3;go_wp2_with fail
   refine(uj1 _ (w.heap.size+1) _ neg n 1 (by first|omega|(simp;omega)) ⟨_,_,rfl,HN3.out,HO3.out⟩ (by omega) (by omega) (by rw[uc1];omega)).mono ?_
   rintro e w4⟨v2,rfl,hr4,hb4⟩;have hq4:ubc l=some (mkRat (sg neg n) 1):=by rw[HQ.out,HPN.out];rfl
   have hk4:=HK3.out.below hb4 HK3.out.lt;have HB4:=hid (HB3.out.trans (hb4.mono HB3.out.size));have HV4:=hid (RatR.toV hr4 (K:=64) (Nat.le_trans (upi _ _ 23 (by rw[ubo];exact hdn) (by rw[uc1];omega) (by omega)) (by omega)))
   obtain⟨A4,c4,A5,c5,rfl,_,_⟩:=FracR.form hr4;have c0:=hk4.cell 0;have c1:=hk4.cell 1;have c2:=hk4.cell 2;have f0:=hk4.frozen 0;have f1:=hk4.frozen 1;have f2:=hk4.frozen 2;simp only[gq]at c0 c1 c2;have HK4:=hid hk4;have HQ4:=hid hq4;clear hk4 hb4 hr4 hq4;go_wp2;obtain⟨b4,hb4⟩:∃b4,decide ((mkRat (sg neg n) 1).num<0)=b4:=⟨_,rfl⟩;obtain⟨n4,hn4⟩:∃n4,dl (mkRat (sg neg n) 1).num.natAbs=n4:=⟨_,rfl⟩;obtain⟨d4,hd4⟩:∃d4,dl (mkRat (sg neg n) 1).den=d4:=⟨_,rfl⟩;rw[hb4,hn4,hd4]at HV4 ⊢;have hb5:=((HK4.out.set 0 (.bool b4)).set 1 (.slice A4 n4 c4)).set 2 (.slice A5 d4 c5);have r0:=hb5.cell 0;have r1:=hb5.cell 1;have r2:=hb5.cell 2;refine bodyPost_ret (v:= .tuple #[.agg #[.bool b4,.slice A4 n4 c4,.slice A5 d4 c5],.bool true]) (by simp[results,Tryz.results265,go_sem,r0,r1,r2]) rfl ?_
   refine .inl ⟨_,_,HQ4.out,rfl,?_,uK HB4.out (Nat.le_refl _) _ _ _⟩;obtain⟨ng,kn,kd,fn,fd,xn,xd,hx,l1,l2,l3,l4,l5⟩:=HV4.out;exact⟨ng,kn,kd,fn,fd,xn,xd,hx,(uT l1 (by omega) _ _ _).lower (by omega),(uT l2 (by omega) _ _ _).lower (by omega),l3,l4,l5⟩
  | true=>
   have HK3:=hid (HK2.out.alloc (.cells #[.int .u32 1] 228));have HB3:=hid (HB2.out.alloc HB2.out.size (.cells #[.int .u32 1] 228));have HN3:=hid (HNR.out.alloc (.cells #[.int .u32 1] 228));go_wp2_with fail
   refine(ud7 _ ⟨den.toArray⟩ (by rw[udq];exact h3)).mono ?_
   intro e w3 hpd;have e3:(⟨den.toArray⟩:ByteArray).data.toList=den:=by simp
   rw[e3]at hpd;clear e3;rcases hpd with⟨vd,d,hpd,rfl,hdr,hb3⟩|⟨hpd,rfl,hb3⟩
   ·have hdd:=ub5 hpd
    have HPD:=hid hpd;have HKd:=hid (HK3.out.below hb3 HK3.out.lt);have HBd:=hid (HB3.out.trans (hb3.mono HB3.out.size));have HNd:=hid (HN3.out.below hb3);have HDd:=hid (show NatR w3 (w.heap.size+1) vd d from hdr.lower (by simp;omega))
    have hsz3:w2.heap.size+1≤w3.heap.size:=by have:=hb3.size;simpa using this
    obtain⟨Ad,cd,rfl⟩:=Limbs.len hdr;clear hpd hb3 hdr;by_cases hd0:d=0
    ·subst hd0
     have hno:ubc l=none:=by rw[HQ.out,HPN.out];show(match uap den with|none=>none|some d=>_)=_;rw[HPD.out];rfl
     have hz0:(((dl 0:Nat):Int)==0)=true:=by rw[uab];rfl
     have c0:=HKd.out.cell 0;have c1:=HKd.out.cell 1;have c2:=HKd.out.cell 2;have f0:=HKd.out.frozen 0;have f1:=HKd.out.frozen 1;have f2:=HKd.out.frozen 2;simp only[gq]at c0 c1 c2;have HNO:=hid hno;clear hno;go_wp2;have hb5:=((HKd.out.set 0 (.bool false)).set 1 (.slice none 0 0)).set 2 (.slice none 0 0);have r0:=hb5.cell 0;have r1:=hb5.cell 1;have r2:=hb5.cell 2;refine bodyPost_ret (v:= .tuple #[.agg #[.bool false,.slice none 0 0,.slice none 0 0],.bool false]) (by simp[results,Tryz.results265,go_sem,r0,r1,r2]) rfl ?_
     exact .inr ⟨HNO.out,rfl,uK HBd.out (Nat.le_refl _) _ _ _⟩
    ·have hz0:(((dl d:Nat):Int)==0)=false:=beq_eq_false_iff_ne.2 (by have:=mt uS.1 hd0;omega)
     go_wp2_with fail
     refine(uj1 _ (w.heap.size+1) _ neg n d (by first|omega|(simp;omega)) ⟨_,_,rfl,HNd.out,HDd.out⟩ hd0 (by omega) (by omega)).mono ?_
     rintro e w4⟨v2,rfl,hr4,hb4⟩;have hq4:ubc l=some (mkRat (sg neg n) d):=by rw[HQ.out,HPN.out];show(match uap den with|none=>none|some d=>_)=_;rw[HPD.out];show(if d=0 then none else _)=_;rw[if_neg hd0];rfl
     have hk4:=HKd.out.below hb4 HKd.out.lt;have HB4:=hid (HBd.out.trans (hb4.mono HBd.out.size));have HV4:=hid (RatR.toV hr4 (K:=64) (Nat.le_trans (upi _ _ 23 (by rw[ubo];exact hdn) hdd (by omega)) (by omega)))
     obtain⟨A4,c4,A5,c5,rfl,_,_⟩:=FracR.form hr4;have c0:=hk4.cell 0;have c1:=hk4.cell 1;have c2:=hk4.cell 2;have f0:=hk4.frozen 0;have f1:=hk4.frozen 1;have f2:=hk4.frozen 2;simp only[gq]at c0 c1 c2;have HK4:=hid hk4;have HQ4:=hid hq4;clear hk4 hb4 hr4 hq4;go_wp2;obtain⟨b4,hb4⟩:∃b4,decide ((mkRat (sg neg n) d).num<0)=b4:=⟨_,rfl⟩;obtain⟨n4,hn4⟩:∃n4,dl (mkRat (sg neg n) d).num.natAbs=n4:=⟨_,rfl⟩;obtain⟨d4,hd4⟩:∃d4,dl (mkRat (sg neg n) d).den=d4:=⟨_,rfl⟩;rw[hb4,hn4,hd4]at HV4 ⊢;have hb5:=((HK4.out.set 0 (.bool b4)).set 1 (.slice A4 n4 c4)).set 2 (.slice A5 d4 c5);have r0:=hb5.cell 0;have r1:=hb5.cell 1;have r2:=hb5.cell 2;refine bodyPost_ret (v:= .tuple #[.agg #[.bool b4,.slice A4 n4 c4,.slice A5 d4 c5],.bool true]) (by simp[results,Tryz.results265,go_sem,r0,r1,r2]) rfl ?_
     refine .inl ⟨_,_,HQ4.out,rfl,?_,uK HB4.out (Nat.le_refl _) _ _ _⟩;obtain⟨ng,kn,kd,fn,fd,xn,xd,hx,l1,l2,l3,l4,l5⟩:=HV4.out;exact⟨ng,kn,kd,fn,fd,xn,xd,hx,(uT l1 (by omega) _ _ _).lower (by omega),(uT l2 (by omega) _ _ _).lower (by omega),l3,l4,l5⟩
   ·have hno:ubc l=none:=by rw[HQ.out,HPN.out];show(match uap den with|none=>none|some d=>_)=_;rw[hpd]
    have HKd:=hid (HK3.out.below hb3 HK3.out.lt);have HBd:=hid (HB3.out.trans (hb3.mono HB3.out.size));have c0:=HKd.out.cell 0;have c1:=HKd.out.cell 1;have c2:=HKd.out.cell 2;have f0:=HKd.out.frozen 0;have f1:=HKd.out.frozen 1;have f2:=HKd.out.frozen 2;simp only[gq]at c0 c1 c2;have HNO:=hid hno;clear hno hpd hb3;go_wp2;have hb5:=((HKd.out.set 0 (.bool false)).set 1 (.slice none 0 0)).set 2 (.slice none 0 0);have r0:=hb5.cell 0;have r1:=hb5.cell 1;have r2:=hb5.cell 2;refine bodyPost_ret (v:= .tuple #[.agg #[.bool false,.slice none 0 0,.slice none 0 0],.bool false]) (by simp[results,Tryz.results265,go_sem,r0,r1,r2]) rfl ?_
    exact .inr ⟨HNO.out,rfl,uK HBd.out (Nat.le_refl _) _ _ _⟩
 ·have hno:ubc l=none:=by rw[HQ.out,hpn]
  have hk2:=HK0.out.below hb2 HK0.out.lt;have c0:=hk2.cell 0;have c1:=hk2.cell 1;have c2:=hk2.cell 2;have f0:=hk2.frozen 0;have f1:=hk2.frozen 1;have f2:=hk2.frozen 2;simp only[gq]at c0 c1 c2;have HK2:=hid hk2;have HB2:=hid (HB0.out.trans (hb2.mono (by simp)))
  have HNO:=hid hno;clear hk2 hb2 hno hpn;go_wp2;have hb3:=((HK2.out.set 0 (.bool false)).set 1 (.slice none 0 0)).set 2 (.slice none 0 0);have r0:=hb3.cell 0;have r1:=hb3.cell 1;have r2:=hb3.cell 2;refine bodyPost_ret (v:= .tuple #[.agg #[.bool false,.slice none 0 0,.slice none 0 0],.bool false]) (by simp[results,Tryz.results265,go_sem,r0,r1,r2]) rfl ?_
  exact .inr ⟨HNO.out,rfl,uK HB2.out (Nat.le_refl _) _ _ _⟩
theorem uos{l:List UInt8}{q:Rat}(h:ubc l=some q):udb l=(ues q==l):=by unfold udb;rw[h]
theorem ukv{l:List UInt8}(h:ubc l=none):udb l=false:=by unfold udb;rw[h]
theorem uti{w w3:World}{br:Nat}{str:ByteArray}{o o2:Option (List UInt8)}(hok:udb (ubm o)=false)(hst:Rst w3 br str o2)(hf:Fr (· = br) w w3)(hbr:br<w.heap.size) :
 RPost .rat br str o w (.returned (.agg #[.bool false,.slice none 0 0,.slice none 0 0])) ((((w3.setCell ⟨br,2,none⟩ (.bool true)).setCell ⟨w.heap.size,0,none⟩ (.bool false)).setCell ⟨w.heap.size,1,none⟩ (.slice none 0 0)).setCell ⟨w.heap.size,2,none⟩ (.slice none 0 0)):=by
 have hno:rd .rat 0 o=none:=uc3 ucd hok;have hfw:Fr (· = w.heap.size) (w3.setCell ⟨br,2,none⟩ (.bool true)) ((((w3.setCell ⟨br,2,none⟩ (.bool true)).setCell ⟨w.heap.size,0,none⟩ (.bool false)).setCell ⟨w.heap.size,1,none⟩ (.slice none 0 0)).setCell ⟨w.heap.size,2,none⟩ (.slice none 0 0)):=(((Fr.refl _ _).wr _ _).wr _ _).wr _ _
 refine⟨[.bool false,.slice none 0 0,.slice none 0 0],rfl,⟨_,_,_,_,_,_,_,rfl⟩,?_,(hf.wr _ _).then hfw (fun x hx=> .inr (by have hx':x=w.heap.size:=hx;omega)),fun r r' ho hr'=>?_⟩
 ·rw[hno];exact hst.spoil.fr hfw (fun h=>by have h':br=w.heap.size:=h;omega) (fun k hk h=>by have h':k=w.heap.size:=h;have:=hst.gl.2;omega)
 ·rw[hno]at hr';cases hr'
theorem RPost.alloc{s:Shape}{br:Nat}{str:ByteArray}{o:Option (List UInt8)}{w w':World}{e:Ending}(h:RPost s br str o w e w')(x:Obj):RPost s br str o w e (w'.alloc x):=by
 obtain⟨v,h1,h2,h3,h4,h5⟩:=h;refine⟨v,h1,h2,h3.alloc x,h4.alloc x,fun r r' hr hr'=>?_⟩
 obtain⟨t,h6,h7⟩:=h5 r r' hr hr';exact⟨t,h6,h7.below ((Below.refl _ _).alloc (Nat.le_refl _) x)⟩
set_option maxHeartbeats 4000000 in
theorem uco(L:Nat):Reads 194 .rat L:=by
 intro w br str o hr hl;have HR:=hid hr;have hbr:=hr.lt;have hsz:=uie hr;clear hr hl;obtain⟨l,hl⟩:∃l,ubm o=l:=⟨_,rfl⟩;rw[hl]at hsz;have HL:=hid hl;clear hl;go_enter Tryz.func194,Tryz.ntmps194
 go_wp2_with fail
 refine(ui7 _ br str o (HR.out.alloc _)).mono ?_;rintro e w1⟨rfl,hst,hf⟩;rw[HL.out];have hk1:=(AC.Bk.new w 76 #[.bool false,.slice none 0 0,.slice none 0 0]).fr hf (by show ¬w.heap.size=br;omega)
 have HST:=hid hst;have HF:=hid (((Fr.refl (· = br) w).alloc (.cells #[.bool false,.slice none 0 0,.slice none 0 0] 76)).trans hf)
 have HG:=hid hst.gl.1;have HK1:=hid hk1;clear hst hf hk1;go_wp2_with fail
 refine(ute _ _ (by rw[udq];exact hsz) HG.out).mono ?_
 intro e w2 hp;have e3:(⟨l.toArray⟩:ByteArray).data.toList=l:=by simp
 rw[e3]at hp;clear e3;rcases hp with⟨v,q,hq,rfl,hv,hb⟩|⟨hq,rfl,hb⟩
 ·have HOK:=hid (uos hq)
  have HST2:=hid (HST.out.below hb);have HF2:=hid (HF.out.below hb);have HG2:=hid (HG.out.below hb);have HV:=hid hv;have HK2:=hid (HK1.out.below hb HK1.out.lt);have hsz1:=HK1.out.lt;have hsz2:w1.heap.size≤w2.heap.size:=hb.size;obtain⟨zb,zA,zk,zc,zD,zl,zd,rfl⟩:=hv.shape;clear hq hv hb;go_wp2_with fail
  refine(uif _ w1.heap.size _ q (HV.out.below ((Below.refl _ _).alloc (Nat.le_refl _) _)) (HG2.out.alloc _)).mono ?_;rintro e w3⟨rfl,hb⟩;have hbA:=((Below.refl w2.heap.size w2).alloc (Nat.le_refl _) (.cells #[.bool zb,.slice zA zk zc,.slice zD zl zd] 76)).trans (hb.mono (by simp))
  have hkn:=(AC.Bk.new w2 76 #[.bool zb,.slice zA zk zc,.slice zD zl zd]).below hb (by simp)
  have HST3:=hid (HST2.out.below hbA);have HF3:=hid (HF2.out.below hbA);have HV3:=hid (HV.out.below hbA);have HK3:=hid (HK2.out.below hbA HK2.out.lt);have n0:=hkn.cell 0;have n1:=hkn.cell 1;have n2:=hkn.cell 2;have c2:=HST3.out.cell;have f2:=HST3.out.frozen 2;have k0:=HK3.out.cell 0;have k1:=HK3.out.cell 1;have k2:=HK3.out.cell 2;have g0:=HK3.out.frozen 0;have g1:=HK3.out.frozen 1;have g2:=HK3.out.frozen 2;simp only[gq]at n0 n1 n2 k0 k1 k2;clear hb hbA hkn;by_cases hq:ues q=l
  ·have e0:(ues q==l)=true:=by simpa using hq
   have e1:(ues q != l)=false:=by simp[hq]
   have HQ:=hid hq;clear hq;go_wp2;have hb3:=((HK3.out.set 0 (.bool zb)).set 1 (.slice zA zk zc)).set 2 (.slice zD zl zd);have r0:=hb3.cell 0;have r1:=hb3.cell 1;have r2:=hb3.cell 2;refine bodyPost_ret (v:= .agg #[.bool zb,.slice zA zk zc,.slice zD zl zd]) (by simp[results,Tryz.results194,go_sem,r0,r1,r2]) rfl ?_
   have hok:udb (ubm o)=true:=by rw[HL.out,HOK.out];exact e0
   have hfw:Fr (· = w.heap.size) w3 (((w3.setCell ⟨w.heap.size,0,none⟩ (.bool zb)).setCell ⟨w.heap.size,1,none⟩ (.slice zA zk zc)).setCell ⟨w.heap.size,2,none⟩ (.slice zD zl zd)):=(((Fr.refl _ _).wr _ _).wr _ _).wr _ _
   refine⟨[.bool zb,.slice zA zk zc,.slice zD zl zd],rfl,⟨_,_,_,_,_,_,_,rfl⟩,?_,HF3.out.then hfw (fun x hx=> .inr (by have hx':x=w.heap.size:=hx;omega)),fun r r' ho hr'=>?_⟩
   ·show Rst _ _ _ (ubh udb o);rw[ua4 ucd hok];exact HST3.out.fr hfw (fun h=>by have h':br=w.heap.size:=h;omega) (fun k hk h=>by have h':k=w.heap.size:=h;have:=HST3.out.gl.2;omega)
   ·have hr2:ubh udb o=some r':=hr'
    rw[ua4 ucd hok]at hr2;refine⟨_,ucl (ok:=udb) ho hr2,q,?_,by rw[HL.out,HQ.out]⟩
    obtain⟨ng,kn,kd,fn,fd,xn,xd,hx,l1,l2,l3,l4,l5⟩:=HV3.out;refine RatV.inD (lo:=w1.heap.size) ⟨ng,kn,kd,fn,fd,xn,xd,hx,uT l1 (by omega) _ _ _,uT l2 (by omega) _ _ _,l3,l4,l5⟩ (fun b hb _=>?_)
    show w.heap.size≤b
    omega
  ·have e0:(ues q==l)=false:=by simpa using hq
   have e1:(ues q != l)=true:=by simp[hq]
   clear hq;go_wp2;have hfb:Fr (· = br) w3 (w3.setCell ⟨br,2,none⟩ (.bool true)):=(Fr.refl _ _).wr _ _
   have hb3:=(((HK3.out.fr hfb (fun h=>by have h':w.heap.size=br:=h;omega)).set 0 (.bool false)).set 1 (.slice none 0 0)).set 2 (.slice none 0 0)
   have r0:=hb3.cell 0;have r1:=hb3.cell 1;have r2:=hb3.cell 2;refine bodyPost_ret (v:= .agg #[.bool false,.slice none 0 0,.slice none 0 0]) (by simp[results,Tryz.results194,go_sem,r0,r1,r2]) rfl ?_
   have hok:udb (ubm o)=false:=by rw[HL.out,HOK.out];exact e0
   exact uti hok HST3.out HF3.out hbr
 ·have hok:udb (ubm o)=false:=by rw[HL.out];exact ukv hq
  have HOK:=hid hok;have HST2:=hid (HST.out.below hb);have HF2:=hid (HF.out.below hb);have HK2:=hid (HK1.out.below hb HK1.out.lt);have c2:=HST2.out.cell;have f2:=HST2.out.frozen 2;have k0:=HK2.out.cell 0;have k1:=HK2.out.cell 1;have k2:=HK2.out.cell 2;have g0:=HK2.out.frozen 0;have g1:=HK2.out.frozen 1;have g2:=HK2.out.frozen 2;simp only[gq]at k0 k1 k2;have hsz1:w.heap.size+1≤w1.heap.size:=HK1.out.lt;have hsz2:w1.heap.size≤w2.heap.size:=hb.size;have hbr2:br<w2.heap.size:=by omega
  have hlt2:w.heap.size<w2.heap.size:=by omega
  clear hq hok hb;go_wp2;have hfb:Fr (· = br) w2 (w2.setCell ⟨br,2,none⟩ (.bool true)):=(Fr.refl _ _).wr _ _
  have hb3:=((((HK2.out.fr hfb (fun h=>by have h':w.heap.size=br:=h;omega)).set 0 (.bool false)).set 1 (.slice none 0 0)).set 2 (.slice none 0 0)).alloc (.cells #[.bool false,.slice none 0 0,.slice none 0 0] 76)
  have r0:=hb3.cell 0;have r1:=hb3.cell 1;have r2:=hb3.cell 2;refine bodyPost_ret (v:= .agg #[.bool false,.slice none 0 0,.slice none 0 0]) (by simp[results,Tryz.results194,go_sem,r0,r1,r2]) rfl ?_
  exact(uti HOK.out HST2.out HF2.out hbr).alloc _
theorem uot(n:Int)(h0 : -9223372036854775808≤n)(h1:n≤9223372036854775807):(Lib.itoa n).length≤1000:=by
 have key:∀m:Nat,m≤9223372036854775808→(Lib.decDigits m).length≤100:=fun m hm=>by
  have h:=udi m;have h2:dl m≤3:=ucp (Nat.lt_of_le_of_lt hm (by decide))
  omega
 unfold Lib.itoa;split
 ·have:=key n.natAbs (by omega);simp;omega
 ·have:=key n.toNat (by omega);omega
set_option maxHeartbeats 2000000 in
theorem uE:uk 158 .int:=by
 intro w bw o v t h hrep;obtain⟨n,rfl,h0,h1,ht⟩:=hrep;injection ht with ht _;subst ht;rw[uo];have hbw:=h.lt;have hlen:=uot n h0 h1;have HW:=hid h;have HG:=hid h.2.1;clear h;go_enter Tryz.func158,Tryz.ntmps158
 go_wp2_with fail
 refine(uvf _ n h0 h1 HG.out).mono ?_;rintro e w1⟨rfl,hb⟩;have HW1:=hid (HW.out.below hb);have HF1:=hid ((Wfr.refl bw w).below hb (by omega))
 clear hb;go_wp2_with fail
 refine(uaf _ bw o ⟨(Lib.itoa n).toArray⟩ HW1.out (by rw[udq];omega)).mono ?_
 rintro e w2⟨rfl,hw2,hf2⟩;go_wp2;go_end0
 exact⟨rfl,by simpa using hw2,HF1.out.trans hf2⟩
set_option maxHeartbeats 2000000 in
theorem udn:uk 224 .int:=by
 intro w bw o v t h hrep;obtain⟨n,rfl,h0,h1,ht⟩:=hrep;injection ht with ht _;subst ht;rw[uo];have hbw:=h.lt;have hlen:=uot n h0 h1;have HW:=hid h;have HG:=hid h.2.1;clear h;go_enter Tryz.func224,Tryz.ntmps224
 go_wp2_with fail
 refine(ufi _ n h0 h1 HG.out).mono ?_;rintro e w1⟨rfl,hb⟩;have HW1:=hid (HW.out.below hb);have HF1:=hid ((Wfr.refl bw w).below hb (by omega))
 clear hb;go_wp2_with fail
 refine(uaf _ bw o ⟨(Lib.itoa n).toArray⟩ HW1.out (by rw[udq];omega)).mono ?_
 rintro e w2⟨rfl,hw2,hf2⟩;go_wp2;go_end0
 exact⟨rfl,by simpa using hw2,HF1.out.trans hf2⟩
set_option maxHeartbeats 2000000 in
theorem ueq:uk 73 .bool:=by
 intro w bw o v t h hrep;obtain⟨b,rfl,ht⟩:=hrep;injection ht with ht _;subst ht;rw[ub9];have HW:=hid h;clear h;cases b with
 | true=>
  go_enter Tryz.func73,Tryz.ntmps73
  go_wp2_with fail
  refine(uaf _ bw o ⟨#[49]⟩ HW.out (by decide)).mono ?_
  rintro e w2⟨rfl,hw2,hf2⟩;go_wp2;go_end0
  exact⟨rfl,hw2,hf2⟩
 | false=>
  go_enter Tryz.func73,Tryz.ntmps73
  go_wp2_with fail
  refine(uaf _ bw o ⟨#[48]⟩ HW.out (by decide)).mono ?_
  rintro e w2⟨rfl,hw2,hf2⟩;go_wp2;go_end0
  exact⟨rfl,hw2,hf2⟩
theorem uqe{w:World}{lo:Nat}{v:Value}{q:Rat}(h:RatV w lo v 64 q):(ues q).length≤10000:=by
 have hs:=h.size;have h1:dl q.num.natAbs≤65:=Nat.le_trans (Nat.le_max_left _ _) hs;have h2:dl q.den≤65:=Nat.le_trans (Nat.le_max_right _ _) hs;have h3:=udi q.num.natAbs;have h4:=udi q.den;unfold ues;split<;>split<;>simp<;>omega
set_option maxHeartbeats 2000000 in
theorem ubx:uk 235 .rat:=by
 intro w bw o v t h hrep;obtain⟨zb,zA,zk,zc,zD,zl,zd,rfl⟩:=uay hrep.ty;obtain⟨q,hq,ht⟩:=hrep;injection ht with ht _;subst ht;rw[uaz];have hbw:=h.lt;have hv:=hq.ratV;have hlen:=uqe hv;have HV:=hid hv;have HW:=hid h;have HG:=hid h.2.1;clear h hq hv;go_enter Tryz.func235,Tryz.ntmps235
 go_wp2_with fail
 refine(uif _ 0 _ q (HV.out.below ((Below.refl _ _).alloc (Nat.le_refl _) _)) (HG.out.alloc _)).mono ?_;rintro e w1⟨rfl,hb⟩;have hb1:=((Below.refl w.heap.size w).alloc (Nat.le_refl _) (.cells #[.bool zb,.slice zA zk zc,.slice zD zl zd] 76)).trans (hb.mono (by simp))
 have HW1:=hid (HW.out.below hb1);have HF1:=hid ((Wfr.refl bw w).below hb1 (by omega))
 clear hb hb1;go_wp2_with fail
 refine(uaf _ bw o ⟨(ues q).toArray⟩ HW1.out (by rw[udq];omega)).mono ?_
 rintro e w2⟨rfl,hw2,hf2⟩;go_wp2;go_end0
 exact⟨rfl,by simpa using hw2,HF1.out.trans hf2⟩
end Go.Proofs.YtellcholbkoakaaGreatDoor
