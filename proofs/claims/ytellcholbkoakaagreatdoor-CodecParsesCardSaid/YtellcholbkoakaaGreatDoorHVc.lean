/-
 The reference's digits.
-/
import Derived.Test.YtellcholbkoakaaGreatDoorHCPd
import Derived.Test.YtellcholbkoakaaGreatDoorHRefE
import Derived.Test.YtellcholbkoakaaGreatDoorHRTa
import Derived.Handy
namespace Go.Proofs.YtellcholbkoakaaGreatDoor
open Go.Lib (hid)
open Go.RowKit AC
set_option linter.unusedVariables false
set_option linter.unusedSimpArgs false
def DigFrom(l:List UInt8)(e:Nat):Prop:=∀j c,e≤j→l[j]? = some c→48≤c.toNat∧c.toNat≤57
theorem DigFrom.all{l:List UInt8}(h:DigFrom l 0):allDig l=true:=DigTo.all (fun j c _ hc=>h j c (by omega) hc)
theorem DigFrom.no{l:List UInt8}{i:Nat}{c:UInt8}(h:l[i]? = some c)(hd:¬(48≤c.toNat∧c.toNat≤57)):allDig l=false:=by
 cases ha:allDig l with
 | false=>rfl
 | true=>exact absurd (allDig_at ha h) hd
theorem chunk_at{l:List UInt8}{j i e:Nat}(he:l.length-9*j=e)(hi:i<e-(e-9)):(chunk l j)[i]? = l[e-9+i]? :=by
 unfold chunk;rw[he,List.getElem?_drop,List.getElem?_take,if_pos (by omega)]
theorem chunk_len{l:List UInt8}{j e:Nat}(he:l.length-9*j=e):(chunk l j).length=e-(e-9):=by
 unfold chunk;rw[he];simp;omega
set_option maxHeartbeats 8000000 in
set_option maxRecDepth 100000 in
theorem rDigits_any(w:World)(s:ByteArray)(hs:s.size≤262144):Calls Tryz.prog 212 #[.string s] w (PDPost s.data.toList w):=by
 obtain⟨l,hl⟩:∃l,s.data.toList=l:=⟨_,rfl⟩;have hll:l.length=s.size:=by rw[←hl];simp
 have HL:=hid hl;have HLL:=hid hll;rw[hl];clear hl hll;rcases Classical.em (0<s.size∧s.size≤200)with h|h
 rotate_left
 ·have hn:parseN l=none:=parseN_len (by rw[HLL.out];exact h)
  have HN:=hid hn;clear hn;by_cases h0:s.size=0
  ·have e1:decide ((s.size:Int)<1)=true:=by simp;omega
   have HZ:=hid h0;clear h h0;go_enter Tryz.func212,Tryz.ntmps212
   go_wp2;go_ret2
   exact .no HN.out (Below.refl _ _)
  ·have e1:decide ((s.size:Int)<1)=false:=by simp;omega
   have e2:decide ((200:Int)<(s.size:Int))=true:=by simp;omega
   clear h h0;go_enter Tryz.func212,Tryz.ntmps212
   go_wp2;go_ret2
   exact .no HN.out (Below.refl _ _)
 obtain⟨h0,a3⟩:=h;have e1:decide ((s.size:Int)<1)=false:=by simp;omega
 have e2:decide ((200:Int)<(s.size:Int))=false:=by simp;omega
 obtain⟨g,hg⟩:∃g:Nat→Nat,∀q,g q=digVal (chunk l q):=⟨_,fun _=>rfl⟩
 have HGG:=hid hg;clear hg;go_enter Tryz.func212,Tryz.ntmps212
 go_wp2;go_loopw [4,5] (fun ov ev wr=>∃j:Nat,9*j≤s.size+8∧ev = .int .i64 ((s.size:Int)-9*(j:Int))∧Hid (DigFrom l (s.size-9*j))∧Hid (Own wr w.heap.size 228 ov j g)∧Hid (Below w.heap.size w wr)) (fun _ ev _=>(intOf ev).toNat)
 case atStart=>exact⟨0,by omega,by simp,(fun i c hi hc=>by have:=(List.getElem?_eq_some_iff.1 hc).1;have:=HLL.out;omega),World.ownsRow_nil _ _ _ _,Below.refl _ _⟩
 case round=>
  obtain⟨j,hj,rfl,hD,hown,hbw⟩:=hrel;by_cases hpos:9*j<s.size
  ·obtain⟨e,he⟩:∃e:Nat,s.size-9*j=e:=⟨_,rfl⟩
   obtain⟨a,ha⟩:∃a:Nat,e-9=a:=⟨_,rfl⟩;have hee:((s.size:Int)-9*(j:Int))=(e:Int):=by omega
   rw[hee];have hae:a≤e:=by omega
   have hes:e≤s.size:=by omega
   have he0:0<e:=by omega
   have he9:e≤a+9:=by omega
   have hmax:max (0:Int) ((e:Int)-9)=(a:Int):=by omega
   have HE:=hid he;have HA:=hid ha;have HEE:=hid hee;have hlj:l.length-9*j=e:=by rw[HLL.out];exact he
   have HLJ:=hid hlj;clear he ha hee hlj;go_wp2;try rw[hmax]
   go_loop [6,7] (fun vv iv=>∃i:Nat,i≤e-a∧iv = .int .i64 ((a+i:Nat):Int)∧vv = .int .u32 ((digVal ((chunk l j).take i):Nat):Int)∧Hid (allDig ((chunk l j).take i)=true)) (fun _ iv=>e-(intOf iv).toNat)
   case atStart=>exact⟨0,by omega,by simp,by simp[digVal],by show allDig _=true;simp[allDig]⟩
   case round=>
    obtain⟨i,hi,rfl,rfl,hall⟩:=hrel;by_cases hit:i<e-a
    ·have hlt:a+i<s.size:=by omega
     obtain⟨c,hc⟩:∃c:UInt8,s[a+i]'hlt=c:=⟨_,rfl⟩;have hcl:l[a+i]? = some c:=by rw[←HL.out,←hc];exact Lib.data_getElem? s (a+i) hlt
     have hck:(chunk l j)[i]? = some c:=by rw[chunk_at HLJ.out (by rw[HA.out];exact hit),HA.out];exact hcl
     by_cases hd:48≤c.toNat∧c.toNat≤57
     ·have hlen:i<(chunk l j).length:=by rw[chunk_len HLJ.out,HA.out];exact hit
      have hval:digVal ((chunk l j).take i)<10^8:=by
       have h1:=digVal_lt hall.out;have h2:((chunk l j).take i).length≤8:=by rw[List.length_take];omega
       exact Nat.lt_of_lt_of_le h1 (Nat.pow_le_pow_right (by decide) h2)
      have hgi:(chunk l j)[i]=c:=by rw[List.getElem?_eq_getElem hlen]at hck;injection hck
      have hnext:digVal ((chunk l j).take (i+1))=digVal ((chunk l j).take i)*10+(c.toNat-48):=by
       rw[List.take_succ_eq_append_getElem hlen,digVal_snoc,hgi]
      have a0:allDig ((chunk l j).take (i+1))=true:=by
       have h9:=hall.out;rw[List.take_succ_eq_append_getElem hlen,hgi];unfold allDig at *;rw[List.all_append,h9];simp[hd.1,hd.2]
      obtain⟨D,hDD⟩:∃D,digVal ((chunk l j).take i)=D:=⟨_,rfl⟩;rw[hDD]at hval hnext ⊢;have HX:=hid hnext;have HY:=hid a0;have hval':D<100000000:=hval;obtain⟨d1,d2⟩:=hd;have f1:decide ((c.toNat:Int)<48)=false:=by simp;omega
      have f2:decide ((57:Int)<(c.toNat:Int))=false:=by simp;omega
      clear hall hnext a0 hDD hval hgi hlen hcl hck;go_wp2;go_round
      case rel=>exact⟨i+1,by omega,by go_num,by rw[HX.out];congr 1;omega,HY⟩
      case measure=>simp[intOf];omega
     ·have hno:parseN l=none:=parseN_dig (DigFrom.no hcl hd)
      have HNO:=hid hno;clear hno;by_cases hd1:c.toNat<48
      ·have f1:decide ((c.toNat:Int)<48)=true:=by simp;omega
       clear hd hcl hck;go_wp2;go_ret2
       exact .no HNO.out hbw.out
      ·have f1:decide ((c.toNat:Int)<48)=false:=by simp;omega
       have f2:decide ((57:Int)<(c.toNat:Int))=true:=by simp;omega
       clear hd hcl hck;go_wp2;go_ret2
       exact .no HNO.out hbw.out
    ·obtain rfl:i=e-a:=by omega
     have hlen:(chunk l j).length=e-a:=by rw[chunk_len HLJ.out,HA.out]
     have hca:allDig (chunk l j)=true:=by have:=hall.out;rwa [←hlen,List.take_length]at this
     have hD2:digVal ((chunk l j).take (e-a))=g j:=by rw[←hlen,List.take_length,HGG.out]
     rw[hD2];have HD2:Hid (DigFrom l (s.size-9*(j+1))):=by
      intro q c hq hc;by_cases h1:e≤q
      ·exact hD.out q c (by rw[HE.out];exact h1) hc
      ·have hqa:a≤q:=by have:=HE.out;have:=HA.out;omega
       exact allDig_at hca (i:=q-a) (by rw[chunk_at HLJ.out (by rw[HA.out];omega),HA.out,show a+(q-a)=q by omega];exact hc)
     have HCA:=hid hca;clear hall hlen hca hD2;go_wp2_with (at_builtin;refine wpList_push wr rfl _ _ 74 rfl w.heap.size 228 Tryz.underlying74 info_u32 _ j g (by rfl) hown.out (by rfl) w hbw.out hbw.out.size (by omega) rfl ?_)
     intro v1 w1 a1 hb2;have HO2:=hid a1;have HB2:=hid hb2;clear a1 hb2;go_wp2;go_roundw
     case rel=>exact⟨j+1,by omega,by congr 1;have:=HEE.out;omega,HD2,HO2,HB2⟩
     case measure=>simp[intOf];omega
  ·have hle:((s.size:Int)-9*(j:Int))≤0:=by omega
   have hdz:decide (0<((s.size:Int)-9*(j:Int)))=false:=by simp;omega
   have hall:allDig l=true:=DigFrom.all (by have:=hD.out;rwa [show s.size-9*j=0 by omega]at this)
   have HA:=hid hall;obtain⟨N,hN⟩:∃N,digVal l=N:=⟨_,rfl⟩;have hfit:N<B^j:=by rw[←hN];exact digVal_fits hall (by rw[HLL.out];omega)
   have a2:Own wr w.heap.size 228 _ j (dg N):=hown.out.congr fun q hq=>by rw[HGG.out,chunk_val hall,hN]
   have HN:=hid hN;have hlim:=a2.limbs fun i _=>Nat.lt_trans (dg_lt N i) (by decide)
   have HLI:=hid hlim;have HFI:=hid hfit;clear hall hD hfit hN a2 hlim;go_wp2_with fail
   refine(cut_any _ w.heap.size _ j N HLI.out HFI.out (by omega)).mono ?_
   rintro e w1⟨v1,rfl,hn1,hb1⟩;have HN1:=hid (hn1.lower hbw.out.size);have HB1:=hid (hbw.out.trans (hb1.mono hbw.out.size));obtain⟨A1,c1,rfl⟩:=Limbs.len hn1;clear hn1 hb1;go_wp2;go_ret2
   exact .inl ⟨_,N,by rw[parseN_yes (by rw[HLL.out];exact h0) (by rw[HLL.out];exact a3) HA.out,HN.out],rfl,HN1.out,HB1.out⟩
end Go.Proofs.YtellcholbkoakaaGreatDoor
