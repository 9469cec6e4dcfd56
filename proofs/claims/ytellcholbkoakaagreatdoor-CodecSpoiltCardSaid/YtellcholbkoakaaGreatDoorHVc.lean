/-
 The reference's digits.
-/
import Derived.Test.YtellcholbkoakaaGreatDoorHCPd
import Derived.Test.YtellcholbkoakaaGreatDoorHRefE
import Derived.Test.YtellcholbkoakaaGreatDoorHRTa
import Derived.Handy
namespace Go.Proofs.YtellcholbkoakaaGreatDoor
open Go.Lib (hid)
open Go.RowKit AC
set_option linter.unusedVariables false
set_option linter.unusedSimpArgs false
def DigFrom(l:List UInt8)(e:Nat):Prop:=∀j c,e≤j→l[j]? = some c→48≤c.toNat∧c.toNat≤57
theorem DigFrom.all{l:List UInt8}(h:DigFrom l 0):uaa l=true:=DigTo.all (fun j c _ hc=>h j c (by omega) hc)
theorem DigFrom.no{l:List UInt8}{i:Nat}{c:UInt8}(h:l[i]? = some c)(hd:¬(48≤c.toNat∧c.toNat≤57)):uaa l=false:=by
 cases ha:uaa l with
 | false=>rfl
 | true=>exact absurd (ucj ha h) hd
theorem uoo{l:List UInt8}{j i e:Nat}(he:l.length-9*j=e)(hi:i<e-(e-9)):(ua3 l j)[i]? = l[e-9+i]? :=by
 unfold ua3;rw[he,List.getElem?_drop,List.getElem?_take,if_pos (by omega)]
theorem chunk_len{l:List UInt8}{j e:Nat}(he:l.length-9*j=e):(ua3 l j).length=e-(e-9):=by
 unfold ua3;rw[he];simp;omega
set_option maxHeartbeats 8000000 in
set_option maxRecDepth 100000 in
theorem ue4(w:World)(s:ByteArray)(hs:s.size≤262144):Calls Tryz.prog 212 #[.string s] w (PDPost s.data.toList w):=by
 obtain⟨l,hl⟩:∃l,s.data.toList=l:=⟨_,rfl⟩;have c5:l.length=s.size:=by rw[←hl];simp
 have HL:=hid hl;have a3:=hid c5;rw[hl];clear hl c5;rcases Classical.em (0<s.size∧s.size≤200)with h|h
 rotate_left
 ·have hn:uap l=none:=uim (by rw[a3.out];exact h)
  have HN:=hid hn;clear hn;by_cases h0:s.size=0
  ·have e1:decide ((s.size:Int)<1)=true:=by simp;omega
   have HZ:=hid h0;clear h h0;go_enter Tryz.func212,Tryz.ntmps212
   go_wp2;go_ret2
   exact .no HN.out (Below.refl _ _)
  ·have e1:decide ((s.size:Int)<1)=false:=by simp;omega
   have e2:decide ((200:Int)<(s.size:Int))=true:=by simp;omega
   clear h h0;go_enter Tryz.func212,Tryz.ntmps212
   go_wp2;go_ret2
   exact .no HN.out (Below.refl _ _)
 obtain⟨h0,e0⟩:=h;have e1:decide ((s.size:Int)<1)=false:=by simp;omega
 have e2:decide ((200:Int)<(s.size:Int))=false:=by simp;omega
 obtain⟨g,hg⟩:∃g:Nat→Nat,∀q,g q=uR (ua3 l q):=⟨_,fun _=>rfl⟩
 have b3:=hid hg;clear hg;go_enter Tryz.func212,Tryz.ntmps212
 go_wp2;go_loopw [4,5] (fun ov ev wr=>∃j:Nat,9*j≤s.size+8∧ev = .int .i64 ((s.size:Int)-9*(j:Int))∧Hid (DigFrom l (s.size-9*j))∧Hid (Own wr w.heap.size 228 ov j g)∧Hid (Below w.heap.size w wr)) (fun _ ev _=>(intOf ev).toNat)
 case atStart=>exact⟨0,by omega,by simp,(fun i c hi hc=>by have:=(List.getElem?_eq_some_iff.1 hc).1;have:=a3.out;omega),World.ownsRow_nil _ _ _ _,Below.refl _ _⟩
 case round=>
  obtain⟨j,hj,rfl,hD,c7,a2⟩:=hrel;by_cases f4:9*j<s.size
  ·obtain⟨e,he⟩:∃e:Nat,s.size-9*j=e:=⟨_,rfl⟩
   obtain⟨a,ha⟩:∃a:Nat,e-9=a:=⟨_,rfl⟩;have a8:((s.size:Int)-9*(j:Int))=(e:Int):=by omega
   rw[a8];have e5:a≤e:=by omega
   have f0:e≤s.size:=by omega
   have e8:0<e:=by omega
   have e9:e≤a+9:=by omega
   have e3:max (0:Int) ((e:Int)-9)=(a:Int):=by omega
   have HE:=hid he;have HA:=hid ha;have d5:=hid a8;have c4:l.length-9*j=e:=by rw[a3.out];exact he
   have a6:=hid c4;clear he ha a8 c4;go_wp2;try rw[e3]
   go_loop [6,7] (fun vv iv=>∃i:Nat,i≤e-a∧iv = .int .i64 ((a+i:Nat):Int)∧vv = .int .u32 ((uR ((ua3 l j).take i):Nat):Int)∧Hid (uaa ((ua3 l j).take i)=true)) (fun _ iv=>e-(intOf iv).toNat)
   case atStart=>exact⟨0,by omega,by simp,by simp[uR],by show uaa _=true;simp[uaa]⟩
   case round=>
    obtain⟨i,hi,rfl,rfl,a0⟩:=hrel;by_cases c2:i<e-a
    ·have hlt:a+i<s.size:=by omega
     obtain⟨c,hc⟩:∃c:UInt8,s[a+i]'hlt=c:=⟨_,rfl⟩;have a5:l[a+i]? = some c:=by rw[←HL.out,←hc];exact Lib.data_getElem? s (a+i) hlt
     have a4:(ua3 l j)[i]? = some c:=by rw[uoo a6.out (by rw[HA.out];exact c2),HA.out];exact a5
     by_cases hd:48≤c.toNat∧c.toNat≤57
     ·have a1:i<(ua3 l j).length:=by rw[chunk_len a6.out,HA.out];exact c2
      have b2:uR ((ua3 l j).take i)<10^8:=by
       have h1:=ub3 a0.out;have h2:((ua3 l j).take i).length≤8:=by rw[List.length_take];omega
       exact Nat.lt_of_lt_of_le h1 (Nat.pow_le_pow_right (by decide) h2)
      have a9:(ua3 l j)[i]=c:=by rw[List.getElem?_eq_getElem a1]at a4;injection a4
      have b1:uR ((ua3 l j).take (i+1))=uR ((ua3 l j).take i)*10+(c.toNat-48):=by
       rw[List.take_succ_eq_append_getElem a1,ue0,a9]
      have b7:uaa ((ua3 l j).take (i+1))=true:=by
       have h9:=a0.out;rw[List.take_succ_eq_append_getElem a1,a9];unfold uaa at *;rw[List.all_append,h9];simp[hd.1,hd.2]
      obtain⟨D,b6⟩:∃D,uR ((ua3 l j).take i)=D:=⟨_,rfl⟩;rw[b6]at b2 b1 ⊢;have HX:=hid b1;have HY:=hid b7;have f6:D<100000000:=b2;obtain⟨d1,d2⟩:=hd;have f1:decide ((c.toNat:Int)<48)=false:=by simp;omega
      have f2:decide ((57:Int)<(c.toNat:Int))=false:=by simp;omega
      clear a0 b1 b7 b6 b2 a9 a1 a5 a4;go_wp2;go_round
      case rel=>exact⟨i+1,by omega,by go_num,by rw[HX.out];congr 1;omega,HY⟩
      case measure=>simp[intOf];omega
     ·have c6:uap l=none:=uin (DigFrom.no a5 hd)
      have b4:=hid c6;clear c6;by_cases e6:c.toNat<48
      ·have f1:decide ((c.toNat:Int)<48)=true:=by simp;omega
       clear hd a5 a4;go_wp2;go_ret2
       exact .no b4.out a2.out
      ·have f1:decide ((c.toNat:Int)<48)=false:=by simp;omega
       have f2:decide ((57:Int)<(c.toNat:Int))=true:=by simp;omega
       clear hd a5 a4;go_wp2;go_ret2
       exact .no b4.out a2.out
    ·obtain rfl:i=e-a:=by omega
     have a1:(ua3 l j).length=e-a:=by rw[chunk_len a6.out,HA.out]
     have a7:uaa (ua3 l j)=true:=by have:=a0.out;rwa [←a1,List.take_length]at this
     have b5:uR ((ua3 l j).take (e-a))=g j:=by rw[←a1,List.take_length,b3.out]
     rw[b5];have d4:Hid (DigFrom l (s.size-9*(j+1))):=by
      intro q c hq hc;by_cases h1:e≤q
      ·exact hD.out q c (by rw[HE.out];exact h1) hc
      ·have f5:a≤q:=by have:=HE.out;have:=HA.out;omega
       exact ucj a7 (i:=q-a) (by rw[uoo a6.out (by rw[HA.out];omega),HA.out,show a+(q-a)=q by omega];exact hc)
     have e4:=hid a7;clear a0 a1 a7 b5;go_wp2_with (at_builtin;refine ua7 wr rfl _ _ 74 rfl w.heap.size 228 Tryz.underlying74 uak _ j g (by rfl) c7.out (by rfl) w a2.out a2.out.size (by omega) rfl ?_)
     intro v1 w1 c9 b9;have d9:=hid c9;have d3:=hid b9;clear c9 b9;go_wp2;go_roundw
     case rel=>exact⟨j+1,by omega,by congr 1;have:=d5.out;omega,d4,d9,d3⟩
     case measure=>simp[intOf];omega
  ·have f3:((s.size:Int)-9*(j:Int))≤0:=by omega
   have e7:decide (0<((s.size:Int)-9*(j:Int)))=false:=by simp;omega
   have a0:uaa l=true:=DigFrom.all (by have:=hD.out;rwa [show s.size-9*j=0 by omega]at this)
   have HA:=hid a0;obtain⟨N,hN⟩:∃N,uR l=N:=⟨_,rfl⟩;have c0:N<B^j:=by rw[←hN];exact uez a0 (by rw[a3.out];omega)
   have c8:Own wr w.heap.size 228 _ j (dg N):=c7.out.congr fun q hq=>by rw[b3.out,uj9 a0,hN]
   have HN:=hid hN;have c3:=c8.limbs fun i _=>Nat.lt_trans (uai N i) (by decide)
   have d7:=hid c3;have d6:=hid c0;clear a0 hD c0 hN c8 c3;go_wp2_with fail
   refine(udk _ w.heap.size _ j N d7.out d6.out (by omega)).mono ?_
   rintro e w1⟨v1,rfl,b0,b8⟩;have d8:=hid (b0.lower a2.out.size);have d0:=hid (a2.out.trans (b8.mono a2.out.size));obtain⟨A1,c1,rfl⟩:=Limbs.len b0;clear b0 b8;go_wp2;go_ret2
   exact .inl ⟨_,N,by rw[uio (by rw[a3.out];exact h0) (by rw[a3.out];exact e0) HA.out,HN.out],rfl,d8.out,d0.out⟩
theorem ujd{l:List UInt8}(h:l.head? ≠ some 45):Lib.hasPrefix l [45]=false∧Lib.trimPrefix l [45]=l:=by
 have e:Lib.hasPrefix l [45]=false:=by
  cases l with
  | nil=>rfl
  | cons c r=>
   have hc:(45==c)=false:=beq_eq_false_iff_ne.2 (fun e=>h (by rw[←e];rfl))
   unfold Lib.hasPrefix;show(45==c&&List.isPrefixOf [] r)=false
   rw[hc];rfl
 refine⟨e,?_⟩;unfold Lib.trimPrefix;rw[e];rfl
theorem uop(r:List UInt8):Lib.hasPrefix (45::r) [45]=true∧Lib.trimPrefix (45::r) [45]=r:=by
 have e:Lib.hasPrefix (45::r) [45]=true:=by simp[Lib.hasPrefix]
 refine⟨e,?_⟩;unfold Lib.trimPrefix;rw[e];rfl
def uip(neg:Bool)(tx:List UInt8):Option Rat:=
 match uap (Lib.cut tx [47]).1 with
 | none=>none
 | some n=>if(Lib.cut tx [47]).2.2 then(match uap (Lib.cut tx [47]).2.1 with
  | none=>none
  | some d=>if d=0 then none else some (mkRat (if neg then -(n:Int)else n) d))else some (mkRat (if neg then -(n:Int)else n) 1)
theorem uv2(l:List UInt8):ubc l=uip (Lib.hasPrefix l [45]) (Lib.trimPrefix l [45]):=by
 unfold ubc uip;rfl
theorem uiq{neg:Bool}{tx a1 a0:List UInt8}{a2:Bool}(h:Lib.cut tx [47]=(a1,a0,a2)):uip neg tx=(match uap a1 with
 | none=>none
 | some n=>if a2 then(match uap a0 with
  | none=>none
  | some d=>if d=0 then none else some (mkRat (if neg then -(n:Int)else n) d))else some (mkRat (if neg then -(n:Int)else n) 1)):=by
 unfold uip;rw[h]
def PTPost(neg:Bool)(tx:List UInt8)(w:World)(e:Ending)(w':World):Prop:=
 (∃v q,uip neg tx=some q∧e = .returned (.tuple #[v,.bool true])∧RatV w' w.heap.size v 64 q∧Below w.heap.size w w') ∨
 (uip neg tx=none∧e = .returned (.tuple #[.agg #[.bool false,.slice none 0 0,.slice none 0 0],.bool false])∧Below w.heap.size w w')
theorem PTPost.to{l:List UInt8}{neg:Bool}{tx:List UInt8}{w w':World}{e:Ending}(h:PTPost neg tx w e w')(hn:Lib.hasPrefix l [45]=neg)(ht:Lib.trimPrefix l [45]=tx):uon l w e w':=by
 unfold uon;rw[uv2,hn,ht];exact h
set_option maxHeartbeats 8000000 in
set_option maxRecDepth 100000 in
theorem uir(w:World)(s:ByteArray)(hs:s.size≤262144):Calls Tryz.prog 129 #[.string s] w (uon s.data.toList w):=by
 obtain⟨l,hl⟩:∃l,s.data.toList=l:=⟨_,rfl⟩;have f4:l.length=s.size:=by rw[←hl];simp
 obtain⟨S,T,neg,hS,hT,hn,ht,g7⟩:∃(S:ByteArray) (T:List UInt8) (neg:Bool),S.data.toList=T∧S.size≤s.size∧Lib.hasPrefix l [45]=neg∧Lib.trimPrefix l [45]=T ∧
  ((s.size=0∧neg=false∧s=S)∨(∃h:0<s.size,(((s[0]'h).toNat:Int)==45)=false∧neg=false∧s=S)∨(∃h:0<s.size,(((s[0]'h).toNat:Int)==45)=true∧neg=true∧s.extract 1 s.size=S)):=by
  by_cases h0:s.size=0
  ·have hn:l.head? ≠ some 45:=by
    have:l=[]:=List.length_eq_zero_iff.1 (by omega)
    rw[this];simp
   exact⟨s,l,false,hl,Nat.le_refl _,(ujd hn).1,(ujd hn).2,.inl ⟨h0,rfl,rfl⟩⟩
  ·have hp:0<s.size:=by omega
   have hd:l[0]? = some (s[0]'hp):=by rw[←hl];exact Lib.data_getElem? s 0 hp
   cases l with
   | nil=>simp at hd
   | cons c r=>
    simp at hd;by_cases hc:c=45
    ·subst hc
     refine⟨s.extract 1 s.size,r,true,?_,by rw[ByteArray.size_extract];omega,(uop r).1,(uop r).2,.inr (.inr ⟨hp,by rw[←hd];rfl,rfl,rfl⟩)⟩
     rw[Lib.extract_data,hl,←f4];simp
    ·refine⟨s,c::r,false,hl,Nat.le_refl _,(ujd (by simpa using hc)).1,(ujd (by simpa using hc)).2,.inr (.inl ⟨hp,?_,rfl,rfl⟩)⟩
     rw[←hd,beq_eq_false_iff_ne];intro e;exact hc (UInt8.toNat_inj.1 (by have e9:(45:UInt8).toNat=45:=rfl;omega))
 have f3:T.length=S.size:=by rw[←hS];simp
 have HS:=hid hS;have e0:=hid f3;rw[hl];suffices hgo:Calls Tryz.prog 129 #[.string s] w (PTPost neg T w) from hgo.mono fun e w' h=>h.to hn ht
 clear hn ht hl f4 hS f3;go_enter Tryz.func129,Tryz.ntmps129
 rcases g7 with⟨h0,hng,hSS⟩|⟨h0,e9,hng,hSS⟩|⟨h0,e9,hng,hSS⟩
 case' inl=>
  have e1:=hSS.symm;subst e1;clear hSS;have c7:=hid hng;clear hng;have d0:decide (0<S.size)=false:=decide_eq_false (by omega)
  have d1:decide ((0:Int)<(S.size:Int))=false:=decide_eq_false (by omega)
  have H0:=hid h0;clear h0;go_wp2
 case' inr.inl=>
  have e1:=hSS.symm;subst e1;clear hSS;have c7:=hid hng;clear hng;have d1:decide ((0:Int)<(S.size:Int))=true:=decide_eq_true (by omega)
  go_wp2
 case' inr.inr=>
  have h3:((s.extract 1 s.size).size:Int)=(S.size:Int):=by rw[hSS]
  have c7:=hid hng;clear hng;have d1:decide ((0:Int)<(s.size:Int))=true:=decide_eq_true (by omega)
  go_wp2
 all_goals
  have g6:S.size≤262144:=by omega
  clear d1;have c6:Hid (Below w.heap.size w (w.alloc (.cells #[.bool false,.slice none 0 0,.slice none 0 0] 76))):=(Below.refl _ _).alloc (Nat.le_refl _) _;have a8:Hid (Bk (w.alloc (.cells #[.bool false,.slice none 0 0,.slice none 0 0] 76)) w.heap.size 76 #[.bool false,.slice none 0 0,.slice none 0 0]):=Bk.new _ _ _;go_loop [5,6] (fun av iv=>av = .int .i64 (S.size:Int)∧∃i:Nat,i≤S.size∧iv = .int .i64 i∧Hid (∀j,j<i→T[j]? ≠ some 47)) (fun _ iv=>S.size-(intOf iv).toNat)
  case atStart=>exact⟨rfl,0,by omega,rfl,fun j hj=>absurd hj (by omega)⟩
  case round=>
   obtain⟨rfl,i,hi,rfl,b9⟩:=hrel;by_cases hit:i<S.size
   ·obtain⟨c,hc⟩:∃c:UInt8,S[i]'hit=c:=⟨_,rfl⟩
    have d2:T[i]? = some c:=by rw[←HS.out,←hc];exact Lib.data_getElem? S i hit
    by_cases c9:c=47
    ·subst c9
     have g5:(((47:UInt8).toNat:Int)==47)=true:=rfl;have b8:Lib.cut T [47]=(T.take i,T.drop (i+1),true):=uso d2 b9.out;have b5:=fun ng=>uiq (neg:=ng) b8
     obtain⟨e8,e7⟩:∃e8,T.take i=e8:=⟨_,rfl⟩;obtain⟨b3,e4⟩:∃b3,T.drop (i+1)=b3:=⟨_,rfl⟩;rw[e7,e4]at b5;have b1:=hid b5;have f6:(S.extract 0 i).data.toList=e8:=by rw[Lib.extract_data,HS.out,←e7];simp
     have f7:(S.extract (i+1) S.size).data.toList=b3:=by rw[Lib.extract_data,HS.out,←e4,←e0.out];exact List.take_of_length_le (by simp)
     have g3:=hid f6;have g4:=hid f7;clear d2 b8 b5 e7 e4 f6 f7 b9;go_wp2_with fail
     refine(ue4 _ (S.extract 0 i) (by rw[ByteArray.size_extract];omega)).mono ?_
     intro e w2 a4;rw[g3.out]at a4;rcases a4 with⟨vn,n,hpn,rfl,hnr,hb2⟩|⟨hpn,rfl,hb2⟩
     ·have e5:=ub5 hpn
      have a7:=hid hpn;have a1:=hid (a8.out.below hb2 a8.out.lt);have a6:=hid (c6.out.trans (hb2.mono (by simp)))
      have f5:w.heap.size+1≤w2.heap.size:=by have:=hb2.size;simpa using this
      have d8:=hid (show NatR w2 (w.heap.size+1) vn n by simpa using hnr)
      obtain⟨A,c,rfl⟩:=Limbs.len hnr;clear hnr hpn hb2;have a9:=hid (a1.out.alloc (.cells #[.int .u32 1] 228));have b0:=hid (a6.out.alloc a6.out.size (.cells #[.int .u32 1] 228));have d7:=hid (d8.out.alloc (.cells #[.int .u32 1] 228));have d3:decide ((i:Int)<(S.size:Int))=true:=decide_eq_true (by omega)
      go_wp2_with fail
      refine(ue4 _ (S.extract (i+1) S.size) (by rw[ByteArray.size_extract];omega)).mono ?_
      intro e w3 a4;rw[g4.out]at a4;rcases a4 with⟨vd,d,a4,rfl,hdr,hb3⟩|⟨a4,rfl,hb3⟩
      ·have g8:=ub5 a4
       have c8:=hid a4;have a2:=hid (a9.out.below hb3 a9.out.lt);have b6:=hid (b0.out.trans (hb3.mono b0.out.size));have g1:=hid (d7.out.below hb3);have g0:=hid (show NatR w3 (w.heap.size+1) vd d from hdr.lower (by simp;omega))
       have h4:w2.heap.size+1≤w3.heap.size:=by have:=hb3.size;simpa using this
       obtain⟨Ad,cd,rfl⟩:=Limbs.len hdr;clear a4 hb3 hdr;by_cases e2:d=0
       ·subst e2
        have h2:(((dl 0:Nat):Int)==0)=true:=by rw[uab];rfl
        have c0:=a2.out.cell 0;have c1:=a2.out.cell 1;have c2:=a2.out.cell 2;have f0:=a2.out.frozen 0;have f1:=a2.out.frozen 1;have f2:=a2.out.frozen 2;simp only[gq]at c0 c1 c2;go_wp2;have a0:=((a2.out.set 0 (.bool false)).set 1 (.slice none 0 0)).set 2 (.slice none 0 0);have r0:=a0.cell 0;have r1:=a0.cell 1;have r2:=a0.cell 2;refine bodyPost_ret (v:= .tuple #[.agg #[.bool false,.slice none 0 0,.slice none 0 0],.bool false]) (by simp[results,Tryz.results129,go_sem,r0,r1,r2]) rfl ?_
        exact .inr ⟨by rw[b1.out,a7.out];show(match uap b3 with|none=>none|some d=>_)=_;rw[c8.out];rfl,rfl,uK b6.out (Nat.le_refl _) _ _ _⟩
       ·have h2:(((dl d:Nat):Int)==0)=false:=beq_eq_false_iff_ne.2 (by have:=mt uS.1 e2;omega)
        obtain⟨q,hq⟩:∃q,mkRat (sg neg n) d=q:=⟨_,rfl⟩;have c3:sz q≤64:=by rw[←hq];exact Nat.le_trans (upi _ _ 23 (by rw[ubo];exact e5) (g8) (by omega)) (by omega)
        have HQ:=hid hq;have d9:=hid c3;clear hq c3;go_wp2_with fail
        refine(ud5 _ (w.heap.size+1) (w.heap.size+1) _ _ _ (dl n) (dl d) (dg n) (dg d) (g1.out) (g0.out) (by omega) (by omega) q (by have h9:=c7.out;subst h9;rw[ulo,ulo];exact HQ.out.symm)).mono ?_
        rintro e w4⟨v2,rfl,b2,a5⟩;have a3:=a2.out.below a5 a2.out.lt;have d5:=hid (b6.out.trans (a5.mono b6.out.size));have b7:=hid (RatR.toV b2 d9.out);have g9:=a2.out.lt;obtain⟨A4,c4,A5,c5,rfl,_,_⟩:=FracR.form b2;have c0:=a3.cell 0;have c1:=a3.cell 1;have c2:=a3.cell 2;have f0:=a3.frozen 0;have f1:=a3.frozen 1;have f2:=a3.frozen 2;simp only[gq]at c0 c1 c2;have d6:=hid a3;clear a3 a5 b2;go_wp2;obtain⟨b4,a5⟩:∃b4,decide (q.num<0)=b4:=⟨_,rfl⟩;obtain⟨n4,e6⟩:∃n4,dl q.num.natAbs=n4:=⟨_,rfl⟩;obtain⟨d4,e3⟩:∃d4,dl q.den=d4:=⟨_,rfl⟩;rw[a5,e6,e3]at b7 ⊢;have a0:=((d6.out.set 0 (.bool b4)).set 1 (.slice A4 n4 c4)).set 2 (.slice A5 d4 c5);have r0:=a0.cell 0;have r1:=a0.cell 1;have r2:=a0.cell 2;refine bodyPost_ret (v:= .tuple #[.agg #[.bool b4,.slice A4 n4 c4,.slice A5 d4 c5],.bool true]) (by simp[results,Tryz.results129,go_sem,r0,r1,r2]) rfl ?_
        refine .inl ⟨_,q,by rw[←HQ.out,b1.out,a7.out];show(match uap b3 with|none=>none|some d=>_)=_;rw[c8.out];show(if d=0 then none else _)=_;rw[if_neg e2];rfl,rfl,?_,uK d5.out (Nat.le_refl _) _ _ _⟩
        obtain⟨ng,kn,kd,fn,fd,xn,xd,hx,l1,l2,l3,l4,l5⟩:=b7.out;exact⟨ng,kn,kd,fn,fd,xn,xd,hx,(uT l1 (by omega) _ _ _).lower (by omega),(uT l2 (by omega) _ _ _).lower (by omega),l3,l4,l5⟩
      ·have c8:=hid a4
       have a2:=hid (a9.out.below hb3 a9.out.lt);have b6:=hid (b0.out.trans (hb3.mono b0.out.size));clear a4 hb3;have c0:=a2.out.cell 0;have c1:=a2.out.cell 1;have c2:=a2.out.cell 2;have f0:=a2.out.frozen 0;have f1:=a2.out.frozen 1;have f2:=a2.out.frozen 2;simp only[gq]at c0 c1 c2;go_wp2;have a0:=((a2.out.set 0 (.bool false)).set 1 (.slice none 0 0)).set 2 (.slice none 0 0);have r0:=a0.cell 0;have r1:=a0.cell 1;have r2:=a0.cell 2;refine bodyPost_ret (v:= .tuple #[.agg #[.bool false,.slice none 0 0,.slice none 0 0],.bool false]) (by simp[results,Tryz.results129,go_sem,r0,r1,r2]) rfl ?_
       exact .inr ⟨by rw[b1.out,a7.out];show(match uap b3 with|none=>none|some d=>_)=_;rw[c8.out],rfl,uK b6.out (Nat.le_refl _) _ _ _⟩
     ·have a7:=hid hpn
      have a1:=hid (a8.out.below hb2 a8.out.lt);have a6:=hid (c6.out.trans (hb2.mono (by simp)))
      clear hb2 hpn;have c0:=a1.out.cell 0;have c1:=a1.out.cell 1;have c2:=a1.out.cell 2;have f0:=a1.out.frozen 0;have f1:=a1.out.frozen 1;have f2:=a1.out.frozen 2;simp only[gq]at c0 c1 c2;go_wp2;have a0:=((a1.out.set 0 (.bool false)).set 1 (.slice none 0 0)).set 2 (.slice none 0 0);have r0:=a0.cell 0;have r1:=a0.cell 1;have r2:=a0.cell 2;refine bodyPost_ret (v:= .tuple #[.agg #[.bool false,.slice none 0 0,.slice none 0 0],.bool false]) (by simp[results,Tryz.results129,go_sem,r0,r1,r2]) rfl ?_
      exact .inr ⟨by rw[b1.out,a7.out],rfl,uK a6.out (Nat.le_refl _) _ _ _⟩
    ·have g5:((c.toNat:Int)==47)=false:=beq_eq_false_iff_ne.2 (fun e=>c9 (UInt8.toNat_inj.1 (by have h9:(47:UInt8).toNat=47:=rfl;omega)))
     have f9:=hid d2;have f8:=hid c9;clear d2 c9;go_wp2;go_round
     case rel=>exact⟨rfl,i+1,by omega,by go_num,fun j hj he=>by
      rcases Nat.lt_or_ge j i with h1|h1
      ·exact b9.out j h1 he
      ·obtain rfl:j=i:=by omega
       rw[f9.out]at he;injection he with he;exact f8.out he⟩
     case measure=>simp[intOf];omega
   ·obtain rfl:i=S.size:=by omega
    have b8:Lib.cut T [47]=(T,[],false):=ufx fun j he=>by
     by_cases h1:j<S.size
     ·exact b9.out j h1 he
     ·rw[List.getElem?_eq_none (by rw[e0.out];omega)]at he;cases he
    have b5:=fun ng=>uiq (neg:=ng) b8
    have b1:=hid b5;clear b8 b5 b9;go_wp2_with fail
    refine(ue4 _ _ (by first|exact g6|(rw[ByteArray.size_extract];omega))).mono ?_
    intro e w2 a4;first|rw[HS.out]at a4|rw[Lib.extract_data,HS.out,←e0.out,List.drop_zero,List.take_of_length_le (by simp)]at a4
    rcases a4 with⟨vn,n,hpn,rfl,hnr,hb2⟩|⟨hpn,rfl,hb2⟩
    ·have e5:=ub5 hpn
     have a7:=hid hpn;have a1:=hid (a8.out.below hb2 a8.out.lt);have a6:=hid (c6.out.trans (hb2.mono (by simp)))
     have f5:w.heap.size+1≤w2.heap.size:=by have:=hb2.size;simpa using this
     have d8:=hid (show NatR w2 (w.heap.size+1) vn n by simpa using hnr)
     obtain⟨A,c,rfl⟩:=Limbs.len hnr;clear hnr hpn hb2;have a9:=hid (a1.out.alloc (.cells #[.int .u32 1] 228));have b0:=hid (a6.out.alloc a6.out.size (.cells #[.int .u32 1] 228));have d7:=hid (d8.out.alloc (.cells #[.int .u32 1] 228));have g2:=hid (NatR.oneNew w2 (w.heap.size+1) 228 f5);have d3:decide ((S.size:Int)<(S.size:Int))=false:=decide_eq_false (by omega)
     obtain⟨q,hq⟩:∃q,mkRat (sg neg n) 1=q:=⟨_,rfl⟩;have c3:sz q≤64:=by rw[←hq];exact Nat.le_trans (upi _ _ 23 (by rw[ubo];exact e5) (by rw[uc1];omega) (by omega)) (by omega)
     have HQ:=hid hq;have d9:=hid c3;clear hq c3;go_wp2_with fail
     refine(ud5 _ (w.heap.size+1) (w.heap.size+1) _ _ _ (dl n) (dl 1) (dg n) (dg 1) (d7.out) (by have:=g2.out;unfold NatR at this;exact this) (by omega) (by rw[uc1];omega) q (by have h9:=c7.out;subst h9;rw[ulo,ulo];exact HQ.out.symm)).mono ?_
     rintro e w4⟨v2,rfl,b2,a5⟩;have a3:=a9.out.below a5 a9.out.lt;have d5:=hid (b0.out.trans (a5.mono b0.out.size));have b7:=hid (RatR.toV b2 d9.out);have g9:=a9.out.lt;obtain⟨A4,c4,A5,c5,rfl,_,_⟩:=FracR.form b2;have c0:=a3.cell 0;have c1:=a3.cell 1;have c2:=a3.cell 2;have f0:=a3.frozen 0;have f1:=a3.frozen 1;have f2:=a3.frozen 2;simp only[gq]at c0 c1 c2;have d6:=hid a3;clear a3 a5 b2;go_wp2;obtain⟨b4,a5⟩:∃b4,decide (q.num<0)=b4:=⟨_,rfl⟩;obtain⟨n4,e6⟩:∃n4,dl q.num.natAbs=n4:=⟨_,rfl⟩;obtain⟨d4,e3⟩:∃d4,dl q.den=d4:=⟨_,rfl⟩;rw[a5,e6,e3]at b7 ⊢;have a0:=((d6.out.set 0 (.bool b4)).set 1 (.slice A4 n4 c4)).set 2 (.slice A5 d4 c5);have r0:=a0.cell 0;have r1:=a0.cell 1;have r2:=a0.cell 2;refine bodyPost_ret (v:= .tuple #[.agg #[.bool b4,.slice A4 n4 c4,.slice A5 d4 c5],.bool true]) (by simp[results,Tryz.results129,go_sem,r0,r1,r2]) rfl ?_
     refine .inl ⟨_,q,by rw[←HQ.out,b1.out,a7.out];rfl,rfl,?_,uK d5.out (Nat.le_refl _) _ _ _⟩
     obtain⟨ng,kn,kd,fn,fd,xn,xd,hx,l1,l2,l3,l4,l5⟩:=b7.out;exact⟨ng,kn,kd,fn,fd,xn,xd,hx,(uT l1 (by omega) _ _ _).lower (by omega),(uT l2 (by omega) _ _ _).lower (by omega),l3,l4,l5⟩
    ·have a7:=hid hpn
     have a1:=hid (a8.out.below hb2 a8.out.lt);have a6:=hid (c6.out.trans (hb2.mono (by simp)))
     clear hb2 hpn;have c0:=a1.out.cell 0;have c1:=a1.out.cell 1;have c2:=a1.out.cell 2;have f0:=a1.out.frozen 0;have f1:=a1.out.frozen 1;have f2:=a1.out.frozen 2;simp only[gq]at c0 c1 c2;go_wp2;have a0:=((a1.out.set 0 (.bool false)).set 1 (.slice none 0 0)).set 2 (.slice none 0 0);have r0:=a0.cell 0;have r1:=a0.cell 1;have r2:=a0.cell 2;refine bodyPost_ret (v:= .tuple #[.agg #[.bool false,.slice none 0 0,.slice none 0 0],.bool false]) (by simp[results,Tryz.results129,go_sem,r0,r1,r2]) rfl ?_
     exact .inr ⟨by rw[b1.out,a7.out],rfl,uK a6.out (Nat.le_refl _) _ _ _⟩
end Go.Proofs.YtellcholbkoakaaGreatDoor
