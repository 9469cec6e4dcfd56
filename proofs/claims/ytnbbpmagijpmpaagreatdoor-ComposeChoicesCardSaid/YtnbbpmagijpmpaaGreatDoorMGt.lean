/-
  Classes of bytes (printed by gen_t.py).
-/
import Derived.Laws.Strings3
import Derived.Laws.ResultCell
import Derived.Laws.Rows
import Derived.Deep.LoopGhost
import Derived.Test.YtnbbpmagijpmpaaGreatDoorMHe
import Derived.Maps.Own
import Derived.Maps.Views
import Derived.StringKeys
set_option linter.unusedVariables false
set_option linter.unusedSimpArgs false
namespace Go.Proofs.YtnbbpmagijpmpaaGreatDoor
open Go.Lib (hid)
open Go.RowKit AC
def ue2(k:Nat):Bool:=decide (97<=k)&&decide (k<=122)
theorem und(k:Nat)(w:World):Calls Tryz.prog 285 #[.int .u8 (k:Int)] w (uY (.bool (ue2 k)) w):=by
 by_cases h1:97<=k
 ·by_cases h2:k<=122
  ·rw[show ue2 k=true from by simp[ue2,h1,h2]]
   have i1:(97:Int)<=(k:Int):=by omega
   have i2:(k:Int)<=122:=by omega
   go_enter Tryz.func285,Tryz.ntmps285
   go_wp2;go_ret
   exact⟨rfl,aa⟩
  ·rw[show ue2 k=false from by simp[ue2,h2]]
   have i1:(97:Int)<=(k:Int):=by omega
   have i2:¬(k:Int)<=122:=by omega
   go_enter Tryz.func285,Tryz.ntmps285
   go_wp2;go_ret
   exact⟨rfl,aa⟩
 ·rw[show ue2 k=false from by simp[ue2,h1]]
  have i1:¬(97:Int)<=(k:Int):=by omega
  go_enter Tryz.func285,Tryz.ntmps285
  go_wp2;go_ret
  exact⟨rfl,aa⟩
def ubb(k:Nat):Bool:=decide (65<=k)&&decide (k<=90)
theorem une(k:Nat)(w:World):Calls Tryz.prog 286 #[.int .u8 (k:Int)] w (uY (.bool (ubb k)) w):=by
 by_cases h1:65<=k
 ·by_cases h2:k<=90
  ·rw[show ubb k=true from by simp[ubb,h1,h2]]
   have i1:(65:Int)<=(k:Int):=by omega
   have i2:(k:Int)<=90:=by omega
   go_enter Tryz.func286,Tryz.ntmps286
   go_wp2;go_ret
   exact⟨rfl,aa⟩
  ·rw[show ubb k=false from by simp[ubb,h2]]
   have i1:(65:Int)<=(k:Int):=by omega
   have i2:¬(k:Int)<=90:=by omega
   go_enter Tryz.func286,Tryz.ntmps286
   go_wp2;go_ret
   exact⟨rfl,aa⟩
 ·rw[show ubb k=false from by simp[ubb,h1]]
  have i1:¬(65:Int)<=(k:Int):=by omega
  go_enter Tryz.func286,Tryz.ntmps286
  go_wp2;go_ret
  exact⟨rfl,aa⟩
def uef(k:Nat):Bool:=decide (48<=k)&&decide (k<=57)
theorem uir(k:Nat)(w:World):Calls Tryz.prog 290 #[.int .u8 (k:Int)] w (uY (.bool (uef k)) w):=by
 by_cases h1:48<=k
 ·by_cases h2:k<=57
  ·rw[show uef k=true from by simp[uef,h1,h2]]
   have i1:(48:Int)<=(k:Int):=by omega
   have i2:(k:Int)<=57:=by omega
   go_enter Tryz.func290,Tryz.ntmps290
   go_wp2;go_ret
   exact⟨rfl,aa⟩
  ·rw[show uef k=false from by simp[uef,h2]]
   have i1:(48:Int)<=(k:Int):=by omega
   have i2:¬(k:Int)<=57:=by omega
   go_enter Tryz.func290,Tryz.ntmps290
   go_wp2;go_ret
   exact⟨rfl,aa⟩
 ·rw[show uef k=false from by simp[uef,h1]]
  have i1:¬(48:Int)<=(k:Int):=by omega
  go_enter Tryz.func290,Tryz.ntmps290
  go_wp2;go_ret
  exact⟨rfl,aa⟩
def unf(k:Nat):Bool:=(k:Int)==9||(k:Int)==10||(k:Int)==13||(k:Int)==32
theorem uvy(k:Nat)(w:World):Calls Tryz.prog 246 #[.int .u8 (k:Int)] w (uY (.bool (unf k)) w):=by
 go_enter Tryz.func246,Tryz.ntmps246
 go_wp2;all_goals go_ret
 all_goals exact⟨by simp_all [unf],aa⟩
def ua6(k:Nat):Bool:=ue2 k||ubb k||uef k||(k:Int)==95
set_option maxHeartbeats 16000000
theorem utm(k:Nat)(w:World):Calls Tryz.prog 288 #[.int .u8 (k:Int)] w (uY (.bool (ua6 k)) w):=by
 have K1:=hid fun w=>und k w
 have K2:=hid fun w=>une k w
 have K3:=hid fun w=>uir k w
 unfold ua6;generalize ue2 k=a at *;generalize ubb k=b at *;generalize uef k=c at *;go_enter Tryz.func288,Tryz.ntmps288
 go_wp2_with fail
 refine(K1.out _).mono ?_;rintro e w1⟨rfl,a3⟩;have a0:=hid a3;clear a3;cases a with
 | true=>
  go_wp2;go_ret
  exact⟨rfl,a0.out⟩
 | false=>
  go_wp2_with fail
  refine(K2.out _).mono ?_;rintro e w2⟨rfl,a4⟩;have a1:=hid (a0.out.trans (a4.mono a0.out.size));clear a4;cases b with
  | true=>
   go_wp2;go_ret
   exact⟨rfl,a1.out⟩
  | false=>
   go_wp2_with fail
   refine(K3.out _).mono ?_;rintro e w3⟨rfl,a5⟩;have a2:=hid (a1.out.trans (a5.mono a1.out.size));clear a5;cases c with
   | true=>
    go_wp2;go_ret
    exact⟨rfl,a2.out⟩
   | false=>
    go_wp2;go_ret
    exact⟨by simp,a2.out⟩
set_option maxHeartbeats 200000
def uDz(g:FuncId)(p:Nat->Bool):Prop:=Enters Tryz.prog g/\∀(k:Nat) (w:World),Calls Tryz.prog g #[.int .u8 (k:Int)] w (uY (.bool (p k)) w)
theorem ung:uDz 288 ua6:=⟨enters_of Tryz.func288 (by kernel_rfl) rfl,utm⟩
theorem upn:uDz 290 uef:=⟨enters_of Tryz.func290 (by kernel_rfl) rfl,uir⟩
def ubj(p:Nat->Bool)(s:ByteArray)(n:Nat):Prop:=n<=s.size/\(∀(j:Nat) (h:j<s.size),j<n->p s[j].toNat=true)/\∀(h:n<s.size),p s[n].toNat=false
def uD0(p:Nat->Bool)(s:ByteArray)(w:World)(e:Ending)(w':World):Prop:=∃n,ubj p s n/\e = .returned (.string (s.extract 0 n))/\Below w.heap.size w w'
set_option maxHeartbeats 16000000
set_option maxRecDepth 100000
theorem ukc{g:FuncId}{p:Nat->Bool}(hg:uDz g p)(s:ByteArray)(hs:s.size<=1000000)(w:World) :
 Calls Tryz.prog 287 #[.string s,.func (.func g) #[] #[]] w (uD0 p s w):=by
 obtain⟨he,hk⟩:=hg;unfold Enters at he;have HK:=hid hk;clear hk;go_enter Tryz.func287,Tryz.ntmps287
 go_wp2;go_loopw [5] (fun iv wr=>∃i:Nat,i<=s.size/\iv = .int .i64 i/\Hid (∀(j:Nat) (h:j<s.size),j<i->p s[j].toNat=true)/\Hid (Below w.heap.size w wr)) (fun iv _=>s.size-(intOf iv).toNat)
 case atStart=>exact⟨0,by omega,rfl,(fun j _ h=>absurd h (by omega)),aa⟩
 case round=>
  obtain⟨i,hi,rfl,HP,HB⟩:=hrel;by_cases hlt:i<s.size
  ·obtain⟨c,hc⟩:∃c:UInt8,s[i]'hlt=c:=⟨_,rfl⟩
   obtain⟨q,hq⟩:∃q,p c.toNat=q:=⟨_,rfl⟩;have key:=HK.out c.toNat wr;rw[hq]at key;have a3:=hid key;have HQ:=hid (show p (s[i]'hlt).toNat=q by rw[hc];exact hq)
   clear key;go_wp2_with fail
   refine a3.out.mono ?_;rintro e w2⟨rfl,a1⟩;have a0:=hid (HB.out.trans (a1.mono HB.out.size));clear a1 hq hc;cases q with
   | true=>
    have a2:Hid (∀(j:Nat) (h:j<s.size),j<i+1->p s[j].toNat=true):=by
     intro j h hj;rcases ah j i with h5|h5
     ·exact HP.out j h h5
     ·obtain rfl:j=i:=by omega
      exact HQ.out
    go_wp2;go_roundw
    case rel=>exact⟨i+1,by omega,by go_num,a2,a0⟩
    case measure=>simp[intOf];omega
   | false=>
    go_wp2;go_ret
    exact⟨i,⟨hi,HP.out,fun _=>HQ.out⟩,by simp,a0.out⟩
  ·obtain rfl:i=s.size:=by omega
   go_wp2;go_ret
   exact⟨s.size,⟨ab,HP.out,fun h=>absurd h (by omega)⟩,by simp,HB.out⟩
set_option maxHeartbeats 200000
set_option maxRecDepth 512
def uGi(w:World)(e:Ending)(w':World):Prop:=∃b:Bool,e = .returned (.bool b)/\Below w.heap.size w w'
set_option maxHeartbeats 16000000
set_option maxRecDepth 100000
theorem upo(s:ByteArray)(w:World):Calls Tryz.prog 289 #[.string s] w (uGi w):=by
 go_enter Tryz.func289,Tryz.ntmps289
 go_wp2;all_goals go_ret
 all_goals exact⟨_,rfl,aa⟩
theorem uvz(s:ByteArray)(hs:s.size<=1000000)(w:World):Calls Tryz.prog 291 #[.string s] w (uGi w):=by
 go_enter Tryz.func291,Tryz.ntmps291
 go_wp2;go_loopw [3,7] (fun nv iv wr=>∃(i:Nat) (n:Int),i<=s.size/\iv = .int .i64 i/\nv = .int .i64 n/\0<=n/\n<=1000000/\wr=w) (fun _ iv _=>s.size-(intOf iv).toNat)
 case atStart=>exact⟨0,0,by omega,rfl,rfl,by omega,by omega,rfl⟩
 case round=>
  obtain⟨i,n,hi,rfl,rfl,a2,a3,rfl⟩:=hrel;by_cases hlt:i<s.size
  ·obtain⟨c,hc⟩:∃c:UInt8,s[i]'hlt=c:=⟨_,rfl⟩
   obtain⟨m,hm⟩:∃m:Int,((c.toNat:Int)-48)%256=m:=⟨_,rfl⟩;have a0:0<=m:=by omega
   have a1:m<=255:=by omega
   by_cases hb:1000000<n*10+m
   ·go_wp2
    go_ret
    exact⟨_,rfl,aa⟩
   ·go_wp2
    go_roundw
    case rel=>exact⟨i+1,n*10+m,by omega,by go_num,by go_num,by omega,by omega,trivial⟩
    case measure=>simp[intOf];omega
  ·obtain rfl:i=s.size:=by omega
   go_wp2;go_ret
   exact⟨_,rfl,aa⟩
set_option maxHeartbeats 200000
set_option maxRecDepth 512
def uIr(s:ByteArray)(w:World)(e:Ending)(w':World):Prop:=∃r:ByteArray,e = .returned (.string r)/\r.size<=s.size/\Below w.heap.size w w'
set_option maxHeartbeats 16000000
set_option maxRecDepth 100000
theorem uz0(s:ByteArray)(h1:1<=s.size)(hs:s.size<=1000000)(w:World):Calls Tryz.prog 292 #[.string s] w (uIr s w):=by
 have hi1:(1:Int)<=(s.size:Int):=by omega
 obtain⟨t,ht⟩:∃t,s.extract 0 1=t:=⟨_,rfl⟩;have a1:t.size<=s.size:=by rw[<-ht];simp[ByteArray.size_extract];omega
 have a0:=hid a1;clear a1;by_cases h2:2<=s.size
 ·have hi2:(2:Int)<=(s.size:Int):=by omega
  obtain⟨u,hu⟩:∃u,s.extract 0 2=u:=⟨_,rfl⟩;have a2:u.size<=s.size:=by rw[<-hu];simp[ByteArray.size_extract];omega
  have a3:=hid a2;clear a2;go_enter Tryz.func292,Tryz.ntmps292
  go_wp2;all_goals go_ret
  all_goals exact⟨_,rfl,by first|exact a3.out|exact a0.out|exact Nat.zero_le _,aa⟩
 ·go_enter Tryz.func292,Tryz.ntmps292
  go_wp2;all_goals go_ret
  all_goals exact⟨_,rfl,by first|exact a0.out|exact Nat.zero_le _,aa⟩
set_option maxHeartbeats 200000
set_option maxRecDepth 512
theorem ucz{P:Program}{fn:Func}{p u:Tmp}{ty:TypeId}(h:fn.results = #[.cell p ty,.tmp u])(a0:Array Value)(w:World)(g:Nat)(t:TypeId)(cs:Array Value)(fr:Nat×Nat)(d:TypeDesc)
 (hp:a0.getD p undef = .pointer (some ⟨g,0,none⟩)) (hg:w.heap[g]? = some (.cells cs t fr))
 (hu:P.underlying ty=some d) (hd:(match d with | .struct _ | .array _ _=>true|_=>false)=true) (hi:(P.info? ty).map (·.size)=some cs.size) :
 (results fn a0).run P w = .ok (.tuple #[.agg cs,a0.getD u undef]) w:=by
 rw[results_cell_tmp h,hp];simp[asAddr,run_loadVar_row w g t ty cs fr d hg hu hd hi]
def Tok(k:Int)(t:ByteArray)(p:Int):Array Value:=#[.int .i64 k,.string t,.int .i64 p]
theorem uc0{w:World}{g:Nat}{T:TypeId}{a b c x y z:Value}(h:Bk w g T #[a,b,c]):Bk (((w.setCell ⟨g,0,none⟩ x).setCell ⟨g,1,none⟩ y).setCell ⟨g,2,none⟩ z) g T #[x,y,z]:=by
 have:=((h.set 0 x).set 1 y).set 2 z;simpa using this
theorem ubj.uniq{p:Nat->Bool}{s:ByteArray}{n m:Nat}(h:ubj p s n)(h':ubj p s m):n=m:=by
 rcases Nat.lt_trichotomy n m with h1|h1|h1
 ·have h2:n<s.size:=af h1 h'.1
  have h3:=h.2.2 h2;rw[h'.2.1 n h2 h1]at h3;cases h3
 ·exact h1
 ·have h2:m<s.size:=af h1 h.1
  have h3:=h'.2.2 h2;rw[h.2.1 m h2 h1]at h3;cases h3
theorem ubj.pos{p:Nat->Bool}{s:ByteArray}{pos n:Nat}(hp:pos<s.size)(h:ubj p (s.extract pos s.size) n)(hc:p (s[pos]'hp).toNat=true):1<=n:=by
 rcases aK n with h0|h0
 ·subst h0
  have h1:0<(s.extract pos s.size).size:=by simp[ByteArray.size_extract];omega
  have h2:=h.2.2 h1;rw[ByteArray.getElem_extract]at h2;simp only[Nat.add_zero]at h2;rw[hc]at h2;cases h2
 ·exact h0
def uz1(s:ByteArray)(pos:Nat)(hp:pos<s.size)(w:World)(e:Ending)(w':World):Prop:=
 ∃(kind:Int) (txt:ByteArray) (p err:Int),e = .returned (.tuple #[.agg (Tok kind txt p),.int .i64 err])/\Below w.heap.size w w' /\
  (err=0->1<=txt.size/\pos+txt.size<=s.size/\(kind=2->ubb (s[pos]'hp).toNat=true/\∃n,n<=24/\ubj ua6 (s.extract pos s.size) n/\txt=(s.extract pos s.size).extract 0 n)) /\
  (ubb (s[pos]'hp).toNat=true->∀n,ubj ua6 (s.extract pos s.size) n->n<=24->err=0/\kind=2/\txt=(s.extract pos s.size).extract 0 n)
set_option maxHeartbeats 16000000
set_option maxRecDepth 100000
theorem uz2(s:ByteArray)(pos:Nat)(hp:pos<s.size)(hs:s.size<=1000000)(w:World):Calls Tryz.prog 247 #[.string s,.int .i64 (pos:Int)] w (uz1 s pos hp w):=by
 obtain⟨c,hc⟩:∃c:UInt8,s[pos]'hp=c:=⟨_,rfl⟩;have KL:=hid fun w=>und c.toNat w
 have KU:=hid fun w=>une c.toNat w
 have KD:=hid fun w=>uir c.toNat w
 obtain⟨R,hR⟩:∃R,s.extract pos s.size=R:=⟨_,rfl⟩;have e4:R.size=s.size-pos:=by rw[<-hR];simp[ByteArray.size_extract]
 have b2:=hid e4;have HC:=hid hc;have HR:=hid hR;have KW:=hid fun w=>ukc ung R (by omega) w
 have KG:=hid fun w=>ukc upn R (by omega) w
 go_enter Tryz.func247,Tryz.ntmps247
 go_upto_region 2 with(fail)
 obtain⟨C,hC⟩:∃C,C=(w.alloc (.cells #[.int .i64 0,.string { data:=#[] },.int .i64 0] 250)).alloc (.cells #[.int .i64 0,.string { data:=#[] },.int .i64 (pos:Int)] 250):=⟨_,rfl⟩;have d5:Hid (Below w.heap.size w C):=by rw[hC];exact(aa.alloc ab _).alloc (by simp) _
 have d7:Hid (Bk C w.heap.size 250 #[.int .i64 0,.string { data:=#[] },.int .i64 0]):=by rw[hC];exact(Bk.new _ _ _).alloc _
 have d8:Hid (Bk C (w.heap.size+1) 250 #[.int .i64 0,.string { data:=#[] },.int .i64 (pos:Int)]):=by rw[hC];exact uax _ _ _ _
 rw[<-hC];clear hC;obtain⟨lb,c8⟩:∃b,ue2 c.toNat=b:=⟨_,rfl⟩;obtain⟨ub,c9⟩:∃b,ubb c.toNat=b:=⟨_,rfl⟩;obtain⟨db,c7⟩:∃b,uef c.toNat=b:=⟨_,rfl⟩;rw[c8]at KL;rw[c9]at KU;rw[c7]at KD;have d6:=hid c8;have a2:=hid c9;have e2:=hid c7;clear c8 c9 c7;go_wp2_with fail
 refine(KL.out _).mono ?_;rintro e w1⟨rfl,hb⟩;have c3:=hid (d5.out.trans (hb.mono d5.out.size));have b9:=hid (Bk.below d7.out hb (by simpa using Bk.lt d7.out))
 have c2:=hid (Bk.below d8.out hb (by simpa using Bk.lt d8.out))
 obtain⟨e5,g1,_⟩:=b9.out.facts;obtain⟨g3,g5,_⟩:=c2.out.facts;clear hb;cases lb with
 | true=>
  have c4:Hid (ua6 c.toNat=true):=by
   have h1:=d6.out;have h2:=a2.out;show _=_
   unfold ua6;rw[h1];simp
  go_wp2_with fail
  refine(KW.out _).mono ?_;rintro e w2⟨n,hL,rfl,hb⟩;have b4:=hid (c3.out.trans (hb.mono c3.out.size));have a9:=hid (Bk.below b9.out hb (by simpa using Bk.lt b9.out))
  have b3:=hid (Bk.below c2.out hb (by simpa using Bk.lt c2.out))
  obtain⟨e0,e9,_⟩:=a9.out.facts;obtain⟨f2,f5,_⟩:=b3.out.facts;clear hb;obtain⟨X,hX⟩:∃X,R.extract 0 n=X:=⟨_,rfl⟩;have e1:X.size=n:=by
   have h1:=hL.1;rw[<-hX];simp[ByteArray.size_extract];omega
  rw[hX];have HL:=hid (show ubj ua6 (s.extract pos s.size) n by rw[HR.out];exact hL)
  have c1:=hid (show(s.extract pos s.size).extract 0 n=X by rw[HR.out];exact hX)
  have d9:n<=R.size:=hL.1;have a6:Hid (1<=n):=by
   have h2:=hL;rw[<-HR.out]at h2;exact h2.pos hp (by rw[HC.out];exact c4.out)
  clear hL hX;by_cases e3:X.size<=24
  ·have c6:¬(24:Int)<(X.size:Int):=by omega
   have b1:=hid (b4.out.setCell (p:=⟨w.heap.size+1,1,none⟩) (by show w.heap.size<=w.heap.size+1;omega) (.string X))
   have a7:=hid (Bk.far a9.out (p:=⟨w.heap.size+1,1,none⟩) (by show w.heap.size≠w.heap.size+1;omega) (.string X))
   have a8:=hid (Bk.set b3.out 1 (.string X));simp only[List.setIfInBounds_toArray,List.set_cons_zero,List.set_cons_succ]at a8;go_wp2_with fail
   refine(KU.out _).mono ?_;rintro e w4⟨rfl,hb⟩;have a4:=hid (b1.out.trans (hb.mono b1.out.size));have a3:=hid (Bk.below a7.out hb (by simpa using Bk.lt a7.out))
   have a1:=hid (Bk.below a8.out hb (by simpa using Bk.lt a8.out))
   obtain⟨g0,g2,_⟩:=a3.out.facts;obtain⟨g4,g6,_⟩:=a1.out.facts;clear hb;cases ub with
   | true=>
    go_wp2;refine bodyPost_ret (ucz rfl _ _ w.heap.size 250 (Tok 2 X pos) (0,0) _ rfl (uc0 (Bk.far a3.out (p:=⟨w.heap.size+1,0,none⟩) (by show w.heap.size≠w.heap.size+1;omega) (.int .i64 2))) Tryz.underlying250 rfl (by kernel_rfl)) rfl ?_
    exact⟨2,X,pos,0,rfl,(uo (a4.out.setCell (p:=⟨w.heap.size+1,0,none⟩) (by show w.heap.size<=w.heap.size+1;omega) (.int .i64 2)) ab _ _ _),(fun _=>⟨by have h1:=a6.out;omega,by have h1:=b2.out;omega,(fun _=>⟨by rw[HC.out];exact a2.out,n,by omega,HL.out,c1.out.symm⟩)⟩),(fun _ m hm _=>⟨rfl,rfl,by rw[hm.uniq HL.out];exact c1.out.symm⟩)⟩
   | false=>
    go_wp2_with fail
    refine((fun w=>upo X w) _).mono ?_
    rintro e w5⟨kb,rfl,hb⟩;have a5:=hid (a4.out.trans (hb.mono a4.out.size));have a0:=hid (Bk.below a3.out hb (by simpa using Bk.lt a3.out))
    have b0:=hid (Bk.below a1.out hb (by simpa using Bk.lt a1.out))
    obtain⟨d0,d2,_⟩:=a0.out.facts;obtain⟨d3,d4,_⟩:=b0.out.facts;clear hb;cases kb with
    | true=>
     go_wp2;refine bodyPost_ret (ucz rfl _ _ w.heap.size 250 (Tok 4 X pos) (0,0) _ rfl (uc0 (Bk.far a0.out (p:=⟨w.heap.size+1,0,none⟩) (by show w.heap.size≠w.heap.size+1;omega) (.int .i64 4))) Tryz.underlying250 rfl (by kernel_rfl)) rfl ?_
     exact⟨4,X,pos,0,rfl,(uo (a5.out.setCell (p:=⟨w.heap.size+1,0,none⟩) (by show w.heap.size<=w.heap.size+1;omega) (.int .i64 4)) ab _ _ _),(fun _=>⟨by have h1:=a6.out;omega,by have h1:=b2.out;omega,(fun h=>absurd h (by decide))⟩),(fun h=>by rw[HC.out,a2.out]at h;cases h)⟩
    | false=>
     go_wp2;refine bodyPost_ret (ucz rfl _ _ w.heap.size 250 (Tok 1 X pos) (0,0) _ rfl (uc0 (Bk.far a0.out (p:=⟨w.heap.size+1,0,none⟩) (by show w.heap.size≠w.heap.size+1;omega) (.int .i64 1))) Tryz.underlying250 rfl (by kernel_rfl)) rfl ?_
     exact⟨1,X,pos,0,rfl,(uo (a5.out.setCell (p:=⟨w.heap.size+1,0,none⟩) (by show w.heap.size<=w.heap.size+1;omega) (.int .i64 1)) ab _ _ _),(fun _=>⟨by have h1:=a6.out;omega,by have h1:=b2.out;omega,(fun h=>absurd h (by decide))⟩),(fun h=>by rw[HC.out,a2.out]at h;cases h)⟩
  ·have c6:(24:Int)<(X.size:Int):=by omega
   go_wp2;refine bodyPost_ret (ucz rfl _ _ w.heap.size 250 (Tok 0 ByteArray.empty 0) (0,0) _ rfl (uc0 (Bk.far a9.out (p:=⟨w.heap.size+1,1,none⟩) (by show w.heap.size≠w.heap.size+1;omega) (.string X))) Tryz.underlying250 rfl (by kernel_rfl)) rfl ?_
   exact⟨0,ByteArray.empty,0,9,rfl,(uo (b4.out.setCell (p:=⟨w.heap.size+1,1,none⟩) (by show w.heap.size<=w.heap.size+1;omega) (.string X)) ab _ _ _),(fun h=>absurd h (by decide)),(fun _ m hm h9=>absurd h9 (by have h1:=hm.uniq HL.out;omega))⟩
 | false=>
  go_wp2_with fail
  refine(KU.out _).mono ?_;rintro e w2⟨rfl,hb⟩;have b4:=hid (c3.out.trans (hb.mono c3.out.size));have a9:=hid (Bk.below b9.out hb (by simpa using Bk.lt b9.out))
  have b3:=hid (Bk.below c2.out hb (by simpa using Bk.lt c2.out))
  obtain⟨e0,e9,_⟩:=a9.out.facts;obtain⟨f2,f5,_⟩:=b3.out.facts;clear hb;cases ub with
  | true=>
   have c4:Hid (ua6 c.toNat=true):=by
    have h1:=d6.out;have h2:=a2.out;show _=_
    unfold ua6;rw[h2];simp
   go_wp2_with fail
   refine(KW.out _).mono ?_;rintro e w3⟨n,hL,rfl,hb⟩;have b1:=hid (b4.out.trans (hb.mono b4.out.size));have a7:=hid (Bk.below a9.out hb (by simpa using Bk.lt a9.out))
   have a8:=hid (Bk.below b3.out hb (by simpa using Bk.lt b3.out))
   obtain⟨e7,f0,_⟩:=a7.out.facts;obtain⟨f3,f6,_⟩:=a8.out.facts;clear hb;obtain⟨X,hX⟩:∃X,R.extract 0 n=X:=⟨_,rfl⟩;have e1:X.size=n:=by
    have h1:=hL.1;rw[<-hX];simp[ByteArray.size_extract];omega
   rw[hX];have HL:=hid (show ubj ua6 (s.extract pos s.size) n by rw[HR.out];exact hL)
   have c1:=hid (show(s.extract pos s.size).extract 0 n=X by rw[HR.out];exact hX)
   have d9:n<=R.size:=hL.1;have a6:Hid (1<=n):=by
    have h2:=hL;rw[<-HR.out]at h2;exact h2.pos hp (by rw[HC.out];exact c4.out)
   clear hL hX;by_cases e3:X.size<=24
   ·have c6:¬(24:Int)<(X.size:Int):=by omega
    have a4:=hid (b1.out.setCell (p:=⟨w.heap.size+1,1,none⟩) (by show w.heap.size<=w.heap.size+1;omega) (.string X))
    have a3:=hid (Bk.far a7.out (p:=⟨w.heap.size+1,1,none⟩) (by show w.heap.size≠w.heap.size+1;omega) (.string X))
    have a1:=hid (Bk.set a8.out 1 (.string X));simp only[List.setIfInBounds_toArray,List.set_cons_zero,List.set_cons_succ]at a1;go_wp2_with fail
    refine(KU.out _).mono ?_;rintro e w5⟨rfl,hb⟩;have a5:=hid (a4.out.trans (hb.mono a4.out.size));have a0:=hid (Bk.below a3.out hb (by simpa using Bk.lt a3.out))
    have b0:=hid (Bk.below a1.out hb (by simpa using Bk.lt a1.out))
    obtain⟨d0,d2,_⟩:=a0.out.facts;obtain⟨d3,d4,_⟩:=b0.out.facts;clear hb;go_wp2;refine bodyPost_ret (ucz rfl _ _ w.heap.size 250 (Tok 2 X pos) (0,0) _ rfl (uc0 (Bk.far a0.out (p:=⟨w.heap.size+1,0,none⟩) (by show w.heap.size≠w.heap.size+1;omega) (.int .i64 2))) Tryz.underlying250 rfl (by kernel_rfl)) rfl ?_
    exact⟨2,X,pos,0,rfl,(uo (a5.out.setCell (p:=⟨w.heap.size+1,0,none⟩) (by show w.heap.size<=w.heap.size+1;omega) (.int .i64 2)) ab _ _ _),(fun _=>⟨by have h1:=a6.out;omega,by have h1:=b2.out;omega,(fun _=>⟨by rw[HC.out];exact a2.out,n,by omega,HL.out,c1.out.symm⟩)⟩),(fun _ m hm _=>⟨rfl,rfl,by rw[hm.uniq HL.out];exact c1.out.symm⟩)⟩
   ·have c6:(24:Int)<(X.size:Int):=by omega
    go_wp2;refine bodyPost_ret (ucz rfl _ _ w.heap.size 250 (Tok 0 ByteArray.empty 0) (0,0) _ rfl (uc0 (Bk.far a7.out (p:=⟨w.heap.size+1,1,none⟩) (by show w.heap.size≠w.heap.size+1;omega) (.string X))) Tryz.underlying250 rfl (by kernel_rfl)) rfl ?_
    exact⟨0,ByteArray.empty,0,9,rfl,(uo (b1.out.setCell (p:=⟨w.heap.size+1,1,none⟩) (by show w.heap.size<=w.heap.size+1;omega) (.string X)) ab _ _ _),(fun h=>absurd h (by decide)),(fun _ m hm h9=>absurd h9 (by have h1:=hm.uniq HL.out;omega))⟩
  | false=>
   go_wp2_with fail
   refine(KD.out _).mono ?_;rintro e w3⟨rfl,hb⟩;have b1:=hid (b4.out.trans (hb.mono b4.out.size));have a7:=hid (Bk.below a9.out hb (by simpa using Bk.lt a9.out))
   have a8:=hid (Bk.below b3.out hb (by simpa using Bk.lt b3.out))
   obtain⟨e7,f0,_⟩:=a7.out.facts;obtain⟨f3,f6,_⟩:=a8.out.facts;clear hb;cases db with
   | true=>
    have a4:=hid (b1.out.setCell (p:=⟨w.heap.size+1,0,none⟩) (by show w.heap.size<=w.heap.size+1;omega) (.int .i64 3))
    have a3:=hid (Bk.far a7.out (p:=⟨w.heap.size+1,0,none⟩) (by show w.heap.size≠w.heap.size+1;omega) (.int .i64 3))
    have a1:=hid (Bk.set a8.out 0 (.int .i64 3));simp only[List.setIfInBounds_toArray,List.set_cons_zero,List.set_cons_succ]at a1;go_wp2_with fail
    refine(KG.out _).mono ?_;rintro e w5⟨n,hL,rfl,hb⟩;have a5:=hid (a4.out.trans (hb.mono a4.out.size));have a0:=hid (Bk.below a3.out hb (by simpa using Bk.lt a3.out))
    have b0:=hid (Bk.below a1.out hb (by simpa using Bk.lt a1.out))
    obtain⟨d0,d2,_⟩:=a0.out.facts;obtain⟨d3,d4,_⟩:=b0.out.facts;clear hb;obtain⟨X,hX⟩:∃X,R.extract 0 n=X:=⟨_,rfl⟩;have e1:X.size=n:=by
     have h1:=hL.1;rw[<-hX];simp[ByteArray.size_extract];omega
    rw[hX];have d9:n<=R.size:=hL.1;have a6:Hid (1<=n):=by
     have h2:=hL;rw[<-HR.out]at h2;exact h2.pos hp (by rw[HC.out];exact e2.out)
    clear hL hX;have KS:=hid fun w=>uvz X (by omega) w
    by_cases f8:(c.toNat:Int)=48
    ·by_cases e5:1<X.size
     ·have e6:(1:Int)<(X.size:Int):=by omega
      go_wp2;refine bodyPost_ret (ucz rfl _ _ w.heap.size 250 (Tok 0 ByteArray.empty 0) (0,0) _ rfl (uc0 (Bk.far a0.out (p:=⟨w.heap.size+1,1,none⟩) (by show w.heap.size≠w.heap.size+1;omega) (.string X))) Tryz.underlying250 rfl (by kernel_rfl)) rfl ?_
      exact⟨0,ByteArray.empty,0,2,rfl,(uo (a5.out.setCell (p:=⟨w.heap.size+1,1,none⟩) (by show w.heap.size<=w.heap.size+1;omega) (.string X)) ab _ _ _),(fun h=>absurd h (by decide)),(fun h=>by rw[HC.out,a2.out]at h;cases h)⟩
     ·have e6:¬(1:Int)<(X.size:Int):=by omega
      have b7:=hid (a5.out.setCell (p:=⟨w.heap.size+1,1,none⟩) (by show w.heap.size<=w.heap.size+1;omega) (.string X))
      have c0:=hid (Bk.far a0.out (p:=⟨w.heap.size+1,1,none⟩) (by show w.heap.size≠w.heap.size+1;omega) (.string X))
      have b6:=hid (Bk.set b0.out 1 (.string X));simp only[List.setIfInBounds_toArray,List.set_cons_zero,List.set_cons_succ]at b6;go_wp2_with fail
      refine(KS.out _).mono ?_;rintro e w7⟨kb,rfl,hb⟩;have b8:=hid (b7.out.trans (hb.mono b7.out.size));have b5:=hid (Bk.below c0.out hb (by simpa using Bk.lt c0.out))
      have c5:=hid (Bk.below b6.out hb (by simpa using Bk.lt b6.out))
      obtain⟨e8,f1,_⟩:=b5.out.facts;obtain⟨f4,f7,_⟩:=c5.out.facts;clear hb;cases kb with
      | true=>
       go_wp2;refine bodyPost_ret (ucz rfl _ _ w.heap.size 250 (Tok 3 X pos) (0,0) _ rfl (uc0 b5.out) Tryz.underlying250 rfl (by kernel_rfl)) rfl ?_
       exact⟨3,X,pos,0,rfl,(uo b8.out ab _ _ _),(fun _=>⟨by have h1:=a6.out;omega,by have h1:=b2.out;omega,(fun h=>absurd h (by decide))⟩),(fun h=>by rw[HC.out,a2.out]at h;cases h)⟩
      | false=>
       go_wp2;refine bodyPost_ret (ucz rfl _ _ w.heap.size 250 (Tok 0 ByteArray.empty 0) (0,0) _ rfl (uc0 b5.out) Tryz.underlying250 rfl (by kernel_rfl)) rfl ?_
       exact⟨0,ByteArray.empty,0,9,rfl,(uo b8.out ab _ _ _),(fun h=>absurd h (by decide)),(fun h=>by rw[HC.out,a2.out]at h;cases h)⟩
    ·have b7:=hid (a5.out.setCell (p:=⟨w.heap.size+1,1,none⟩) (by show w.heap.size<=w.heap.size+1;omega) (.string X))
     have c0:=hid (Bk.far a0.out (p:=⟨w.heap.size+1,1,none⟩) (by show w.heap.size≠w.heap.size+1;omega) (.string X))
     have b6:=hid (Bk.set b0.out 1 (.string X));simp only[List.setIfInBounds_toArray,List.set_cons_zero,List.set_cons_succ]at b6;go_wp2_with fail
     refine(KS.out _).mono ?_;rintro e w7⟨kb,rfl,hb⟩;have b8:=hid (b7.out.trans (hb.mono b7.out.size));have b5:=hid (Bk.below c0.out hb (by simpa using Bk.lt c0.out))
     have c5:=hid (Bk.below b6.out hb (by simpa using Bk.lt b6.out))
     obtain⟨e8,f1,_⟩:=b5.out.facts;obtain⟨f4,f7,_⟩:=c5.out.facts;clear hb;cases kb with
     | true=>
      go_wp2;refine bodyPost_ret (ucz rfl _ _ w.heap.size 250 (Tok 3 X pos) (0,0) _ rfl (uc0 b5.out) Tryz.underlying250 rfl (by kernel_rfl)) rfl ?_
      exact⟨3,X,pos,0,rfl,(uo b8.out ab _ _ _),(fun _=>⟨by have h1:=a6.out;omega,by have h1:=b2.out;omega,(fun h=>absurd h (by decide))⟩),(fun h=>by rw[HC.out,a2.out]at h;cases h)⟩
     | false=>
      go_wp2;refine bodyPost_ret (ucz rfl _ _ w.heap.size 250 (Tok 0 ByteArray.empty 0) (0,0) _ rfl (uc0 b5.out) Tryz.underlying250 rfl (by kernel_rfl)) rfl ?_
      exact⟨0,ByteArray.empty,0,9,rfl,(uo b8.out ab _ _ _),(fun h=>absurd h (by decide)),(fun h=>by rw[HC.out,a2.out]at h;cases h)⟩
   | false=>
    have KI:=hid fun w=>uz0 R (by have h1:=b2.out;omega) (by omega) w
    have a4:=hid (b1.out.setCell (p:=⟨w.heap.size+1,0,none⟩) (by show w.heap.size<=w.heap.size+1;omega) (.int .i64 5))
    have a3:=hid (Bk.far a7.out (p:=⟨w.heap.size+1,0,none⟩) (by show w.heap.size≠w.heap.size+1;omega) (.int .i64 5))
    have a1:=hid (Bk.set a8.out 0 (.int .i64 5));simp only[List.setIfInBounds_toArray,List.set_cons_zero,List.set_cons_succ]at a1;go_wp2_with fail
    refine(KI.out _).mono ?_;rintro e w5⟨X,rfl,f9,hb⟩;have a5:=hid (a4.out.trans (hb.mono a4.out.size));have a0:=hid (Bk.below a3.out hb (by simpa using Bk.lt a3.out))
    have b0:=hid (Bk.below a1.out hb (by simpa using Bk.lt a1.out))
    obtain⟨d0,d2,_⟩:=a0.out.facts;obtain⟨d3,d4,_⟩:=b0.out.facts;clear hb;have a6:Hid (¬X=ByteArray.empty->1<=X.size):=by
     intro h;rcases aK X.size with h0|h0
     ·exact absurd (ByteArray.size_eq_zero_iff.1 h0) h
     ·exact h0
    by_cases d1:X=ByteArray.empty
    ·subst d1
     go_wp2;refine bodyPost_ret (ucz rfl _ _ w.heap.size 250 (Tok 0 ByteArray.empty 0) (0,0) _ rfl (uc0 (Bk.far a0.out (p:=⟨w.heap.size+1,1,none⟩) (by show w.heap.size≠w.heap.size+1;omega) (.string ByteArray.empty))) Tryz.underlying250 rfl (by kernel_rfl)) rfl ?_
     exact⟨0,ByteArray.empty,0,2,rfl,(uo (a5.out.setCell (p:=⟨w.heap.size+1,1,none⟩) (by show w.heap.size<=w.heap.size+1;omega) (.string ByteArray.empty)) ab _ _ _),(fun h=>absurd h (by decide)),(fun h=>by rw[HC.out,a2.out]at h;cases h)⟩
    ·have e0:X.toList.isEmpty=false:=by rw[<-decide_eq_emptyBytes];exact aQ d1
     go_wp2;refine bodyPost_ret (ucz rfl _ _ w.heap.size 250 (Tok 5 X pos) (0,0) _ rfl (uc0 (Bk.far a0.out (p:=⟨w.heap.size+1,1,none⟩) (by show w.heap.size≠w.heap.size+1;omega) (.string X))) Tryz.underlying250 rfl (by kernel_rfl)) rfl ?_
     exact⟨5,X,pos,0,rfl,(uo (a5.out.setCell (p:=⟨w.heap.size+1,1,none⟩) (by show w.heap.size<=w.heap.size+1;omega) (.string X)) ab _ _ _),(fun _=>⟨by exact a6.out d1,by have h1:=b2.out;omega,(fun h=>absurd h (by decide))⟩),(fun h=>by rw[HC.out,a2.out]at h;cases h)⟩
set_option maxHeartbeats 200000
set_option maxRecDepth 512
def U(s:ByteArray):Prop:=∃h:0<s.size,s.size<=24/\ubb (s[0]'h).toNat=true/\∀(j:Nat) (h:j<s.size),ua6 s[j].toNat=true
def ufu(s:ByteArray)(p n:Nat)(xs:List Value):Prop:=
 (n=0->xs=[])/\(1<=n->∃(k:Int) (t:ByteArray) (q:Int) (r:List Value),xs=[.int .i64 k,.string t,.int .i64 q]++r/\(k=2->t=s->U s)/\(U s->k=2/\t=s))/\(U s->(p=0/\n=0)\/(p=s.size/\n=1))
theorem utn{s t:ByteArray}(h:s.toList=t.toList):s=t:=by
 rw[ByteArray.toList_eq,ByteArray.toList_eq]at h;apply ByteArray.ext;exact Array.toList_inj.mp h
theorem udm(s:ByteArray):s.extract 0 s.size=s:=by
 apply ByteArray.ext;simp[ByteArray.data_extract]
theorem U.vCq{s:ByteArray}(h:U s):ubj ua6 (s.extract 0 s.size) s.size:=by
 rw[udm];exact⟨ab,fun j hj _=>h.2.2.2 j hj,fun hh=>absurd hh (by omega)⟩
theorem ufu.step{s:ByteArray}{p n:Nat}{xs:List Value}(hI:ufu s p n xs)(hp:p<s.size){kind q a1:Int}{a0:ByteArray}(h0:a1=0)
 (h1:a1=0->1<=a0.size/\p+a0.size<=s.size/\(kind=2->ubb (s[p]'hp).toNat=true/\∃n,n<=24/\ubj ua6 (s.extract p s.size) n/\a0=(s.extract p s.size).extract 0 n))
 (h2:ubb (s[p]'hp).toNat=true->∀n,ubj ua6 (s.extract p s.size) n->n<=24->a1=0/\kind=2/\a0=(s.extract p s.size).extract 0 n) :
 ufu s (p+a0.size) (n+1) (xs++[.int .i64 kind,.string a0,.int .i64 q]):=by
 obtain⟨ha,hb,hc⟩:=hI;have key:U s->p=0/\n=0/\kind=2/\a0=s:=fun hu=>by
  rcases hc hu with⟨h5,h6⟩|⟨h5,_⟩
  ·subst h5
   obtain⟨_,h7,h8⟩:=h2 hu.2.2.1 s.size hu.vCq hu.2.1;exact⟨rfl,h6,h7,by rw[h8,udm,udm]⟩
  ·omega
 refine⟨fun h=>by omega,fun _=>?_,fun hu=>?_⟩
 ·rcases aK n with hn|hn
  ·refine⟨kind,a0,q,[],by rw[ha hn];rfl,fun hk ht=>?_,fun hu=>⟨(key hu).2.2.1,(key hu).2.2.2⟩⟩
   obtain⟨h4,_,h6⟩:=h1 h0;obtain⟨a5,m,hm,hL,a4⟩:=h6 hk;have a3:a0.size=m:=by
    have:=hL.1;rw[a4];simp[ByteArray.size_extract]at this ⊢;omega
   have a2:=hL.1;simp[ByteArray.size_extract]at a2;have a6:s.size=m:=by rw[<-ht];exact a3
   obtain rfl:p=0:=by omega
   rw[udm]at hL;exact⟨hp,by omega,a5,fun j hj=>hL.2.1 j hj (by omega)⟩
  ·obtain⟨k,t,q',r,e,h5,h6⟩:=hb hn
   exact⟨k,t,q',r++[.int .i64 kind,.string a0,.int .i64 q],by rw[e];simp,h5,h6⟩
 ·obtain⟨h5,h6,_,h8⟩:=key hu
  exact .inr ⟨by rw[h5,h8];omega,by omega⟩
theorem ufu.on{s:ByteArray}{p p' n:Nat}{xs:List Value}(hI:ufu s p n xs)(hp:p<s.size)(h:ubb (s[p]'hp).toNat=false):ufu s p' n xs/\¬U s:=by
 have hn:¬U s:=fun hu=>by
  rcases hI.2.2 hu with⟨rfl,_⟩|⟨h5,_⟩
  ·have:=hu.2.2.1
   rw[h]at this;cases this
  ·omega
 exact⟨⟨hI.1,hI.2.1,fun hu=>absurd hu hn⟩,hn⟩
theorem upp(k:Nat)(h:unf k=true):ubb k=false:=by
 unfold unf at h;unfold ubb;simp at h ⊢;omega
def unh(s:ByteArray)(w:World)(e:Ending)(w':World):Prop:=
 ∃(lv:Value) (pos err:Int),e = .returned (.tuple #[lv,.int .i64 pos,.int .i64 err])/\Below w.heap.size w w'/\(err≠0->¬U s) /\
  (err=0->∃n xs,w'.ownsRow w.heap.size 250 3 lv (n+1) xs/\(n=1->∃(k:Int) (t:ByteArray) (q:Int) (r:List Value),xs=[.int .i64 k,.string t,.int .i64 q]++r/\((k=2/\t=s)↔U s))/\(n≠1->¬U s))
def Fin(s:ByteArray)(n:Nat)(xs:List Value):Prop:=(n=1->∃(k:Int) (t:ByteArray) (q:Int) (r:List Value),xs=[.int .i64 k,.string t,.int .i64 q]++r/\((k=2/\t=s)↔U s))/\(n≠1->¬U s)
theorem ufu.fin{s:ByteArray}{p n:Nat}{xs:List Value}(h:ufu s p n xs)(hn:U s->n=1):Fin s n xs:=by
 refine⟨fun h1=>?_,fun h1 hu=>h1 (hn hu)⟩
 obtain⟨k,t,q,r,e,h5,h6⟩:=h.2.1 (by omega)
 exact⟨k,t,q,r,e,fun h=>h5 h.1 h.2,h6⟩
theorem uni{s:ByteArray}{w wr w3:World}{lv:Value}{n g cap:Nat}{xs v:List Value}(ho:wr.ownsRow w.heap.size 250 3 lv n xs)(hb:Below w.heap.size w wr)
 (a1:w3.ownsRow w.heap.size 250 3 (.slice (some ⟨g,0,none⟩) (n+1) cap) (n+1) (xs++v)) (hg:(wr.alloc (.cells v.toArray 250)).grownBy w3 lv.ownBlock) (z:Value) (hf:Fin s n xs) :
 unh s w (.returned (.tuple #[.slice (some ⟨g,0,none⟩) (n+1) cap,.int .i64 0,.int .i64 0])) w3:=by
 have a0:=hb.alloc hb.size (.cells v.toArray 250);refine⟨_,_,_,rfl,⟨hg.os.trans a0.os,hg.tape.trans a0.tape,hg.output.trans a0.output,ag a0.size hg.size,fun k hk=>(hg.block k (af hk a0.size) (fun e=>by have:=(ho.lt k e.symm).1;omega)).trans (a0.block k hk)⟩,fun h=>absurd rfl h,fun _=>⟨n,_,a1,fun h=>?_,hf.2⟩⟩
 obtain⟨k,t,q,r,e,h5⟩:=hf.1 h;exact⟨k,t,q,r++v,by rw[e];simp,h5⟩
theorem uev:(Tryz.prog.info? 250).map (fun i=>(i.size,i.bytes,i.zero.map fun z=>z.cells.size))=some (3,32,some 3):=by kernel_rfl
set_option maxHeartbeats 16000000
set_option maxRecDepth 100000
theorem uv0(s:ByteArray)(w:World):Calls Tryz.prog 188 #[.string s] w (unh s w):=by
 have KB:=hid fun k w=>uvy k w
 go_enter Tryz.func188,Tryz.ntmps188
 by_cases d6:16384<s.size
 ·have hi:(16384:Int)<(s.size:Int):=by omega
  go_wp2;go_step3
  go_wp2;rw[Exit.noGoto_ret];go_ret3
  exact⟨_,_,_,rfl,aa,fun _ hu=>by have:=hu.2.1;omega,fun h=>absurd h (by decide)⟩
 ·have hi:¬(16384:Int)<(s.size:Int):=by omega
  have d4:s.size<=1000000:=by omega
  have KS:=hid fun p hp w=>uz2 s p hp d4 w
  go_wp2;go_step3
  go_wp2;go_step3
  go_wp2;go_loopg [5,6] s.size (fun g lv pv wr=>∃(p n:Nat) (xs:List Value),p+g=s.size/\pv = .int .i64 p/\n<=p/\Hid (wr.ownsRow w.heap.size 250 3 lv n xs)/\Hid (ufu s p n xs)/\Hid (Below w.heap.size w wr))
  case atStart=>exact⟨0,0,[],by omega,rfl,ab,World.ownsRow_nil _ _ _ _,⟨fun _=>rfl,fun h=>absurd h (by omega),fun _=> .inl ⟨rfl,rfl⟩⟩,aa⟩
  case round=>
   obtain⟨p,n,xs,e0,rfl,d9,HO,HI,HB⟩:=hrel;obtain⟨lv,d3⟩:∃x,x=u5:=⟨_,rfl⟩;subst d3;by_cases hlt:p<s.size
   ·obtain⟨c,hc⟩:∃c:UInt8,s[p]'hlt=c:=⟨_,rfl⟩
    have HC:=hid hc;obtain⟨bb,b1⟩:∃b,unf c.toNat=b:=⟨_,rfl⟩;have c1:=hid b1;have b6:=hid (KB.out c.toNat wr);rw[b1]at b6;clear b1;go_wp2_with fail
    refine b6.out.mono ?_;rintro e w2⟨rfl,a1⟩;have a4:=hid (HB.out.trans (a1.mono HB.out.size));have a6:Hid (w2.ownsRow w.heap.size 250 3 lv n xs):=HO.out.kept (row:=none) ⟨a1.os,a1.tape,a1.output,a1.size,fun k hk _=>a1.block k hk⟩ (by cases lv.ownBlock<;>simp)
    clear a1;cases bb with
    | true=>
     go_wp2;go_roundg (gk-1)
     case measure=>omega
     case rel=>exact⟨p+1,n,xs,by omega,by go_num,by omega,a6,(HI.out.on hlt (by rw[HC.out];exact upp _ c1.out)).1,a4⟩
    | false=>
     by_cases c9:c.toNat=35
     ·have d0:(c.toNat:Int)=35:=by omega
      obtain⟨b8,a8⟩:=HI.out.on (p':=s.size) hlt (by rw[HC.out];unfold ubb;simp;omega)
      have b3:=hid a8;have b0:=hid b8;clear b8 a8;go_wp2;go_loopg [6] (s.size-p) (fun g2 pv wy=>∃p':Nat,p'+g2=s.size/\pv = .int .i64 p'/\p<=p'/\w2=wy)
      case atStart=>exact⟨p,by omega,rfl,ab,rfl⟩
      case round=>
       obtain⟨p',e1,rfl,e2,rfl⟩:=hrel;by_cases hlt2:p'<s.size
       ·obtain⟨c2,d2⟩:∃c:UInt8,s[p']'hlt2=c:=⟨_,rfl⟩
        have c3:=hid d2;by_cases d5:c2.toNat=10
        ·have c8:(c2.toNat:Int)=10:=by omega
         have d8:p'≠p:=fun e=>by
          subst e;have h1:=HC.out;have h2:=c3.out;rw[h1]at h2;rw[h2]at c9;omega
         go_wp2;go_roundg (s.size-p')
         case measure=>omega
         case rel=>exact⟨p',n,xs,by omega,by go_num,by omega,a6,⟨b0.out.1,b0.out.2.1,fun hu=>absurd hu b3.out⟩,a4⟩
        ·have c8:¬(c2.toNat:Int)=10:=by omega
         go_wp2;go_roundg (gk-1)
         case measure=>omega
         case rel=>exact⟨p'+1,by omega,by go_num,by omega,rfl⟩
       ·have HF:=hid (b0.out.fin fun hu=>absurd hu b3.out)
        go_wp2_with (first|refine ua3 rfl 246 250 (.tmp 58) rfl Tryz.underlying246 3 32 uev (by decide) (by decide) [.int .i64 6,.string { data:=#[] },.int .i64 s.size] (.agg #[.int .i64 6,.string { data:=#[] },.int .i64 s.size]) rfl rfl rfl ?_|(at_builtin;refine uaf w2 rfl _ _ 246 250 rfl Tryz.underlying246 3 32 uev (by decide) (by decide) w.heap.size lv n xs [.int .i64 6,.string { data:=#[] },.int .i64 s.size] (by rfl) a6.out (by rfl) rfl (by intro u hu;simp at hu;rcases hu with rfl|rfl|rfl<;>rfl) (by omega) a4.out.size ?_))
        intro g b7 w3 a5 hg b2 b9;go_wp2;try rw[Exit.noGoto_ret]
        go_ret3
        exact uni a6.out a4.out a5 hg (.int .i64 0) HF.out
     ·have d0:¬(c.toNat:Int)=35:=by omega
      have c6:=hid (KS.out p hlt w2);go_wp2_with fail
      refine c6.out.mono ?_;rintro e w3⟨kind,a0,q,c7,rfl,a2,h1,h2⟩;unfold Tok;have a7:=hid (a4.out.trans (a2.mono a4.out.size));have b4:Hid (w3.ownsRow w.heap.size 250 3 lv n xs):=a6.out.kept (row:=none) ⟨a2.os,a2.tape,a2.output,a2.size,fun k hk _=>a2.block k hk⟩ (by cases lv.ownBlock<;>simp)
      have H1:=hid h1;have H2:=hid h2;clear a2 h1 h2;by_cases h0:c7=0
      ·obtain⟨e3,e4,_⟩:=H1.out h0
       have c5:=hid (HI.out.step hlt (q:=q) h0 H1.out H2.out);have a9:=hid (a7.out.alloc a7.out.size (.cells #[.int .i64 kind,.string a0,.int .i64 q] 250));have b5:=hid (b4.out.alloc (.cells #[.int .i64 kind,.string a0,.int .i64 q] 250));subst h0;go_wp2_with (first|refine ua3 rfl 246 250 (.tmp 47) rfl Tryz.underlying246 3 32 uev (by decide) (by decide) [.int .i64 kind,.string a0,.int .i64 q] (.agg #[.int .i64 kind,.string a0,.int .i64 q]) rfl rfl rfl ?_|(at_builtin;refine uaf (w3.alloc (.cells #[.int .i64 kind,.string a0,.int .i64 q] 250)) rfl _ _ 246 250 rfl Tryz.underlying246 3 32 uev (by decide) (by decide) w.heap.size lv n xs [.int .i64 kind,.string a0,.int .i64 q] (by rfl) b5.out (by rfl) rfl (by intro u hu;simp at hu;rcases hu with rfl|rfl|rfl<;>rfl) (by omega) a9.out.size ?_))
       intro g b7 w5 a5 hg b2 b9;have c4:=hid a5;have a3:=a9.out.alloc a9.out.size (.cells [.int .i64 kind,.string a0,.int .i64 q].toArray 250);have c0:Hid (Below w.heap.size w w5):=⟨hg.os.trans a3.os,hg.tape.trans a3.tape,hg.output.trans a3.output,ag a3.size hg.size,fun k hk=>(hg.block k (af hk a3.size) (fun e=>by have:=(b5.out.lt k e.symm).1;omega)).trans (a3.block k hk)⟩
       have d1:Bk w5 w3.heap.size 250 #[.int .i64 kind,.string a0,.int .i64 q]:=((Bk.new w3 _ _).alloc _).grown hg (fun e=>by have:=(b4.out.lt _ e.symm).2;omega)
       obtain⟨d7,_,_⟩:=d1.facts;clear a5 hg b2 a3;go_wp2;go_roundg (gk-a0.size)
       case measure=>omega
       case rel=>exact⟨p+a0.size,n+1,_,by omega,by go_num,by omega,c4,c5,c0⟩
      ·have a8:¬U s:=fun hu=>by
        rcases HI.out.2.2 hu with⟨h5,h6⟩|⟨h5,_⟩
        ·subst h5
         exact h0 (H2.out hu.2.2.1 s.size hu.vCq hu.2.1).1
        ·omega
       go_wp2;try rw[Exit.noGoto_ret]
       go_ret3
       exact⟨_,_,_,rfl,a7.out.alloc a7.out.size _,fun _=>a8,fun h=>absurd h h0⟩
   ·have HF:=hid (HI.out.fin fun hu=>by
     have:=hu.1;rcases HI.out.2.2 hu with⟨h5,_⟩|⟨_,h⟩
     ·omega
     ·exact h)
    go_wp2_with (first|refine ua3 rfl 246 250 (.tmp 58) rfl Tryz.underlying246 3 32 uev (by decide) (by decide) [.int .i64 6,.string { data:=#[] },.int .i64 s.size] (.agg #[.int .i64 6,.string { data:=#[] },.int .i64 s.size]) rfl rfl rfl ?_|(at_builtin;refine uaf wr rfl _ _ 246 250 rfl Tryz.underlying246 3 32 uev (by decide) (by decide) w.heap.size lv n xs [.int .i64 6,.string { data:=#[] },.int .i64 s.size] (by rfl) HO.out (by rfl) rfl (by intro u hu;simp at hu;rcases hu with rfl|rfl|rfl<;>rfl) (by omega) HB.out.size ?_))
    intro g b7 w3 a5 hg b2 b9;go_wp2;try rw[Exit.noGoto_ret]
    go_ret3
    exact uni HO.out HB.out a5 hg (.int .i64 0) HF.out
theorem upq(s:ByteArray)(w:World):Calls Tryz.prog 135 #[.string s] w (fun e w'=>∃b:Bool,e = .returned (.bool b)/\(b=true↔U s)/\Below w.heap.size w w'):=by
 have a4:=hid (uv0 s w);go_enter Tryz.func135,Tryz.ntmps135
 go_wp2_with fail
 refine a4.out.mono ?_;rintro e w2⟨lv,pos,a5,rfl,hb,h1,h2⟩;have HB:=hid hb;have H1:=hid h1;have H2:=hid h2;clear hb h1 h2;by_cases h0:a5=0
 ·obtain⟨n,xs,a1,h3,h4⟩:=H2.out h0
  subst h0;obtain⟨g,cap,rfl⟩:∃g cap,lv = .slice (some ⟨g,0,none⟩) (n+1) cap:=by
   rcases a1.2 with⟨_,hn0⟩|⟨g,cap,cur,hv,_⟩
   ·omega
   ·exact⟨g,cap,hv⟩
  have a0:=a1.cells rfl;simp only[Addr.add_lit,Nat.zero_add]at a0;have a9:=(a1.lt g rfl).2;clear a1;by_cases hn:n=1
  ·obtain⟨k,t,q,r,rfl,a3⟩:=h3 hn
   have a2:=hid a3;have a7:=a0 0 (.int .i64 k) rfl;have a8:=a0 1 (.string t) rfl;subst hn;clear h3 h4 a0 a3;by_cases hk:k=2
   ·by_cases ht:t=s
    ·have HT:=hid (a2.out.1 ⟨hk,ht⟩)
     subst hk;subst ht;go_wp2;go_ret
     exact⟨true,rfl,by simp[HT.out],HB.out⟩
    ·have HT:Hid (¬U s):=fun hu=>ht (a2.out.2 hu).2
     subst hk;have a6:¬t.toList=s.toList:=fun h=>ht (utn h)
     go_wp2;go_ret
     exact⟨false,by simp[a6],by simp[show ¬U s from HT.out],HB.out⟩
   ·have HT:Hid (¬U s):=fun hu=>hk (a2.out.2 hu).1
    go_wp2;go_ret
    exact⟨false,rfl,by simp[show ¬U s from HT.out],HB.out⟩
  ·have HT:=hid (h4 hn)
   have b0:¬((n:Int)+1=2):=by omega
   have b1:¬(((n+1:Nat):Int)=2):=by omega
   go_wp2;go_ret
   exact⟨false,rfl,by simp[show ¬U s from HT.out],HB.out⟩
 ·go_wp2
  go_ret
  exact⟨false,rfl,by simp[H1.out h0],HB.out⟩
section
open Go.Maps
set_option maxHeartbeats 200000
set_option maxRecDepth 512
theorem uv1:Keyed Tryz.prog 9:=string_keyed Tryz.underlying9
theorem ufv{H:Type}{P:Program}{e:TypeId}(he:P.underlying e=some .bool){v:Value}{z:DataW H×List MemPlace}(h:plainElem P e v=some z):∃b,v = .bool b/\z=(.lit (.bool b),[]):=by
 unfold plainElem at h;rw[he]at h;cases v<;>simp at h
 exact⟨_,rfl,h.symm⟩
def ujo(w:World)(b n:Nat)(ks:List (List UInt8)):Prop:=
 ∃D:DataW Unit,w.ownsMap Tryz.prog 9 (plainElem Tryz.prog 4) b n D/\IsMap D/\∀l:List UInt8,D.atKey (.string l) (.lit (.bool false)) = .lit (.bool (decide (l∈ks)))
theorem ujo.made(w:World):ujo (w.alloc (.map #[] 0)) w.heap.size 0 []:=⟨_,World.ownsMap_made _ _ _ _,isMap_empty,fun l=>by simp[DataW.atKey]⟩
theorem ujo.grown{w w':World}{b n:Nat}{ks:List (List UInt8)}{row:Option Nat}(h:ujo w b n ks)(hg:w.grownBy w' row)(a0:some b≠row):ujo w' b n ks:=by
 obtain⟨D,h1,h2,h3⟩:=h;exact⟨D,h1.kept hg a0,h2,h3⟩
theorem ujo.below{w w':World}{b n:Nat}{ks:List (List UInt8)}(h:ujo w b n ks)(hb:Below w.heap.size w w'):ujo w' b n ks:=h.grown (row:=none) ⟨hb.os,hb.tape,hb.output,hb.size,fun k hk _=>hb.block k hk⟩ (by simp)
theorem uIs(w:World):(zeroValue 4).run Tryz.prog w = .ok (.bool false) w:=by kernel_rfl
theorem unj{a b:Bool}(h:(DataW.lit (.bool a):DataW Unit) = .lit (.bool b)):a=b:=by
 injection h with h;injection h
theorem ujo.look{w:World}{b n:Nat}{ks:List (List UInt8)}(h:ujo w b n ks){s:ByteArray}(hs:s.size<=maxLen) :
 (Instr.lookup 196 (.map (some b)) (.string s) false).run Tryz.prog w = .ok (.bool (decide (s.data.toList∈ks))) w:=by
 obtain⟨D,h1,h2,h3⟩:=h;obtain⟨v,ps,a0,hv⟩:=h1.lookup uv1 Tryz.underlying196 (uIs w) (plainElem_bool Tryz.underlying4 false) (WideMaps.keyOf_string_mk Tryz.underlying9 hs);obtain⟨c,rfl,hc⟩:=ufv Tryz.underlying4 hv;simp only[Prod.mk.injEq]at hc;have h4:=h3 s.data.toList;rw[hc.1]at h4;have h5:c=decide (s.data.toList∈ks):=unj h4;rw[<-h5];exact a0
theorem ujo.put{w:World}{b n:Nat}{ks:List (List UInt8)}(h:ujo w b n ks)(hn:n<maxLen){s:ByteArray}(hs:s.size<=maxLen) :
 ∃w',(Instr.mapUpdate 196 (.map (some b)) (.string s) (.bool true)).run Tryz.prog w = .ok () w'/\ujo w' b (n+1) (s.data.toList::ks)/\w.grownBy w' (some b):=by
 obtain⟨D,h1,h2,h3⟩:=h;obtain⟨w',a0,h4,h5⟩:=h1.update uv1 Tryz.underlying196 hn (WideMaps.keyOf_string_mk Tryz.underlying9 hs) (plainElem_bool Tryz.underlying4 true);refine⟨w',a0,⟨_,h4,h2.put _ _,fun l=>?_⟩,h5⟩
 by_cases hl:l=s.data.toList
 ·subst hl
  rw[atKey_put_same h2 (by trivial)]
  simp
 ·rw[atKey_put_other (by intro e;injection e with e;exact hl e),h3]
  simp[hl]
end
set_option maxHeartbeats 200000
set_option maxRecDepth 512
def Un(l:List UInt8):Prop:=U ⟨l.toArray⟩
open Classical in
noncomputable def vAr (dat:List DaD) (d:Nat) (vr:Int):List (List UInt8)->List CoD->Option (List (List UInt8))
 | cs,[]=>some cs
 | cs,c::l=>if Un c.name/\c.name∉cs/\uee dat d vr c.args=true then vAr dat d vr (c.name::cs) l else none
open Classical in
noncomputable def vAw (dat:List DaD):Nat->List (List UInt8)->List (List UInt8)->List DaD->Bool
 | _,_,_,[]=>true
 | i,ns,cs,d::l=>if Un d.name/\d.name∉ns/\0<=d.vars/\d.vars<=6/\1<=d.cons.length/\d.cons.length<=8 then
  match vAr dat i d.vars cs d.cons with
  | none=>false
  | some cs'=>vAw dat (i+1) (d.name::ns) cs' l
  else false
noncomputable def vA3 (dat:List DaD):Bool:=decide (dat.length<=12)&&vAw dat 0 [] [] dat
theorem uD1{s:ByteArray}{l:List UInt8}(h:s.data.toList=l):U s↔Un l:=by
 subst h;rfl
theorem Un.len{s:ByteArray}{l:List UInt8}(h:s.data.toList=l)(hu:Un l):s.size<=maxLen:=by
 have:=((uD1 h).2 hu).2.1;unfold maxLen;omega
theorem uv2{dat:List DaD}{d:Nat}{vr:Int}{cs:List (List UInt8)}{c:CoD}{l:List CoD}(h:¬(Un c.name/\c.name∉cs/\uee dat d vr c.args=true)):vAr dat d vr cs (c::l)=none:=by
 rw[vAr,if_neg h]
theorem uto{dat:List DaD}{d:Nat}{vr:Int}{cs:List (List UInt8)}{c:CoD}{l:List CoD}(h:Un c.name/\c.name∉cs/\uee dat d vr c.args=true):vAr dat d vr cs (c::l)=vAr dat d vr (c.name::cs) l:=by
 rw[vAr,if_pos h]
theorem uv3{dat:List DaD}{i:Nat}{ns cs:List (List UInt8)}{d:DaD}{l:List DaD}(h:¬(Un d.name/\d.name∉ns/\0<=d.vars/\d.vars<=6/\1<=d.cons.length/\d.cons.length<=8)):vAw dat i ns cs (d::l)=false:=by
 rw[vAw,if_neg h]
theorem utp{dat:List DaD}{i:Nat}{ns cs:List (List UInt8)}{d:DaD}{l:List DaD}(h:Un d.name/\d.name∉ns/\0<=d.vars/\d.vars<=6/\1<=d.cons.length/\d.cons.length<=8):vAw dat i ns cs (d::l) =
 match vAr dat i d.vars cs d.cons with
  | none=>false
  | some cs'=>vAw dat (i+1) (d.name::ns) cs' l:=by
 rw[vAw,if_pos h]
set_option maxHeartbeats 16000000
set_option maxRecDepth 100000
theorem uln{D:Nat->Prop}{dat:List DaD}{A:Option Addr}{dl dc:Nat}(w:World)(hD:DaS w D dat A dl dc) :
 Calls Tryz.prog 79 #[.slice A dl dc] w (uY (.bool (vA3 dat)) w):=by
 have KU:=hid fun s w=>upq s w
 have g4:dl=dat.length:=hD.1;have n0:=hD.2.1;have l8:dc<=maxLen:=hD.2.2.1;unfold maxLen at l8;have c2:=hid g4;have HD:=hid hD;obtain⟨q,hq⟩:∃q,vA3 dat=q:=⟨_,rfl⟩;rw[hq];have HQ:=hid hq;clear hq hD g4;have l9:= @run_makeMap Tryz.prog;go_enter Tryz.func79,Tryz.ntmps79
 by_cases m4:dl<=12
 ·have l5:¬(12:Int)<(dl:Int):=by omega
  have g8:vAw dat 0 [] [] dat=q:=by
   rw[<-HQ.out,vA3,decide_eq_true (by have:=c2.out;omega),Bool.true_and]
  have j9:=hid g8;clear g8;go_upto_region 4 with(fail)
  obtain⟨G,hG⟩:∃G,G=(w.alloc (.map #[] 0)).alloc (.map #[] 0):=⟨_,rfl⟩;have h6:Hid (ujo G w.heap.size 0 []):=by rw[hG];exact(ujo.made w).below (aa.alloc ab _)
  have j0:Hid (ujo G (w.heap.size+1) 0 []):=by rw[hG];have:=ujo.made (w.alloc (.map #[] 0));exact hid (by simpa using this)
  have h4:Hid (Below w.heap.size w G):=by rw[hG];exact(aa.alloc ab _).alloc (by simp) _
  rw[<-hG];clear hG l9;go_wp2;go_loopw [15] (fun iv wr=>∃(i:Nat) (ns cs:List (List UInt8)) (n2:Nat),i<=dl/\iv = .int .i64 i/\Hid (vAw dat i ns cs (dat.drop i)=q)/\Hid (ujo wr w.heap.size i ns)/\n2<=8*i/\Hid (ujo wr (w.heap.size+1) n2 cs)/\Hid (Below w.heap.size w wr)) (fun iv _=>dl-(intOf iv).toNat)
  case atStart=>exact⟨0,[],[],0,by omega,rfl,j9,h6,by omega,j0,h4⟩
  case round=>
   obtain⟨i,ns,cs,n2,hi,rfl,HV,j5,n8,j6,HB⟩:=hrel;by_cases n6:i<dl
   ·have d9:i<dat.length:=by have:=c2.out;omega
    obtain⟨b,off,s,A',b0,l4,rfl,hb,e0,e1,e2,c6,m0,b7⟩:=HD.out.get (i:=i) d9;have k9:=hid fun(c:Nat) (hc:c<dat[i].cons.length) (x:World) (hx:Below w.heap.size w x)=>ulm i c d9 hc x (HD.out.below hx)
    have hv:=HV.out;rw[aN d9]at hv;have a8:¬(Un dat[i].name/\dat[i].name∉ns/\0<=dat[i].vars/\dat[i].vars<=6/\1<=dat[i].cons.length/\dat[i].cons.length<=8)->q=false:=fun h=>by rw[<-hv,uv3 h]
    have a3:(Un dat[i].name/\dat[i].name∉ns/\0<=dat[i].vars/\dat[i].vars<=6/\1<=dat[i].cons.length/\dat[i].cons.length<=8)->q=match vAr dat i dat[i].vars cs dat[i].cons with
     | none=>false
     | some a1=>vAw dat (i+1) (dat[i].name::ns) a1 (dat.drop (i+1)):=fun h=>by rw[<-hv,utp h]
    have d8:b0=dat[i].cons.length:=b7.1;have m9:=b7.2.1;have l7:l4<=maxLen:=b7.2.2.1;unfold maxLen at l7;have h5:=hid b7;have c9:=hid d8;rw[<-d8]at a8 a3;generalize dat[i].cons=cons at *;generalize dat[i].vars=vr at *;unfold rng at m0;have c1:=uD1 c6;have b9:=fun h=>Un.len c6 h
    have g6:=c6;generalize dat[i].name=nm at *;have b2:=hid a8;have l2:=hid a3;have f7:=hid c1;have k3:=hid b9;have f3:=hid g6;clear hv a8 a3 c1 b9 g6 c6 b7 d8;have c0:=ux e0 HB.out hb;have m6:b<wr.heap.size:=by have:=HB.out.size;omega
    have n1:(0:Int)<=i:=by omega
    go_wp2_with fail
    refine(KU.out s _).mono ?_;rintro e w2⟨ub,rfl,hu,c3⟩;have a2:=hid (HB.out.trans (c3.mono HB.out.size));have d4:=hid (j5.out.below c3);have f5:=hid (j6.out.below c3);have m7:b<w2.heap.size:=by have:=a2.out.size;omega
    have d0:=ux e0 a2.out hb;have d1:=ux e1 a2.out hb;have d2:=ux e2 a2.out hb;have HU:=hid hu;clear c3 hu c0 e0 e1;cases ub with
    | false=>
     have a0:=hid (b2.out fun h=>by have:=HU.out.2 (f7.out.2 h.1);cases this)
     go_wp2;go_ret
     exact⟨by rw[show q=false from a0.out];rfl,a2.out⟩
    | true=>
     have a9:=f7.out.1 (HU.out.1 rfl);have h1:=k3.out a9;have b8:=d4.out.look h1;obtain⟨nb,a6⟩:∃nb,decide (s.data.toList∈ns)=nb:=⟨_,rfl⟩;rw[a6]at b8;have a7:=a6;rw[f3.out]at a7;have e9:=hid a7;clear a6 a7;have k5:=hid a9;clear a9;cases nb with
     | true=>
      have a0:=hid (b2.out fun h=>h.2.1 (of_decide_eq_true e9.out))
      go_wp2;go_ret
      exact⟨by rw[show q=false from a0.out];rfl,a2.out⟩
     | false=>
      by_cases n9:vr<0
      ·have a0:=hid (b2.out fun h=>by omega)
       go_wp2;go_ret
       exact⟨by rw[show q=false from a0.out];rfl,a2.out⟩
      by_cases o0:6<vr
      ·have a0:=hid (b2.out fun h=>by omega)
       go_wp2;go_ret
       exact⟨by rw[show q=false from a0.out];rfl,a2.out⟩
      obtain⟨w3,g7,a5,a4⟩:=d4.out.put (by unfold maxLen;omega) h1
      rw[f3.out]at a5;have j7:=hid a5;have j8:=hid (f5.out.grown a4 (by simp))
      have b3:Hid (Below w.heap.size w w3):=a2.out.grown a4 a2.out.size (fun j hj=>by cases hj;exact ab)
      have k2:=ux e2 b3.out hb;have m8:b<w3.heap.size:=by have:=b3.out.size;omega
      clear a5 a4 d4 f5;go_upto_region 10 with(fail)
      clear d0 d1 d2 b8 g7;by_cases n4:b0<1
      ·have a0:=hid (b2.out fun h=>by omega)
       go_wp2;go_ret
       exact⟨by rw[show q=false from a0.out];rfl,b3.out⟩
      by_cases n5:8<b0
      ·have a0:=hid (b2.out fun h=>by omega)
       go_wp2;go_ret
       exact⟨by rw[show q=false from a0.out];rfl,b3.out⟩
      have a3:=l2.out ⟨k5.out,by have:=e9.out;simpa using this,by omega,by omega,by omega,by omega⟩
      have HY:=hid a3;clear a3;obtain⟨r0,e3⟩:∃r,vAr dat i vr cs cons=r:=⟨_,rfl⟩;rw[e3]at HY;have k1:=hid e3;clear e3;go_wp2;go_loopw [78] (fun jv wr=>∃(j:Nat) (a1:List (List UInt8)) (m2:Nat),j<=b0/\jv = .int .i64 j/\Hid (vAr dat i vr a1 (cons.drop j)=r0)/\Hid (ujo wr w.heap.size (i+1) (nm::ns))/\m2<=8*i+j/\Hid (ujo wr (w.heap.size+1) m2 a1)/\Hid (Below w.heap.size w wr)) (fun jv _=>b0-(intOf jv).toNat)
      case atStart=>exact⟨0,cs,n2,by omega,rfl,k1,j7,by omega,j8,b3⟩
      case round=>
       obtain⟨j,a1,m2,hj,rfl,f9,e6,n7,e7,b1⟩:=hrel;by_cases n3:j<b0
       ·have g5:j<cons.length:=by have:=c9.out;omega
        obtain⟨bc,o2,sc,Ac,al,ac,rfl,g3,f0,f1,c5,l6⟩:=h5.out.get (i:=j) g5;have e4:=k9.out j (by have:=c9.out;omega)
        have hv:=f9.out;rw[aN g5]at hv;have a8:¬(Un cons[j].name/\cons[j].name∉a1/\uee dat i vr cons[j].args=true)->r0=none:=fun h=>by rw[<-hv,uv2 h]
        have a3:(Un cons[j].name/\cons[j].name∉a1/\uee dat i vr cons[j].args=true)->Hid (vAr dat i vr (cons[j].name::a1) (cons.drop (j+1))=r0):=fun h=>by show _=r0;rw[<-hv,uto h]
        obtain⟨ao,g2⟩:∃x,uee dat i vr cons[j].args=x:=⟨_,rfl⟩;rw[g2]at e4 a8 a3;have c1:=uD1 c5;have b9:=fun h=>Un.len c5 h
        generalize cons[j].name=cn at *;have d3:=hid a8;have l3:=hid a3;have f8:=hid c1;have k4:=hid b9;have f4:=hid c5;have l0:=hid e4;clear hv a8 a3 c1 b9 c5 e4 l6 g2;have g0:=ux f0 b1.out g3;have g1:=ux f1 b1.out g3;have m5:bc<wr.heap.size:=by have:=b1.out.size;omega
        obtain⟨w4,c7⟩:∃w4,w4=wr.alloc (.cells #[.string sc,.slice Ac al ac] 202):=⟨_,rfl⟩;have c4:Below wr.heap.size wr w4:=by rw[c7];exact aa.alloc ab _
        have d6:Hid (Bk w4 wr.heap.size 202 #[.string sc,.slice Ac al ac]):=by rw[c7];exact Bk.new _ _ _
        have j1:=hid (e6.out.below c4);have j2:=hid (e7.out.below c4);have e5:=hid (b1.out.trans (c4.mono b1.out.size));go_upto_region 15 with(fail)
        rw[<-c7];clear c7 c4 g0 g1;obtain⟨m1,_,_⟩:=d6.out.facts;go_wp2_with fail
        refine(KU.out sc _).mono ?_;rintro e w5⟨ub,rfl,hu,b5⟩;have b4:=hid (e5.out.trans (b5.mono e5.out.size));have d7:=hid (d6.out.below b5 d6.out.lt);have j3:=hid (j1.out.below b5);have e8:=hid (j2.out.below b5);have f6:=hid hu;clear b5 hu m1;obtain⟨m3,_,_⟩:=d7.out.facts;have d5:Hid (r0=none->q=false):=fun h=>by rw[HY.out,h]
        cases ub with
        | false=>
         have a0:=hid (d5.out (d3.out fun h=>by have:=f6.out.2 (f8.out.2 h.1);cases this))
         go_wp2;go_ret
         exact⟨by rw[show q=false from a0.out];rfl,b4.out⟩
        | true=>
         have a9:=f8.out.1 (f6.out.1 rfl);have h2:=k4.out a9;have b8:=e8.out.look h2;obtain⟨nb,a6⟩:∃nb,decide (sc.data.toList∈a1)=nb:=⟨_,rfl⟩;rw[a6]at b8;have a7:=a6;rw[f4.out]at a7;have f2:=hid a7;clear a6 a7;have k6:=hid a9;clear a9;cases nb with
         | true=>
          have a0:=hid (d5.out (d3.out fun h=>h.2.1 (of_decide_eq_true f2.out)))
          go_wp2;go_ret
          exact⟨by rw[show q=false from a0.out];rfl,b4.out⟩
         | false=>
          go_wp2_with fail
          refine(l0.out _ b4.out).mono ?_;rintro e w6⟨rfl,b6⟩;have c8:=hid (b4.out.trans (b6.mono b4.out.size));have l1:=hid (d7.out.below b6 d7.out.lt);have j4:=hid (j3.out.below b6);have h7:=hid (e8.out.below b6);clear b6 m3 b8;obtain⟨o1,_,_⟩:=l1.out.facts;cases ao with
          | false=>
           have a0:=hid (d5.out (d3.out fun h=>by cases h.2.2))
           go_wp2;go_ret
           exact⟨by rw[show q=false from a0.out];rfl,c8.out⟩
          | true=>
           obtain⟨w7,g7,a5,a4⟩:=h7.out.put (by unfold maxLen;omega) h2
           rw[f4.out]at a5;have h9:=hid a5;have h8:=hid (j4.out.grown a4 (by simp))
           have h3:Hid (Below w.heap.size w w7):=c8.out.grown a4 c8.out.size (fun j hj=>by cases hj;omega)
           have k7:=l3.out ⟨k6.out,by have:=f2.out;simpa using this,rfl⟩
           clear a5 a4;go_wp2;go_roundw
           case rel=>exact⟨j+1,cn::a1,m2+1,by omega,by go_num,k7,h8,by omega,h9,h3⟩
           case measure=>simp[intOf];omega
       ·obtain rfl:j=b0:=by omega
        have hr:some a1=r0:=by
         rw[<-f9.out,List.drop_eq_nil_of_le (by have:=c9.out;omega),vAr]
        have k8:Hid (vAw dat (i+1) (nm::ns) a1 (dat.drop (i+1))=q):=by
         show _=q
         rw[HY.out,<-hr]
        clear hr;go_wp2;go_roundw
        case rel=>exact⟨i+1,nm::ns,a1,m2,by omega,by go_num,k8,e6,by omega,e7,b1⟩
        case measure=>simp[intOf];omega
   ·obtain rfl:i=dl:=by omega
    have h0:q=true:=by
     rw[<-HV.out,List.drop_eq_nil_of_le (by have:=c2.out;omega),vAw]
    have k0:=hid h0;clear h0;go_wp2;go_ret
    exact⟨by rw[show q=true from k0.out];rfl,HB.out⟩
 ·have l5:(12:Int)<(dl:Int):=by omega
  have g9:q=false:=by
   rw[<-HQ.out,vA3,aQ (by have:=c2.out;omega),Bool.false_and]
  have a0:=hid g9;clear g9;go_wp2;go_ret
  exact⟨by rw[show q=false from a0.out];rfl,aa⟩
end Go.Proofs.YtnbbpmagijpmpaaGreatDoor
