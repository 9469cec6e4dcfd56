/-
  The reference's writer: rows of texts.
-/
import Derived.Test.YtellcholbkoakaaGreatDoorHCRa
import Derived.Test.YtellcholbkoakaaGreatDoorHCDi
import Derived.Test.YtellcholbkoakaaGreatDoorHRTa
import Derived.Test.YtellcholbkoakaaGreatDoorHRefE
import Derived.Handy
import Derived.Lib.ConvBytes
namespace Go.Proofs.YtellcholbkoakaaGreatDoor
open Go.Lib (hid)
open Go.RowKit AC
set_option linter.unusedVariables false
set_option linter.unusedSimpArgs false
def MX:Nat:=100000000
def Strs(w:World)(v:Value)(k:Nat)(tx:Nat→List UInt8):Prop:=
 ∃A c,v = .slice A k c∧k≤c∧c≤maxLen∧(0<k→∃b off,A=some ⟨b,off,none⟩∧b<w.heap.size∧∀i,i<k→w.cell? ⟨b,off+i,none⟩=some (.string ⟨(tx i).toArray⟩))
def ug9(tx:Nat→List UInt8)(k:Nat):List Value:=udf (fun i=>[.string ⟨(tx i).toArray⟩]) k
theorem utf(tx:Nat→List UInt8){k i:Nat}(h:i<k):(ug9 tx k)[i]? = some (.string ⟨(tx i).toArray⟩):=by
 have:=ugh (us:=fun i=>[Value.string ⟨(tx i).toArray⟩]) (sz:=1) (n:=k) (i:=i) (j:=0) (x:= .string ⟨(tx i).toArray⟩) (fun _ _=>rfl) h rfl
 rw[Nat.mul_one,Nat.add_zero]at this;exact this
theorem Strs.below{w w':World}{v:Value}{k:Nat}{tx:Nat→List UInt8}(h:Strs w v k tx)(hb:Below w.heap.size w w'):Strs w' v k tx:=by
 obtain⟨A,c,h1,h2,h3,h4⟩:=h;refine⟨A,c,h1,h2,h3,fun h0=>?_⟩
 obtain⟨b,off,h5,h6,h7⟩:=h4 h0;exact⟨b,off,h5,Nat.lt_of_lt_of_le h6 hb.size,fun i hi=>(World.cell?_of_block (a:=⟨b,off+i,none⟩) (hb.block b h6)).trans (h7 i hi)⟩
theorem Strs.congr{w:World}{v:Value}{k:Nat}{tx tx':Nat→List UInt8}(h:Strs w v k tx)(e:∀i,i<k→tx i=tx' i):Strs w v k tx':=by
 obtain⟨A,c,h1,h2,h3,h4⟩:=h;refine⟨A,c,h1,h2,h3,fun h0=>?_⟩
 obtain⟨b,off,h5,h6,h7⟩:=h4 h0;exact⟨b,off,h5,h6,fun i hi=>by rw[h7 i hi,e i hi]⟩
theorem Strs.new(w:World)(T:TypeId)(ts:List (List UInt8))(cs:Array Value)(h:cs.toList=ts.map fun t=>Value.string ⟨t.toArray⟩)(n:Nat)(hn:n=ts.length)(hl:n≤100):Strs (w.alloc (.cells cs T)) (.slice (some ⟨w.heap.size,0,none⟩) n n) n (fun i=>ts.getD i []):=by
 subst hn;refine⟨_,_,rfl,Nat.le_refl _,by unfold maxLen;omega,fun h0=>⟨_,_,rfl,by simp,fun i hi=>?_⟩⟩
 rw[World.cell?_alloc_at _ _ _ _ rfl,Nat.zero_add];show cs[i]? = _
 rw[←Array.getElem?_toList,h,List.getElem?_map,List.getElem?_eq_getElem hi];simp[List.getD,hi]
def TI(tx:Nat→List UInt8)(w:World)(lv:Value)(k:Nat)(wr:World):Prop:=
 wr.ownsRow w.heap.size 9 1 lv k (ug9 tx k)∧Below w.heap.size w wr
theorem TI.start(tx:Nat→List UInt8){w w1:World}(h:Below w.heap.size w w1):TI tx w (.slice none 0 0) 0 w1:=⟨World.ownsRow_nil _ _ _ _,h⟩
theorem TI.form{tx:Nat→List UInt8}{w wr:World}{lv:Value}{k:Nat}(h:TI tx w lv k wr):∃A c,lv = .slice A k c∧k≤c∧c≤maxLen:=by
 rcases h.1.2 with⟨rfl,rfl⟩|⟨g,cap,cur,rfl,hb,hgg,h3,h4,_⟩
 ·exact⟨none,0,rfl,Nat.le_refl _,by unfold maxLen;omega⟩
 ·exact⟨_,cap,rfl,h3,h4⟩
theorem TI.below{tx:Nat→List UInt8}{w wr w1:World}{lv:Value}{k:Nat}(h:TI tx w lv k wr)(hb:Below wr.heap.size wr w1):TI tx w lv k w1:=
 ⟨h.1.kept (row:=none) (World.grownBy.ofBelow hb none) (by cases lv.ownBlock<;>simp),h.2.trans (hb.mono h.2.size)⟩
theorem TI.strs{tx:Nat→List UInt8}{w wr:World}{lv:Value}{k:Nat}(h:TI tx w lv k wr):Strs wr lv k tx:=by
 obtain⟨A,c,hlv,h2,h3⟩:=h.form;refine⟨A,c,hlv,h2,h3,fun h0=>?_⟩
 have hc:=fun g (hg:lv.ownBlock=some g)=>h.1.cells hg
 have hl:=h.1.lt;rcases h.1.2 with⟨_,hn0⟩|⟨g,cap,cur,hv,hb,hgg,_⟩
 ·omega
 ·have hA:A=some ⟨g,0,none⟩:=by rw[hv]at hlv;injection hlv with hlv;exact hlv.symm
  have hob:lv.ownBlock=some g:=by rw[hv];rfl
  refine⟨g,0,hA,(hl g hob).2,fun i hi=>?_⟩
  have:=hc g hob i _ (utf tx hi);rw[Addr.add_lit]at this;exact this
theorem TI.next{tx:Nat→List UInt8}{w w2 w3:World}{lv:Value}{k g cap:Nat}{t:List UInt8}(h:TI tx w lv k w2)(ht:t=tx k){xs:List Value}(hxs:xs=ug9 tx k)(hown:w3.ownsRow w.heap.size 9 1 (.slice (some ⟨g,0,none⟩) (k+1) cap) (k+1) (xs++[.string ⟨t.toArray⟩]))(hg:(w2.alloc (.cells #[.string ⟨t.toArray⟩] 9)).grownBy w3 lv.ownBlock) :
 TI tx w (.slice (some ⟨g,0,none⟩) (k+1) cap) (k+1) w3:=by
 subst ht;subst hxs;have hlv:∀x,lv.ownBlock=some x→w.heap.size≤x∧x<w2.heap.size:=fun x hx=>h.1.lt x hx
 refine⟨?_,?_⟩
 ·have:ug9 tx (k+1)=ug9 tx k++[.string ⟨(tx k).toArray⟩]:=ubj _ _
  rw[this];exact hown
 ·have hb:=h.2.alloc h.2.size (.cells #[.string ⟨(tx k).toArray⟩] 9)
  exact⟨hg.os.trans hb.os,hg.tape.trans hb.tape,hg.output.trans hb.output,Nat.le_trans hb.size hg.size,fun i hi=>(hg.block i (Nat.lt_of_lt_of_le hi hb.size) fun e=>by have:=(hlv i e.symm).1;omega).trans (hb.block i hi)⟩
def ud8(g:FuncId)(s:Shape):Prop:=
 ∀(w:World) (D:Nat→Prop) (v:List Value) (t:List UInt8),Rep w D s v [t]→t.length≤MX→Calls Tryz.prog g #[uas s v] w (FmtPost t w)
theorem ud9(a b:List UInt8):(⟨a.toArray⟩:ByteArray)++⟨b.toArray⟩=⟨(a++b).toArray⟩:=by
 apply ByteArray.ext;simp
def umv(n k i:Nat):List UInt8:=if i<k then ufw n i else if k=0 then []else Lib.decDigits n
theorem uv3{n k i:Nat}(h:i<k):(umv n k i).length=9*i:=by unfold umv;rw[if_pos h,uma]
theorem utg{n k i:Nat}(h:i+1<k):ufs 9 (dg n i)++umv n k i=umv n k (i+1):=by
 unfold umv;rw[if_pos (by omega),if_pos h,uke]
theorem uv4{n k i:Nat}(hk:dl n=k)(h:i+1=k):Lib.decDigits (dg n i)++umv n k i=umv n k (i+1):=by
 unfold umv;rw[if_pos (by omega),if_neg (by omega),if_neg (by omega),umb (n:=n) (fun e=>by rw[e,uab]at hk;omega),hk,show k-1=i by omega]
set_option maxHeartbeats 4000000 in
set_option maxRecDepth 100000 in
theorem uea(w:World)(lo:Nat)(v:Value)(n:Nat)(hv:NatR w lo v n)(hk:dl n≤1000) :
 Calls Tryz.prog 219 #[v] w (FmtPost (Lib.decDigits n) w):=by
 obtain⟨_,A,c,rfl,hkc,hcm,hcell⟩:=hv;obtain⟨k,hkk⟩:∃k,dl n=k:=⟨_,rfl⟩;rw[hkk]at hkc hk hcell ⊢;unfold maxLen at hcm;have HC:=hid hcell;have HK:=hid hkk;clear hkk hcell;go_enter Tryz.func219,Tryz.ntmps219
 go_wp2;go_loopw [3,4] (fun ov iv wr=>∃i:Nat,i≤k∧iv = .int .i64 i∧ov = .string ⟨(umv n k i).toArray⟩∧Hid (Below w.heap.size w wr)) (fun _ iv _=>k-(intOf iv).toNat)
 case atStart=>exact⟨0,by omega,rfl,by unfold umv;split;rfl;split;rfl;omega,Below.refl _ _⟩
 case round=>
  obtain⟨i,hi,rfl,rfl,hB⟩:=hrel;by_cases hlt:i<k
  ·obtain⟨b,off,rfl,_,hbb,hce⟩:=HC.out (by omega)
   obtain⟨d,hd⟩:∃d,dg n i=d:=⟨_,rfl⟩;have hdl:d<1000000000:=by rw[←hd];exact uai _ _
   have hc:wr.cell? ⟨b,off+i,none⟩=some (.int .u32 (d:Int)):=(hB.out.cell (p:=⟨b,off+i,none⟩) hbb).trans ((hce i hlt).trans (by rw[hd]))
   have hol:=uv3 (n:=n) hlt;have HD:=hid hd;have HTOP:Hid (i+1=k→d≠0):=fun e=>by
    have:=ujx (n:=n) (fun e0=>by have:=HK.out;rw[e0,uab]at this;omega)
    rw[HK.out,show k-1=i by omega,hd]at this
    exact this
   clear hce hd;obtain⟨T,hT⟩:∃T,umv n k i=T:=⟨_,rfl⟩;rw[hT]at hol ⊢;have HT:=hid hT;clear hT;obtain⟨wo,hwo⟩:∃wo:World,wo=wr:=⟨_,rfl⟩;subst hwo;go_wp2;go_loopw [5,6,7] (fun pv vv jv wr=>∃j:Nat,j≤9∧jv = .int .i64 j∧vv = .int .u32 ((d/10^j:Nat):Int)∧pv = .string ⟨(ufs j (d%10^j)).toArray⟩∧(i+1=k→j=0∨0<d/10^(j-1))∧Hid (Below w.heap.size w wr)) (fun _ _ jv _=>9-(intOf jv).toNat)
   case atStart=>exact⟨0,by omega,rfl,by simp,rfl,fun _=> .inl rfl,hB⟩
   case round=>
    obtain⟨j,hj,rfl,rfl,rfl,hjt,hB2⟩:=hrel;obtain⟨u,hu⟩:∃u,d/10^j=u:=⟨_,rfl⟩;rw[hu];have hul:u<1000000000:=by rw[←hu];exact Nat.lt_of_le_of_lt (Nat.div_le_self _ _) hdl
    have HU:=hid hu;have hpl:=ui9 j (d%10^j);obtain⟨P,hP⟩:∃P,ufs j (d%10^j)=P:=⟨_,rfl⟩;rw[hP]at hpl ⊢;have HP:=hid hP;have HJT:=hid hjt;clear hu hP hjt;by_cases hgo:j<9∧(i+1<k∨0<u)
    ·obtain⟨hj9,hor⟩:=hgo
     have HNX:Hid (i+1=k→j+1=0∨0<d/10^(j+1-1)):=fun e=> .inr (by rw[show j+1-1=j by omega,HU.out];omega)
     by_cases hik:i+1<k
     ·clear hor
      obtain⟨cB,hcB⟩:∃cB,UInt8.ofNat (48+u%10)=cB:=⟨_,rfl⟩;have HCB:=hid hcB;have hcv:=run_convert_bytes_back (P:=Tryz.prog) (wr.alloc (.cells #[.int .u8 (48+(u:Int)%10)] 5)) 44 9 5 ⟨wr.heap.size,0,none⟩ 1 [cB] Tryz.underlying44 Tryz.underlying5 Tryz.underlying9 (fun m hm=>by
       have hm0:m=0:=by simpa using hm
       subst hm0;rw[Addr.add_lit,World.cell?_alloc_at _ _ _ _ rfl];have:=uei (show u%10<10 by omega)
       simp only[List.getElem_cons_zero];rw[←hcB,this];simp)
      go_wp2;rw[show(convert 44 9 (.slice (some ⟨wr.heap.size,0,none⟩) 1 1)).run Tryz.prog (wr.alloc (.cells #[.int .u8 (48+(u:Int)%10)] 5))=_ from hcv]
      simp only[Result.andThen];rw[Oper.upon_value];clear hcv hcB;go_wp2;go_roundw
      case rel=>
       refine⟨j+1,by omega,by go_num,?_,?_,?_,hB2.out.alloc hB2.out.size _⟩
       ·rw[Nat.pow_succ,←Nat.div_div_eq_div_mul,HU.out];go_num
       ·rw[uoh,HU.out,HP.out,HCB.out]
        rw[ud9];rfl
       ·exact HNX.out
      case measure=>simp[intOf];omega
     ·have hu0:0<u:=by omega
      clear hor;obtain⟨cB,hcB⟩:∃cB,UInt8.ofNat (48+u%10)=cB:=⟨_,rfl⟩;have HCB:=hid hcB;have hcv:=run_convert_bytes_back (P:=Tryz.prog) (wr.alloc (.cells #[.int .u8 (48+(u:Int)%10)] 5)) 44 9 5 ⟨wr.heap.size,0,none⟩ 1 [cB] Tryz.underlying44 Tryz.underlying5 Tryz.underlying9 (fun m hm=>by
       have hm0:m=0:=by simpa using hm
       subst hm0;rw[Addr.add_lit,World.cell?_alloc_at _ _ _ _ rfl];have:=uei (show u%10<10 by omega)
       simp only[List.getElem_cons_zero];rw[←hcB,this];simp)
      go_wp2;rw[show(convert 44 9 (.slice (some ⟨wr.heap.size,0,none⟩) 1 1)).run Tryz.prog (wr.alloc (.cells #[.int .u8 (48+(u:Int)%10)] 5))=_ from hcv]
      simp only[Result.andThen];rw[Oper.upon_value];clear hcv hcB;go_wp2;go_roundw
      case rel=>
       refine⟨j+1,by omega,by go_num,?_,?_,?_,hB2.out.alloc hB2.out.size _⟩
       ·rw[Nat.pow_succ,←Nat.div_div_eq_div_mul,HU.out];go_num
       ·rw[uoh,HU.out,HP.out,HCB.out]
        rw[ud9];rfl
       ·exact HNX.out
      case measure=>simp[intOf];omega
    ·have HE:Hid (P++T=umv n k (i+1)):=by
      show P++T=_
      by_cases hik:i+1<k
      ·obtain rfl:j=9:=by omega
       rw[←utg hik,←HP.out,←HT.out,HD.out,Nat.mod_eq_of_lt (show d<10^9 from hdl)]
      ·have hik':i+1=k:=by omega
       have hu0:u=0∨j=9:=by omega
       have hdj:d<10^j:=by
        rcases hu0 with h|h
        ·have h2:=HU.out
         rw[h]at h2;rcases Nat.div_eq_zero_iff.1 h2 with h3|h3
         ·exact absurd h3 (Nat.ne_of_gt (Nat.pow_pos (by decide)))
         ·exact h3
        ·subst h;exact hdl
       have hd0:=HTOP.out hik';have hj0:0<j:=by
        rcases Nat.eq_zero_or_pos j with h|h
        ·subst h;simp at hdj;omega
        ·exact h
       rw[←uv4 HK.out hik',←HP.out,←HT.out,HD.out,Nat.mod_eq_of_lt hdj,uoi j d hj0 hdj];rcases HJT.out hik' with h|h
       ·omega
       ·right
        have:=(Nat.div_pos_iff.1 h).2;exact this
     by_cases hj9:j=9
     ·subst hj9
      clear hgo;go_wp2;go_roundw
      case rel=>exact⟨i+1,by omega,by go_num,by rw[ud9,HE.out],hB2⟩
      case measure=>simp[intOf];omega
     ·have hu0:u=0:=by omega
      have hik:i+1=k:=by omega
      subst hu0;clear hgo;go_wp2;go_roundw
      case rel=>exact⟨i+1,by omega,by go_num,by rw[ud9,HE.out],hB2⟩
      case measure=>simp[intOf];omega
  ·obtain rfl:i=k:=by omega
   by_cases h0:i=0
   ·subst h0
    have e1:umv n 0 0=[]:=rfl;rw[e1];go_wp2;go_ret
    refine⟨?_,hB.out⟩;rw[uS.1 HK.out,Lib.decDigits_one (by decide)]
    rfl
   ·have e1:umv n i i=Lib.decDigits n:=by unfold umv;rw[if_neg (by omega),if_neg h0]
    rw[e1];have e2:(Lib.decDigits n).isEmpty=false:=by
     cases h:Lib.decDigits n with
     | nil=>exact absurd h (usn n)
     | cons c r=>rfl
    go_wp2;go_ret
    exact⟨rfl,hB.out⟩
set_option maxHeartbeats 1000000 in
theorem ubr(w:World)(lo:Nat)(v:Value)(K:Nat)(q:Rat)(hv:RatV w lo v K q)(hK:K≤4000000000) :
 Calls Tryz.prog 215 #[v] w (fun e w'=>e = .returned (.bool (decide (q.den=1)))∧Below w.heap.size w w'):=by
 have HV:=hid hv;obtain⟨s,A,k,c,A',k',c',rfl⟩:=hv.form;clear hv;go_enter Tryz.func215,Tryz.ntmps215
 go_wp2_with fail
 refine(ucv _ lo _ K q (HV.out.below (ulk w _)) hK).mono ?_;rintro e w1⟨v1,rfl,hr1,hb1⟩;have hbw1:=(ulk w _).trans (hb1.mono (by simp))
 have hR1:=(Bk.new _ 76 _).below hb1 (by simp)
 obtain⟨A2,c2,A3,c3,rfl,h3,h4⟩:=FracR.form hr1;obtain⟨hcR,hfR,hz2⟩:=hR1.facts;clear hr1 hb1;simp only[World.size_alloc]at h4;obtain⟨_,Ax,cx,hAx,hkc,hcm,hcell⟩:=h4;injection hAx with e1 _ e2;subst e1;subst e2;unfold maxLen at hcm;have hgo:∀z:Bool,(decide (q.den=1))=z→∀w',Below w.heap.size w w'→(Ending.returned (.bool z) = .returned (.bool (decide (q.den=1)))∧Below w.heap.size w w'):=by
  rintro z rfl w' hb;exact⟨rfl,hb⟩
 have HGO:=hid hgo;clear h3 hgo;by_cases h1:dl q.den=1
 ·obtain⟨b,off,rfl,hlb,hbb,hce⟩:=hcell (by omega)
  have hB:q.den<B:=by have:=uav q.den;rw[h1]at this;simpa using this
  have hcl:=hce 0 (by omega)
  rw[ubi hB,Nat.add_zero]at hcl;have hne:b≠w.heap.size:=by omega
  rw[h1]at hkc ⊢;clear hce hcell;obtain⟨d,hd⟩:∃d,q.den=d:=⟨_,rfl⟩;rw[hd]at hcl hB;have hB':d<1000000000:=hB;have HDD:=hid hd;clear hd hB h1;by_cases h2:d=1
  ·subst h2
   go_wp2;go_ret
   exact HGO.out _ (by rw[HDD.out];rfl) _ (uK hbw1 (Nat.le_refl _) _ _ _)
  ·have hne1:(((d:Nat):Int)==1)=false:=by rw[beq_eq_false_iff_ne];omega
   go_wp2;go_ret
   exact HGO.out _ (by rw[HDD.out];exact decide_eq_false h2) _ (uK hbw1 (Nat.le_refl _) _ _ _)
 ·have hne1:(((dl q.den:Nat):Int)==1)=false:=by rw[beq_eq_false_iff_ne];omega
  have hd1:decide (q.den=1)=false:=decide_eq_false (fun e=>h1 (by rw[e,uc1]))
  have HD1:=hid hd1;clear hcell hd1;go_wp2;go_ret
  exact HGO.out _ HD1.out _ (uK hbw1 (Nat.le_refl _) _ _ _)
theorem uoq{w:World}{lo:Nat}{neg:Bool}{A A':Option Addr}{c c' n d:Nat}(h:FracR w lo (.agg #[.bool neg,.slice A (dl n) c,.slice A' (dl d) c']) neg n d):NatR w lo (.slice A (dl n) c) n∧NatR w lo (.slice A' (dl d) c') d:=by
 obtain⟨vn,vd,hv,hn,hd⟩:=h;injection hv with hv;have h1:=congrArg (fun a:Array Value=>a.toList) hv
 simp at h1;obtain⟨e1,e2⟩:=h1;subst e1;subst e2;exact⟨hn,hd⟩
set_option maxHeartbeats 2000000 in
set_option maxRecDepth 100000 in
theorem ue5(w:World)(lo:Nat)(v:Value)(q:Rat)(hv:RatV w lo v 64 q) :
 Calls Tryz.prog 135 #[v] w (FmtPost (ues q) w):=by
 have hsz:=hv.size;have HV:=hid hv;obtain⟨s,A,k,c,A',k',c',rfl⟩:=hv.form;clear hv;have hszn:dl q.num.natAbs≤65:=Nat.le_trans (Nat.le_max_left _ _) hsz;have hszd:dl q.den≤65:=Nat.le_trans (Nat.le_max_right _ _) hsz;have hl1:(Lib.decDigits q.num.natAbs).length≤1000:=by have:=udi q.num.natAbs;omega
 have hl2:(Lib.decDigits q.den).length≤1000:=by have:=udi q.den;omega
 clear hsz;go_enter Tryz.func135,Tryz.ntmps135
 go_wp2_with fail
 refine(ucv _ lo _ 64 q (HV.out.below (ulk w _)) (by omega)).mono ?_
 rintro e w1⟨v1,rfl,hr1,hb1⟩;have hbw1:=(ulk w _).trans (hb1.mono (by simp))
 have hR1:=(Bk.new _ 76 _).below hb1 (by simp)
 simp only[World.size_alloc]at hr1;have HR1:=hid hr1;obtain⟨A2,c2,A3,c3,rfl,h3,h4⟩:=FracR.form hr1;obtain⟨hcR,hfR,hz2⟩:=hR1.facts;have HBK:=hid (((hR1.set 0 (.bool (decide (q.num<0)))).set 1 (.slice A2 (dl q.num.natAbs) c2)).set 2 (.slice A3 (dl q.den) c3));have HB1:=hid (uK (g:=w.heap.size) hbw1 (Nat.le_refl _) (.bool (decide (q.num<0))) (.slice A2 (dl q.num.natAbs) c2) (.slice A3 (dl q.den) c3));have HQ:=hid (ufk (g:=w.heap.size) HR1.out (by omega) (.bool (decide (q.num<0))) (.slice A2 (dl q.num.natAbs) c2) (.slice A3 (dl q.den) c3))
 clear hr1 hb1 h3 h4 hR1;have HND:=hid (uoq (show FracR _ (w.heap.size+1) _ _ _ _ from HQ.out))
 go_wp2_with fail
 refine(uea _ (w.heap.size+1) _ q.num.natAbs HND.out.1 (by omega)).mono ?_
 rintro e w3⟨rfl,hb3⟩;have HB3:=hid (HB1.out.trans (hb3.mono HB1.out.size));have hbk3:=HBK.out.below hb3 HBK.out.lt;have ca:=hbk3.cell 0;have cb:=hbk3.cell 1;have cc:=hbk3.cell 2;simp only[List.setIfInBounds_toArray,List.set_cons_zero,List.set_cons_succ,List.getElem?_toArray,List.getElem?_cons_zero,List.getElem?_cons_succ]at ca cb cc;have HQ3:=hid (RatR.toV (HQ.out.below hb3) (K:=65) (Nat.max_le.2 ⟨hszn,hszd⟩));have HD3:=hid (HND.out.2.below hb3);clear hb3;by_cases hneg:q.num<0
 ·have hdn:decide (q.num<0)=true:=by simpa using hneg
  rw[hdn]at HQ3 ca hbk3;by_cases hone:q.den=1
  ·have HO:=hid hone
   have HNG:=hid hneg;clear hone;go_wp2_with fail
   refine(ubr _ (w.heap.size+1) _ 65 q HQ3.out (by omega)).mono ?_
   rintro e w5⟨rfl,hb5⟩;have HB5:=hid (HB3.out.trans (hb5.mono HB3.out.size));rw[decide_eq_true HO.out];clear hb5;go_wp2;go_ret
   refine FmtPost.of ?_ HB5.out;have hone:=HO.out;simp[ues,hneg,hone]
  ·have HO:=hid hone
   have HNG:=hid hneg;clear hone;go_wp2_with fail
   refine(ubr _ (w.heap.size+1) _ 65 q HQ3.out (by omega)).mono ?_
   rintro e w5⟨rfl,hb5⟩;have HB5:=hid (HB3.out.trans (hb5.mono HB3.out.size));rw[decide_eq_false HO.out];have cd:=(hbk3.below hb5 hbk3.lt).cell 2;simp only[List.setIfInBounds_toArray,List.set_cons_zero,List.set_cons_succ,List.getElem?_toArray,List.getElem?_cons_zero,List.getElem?_cons_succ]at cd;have HD5:=hid (HD3.out.below hb5);clear hb5;go_wp2_with fail
   refine(uea _ (w.heap.size+1) _ q.den HD5.out (by omega)).mono ?_
   rintro e w6⟨rfl,hb6⟩;go_wp2;go_ret
   refine FmtPost.of ?_ (HB5.out.trans (hb6.mono HB5.out.size));have hone:=HO.out;simp[ues,hneg,hone]
 ·have hdn:decide (q.num<0)=false:=by simpa using hneg
  rw[hdn]at HQ3 ca hbk3;by_cases hone:q.den=1
  ·have HO:=hid hone
   have HNG:=hid hneg;clear hone;go_wp2_with fail
   refine(ubr _ (w.heap.size+1) _ 65 q HQ3.out (by omega)).mono ?_
   rintro e w5⟨rfl,hb5⟩;have HB5:=hid (HB3.out.trans (hb5.mono HB3.out.size));rw[decide_eq_true HO.out];clear hb5;go_wp2;go_ret
   refine FmtPost.of ?_ HB5.out;have hone:=HO.out;simp[ues,hneg,hone]
  ·have HO:=hid hone
   have HNG:=hid hneg;clear hone;go_wp2_with fail
   refine(ubr _ (w.heap.size+1) _ 65 q HQ3.out (by omega)).mono ?_
   rintro e w5⟨rfl,hb5⟩;have HB5:=hid (HB3.out.trans (hb5.mono HB3.out.size));rw[decide_eq_false HO.out];have cd:=(hbk3.below hb5 hbk3.lt).cell 2;simp only[List.setIfInBounds_toArray,List.set_cons_zero,List.set_cons_succ,List.getElem?_toArray,List.getElem?_cons_zero,List.getElem?_cons_succ]at cd;have HD5:=hid (HD3.out.below hb5);clear hb5;go_wp2_with fail
   refine(uea _ (w.heap.size+1) _ q.den HD5.out (by omega)).mono ?_
   rintro e w6⟨rfl,hb6⟩;go_wp2;go_ret
   refine FmtPost.of ?_ (HB5.out.trans (hb6.mono HB5.out.size));have hone:=HO.out;simp[ues,hneg,hone]
set_option maxHeartbeats 1000000 in
theorem uha(w:World)(n:Int)(h1 : -9223372036854775808≤n)(h2:n≤9223372036854775807):Calls Tryz.prog 64 #[.int .i64 n] w (FmtPost (Lib.itoa n) w):=by
 go_enter Tryz.func64,Tryz.ntmps64
 go_wp2_with fail
 refine(ukj _ n h1 h2).mono ?_;rintro e w1⟨v1,rfl,hr1,hb1⟩;have hdl:dl (mkRat n 1).num.natAbs≤64∧dl (mkRat n 1).den≤64:=by
  have e1:(mkRat n 1).num=n:=by rw[Rat.mkRat_one];rfl
  have e2:(mkRat n 1).den=1:=by rw[Rat.mkRat_one];rfl
  rw[e1,e2,uc1];refine⟨Nat.le_trans (ucp (k:=3) ?_) (by omega),by omega⟩
  have h3:B^3=1000000000000000000000000000:=by decide
  omega
 have HV:Hid (RatV w1 w.heap.size v1 64 (mkRat n 1)):=RatR.toV hr1 (Nat.max_le.2 hdl);have HB1:=hid hb1;obtain⟨A2,c2,A3,c3,rfl,h3,h4⟩:=FracR.form hr1;clear hr1 hb1 h3 h4 hdl;go_wp2_with fail
 refine(ue5 _ w.heap.size _ _ HV.out).mono ?_;rintro e w2⟨rfl,hb2⟩;go_wp2;go_ret
 exact⟨by rw[uvh];rfl,HB1.out.trans (hb2.mono HB1.out.size)⟩
set_option maxHeartbeats 1000000 in
theorem uqd(w:World)(b:Bool):Calls Tryz.prog 66 #[.bool b] w (FmtPost (if b then [49]else [48]) w):=by
 cases b with
 | true=>
  go_enter Tryz.func66,Tryz.ntmps66
  go_wp2;go_ret
  exact⟨rfl,Below.refl _ _⟩
 | false=>
  go_enter Tryz.func66,Tryz.ntmps66
  go_wp2;go_ret
  exact⟨rfl,Below.refl _ _⟩
set_option maxHeartbeats 1000000 in
theorem ux(w:World)(v:Value)(k:Nat)(tx:Nat→List UInt8)(hv:Strs w v k tx)(hl:(par tx k).length≤MX) :
 Calls Tryz.prog 59 #[v] w (FmtPost (par tx k) w):=by
 obtain⟨A,c,rfl,hkc,hcm,hcell⟩:=hv;have hb1:(ube tx k).length+2=(par tx k).length:=by unfold par;simp
 unfold MX at hl;unfold maxLen at hcm;have hkl:=uN tx k;have HC:=hid hcell;clear hcell;go_enter Tryz.func59,Tryz.ntmps59
 go_wp2;go_loop [3,7] (fun sv iv=>∃i:Nat,i≤k∧iv = .int .i64 i∧sv = .string ⟨(40::ube tx i).toArray⟩) (fun _ iv=>k-(intOf iv).toNat)
 case atStart=>exact⟨0,by omega,rfl,rfl⟩
 case round=>
  obtain⟨i,hi,rfl,rfl⟩:=hrel;by_cases hlt:i<k
  ·obtain⟨b,off,rfl,hblt,hce⟩:=HC.out (by omega)
   have hc:=hce i hlt;have hm:=udj tx (show i+1≤k from hlt)
   obtain⟨T,hT⟩:∃T,40::ube tx i=T:=⟨_,rfl⟩;obtain⟨U,hU⟩:∃U,tx i=U:=⟨_,rfl⟩;have HT:=hid hT;have HU:=hid hU;rw[hT];rw[hU]at hc;by_cases h0:i=0
   ·subst h0
    have hb2:ube tx 1=tx 0:=rfl;have hlT:T.length=1:=by rw[←hT];rfl
    have hlU:U.length≤100000000:=by rw[hb2,hU]at hm;omega
    have HE:Hid (T++U=40::ube tx 1):=by show _=_;rw[hb2,←hT,←hU];rfl
    simp only[Nat.add_zero]at hc;clear hce hm hb2 hT hU;go_wp2;go_round
    case rel=>exact⟨1,by omega,by go_num,by rw[ud9,HE.out]⟩
    case measure=>simp[intOf];omega
   ·have hb2:=ubf tx (show 0<i by omega)
    have hlT:T.length≤100000000:=by rw[←hT];have:=udj tx hi;simp;omega
    have hlU:T.length+U.length+1≤200000000:=by rw[hb2,hU]at hm;simp at hm;omega
    have HE:Hid (T++[32]++U=40::ube tx (i+1)):=by show _=_;rw[hb2,←hT,←hU];simp
    have hi0:0<i:=by omega
    have e32:(⟨#[32]⟩:ByteArray)=⟨([32]:List UInt8).toArray⟩:=rfl;clear hce hm hb2 hT hU;go_wp2;go_round
    case rel=>exact⟨i+1,by omega,by go_num,by rw[e32,ud9,ud9,HE.out]⟩
    case measure=>simp[intOf];omega
  ·obtain rfl:i=k:=by omega
   obtain⟨T,hT⟩:∃T,40::ube tx i=T:=⟨_,rfl⟩;have hlT:T.length≤100000000:=by rw[←hT];simp;omega
   have HE:Hid (T++[41]=par tx i):=by show _=_;rw[←hT];rfl
   have e41:(⟨#[41]⟩:ByteArray)=⟨([41]:List UInt8).toArray⟩:=rfl;rw[hT];clear hT;go_wp2;go_ret
   exact⟨by rw[←HE.out,←ud9];rfl,Below.refl _ _⟩
end Go.Proofs.YtellcholbkoakaaGreatDoor
