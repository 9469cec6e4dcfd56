/-
  The walk of the reference's natDiv.
-/
import Derived.Test.YtellcholbkoakaaGreatDoorHRefA
import Derived.Deep.CutBlock
import Derived.Deep.DeepCutAuto
import Derived.Test.YtellcholbkoakaaGreatDoorHRegion
namespace Go.Proofs.YtellcholbkoakaaGreatDoor
open Go.Lib (hid)
open Go.RowKit AC
set_option linter.unusedVariables false
set_option linter.unusedSimpArgs false
theorem uok(f:Nat→Nat)(z k:Nat):row (fun i=>if i=0 then z else f (i-1)) (k+1) = .int .u32 ((z:Nat):Int)::row f k:=by
 unfold row;rw[List.range_succ_eq_map,List.map_cons,List.map_map];rfl
theorem umk{P:Program}(wr:World){z:Nat}{ops:Array Oper}{rest:List Oper}{o:Oper}{a:Act}{Q:Exit→Act→World→Prop}(hgd:o.guard=none)(s x:Operand)(t:TypeId)
 (ho:o.op = .call { callee:= .builtin .append,args:=#[s,x],argTypes:=#[t,t] })
 (e:TypeId) (ht:P.underlying t=some (.slice e)) (hinfo:(P.info? e).map (fun i=>(i.zero,i.size,i.bytes))=some (some (.int .u32 0),1,4))
 (hs:a.eval s = .slice (some ⟨wr.heap.size,0,none⟩) 1 1) (A:Option Addr) (k c:Nat) (f:Nat→Nat) (hx:a.eval x = .slice A k c) (lo:Nat) (hl:Limbs wr lo (.slice A k c) k f)
 (hk:k≤4294967296000)
 (h:∀v' w',Own w' wr.heap.size e v' (k+1) (fun i=>if i=0 then z else f (i-1))→Below wr.heap.size wr w'→wpList P ops Q rest (a.put o.dst v') w'):wpList P ops Q (o::rest) a (wr.alloc (.cells #[.int .u32 ((z:Nat):Int)] e)):=by
 obtain⟨i,hi,hzz⟩:=Option.map_eq_some_iff.1 hinfo;simp only[Prod.mk.injEq]at hzz;obtain⟨hz0,hs1,hb4⟩:=hzz;obtain⟨_,A',c',hv,_,_,hcell⟩:=Limbs.alloc hl (.cells #[.int .u32 ((z:Nat):Int)] e);injection hv with hA _ hc;subst hA;subst hc;have hown:(wr.alloc (.cells #[.int .u32 ((z:Nat):Int)] e)).ownsRow wr.heap.size e 1 (.slice (some ⟨wr.heap.size,0,none⟩) 1 1) 1 [.int .u32 ((z:Nat):Int)]:=
  ⟨rfl,.inr ⟨wr.heap.size,1,_,rfl,Nat.le_refl _,heap_alloc_new _ _,Nat.le_refl _,by unfold maxLen;omega,rfl,rfl⟩⟩
 have hbw:Below wr.heap.size wr (wr.alloc (.cells #[.int .u32 ((z:Nat):Int)] e)):=(Below.refl _ _).alloc (Nat.le_refl _) _;cases A with
 | none=>
  have hk0:k=0:=by
   rcases Nat.eq_zero_or_pos k with h0|h0
   ·exact h0
   ·obtain⟨b,off,hA,_⟩:=hcell h0
    cases hA
  subst hk0;refine wpList_plain hgd fun K hK=>?_
  have hrun:(Builtin.append_ #[t,t] o.type #[.slice (some ⟨wr.heap.size,0,none⟩) 1 1,.slice none 0 c]).run P (wr.alloc (.cells #[.int .u32 ((z:Nat):Int)] e)) = .ok (.slice (some ⟨wr.heap.size,0,none⟩) 1 1) (wr.alloc (.cells #[.int .u32 ((z:Nat):Int)] e)):=by
   simp[Builtin.append_,run_underlying ht,Go.sizeOf,typeInfo,hi,Builtin.lenOf,Builtin.firstCells,storeCells]
  unfold Oper.wp;simp only[execOp,ho,resolve,invoke,builtin,Sem.run_bind,Sem.run_pure,Result.andThen_ok,List.map_toArray,List.map_cons,List.map_nil,hs,hx,hrun];refine hK _ _ (h _ _ ?_ hbw);unfold Own;rw[uok];exact hown
 | some ad=>
  refine wpList_append_own _ hgd s x t ho wr.heap.size e i (.int .u32 0) 1 4 ht hi hz0 hs1 hb4 rfl (by omega) _ 1 _ hs hown ad k c (row f k) hx (by rw[uee,Nat.mul_one]) ?_ ?_ (by unfold maxLen;omega) (by omega) (by simp) ?_
  ·intro j u hu
   have hj:j<k:=by
    rcases Nat.lt_or_ge j k with h1|h1
    ·exact h1
    ·rw[List.getElem?_eq_none (by rw[uee];exact h1)]at hu;cases hu
   rw[uru f hj]at hu;obtain⟨b,off,hA,_,_,hc⟩:=hcell (by omega)
   injection hA with hA;subst hA;rw[Addr.add_lit,hc j hj];exact hu
  ·intro u hu
   obtain⟨_,_,rfl⟩:=List.mem_map.1 hu;rfl
  ·intro v' w' hown' hg _
   refine h v' w' ?_ (hbw.grown hg (by simp) (by simp[Value.ownBlock]))
   unfold Own;rw[uok,Nat.add_comm k 1];exact hown'
theorem uxv{z r:Nat}(hz:z<B):∀i,(if i=0 then z else dg r (i-1))=dg (z+B*r) i:=by
 intro i;unfold dg;rcases i with _|i
 ·rw[if_pos rfl,Nat.pow_zero,Nat.div_one,Nat.add_mul_mod_self_left,Nat.mod_eq_of_lt hz]
 ·rw[if_neg (by omega),Nat.add_sub_cancel,Nat.pow_succ,Nat.mul_comm _ B,←Nat.div_div_eq_div_mul,Nat.add_mul_div_left _ _ udu,Nat.div_eq_of_lt hz,Nat.zero_add]
def uzz(w:World)(n m:Nat)(e:Ending)(w':World):Prop:=
 ∃v2 v3,e = .returned (.tuple #[v2,v3])∧NatR w' w.heap.size v2 (n/m)∧NatR w' w.heap.size v3 (n%m)∧Below w.heap.size w w'
set_option maxHeartbeats 1000000 in
theorem uml(w:World)(lo lo':Nat)(v v':Value)(n m:Nat)(hv:NatR w lo v n)(hv':NatR w lo' v' m)(hk:dl n≤4294967296)(hlt:n<m) :
 Calls Tryz.prog 283 #[v,v'] w (uzz w n m):=by
 have HV:=hid hv;have HV':=hid hv';obtain⟨A,c,rfl⟩:=Limbs.len hv;obtain⟨A',c',rfl⟩:=Limbs.len hv';have HC:=hid (uct hlt);clear hv hv';go_enter Tryz.func283,Tryz.ntmps283
 go_wp2_with fail
 refine(ua0 _ lo lo' _ _ n m HV.out HV'.out).mono ?_;rintro e w1⟨rfl,hq1⟩;rw[HC.out];go_wp2_with fail
 refine(udk _ lo _ (dl n) n (Limbs.below HV.out (hq1.below _)) (uav n) (by omega)).mono ?_
 rintro e w2⟨v2,rfl,hn2,hb2⟩;go_wp2;go_ret2
 exact⟨_,v2,rfl,by rw[Nat.div_eq_of_lt hlt];exact NatR.zero _ _,by rw[Nat.mod_eq_of_lt hlt];exact hn2.lower (hq1.below w.heap.size).size,(hq1.below _).trans (hb2.mono (hq1.below w.heap.size).size)⟩
set_option maxHeartbeats 1000000 in
theorem uki(w:World)(lo lo':Nat)(v v':Value)(n m:Nat)(hv:NatR w lo v n)(hv':NatR w lo' v' m)(hk:dl n≤4294967296)(hm1:dl m=1)(hge:m≤n) :
 Calls Tryz.prog 283 #[v,v'] w (uzz w n m):=by
 have HV:=hid hv;have HV':=hid hv';have hmB:m<1000000000:=by have:=uav m;rw[hm1]at this;simpa[udd]using this
 have hm0:0<m:=by
  rcases Nat.eq_zero_or_pos m with h|h
  ·rw[h,uab]at hm1;omega
  ·exact h
 obtain⟨A,c,rfl⟩:=Limbs.len hv;obtain⟨_,A',c',rfl,_,_,hb⟩:=hv';obtain⟨b,off,rfl,hlb,hbb,hcell⟩:=hb (by omega)
 have hcl:=hcell 0 (by omega)
 have hd0:dg m 0=m:=ubi hmB;rw[hd0,Nat.add_zero]at hcl;have HC:Hid (0≤ugb n m):=by
  show 0≤ugb n m
  rcases Nat.lt_or_ge m n with h|h
  ·rw[ucf h];omega
  ·rw[ucu (by omega)];omega
 obtain⟨z,hz⟩:∃z,z=ugb n m:=⟨_,rfl⟩;rw[←hz]at HC;have HZ:=hid hz;have hz0:=HC.out;rw[hm1]at HV' ⊢;clear hv hb hcell hz;go_enter Tryz.func283,Tryz.ntmps283
 go_wp2_with fail
 refine(ua0 _ lo lo' _ _ n m HV.out HV'.out).mono ?_;rintro e w1⟨rfl,hq1⟩;rw[←HZ.out];have hcl1:=((hq1.below w.heap.size).cell (p:=⟨b,off,none⟩) hbb).trans hcl;go_wp2_with fail
 refine(ukh _ lo _ n m (Limbs.below HV.out (hq1.below _)) (by omega) hmB hm0).mono ?_
 rintro e w2⟨v2,rfl,hn2,hb2⟩;have hmod:n%m<1000000000:=Nat.lt_trans (Nat.mod_lt _ hm0) hmB;go_wp2_with fail
 refine(uba _ (n%m) (by omega)).mono ?_
 rintro e w3⟨v3,rfl,hn3,hb3⟩;go_wp2;go_ret2
 have s1:=(hq1.below w.heap.size).size;have s2:=hb2.size;exact⟨v2,v3,rfl,(hn2.below hb3).lower s1,hn3.lower (by omega),((hq1.below _).trans (hb2.mono s1)).trans (hb3.mono (by omega))⟩
theorem usv{n m j:Nat}(hm:0<m):∃R,R=dg n j+B*(n/B^(j+1)%m)∧R<m*B∧R/m=dg (n/m) j∧R%m=n/B^j%m:=by
 obtain⟨h1,h2⟩:=ufb (n:=n) (j:=j) hm;have e:n/B^(j+1)%m*1000000000+dg n j=dg n j+B*(n/B^(j+1)%m):=by rw[udd,Nat.mul_comm,Nat.add_comm]
 rw[e]at h1 h2;refine⟨_,rfl,?_,h1,h2⟩;have h3:n/B^(j+1)%m<m:=Nat.mod_lt _ hm;have h4:=uai n j;have h5:B*(n/B^(j+1)%m+1)≤B*m:=Nat.mul_le_mul_left _ h3;rw[Nat.mul_add,Nat.mul_one]at h5;rw[Nat.mul_comm m B];omega
def uz6(w:World)(b n m:Nat)(rv iv:Value)(wr:World):Prop:=
 ∃j:Nat,j≤dl n∧iv = .int .i64 ((j:Int)-1)∧Hid (NatR wr (b+1) rv (n/B^j%m))∧Hid (RowU wr b 228 (dl n) (fun t=>if j≤t then dg (n/m) t else 0))∧Below w.heap.size w wr
set_option maxHeartbeats 4000000 in
theorem umm(w:World)(lo lo':Nat)(v v':Value)(n m:Nat)(hv:NatR w lo v n)(hv':NatR w lo' v' m)(hk:dl n≤4294967290)(hm2:2≤dl m)(hge:m≤n) :
 Calls Tryz.prog 283 #[v,v'] w (uzz w n m):=by
 have HV:=hid hv;have HV':=hid hv';have hm0:0<m:=by
  rcases Nat.eq_zero_or_pos m with h|h
  ·rw[h,uab]at hm2;omega
  ·exact h
 have hmn:dl m≤dl n:=ub6 hge;obtain⟨_,A,c,rfl,hkc,hcm,hb⟩:=hv;obtain⟨A',c',rfl⟩:=Limbs.len hv';unfold maxLen at hcm;have HB:=hid hb;have HC:Hid (0≤ugb n m):=by
  show 0≤ugb n m
  rcases Nat.lt_or_ge m n with h|h
  ·rw[ucf h];omega
  ·rw[ucu (by omega)];omega
 obtain⟨z,hz⟩:∃z,z=ugb n m:=⟨_,rfl⟩;rw[←hz]at HC;have HZ:=hid hz;have hz0:=HC.out;have hne1:(((dl m:Nat):Int)==1)=false:=by rw[beq_eq_false_iff_ne];omega
 clear hv' hb hz;go_enter Tryz.func283,Tryz.ntmps283
 go_wp2_with fail
 refine(ua0 _ lo lo' _ _ n m HV.out HV'.out).mono ?_;rintro e w0⟨rfl,hq0⟩;rw[←HZ.out];have hb0:=hq0.below w.heap.size;go_wp2_with (at_make;refine ubv _ rfl _ _ 74 rfl w.heap.size 228 Tryz.underlying74 uak _ _ _ _ (dl n) (by rfl) (by rfl) (by omega) (by omega) (by omega) w hb0 hb0.size ?_;intro b w1 hlb1 _ hrow1 hbw1 _)
 go_loopw [9,10] (fun rv iv wr=>uz6 w b n m rv iv wr) (fun _ iv _=>(intOf iv+1).toNat)
 case atStart=>
  refine⟨dl n,Nat.le_refl _,rfl,?_,hrow1.congr fun t ht=>by rw[if_neg (by omega)],hbw1⟩
  show NatR _ _ _ _
  rw[Nat.div_eq_of_lt (uav n),Nat.zero_mod];exact NatR.zero _ _
 case round=>
  obtain⟨j,hj,rfl,hr,hrow,hbw⟩:=hrel;rcases j with _|j
  ·have hrow0:Hid (RowU wr b 228 (dl n) (dg (n/m))):=hrow.out.congr fun t _=>by rw[if_pos (by omega)]
   have hq:Hid (n/m<B^dl n):=Nat.lt_of_le_of_lt (Nat.div_le_self _ _) (uav n);have hrf:=hr.out;rw[Nat.pow_zero,Nat.div_one]at hrf;have HRF:=hid hrf;clear hrow hr hrf;go_wp2_with fail
   refine(udk _ _ _ _ _ (hrow0.out.limbs hlb1 (by omega) fun i _=>Nat.lt_trans (uai _ i) (by decide)) hq.out (by omega)).mono ?_
   rintro e w'⟨v',rfl,hnat,hb2⟩;go_wp2;go_ret2
   exact⟨v',_,rfl,hnat.lower hbw.size,(HRF.out.below hb2).lower (by omega),hbw.trans (hb2.mono hbw.size)⟩
  ·have hd:dg n j<1000000000:=uai n j
   obtain⟨ba,off,rfl,hlb,hbb,hcell⟩:=HB.out (by omega)
   have hcl:=(hbw.cell (p:=⟨ba,off+j,none⟩) hbb).trans (hcell j (by omega))
   clear hcell;obtain⟨R,hR1,hR2,hR3,hR4⟩:=usv (n:=n) (j:=j) hm0;have hlenr:dl (n/B^(j+1)%m)≤dl m:=ub6 (Nat.le_of_lt (Nat.mod_lt _ hm0));obtain⟨r0,hr0⟩:∃r0,r0=n/B^(j+1)%m:=⟨_,rfl⟩;rw[←hr0]at hr hR1 hlenr;have hRl:R<B^(dl r0+1):=by
    rw[hR1,Nat.pow_succ,Nat.mul_comm _ B];have h1:=uav r0;have h2:B*(r0+1)≤B*B^dl r0:=Nat.mul_le_mul_left _ h1;have h3:=uai n j;rw[Nat.mul_add,Nat.mul_one]at h2;omega
   have hdlR:dl R≤dl m+1:=Nat.le_trans (ucp hRl) (by omega)
   have HR1:=hid hR1;have HR2:=hid hR2;have HR3:=hid hR3;have HR4:=hid hR4;have HRL:=hid hRl;obtain⟨A9,c9,rfl⟩:=Limbs.len hr.out;have hlr:=hrow.out.lt;clear hR1 hR2 hR3 hR4 hRl hr0;go_wp2_with (at_builtin;refine umk wr rfl _ _ 74 rfl 228 Tryz.underlying74 uak (by rfl) A9 (dl r0) c9 (dg r0) (by rfl) (b+1) hr.out (by omega) ?_;intro v1 w2 hown2 hbw2)
   have hown3:=hown2.congr (g:=dg R) fun i _=>by rw[HR1.out];exact uxv hd i
   refine(udk _ _ _ _ R (hown3.limbs fun i _=>Nat.lt_trans (uai _ i) (by decide)) HRL.out (by omega)).mono ?_
   rintro e w3⟨v3,rfl,hn3,hb3⟩;have hbw3:=hbw2.trans (hb3.mono hbw2.size);have HROW:=hid (hrow.out.below hbw3);have hs2:=hbw2.size;have hs3:=hb3.size;have HN3:=hid (hn3.lower (lo':=b+1) (by omega))
   have hbq:=hbw.trans (hbw3.mono hbw.size);have HM3:=hid (NatR.below HV'.out hbq);obtain⟨A3,c3,rfl⟩:=Limbs.len hn3;clear hown2 hown3 hn3 hb3 hbw3 hbw2 hrow hr hcl;go_wp2_with fail
   refine(usu _ _ _ _ _ R m HN3.out HM3.out hm2 hdlR).mono ?_;rintro e w4⟨d0,hd0,rfl,hq4⟩;go_upto_block 2 with(fail)
   go_cut [11] from 54 to 66 (fun dv wx=>∃d:Nat,d≤999999999∧dv = .int .u64 d∧Hid (m*d≤R)∧Below w3.heap.size w3 wx)
   case first=>
    go_wp2;go_loopw [11] (fun dv wx=>∃d:Nat,d≤999999999∧dv = .int .u64 d∧Below w3.heap.size w3 wx) (fun dv _=>(intOf dv).toNat)
    case atStart=>exact⟨d0,hd0,rfl,hq4.below _⟩
    case round=>
     obtain⟨d,hdd,rfl,hbx⟩:=hrel;rcases d with _|d
     ·go_wp2
      go_meet
      exact⟨0,by omega,rfl,Nat.zero_le _,hbx⟩
     ·have hgt:decide ((0:Int)<(d:Int)+1)=true:=by rw[decide_eq_true_iff];omega
      go_wp2_with fail
      refine(uba _ (d+1) (by omega)).mono ?_
      rintro e w5⟨v5,rfl,hn5,hb5⟩;have HN5:=hid hn5;have hbx5:=hbx.trans (hb5.mono hbx.size);have hdl5:dl (d+1)≤1:=ucp (by rw[Nat.pow_one,udd];omega)
      obtain⟨A5,c5,rfl⟩:=Limbs.len hn5;clear hn5 hb5;go_wp2_with fail
      refine(uik _ lo' _ _ _ m (d+1) (HM3.out.below hbx5) HN5.out (by omega) (by omega)).mono ?_
      rintro e w6⟨v6,rfl,hn6,hb6⟩;have HN6:=hid hn6;have hbx6:=hbx5.trans (hb6.mono hbx5.size);obtain⟨A6,c6,rfl⟩:=Limbs.len hn6;clear hn6 hb6;go_wp2_with fail
      refine(ua0 _ _ _ _ _ (m*(d+1)) R HN6.out (HN3.out.below hbx6)).mono ?_;rintro e w7⟨rfl,hq7⟩;have hbx7:=hbx6.trans (hq7.below _);by_cases hgr:R<m*(d+1)
      ·rw[ucf hgr]
       clear hgr;go_wp2;go_roundw
       case rel=>exact⟨d,by omega,by go_num,hbx7⟩
       case measure=>simp[intOf]
      ·have hc7:ugb (m*(d+1)) R≤0:=by
        rcases Nat.lt_or_ge (m*(d+1)) R with h|h
        ·rw[uct h];omega
        ·rw[ucu (by omega)];omega
       have HGR:Hid (m*(d+1)≤R):=Nat.le_of_not_lt hgr;generalize ugb (m*(d+1)) R=z7 at *;clear hgr;go_wp2;go_meet
       exact⟨d+1,by omega,by go_num,HGR,hbx7⟩
   case rest=>
    obtain⟨d,hdd,rfl,hmd,hbx⟩:=hcut;go_wp2_with fail
    refine(uba _ d (by omega)).mono ?_
    rintro e w5⟨v5,rfl,hn5,hb5⟩;have HN5:=hid hn5;have hbx5:=hbx.trans (hb5.mono hbx.size);have hdl5:dl d≤1:=ucp (by rw[Nat.pow_one,udd];omega)
    obtain⟨A5,c5,rfl⟩:=Limbs.len hn5;clear hn5 hb5;go_wp2_with fail
    refine(uik _ lo' _ _ _ m d (HM3.out.below hbx5) HN5.out (by omega) (by omega)).mono ?_
    rintro e w6⟨v6,rfl,hn6,hb6⟩;have HN6:=hid hn6;have hbx6:=hbx5.trans (hb6.mono hbx5.size);obtain⟨A6,c6,rfl⟩:=Limbs.len hn6;clear hn6 hb6;go_wp2_with fail
    refine(uij _ _ _ _ _ R (m*d) (R-m*d) (HN3.out.below hbx6) HN6.out (by omega) (by have:=hmd.out;omega)).mono ?_
    rintro e w7⟨v7,rfl,hn7,hb7⟩;have HN7:=hid hn7;have hbx7:=hbx6.trans (hb7.mono hbx6.size);have hs6:=hbx6.size;clear hn7 hb7;go_wp2;go_loopw [9,11] (fun rv dv wx=>∃d r:Nat,d≤999999999∧dv = .int .u64 d∧Hid (R=m*d+r)∧Hid (NatR wx (b+1) rv r)∧Below w3.heap.size w3 wx) (fun _ dv _=>1000000000-(intOf dv).toNat)
    case atStart=>exact⟨d,R-m*d,hdd,rfl,(by have:=hmd.out;show _=_;omega),HN7.out.lower (by omega),hbx7⟩
    case round=>
     obtain⟨d,r,hdd,rfl,hRd,hr,hbx⟩:=hrel;obtain⟨A9,c9,hv9⟩:=Limbs.len hr.out;subst hv9;have hrR:r≤R:=by have:=hRd.out;omega
     have hdlr:dl r≤4294967296:=Nat.le_trans (ub6 hrR) (by omega)
     go_wp2_with fail
     refine(ua0 _ _ lo' _ _ r m hr.out (HM3.out.below hbx)).mono ?_;rintro e w8⟨rfl,hq8⟩;have hbx8:=hbx.trans (hq8.below _);have HR8:=hid (NatR.below hr.out (hq8.below _));by_cases hlt:r<m
     ·have HD:Hid (d=dg (n/m) j):=by
       show _=_
       rw[←HR3.out,hRd.out,Nat.mul_add_div hm0,Nat.div_eq_of_lt hlt,Nat.add_zero]
      have HM:Hid (r=n/B^j%m):=by
       show _=_
       rw[←HR4.out,hRd.out,Nat.mul_add_mod,Nat.mod_eq_of_lt hlt]
      rw[uct hlt];have HRO:=hid (HROW.out.below hbx8);have hfz:=HRO.out.frozen j;have hc3:=HRO.out.cell (i:=j) (by omega)
      go_wp2;go_roundw
      case rel=>
       refine⟨j,by omega,by go_num,?_,RowU.congr (RowU.set HRO.out j (z:=d) (by go_num)) fun t ht=>?_,Below.setCell (hbq.trans (hbx8.mono hbq.size)) hlb1 _⟩
       ·show NatR _ _ _ _
        rw[←HM.out];exact Limbs.setCell HR8.out (Nat.lt_succ_self b) _
       ·by_cases e:t=j
        ·subst e;rw[uam,if_pos (by omega)];exact HD.out
        ·rw[uV _ _ e]
         by_cases h2:j+1≤t
         ·rw[if_pos h2,if_pos (by omega)]
         ·rw[if_neg h2,if_neg (by omega)]
      case measure=>simp[intOf]
     ·have hc8:0≤ugb r m:=by
       rcases Nat.lt_or_ge m r with h|h
       ·rw[ucf h];omega
       ·rw[ucu (by omega)];omega
      have hdn:d+1≤999999999:=by
       have h1:m*(d+1)≤R:=by rw[hRd.out,Nat.mul_add,Nat.mul_one];omega
       have h2:=Nat.lt_of_mul_lt_mul_left (Nat.lt_of_le_of_lt h1 HR2.out);rw[udd]at h2;omega
      generalize ugb r m=z8 at *;go_wp2_with fail
      refine(uij _ _ lo' _ _ r m (r-m) HR8.out (HM3.out.below hbx8) (by omega) (by omega)).mono ?_
      rintro e w9⟨v9,rfl,hn9,hb9⟩;have hs8:=hbx8.size;go_wp2;go_roundw
      case rel=>exact⟨d+1,r-m,hdn,by go_num,(by show _=_;rw[hRd.out,Nat.mul_add,Nat.mul_one];omega),hn9.lower (by omega),hbx8.trans (hb9.mono hs8)⟩
      case measure=>simp[intOf];omega
theorem uc7(w:World)(lo lo':Nat)(v v':Value)(n m:Nat)(hv:NatR w lo v n)(hv':NatR w lo' v' m)(hk:dl n≤4294967290)(hm:m≠0) :
 Calls Tryz.prog 283 #[v,v'] w (uzz w n m):=by
 rcases Nat.lt_or_ge n m with h|h
 ·exact uml w lo lo' v v' n m hv hv' (by omega) h
 ·have h1:0<dl m:=Nat.pos_of_ne_zero (mt uS.1 hm)
  by_cases h2:dl m=1
  ·exact uki w lo lo' v v' n m hv hv' (by omega) h2 h
  ·exact umm w lo lo' v v' n m hv hv' hk (by omega) h
set_option maxHeartbeats 1000000 in
theorem upx(w:World)(lo:Nat)(v v':Value)(a b:Nat)(hlo:lo≤w.heap.size)(hv:NatR w lo v a)(hv':NatR w lo v' b)(hk:dl a≤4294967290)(hk':dl b≤4294967290) :
 Calls Tryz.prog 282 #[v,v'] w (Ret fun v2 w'=>NatR w' lo v2 (Nat.gcd a b)∧Below w.heap.size w w'):=by
 have H1:=hid hv;have H2:=hid hv';obtain⟨A,c,rfl⟩:=Limbs.len hv;obtain⟨A',c',rfl⟩:=Limbs.len hv';clear hv hv';go_enter Tryz.func282,Tryz.ntmps282
 go_wp2;go_loopg [0,1] b (fun m av bv wr=>∃x y:Nat,y≤m∧dl x≤4294967290∧dl y≤4294967290∧NatR wr lo av x∧NatR wr lo bv y∧Hid (Nat.gcd x y=Nat.gcd a b)∧Below w.heap.size w wr)
 case atStart=>exact⟨a,b,Nat.le_refl _,hk,hk',H1.out,H2.out,rfl,Below.refl _ _⟩
 case round=>
  obtain⟨x,y,hym,hkx,hky,hx,hy,hg,hbw⟩:=hrel;obtain⟨A1,c1,rfl⟩:=Limbs.len hx;obtain⟨A2,c2,rfl⟩:=Limbs.len hy;have HX:=hid hx;have HY:=hid hy;clear hx hy;by_cases hy0:y=0
  ·subst hy0
   rw[uab]at *;go_wp2;go_ret
   refine⟨_,rfl,?_,hbw⟩;have:=hg.out;rw[Nat.gcd_zero_right]at this;rw[←this];exact HX.out
  ·have hyp:0<dl y:=Nat.pos_of_ne_zero (mt uS.1 hy0)
   go_wp2_with fail
   refine(uc7 _ lo lo _ _ x y HX.out HY.out hkx hy0).mono ?_;rintro e w1⟨q,r,rfl,hq,hr,hb1⟩;have hlt:x%y<y:=Nat.mod_lt _ (Nat.pos_of_ne_zero hy0);have hs:=hbw.size;go_wp2;go_roundg (x%y)
   case rel=>
    refine⟨y,x%y,Nat.le_refl _,hky,Nat.le_trans (ub6 (Nat.le_of_lt hlt)) hky,HY.out.below hb1,hr.lower (by omega),?_,hbw.trans (hb1.mono hs)⟩
    show _=_
    rw[←hg.out,Nat.gcd_comm x y,Nat.gcd_comm y (x%y),←Nat.gcd_rec]
   case measure=>omega
set_option maxHeartbeats 2000000 in
theorem upy(w:World)(lo lo':Nat)(neg:Bool)(v v':Value)(kn kd:Nat)(fn fd:Nat→Nat)(hn:Limbs w lo v kn fn)(hd:Limbs w lo' v' kd fd)(hkn:kn≤4000000000)(hkd:kd≤4000000000)(N D:Nat)(hN:Hid (N=vs fn kn))(hD:Hid (D=vs fd kd))(h0:N=0∨D=0) :
 Calls Tryz.prog 213 #[.bool neg,v,v'] w (Ret fun v2 w'=>FracR w' w.heap.size v2 false 0 1∧Below w.heap.size w w'):=by
 have HN:=hid hn;have HD:=hid hd;obtain⟨A,c,rfl⟩:=Limbs.len hn;obtain⟨A',c',rfl⟩:=Limbs.len hd;clear hn hd;go_enter Tryz.func213,Tryz.ntmps213
 go_wp2_with fail
 refine(ujb _ lo _ kn fn (HN.out.below (ulk w _)) (by omega)).mono ?_
 rintro e w1⟨v1,rfl,hn1,hb1⟩;rw[←hN.out]at hn1;have HN1:=hid hn1;have HR1:=hid ((Bk.new w 76 #[.bool false,.slice none 0 0,.slice none 0 0]).below hb1 (by simp))
 have hbw1:=(ulk w _).trans (hb1.mono (by simp))
 obtain⟨A1,c1,rfl⟩:=Limbs.len hn1;have hz1:w.heap.size<w1.heap.size:=HR1.out.lt;clear hn1 hb1;go_wp2_with fail
 refine(ujb _ lo' _ kd fd (HD.out.below hbw1) (by omega)).mono ?_
 rintro e w2⟨v2,rfl,hn2,hb2⟩;rw[←hD.out]at hn2;have HN2:=hid (hn2.lower (lo':=w.heap.size+1) hz1);have HN1':=hid ((HN1.out.below hb2).lower (lo':=w.heap.size+1) (by simp))
 have HR2:=hid (HR1.out.below hb2 hz1);have hbw2:=hbw1.trans (hb2.mono hbw1.size);obtain⟨A2,c2,rfl⟩:=Limbs.len hn2;have hz2:w.heap.size<w2.heap.size:=HR2.out.lt;clear hn2 hb2 HN1 HR1;have H0:=hid h0;clear h0;obtain⟨hcR,hfR,hzR⟩:=HR2.out.facts;by_cases h1:N=0
 ·subst h1
  rw[uab]at *;go_wp2;have hF:=((((HR2.out.set 0 (.bool false)).set 1 (.slice none 0 0)).set 2 (.slice (some ⟨w2.heap.size,0,none⟩) 1 1)).alloc (.cells #[.int .u32 1] 228));obtain⟨hcF,_,_⟩:=hF.facts;refine bodyPost_ret (v:= .agg #[.bool false,.slice none 0 0,.slice (some ⟨w2.heap.size,0,none⟩) 1 1]) (by simp[results,Tryz.results213,go_sem,hcF]) rfl ⟨_,rfl,⟨_,_,rfl,NatR.zero _ _,?_⟩,(uK hbw2 (Nat.le_refl _) _ _ _).alloc (by rw[uc6];omega) _⟩
  have h1:=NatR.oneNew (((w2.setCell ⟨w.heap.size,0,none⟩ (.bool false)).setCell ⟨w.heap.size,1,none⟩ (.slice none 0 0)).setCell ⟨w.heap.size,2,none⟩ (.slice (some ⟨w2.heap.size,0,none⟩) 1 1)) w.heap.size 228 (by rw[uc6];omega)
  rw[uc6]at h1;exact h1
 ·have h2:D=0:=by have:=H0.out;omega
  subst h2;rw[uab]at *;have hne:(((dl N:Nat):Int)==0)=false:=by
   rw[beq_eq_false_iff_ne];have:=mt uS.1 h1;omega
  go_wp2;have hF:=((((HR2.out.set 0 (.bool false)).set 1 (.slice none 0 0)).set 2 (.slice (some ⟨w2.heap.size,0,none⟩) 1 1)).alloc (.cells #[.int .u32 1] 228));obtain⟨hcF,_,_⟩:=hF.facts;refine bodyPost_ret (v:= .agg #[.bool false,.slice none 0 0,.slice (some ⟨w2.heap.size,0,none⟩) 1 1]) (by simp[results,Tryz.results213,go_sem,hcF]) rfl ⟨_,rfl,⟨_,_,rfl,NatR.zero _ _,?_⟩,(uK hbw2 (Nat.le_refl _) _ _ _).alloc (by rw[uc6];omega) _⟩
  have h1:=NatR.oneNew (((w2.setCell ⟨w.heap.size,0,none⟩ (.bool false)).setCell ⟨w.heap.size,1,none⟩ (.slice none 0 0)).setCell ⟨w.heap.size,2,none⟩ (.slice (some ⟨w2.heap.size,0,none⟩) 1 1)) w.heap.size 228 (by rw[uc6];omega)
  rw[uc6]at h1;exact h1
theorem umn{N D:Nat}(hN:N≠0)(hD:D≠0):0<Nat.gcd N D∧N/Nat.gcd N D≠0:=by
 have hg:0<Nat.gcd N D:=Nat.gcd_pos_of_pos_left D (Nat.pos_of_ne_zero hN);exact⟨hg,ur1 hN⟩
set_option maxHeartbeats 2000000 in
theorem usw(w:World)(lo lo':Nat)(neg:Bool)(v v':Value)(kn kd:Nat)(fn fd:Nat→Nat)(hn:Limbs w lo v kn fn)(hd:Limbs w lo' v' kd fd)(hkn:kn≤4000000000)(hkd:kd≤4000000000)(N D:Nat)(hN:Hid (N=vs fn kn))(hD:Hid (D=vs fd kd))(h0:N≠0)(h0':D≠0) :
 Calls Tryz.prog 213 #[.bool neg,v,v'] w (Ret fun v2 w'=>FracR w' w.heap.size v2 neg (N/Nat.gcd N D) (D/Nat.gcd N D)∧Below w.heap.size w w'):=by
 have hkN:dl N≤4000000001:=by
  rw[hN.out];exact Nat.le_trans (ueh (fun i hi=>hn.1 i hi)) (by omega)
 have hkD:dl D≤4000000001:=by
  rw[hD.out];exact Nat.le_trans (ueh (fun i hi=>hd.1 i hi)) (by omega)
 have HN:=hid hn;have HD:=hid hd;obtain⟨A,c,rfl⟩:=Limbs.len hn;obtain⟨A',c',rfl⟩:=Limbs.len hd;clear hn hd;go_enter Tryz.func213,Tryz.ntmps213
 go_wp2_with fail
 refine(ujb _ lo _ kn fn (HN.out.below (ulk w _)) (by omega)).mono ?_
 rintro e w1⟨v1,rfl,hn1,hb1⟩;rw[←hN.out]at hn1;have HN1:=hid hn1;have HR1:=hid ((Bk.new w 76 #[.bool false,.slice none 0 0,.slice none 0 0]).below hb1 (by simp))
 have hbw1:=(ulk w _).trans (hb1.mono (by simp))
 obtain⟨A1,c1,rfl⟩:=Limbs.len hn1;have hz1:w.heap.size<w1.heap.size:=HR1.out.lt;clear hn1 hb1;go_wp2_with fail
 refine(ujb _ lo' _ kd fd (HD.out.below hbw1) (by omega)).mono ?_
 rintro e w2⟨v2,rfl,hn2,hb2⟩;rw[←hD.out]at hn2;have HN2:=hid (hn2.lower (lo':=w.heap.size+1) hz1);have HN1':=hid ((HN1.out.below hb2).lower (lo':=w.heap.size+1) (by simp))
 have HR2:=hid (HR1.out.below hb2 hz1);have hbw2:=hbw1.trans (hb2.mono hbw1.size);obtain⟨A2,c2,rfl⟩:=Limbs.len hn2;have hz2:w.heap.size<w2.heap.size:=HR2.out.lt;clear hn2 hb2 HN1 HR1;have hne:(((dl N:Nat):Int)==0)=false:=by
  rw[beq_eq_false_iff_ne];have:=mt uS.1 h0;omega
 have hne':(((dl D:Nat):Int)==0)=false:=by
  rw[beq_eq_false_iff_ne];have:=mt uS.1 h0';omega
 go_wp2_with fail
 refine(upx _ (w.heap.size+1) _ _ N D hz2 HN1'.out HN2.out (by omega) (by omega)).mono ?_
 rintro e w3⟨vg,rfl,hg3,hb3⟩;have HG3:=hid hg3;have hgp:=(umn h0 h0').1;have hlg:dl (Nat.gcd N D)≤dl N:=ub6 (Nat.gcd_le_left D (Nat.pos_of_ne_zero h0));obtain⟨g,hg⟩:∃g,g=Nat.gcd N D:=⟨_,rfl⟩;rw[←hg]at HG3 hgp hg3 hlg;have HGE:=hid hg;clear hg;have HR3:=hid (HR2.out.below hb3 hz2);have hbw3:=hbw2.trans (hb3.mono hbw2.size);have HA3:=hid (HN1'.out.below hb3);have HB3:=hid (HN2.out.below hb3);have hz3:w.heap.size<w3.heap.size:=HR3.out.lt;obtain⟨_,Ag,cg,rfl,hgc,hgm,hgcell⟩:=hg3;have hdg1:0<dl g:=Nat.pos_of_ne_zero (mt uS.1 (by omega))
 obtain⟨bg,og,rfl,hlg2,hbg,hgcell⟩:=hgcell hdg1;have hcg:=hgcell 0 hdg1;rw[Nat.add_zero]at hcg;have hgd:dg g 0<1000000000:=uai _ _;clear hgcell hb3 HN1' HN2 HR2;by_cases hone:g=1
 ·subst hone
  rw[uc1,ubi (by decide)]at *
  obtain⟨hcR,hfR,hzR⟩:=HR3.out.facts;go_wp2;have hF:=((HR3.out.set 0 (.bool neg)).set 1 (.slice A1 (dl N) c1)).set 2 (.slice A2 (dl D) c2);obtain⟨hcF,_,_⟩:=hF.facts;refine bodyPost_ret (v:= .agg #[.bool neg,.slice A1 (dl N) c1,.slice A2 (dl D) c2]) (by simp[results,Tryz.results213,go_sem,hcF]) rfl ⟨_,rfl,⟨_,_,rfl,?_,?_⟩,uK hbw3 (Nat.le_refl _) _ _ _⟩
  ·rw[←HGE.out,Nat.div_one];exact(uT HA3.out (Nat.lt_succ_self _) _ _ _).lower (by omega)
  ·rw[←HGE.out,Nat.div_one];exact(uT HB3.out (Nat.lt_succ_self _) _ _ _).lower (by omega)
 ·by_cases h1:dl g=1
  ·have hgne:((((dg g 0:Nat):Int)) != 1)=true:=by
    have hgB:g<B:=by have:=uav g;rw[h1,Nat.pow_one]at this;exact this
    rw[ubi hgB];rw[bne_iff_ne];omega
   have hl1:(((dl g:Nat):Int) != 1)=false:=by rw[h1];rfl
   clear h1;go_wp2_with fail
   refine(uc7 w3 (w.heap.size+1) (w.heap.size+1) (.slice A1 (dl N) c1) (.slice (some ⟨bg,og,none⟩) (dl g) cg) N g HA3.out HG3.out (by omega) (by omega)).mono ?_
   rintro e w4⟨v4,v4',rfl,hq4,_,hb4⟩;have HR4:=hid (HR3.out.below hb4 hz3);have hbw4:=hbw3.trans (hb4.mono hbw3.size);have HQ4:=hid (hq4.lower (lo':=w.heap.size+1) hz3);have HB4:=hid (HB3.out.below hb4);have HG4:=hid (NatR.below HG3.out hb4);have hz4:w.heap.size<w4.heap.size:=HR4.out.lt;obtain⟨A4,c4,rfl⟩:=Limbs.len hq4;clear hq4 hb4;go_wp2_with fail
   refine(uc7 w4 (w.heap.size+1) (w.heap.size+1) (.slice A2 (dl D) c2) (.slice (some ⟨bg,og,none⟩) (dl g) cg) D g HB4.out HG4.out (by omega) (by omega)).mono ?_
   rintro e w5⟨v5,v5',rfl,hq5,_,hb5⟩;have HR5:=hid (HR4.out.below hb5 hz4);have hbw5:=hbw4.trans (hb5.mono hbw4.size);have HQ5:=hid (hq5.lower (lo':=w.heap.size+1) hz4);have HP5:=hid (HQ4.out.below hb5);obtain⟨A5,c5,rfl⟩:=Limbs.len hq5;clear hq5 hb5;obtain⟨hcR,hfR,hzR⟩:=HR5.out.facts;go_wp2;have hF:=((HR5.out.set 0 (.bool neg)).set 1 (.slice A4 (dl (N/g)) c4)).set 2 (.slice A5 (dl (D/g)) c5);obtain⟨hcF,_,_⟩:=hF.facts;refine bodyPost_ret (v:= .agg #[.bool neg,.slice A4 (dl (N/g)) c4,.slice A5 (dl (D/g)) c5]) (by simp[results,Tryz.results213,go_sem,hcF]) rfl ⟨_,rfl,⟨_,_,rfl,?_,?_⟩,uK hbw5 (Nat.le_refl _) _ _ _⟩
   ·rw[←HGE.out];exact(uT HP5.out (Nat.lt_succ_self _) _ _ _).lower (by omega)
   ·rw[←HGE.out];exact(uT HQ5.out (Nat.lt_succ_self _) _ _ _).lower (by omega)
  ·have hl1:(((dl g:Nat):Int) != 1)=true:=by rw[bne_iff_ne];omega
   clear h1;go_wp2_with fail
   refine(uc7 w3 (w.heap.size+1) (w.heap.size+1) (.slice A1 (dl N) c1) (.slice (some ⟨bg,og,none⟩) (dl g) cg) N g HA3.out HG3.out (by omega) (by omega)).mono ?_
   rintro e w4⟨v4,v4',rfl,hq4,_,hb4⟩;have HR4:=hid (HR3.out.below hb4 hz3);have hbw4:=hbw3.trans (hb4.mono hbw3.size);have HQ4:=hid (hq4.lower (lo':=w.heap.size+1) hz3);have HB4:=hid (HB3.out.below hb4);have HG4:=hid (NatR.below HG3.out hb4);have hz4:w.heap.size<w4.heap.size:=HR4.out.lt;obtain⟨A4,c4,rfl⟩:=Limbs.len hq4;clear hq4 hb4;go_wp2_with fail
   refine(uc7 w4 (w.heap.size+1) (w.heap.size+1) (.slice A2 (dl D) c2) (.slice (some ⟨bg,og,none⟩) (dl g) cg) D g HB4.out HG4.out (by omega) (by omega)).mono ?_
   rintro e w5⟨v5,v5',rfl,hq5,_,hb5⟩;have HR5:=hid (HR4.out.below hb5 hz4);have hbw5:=hbw4.trans (hb5.mono hbw4.size);have HQ5:=hid (hq5.lower (lo':=w.heap.size+1) hz4);have HP5:=hid (HQ4.out.below hb5);obtain⟨A5,c5,rfl⟩:=Limbs.len hq5;clear hq5 hb5;obtain⟨hcR,hfR,hzR⟩:=HR5.out.facts;go_wp2;have hF:=((HR5.out.set 0 (.bool neg)).set 1 (.slice A4 (dl (N/g)) c4)).set 2 (.slice A5 (dl (D/g)) c5);obtain⟨hcF,_,_⟩:=hF.facts;refine bodyPost_ret (v:= .agg #[.bool neg,.slice A4 (dl (N/g)) c4,.slice A5 (dl (D/g)) c5]) (by simp[results,Tryz.results213,go_sem,hcF]) rfl ⟨_,rfl,⟨_,_,rfl,?_,?_⟩,uK hbw5 (Nat.le_refl _) _ _ _⟩
   ·rw[←HGE.out];exact(uT HP5.out (Nat.lt_succ_self _) _ _ _).lower (by omega)
   ·rw[←HGE.out];exact(uT HQ5.out (Nat.lt_succ_self _) _ _ _).lower (by omega)
theorem ud5(w:World)(lo lo':Nat)(neg:Bool)(v v':Value)(kn kd:Nat)(fn fd:Nat→Nat)(hn:Limbs w lo v kn fn)(hd:Limbs w lo' v' kd fd)(hkn:kn≤4000000000)(hkd:kd≤4000000000)(q:Rat)(hq:q=mkRat (sg neg (vs fn kn)) (vs fd kd)) :
 Calls Tryz.prog 213 #[.bool neg,v,v'] w (uz4 w q):=by
 by_cases h0:vs fn kn=0∨vs fd kd=0
 ·refine(upy w lo lo' neg v v' kn kd fn fd hn hd hkn hkd _ _ rfl rfl h0).mono ?_
  rintro e w'⟨v2,rfl,h,hb⟩;refine⟨v2,rfl,?_,hb⟩;subst hq;rcases h0 with h0|h0
  ·rw[h0];exact RatR.ofZero h
  ·rw[h0,Rat.mkRat_zero];exact h
 ·refine(usw w lo lo' neg v v' kn kd fn fd hn hd hkn hkd _ _ rfl rfl (fun h=>h0 (.inl h)) (fun h=>h0 (.inr h))).mono ?_
  rintro e w'⟨v2,rfl,h,hb⟩;refine⟨v2,rfl,?_,hb⟩;subst hq;exact RatR.ofLow (fun h=>h0 (.inr h)) (fun h=>h0 (.inl h)) h
theorem RatV.parts{w:World}{lo:Nat}{v:Value}{K:Nat}{q:Rat}(h:RatV w lo v K q) :
 ∃s A k c A' k' c' fn fd,v = .agg #[.bool s,.slice A k c,.slice A' k' c']∧Limbs w lo (.slice A k c) k fn∧Limbs w lo (.slice A' k' c') k' fd∧k≤K∧k'≤K∧q=mkRat (sg s (vs fn k)) (vs fd k'):=by
 obtain⟨neg,kn,kd,fn,fd,vn,vd,rfl,h1,h2,h3,h4,h5⟩:=h;obtain⟨A,c,rfl⟩:=h1.len;obtain⟨A',c',rfl⟩:=h2.len;exact⟨neg,A,kn,c,A',kd,c',fn,fd,rfl,h1,h2,h3,h4,h5⟩
set_option maxHeartbeats 1000000 in
theorem ucv(w:World)(lo:Nat)(v:Value)(K:Nat)(q:Rat)(hv:RatV w lo v K q)(hK:K≤4000000000) :
 Calls Tryz.prog 214 #[v] w (uz4 w q):=by
 obtain⟨s,A,k,c,A',k',c',fn,fd,rfl,hn,hd,hkn,hkd,hq⟩:=hv.parts;have HN:=hid hn;have HD:=hid hd;have HQ:=hid hq;clear hv hn hd hq;go_enter Tryz.func214,Tryz.ntmps214
 go_wp2_with fail
 refine(ud5 _ lo lo s _ _ k k' fn fd (HN.out.below (uur w _ _)) (HD.out.below (uur w _ _)) (by omega) (by omega) q HQ.out).mono ?_
 rintro e w1⟨v1,rfl,hr1,hb1⟩;have hbw1:=(uur w _ _).trans (hb1.mono (by simp;omega))
 have hR1:=(Bk.new _ 76 _).below hb1 (by simp)
 simp only[World.size_alloc]at hR1 hr1;have HR1:=hid hr1;obtain⟨A2,c2,A3,c3,rfl,_,_⟩:=FracR.form hr1;obtain⟨hcR,hfR,hz2⟩:=hR1.facts;clear hr1 hb1;go_wp2;exact bodyPost_ret (v:= .agg #[.bool (decide (q.num<0)),.slice A2 (dl q.num.natAbs) c2,.slice A3 (dl q.den) c3]) (by simp[results,Tryz.results214,go_sem,hcR]) rfl
  ⟨_,rfl,RatR.lower (ufk HR1.out (by omega) _ _ _) (by omega),uK hbw1 (by omega) _ _ _⟩
set_option maxHeartbeats 1000000 in
theorem ukj(w:World)(x:Int)(h1 : -9223372036854775808≤x)(h2:x≤9223372036854775807) :
 Calls Tryz.prog 139 #[.int .i64 x] w (uz4 w (mkRat x 1)):=by
 have hdl:Hid (dl x.natAbs≤3):=by
  show dl x.natAbs≤3
  apply ucp;have h3:B^3=1000000000000000000000000000:=by decide
  omega
 obtain⟨q,hq⟩:∃q,Hid (q=mkRat x 1):=⟨_,rfl⟩;rw[←hq.out];have h1v:Hid (vs (dg 1) 1=1):=by show _=_;rw[uuw];decide
 have HQ:Hid (q=mkRat (sg (decide (x<0)) (vs (dg x.natAbs) (dl x.natAbs))) (vs (dg 1) 1)):=by
  show _=_
  rw[hq.out,ulo,h1v.out];congr 1
  unfold sg;by_cases h:x<0
  ·simp[h];omega
  ·simp[h];omega
 by_cases h0:x<0
 ·have hd:decide (x<0)=true:=by simpa using h0
  rw[hd]at HQ;clear hd;go_enter Tryz.func139,Tryz.ntmps139
  go_wp2_with fail
  rw[show(-(x+1)+1)=((x.natAbs:Nat):Int) by omega]
  refine(uba _ x.natAbs (by omega)).mono ?_
  rintro e w1⟨v1,rfl,hn1,hb1⟩;have hR1:=hid ((Bk.new w 76 _).below hb1 (by simp))
  have HN1:=hid hn1;obtain⟨A,c,rfl⟩:=Limbs.len hn1;have hz1:w.heap.size<w1.heap.size:=hR1.out.lt;have hbw1:=(ulk w _).trans (hb1.mono (by simp))
  clear hn1 hb1;go_wp2_with fail
  refine(ud5 _ (w.heap.size+1) (w.heap.size+1) true _ _ (dl x.natAbs) 1 (dg x.natAbs) (dg 1) ?_ ?_ (by have:=hdl.out;omega) (by omega) q HQ.out).mono ?_
  ·exact Limbs.lower (Limbs.alloc HN1.out _) (by simp)
  ·have:=NatR.oneNew w1 (w.heap.size+1) 228 (by omega);unfold NatR at this;rw[uc1]at this;exact this
  rintro e w2⟨v2,rfl,hr2,hb2⟩;have HR2:=hid hr2;obtain⟨A2,c2,A3,c3,rfl,h3,h4⟩:=FracR.form hr2;obtain⟨hcR,hfR,hz2⟩:=((hR1.out.alloc _).below hb2 (by simp;omega)).facts
  have hbw2:=(hbw1.alloc (by omega) _).trans (hb2.mono (by simp;omega))
  clear h3 h4 hr2 hb2;go_wp2;exact bodyPost_ret (v:= .agg #[.bool (decide (q.num<0)),.slice A2 (dl q.num.natAbs) c2,.slice A3 (dl q.den) c3]) (by simp[results,Tryz.results139,go_sem,hcR]) rfl
   ⟨_,rfl,RatR.lower (ufk HR2.out (by simp;omega) _ _ _) (by simp;omega),uK hbw2 (by omega) _ _ _⟩
 ·have hd:decide (x<0)=false:=by simpa using h0
  rw[hd]at HQ;clear hd;obtain⟨n,rfl⟩:∃n:Nat,x=n:=⟨x.toNat,by omega⟩
  rw[Int.natAbs_natCast]at HQ hdl;go_enter Tryz.func139,Tryz.ntmps139
  go_wp2_with fail
  refine(uba _ n (by omega)).mono ?_
  rintro e w1⟨v1,rfl,hn1,hb1⟩;have hR1:=hid ((Bk.new w 76 _).below hb1 (by simp))
  have HN1:=hid hn1;obtain⟨A,c,rfl⟩:=Limbs.len hn1;have hz1:w.heap.size<w1.heap.size:=hR1.out.lt;have hbw1:=(ulk w _).trans (hb1.mono (by simp))
  clear hn1 hb1;go_wp2_with fail
  refine(ud5 _ (w.heap.size+1) (w.heap.size+1) false _ _ (dl n) 1 (dg n) (dg 1) ?_ ?_ (by have:=hdl.out;omega) (by omega) q HQ.out).mono ?_
  ·exact Limbs.lower (Limbs.alloc HN1.out _) (by simp)
  ·have:=NatR.oneNew w1 (w.heap.size+1) 228 (by omega);unfold NatR at this;rw[uc1]at this;exact this
  rintro e w2⟨v2,rfl,hr2,hb2⟩;have HR2:=hid hr2;obtain⟨A2,c2,A3,c3,rfl,h3,h4⟩:=FracR.form hr2;obtain⟨hcR,hfR,hz2⟩:=((hR1.out.alloc _).below hb2 (by simp;omega)).facts
  have hbw2:=(hbw1.alloc (by omega) _).trans (hb2.mono (by simp;omega))
  clear h3 h4 hr2 hb2;go_wp2;exact bodyPost_ret (v:= .agg #[.bool (decide (q.num<0)),.slice A2 (dl q.num.natAbs) c2,.slice A3 (dl q.den) c3]) (by simp[results,Tryz.results139,go_sem,hcR]) rfl
   ⟨_,rfl,RatR.lower (ufk HR2.out (by simp;omega) _ _ _) (by simp;omega),uK hbw2 (by omega) _ _ _⟩
theorem FracR.two{w:World}{lo:Nat}{neg:Bool}{A A':Option Addr}{c c' n d:Nat}(h:FracR w lo (.agg #[.bool neg,.slice A (dl n) c,.slice A' (dl d) c']) neg n d):NatR w lo (.slice A (dl n) c) n∧NatR w lo (.slice A' (dl d) c') d:=by
 obtain⟨vn,vd,e,h1,h2⟩:=h;simp only[Value.agg.injEq,Array.mk.injEq,List.cons.injEq,and_true,true_and]at e;obtain⟨rfl,rfl⟩:=e;exact⟨h1,h2⟩
def uep(k k':Nat):Bool:=decide (k≤2)&&decide (k'≤2)
theorem uvm(w:World)(s:Bool)(A A':Option Addr)(k c k' c':Nat)(hk:k≤9223372036854775807)(hk':k'≤9223372036854775807) :
 Calls Tryz.prog 27 #[.agg #[.bool s,.slice A k c,.slice A' k' c']] w (fun e w'=>e = .returned (.bool (uep k k'))∧Below w.heap.size w w'):=by
 by_cases h1:k≤2
 ·by_cases h2:k'≤2
  ·have hb:Hid (uep k k'=true):=by show _=_;simp[uep,h1,h2]
   rw[hb.out];go_enter Tryz.func27,Tryz.ntmps27
   go_wp2;go_ret
   exact⟨by simp;omega,ulk _ _⟩
  ·have hb:Hid (uep k k'=false):=by show _=_;simp[uep,h1,h2]
   rw[hb.out];go_enter Tryz.func27,Tryz.ntmps27
   go_wp2;go_ret
   exact⟨by simp;omega,ulk _ _⟩
 ·have hb:Hid (uep k k'=false):=by show _=_;simp[uep,h1]
  have h1':decide ((k:Int)≤2)=false:=by simp;omega
  rw[hb.out];go_enter Tryz.func27,Tryz.ntmps27
  go_wp2;go_ret
  exact⟨rfl,ulk _ _⟩
theorem RatV.short{w:World}{lo:Nat}{s:Bool}{An Ad:Option Addr}{kn cn kd cd K:Nat}{q:Rat}(h:RatV w lo (.agg #[.bool s,.slice An kn cn,.slice Ad kd cd]) K q)(h1:uep kn kd=true):RatV w lo (.agg #[.bool s,.slice An kn cn,.slice Ad kd cd]) 2 q:=by
 obtain⟨neg,kn',kd',fn,fd,vn,vd,e,h2,h3,h4,h5,h6⟩:=h;simp only[Value.agg.injEq,Array.mk.injEq,List.cons.injEq,and_true]at e;obtain⟨e1,rfl,rfl⟩:=e;obtain⟨A1,c1,e2⟩:=h2.len;obtain⟨A2,c2,e3⟩:=h3.len;injection e2 with _ e2 _;injection e3 with _ e3 _;subst e2;subst e3;simp only[uep,Bool.and_eq_true,decide_eq_true_eq]at h1;refine⟨neg,kn,kd,fn,fd,_,_,?_,h2,h3,h1.1,h1.2,h6⟩;rw[e1]
theorem RatsV.snoc{w:World}{lo b off i c K:Nat}{r:Nat→Rat}(h:RatsV w lo (.slice (some ⟨b,off,none⟩) i c) i K r)(hb:lo≤b)(hlt:b<w.heap.size)(hic:i+1≤c){s:Bool}{An Ad:Option Addr}{kn cn kd cd:Nat}
 (e1:w.cell? ⟨b,off+i*3,none⟩=some (.bool s)) (e2:w.cell? ⟨b,off+i*3+1,none⟩=some (.slice An kn cn)) (e3:w.cell? ⟨b,off+i*3+2,none⟩=some (.slice Ad kd cd)) (e4:RatV w lo (.agg #[.bool s,.slice An kn cn,.slice Ad kd cd]) K (r i)) :
 RatsV w lo (.slice (some ⟨b,off,none⟩) (i+1) c) (i+1) K r:=by
 obtain⟨A',c',e,h1,h2,h3⟩:=h;injection e with eA _ ec;subst eA;subst ec;refine⟨_,_,rfl,hic,h2,fun _=>⟨b,off,rfl,hb,hlt,fun j hj=>?_⟩⟩
 rcases Nat.lt_or_ge j i with h|h
 ·obtain⟨b',off',e',h4,h5,h6⟩:=h3 (by omega)
  injection e' with e';injection e' with e5 e6;subst e5;subst e6;exact h6 j h
 ·obtain rfl:j=i:=by omega
  exact⟨s,An,kn,cn,Ad,kd,cd,e1,e2,e3,e4⟩
theorem RatsV.empty(w:World)(lo c K:Nat)(A:Option Addr)(r:Nat→Rat)(hc:c≤9223372036854775807):RatsV w lo (.slice A 0 c) 0 K r:=
 ⟨A,c,rfl,Nat.zero_le _,by unfold maxLen;omega,fun h=>absurd h (by omega)⟩
def KeptR(w:World)(lo:Nat)(v:Value)(k n:Nat)(r:Nat→Rat)(e:Ending)(w':World):Prop:=
 ∃b,e = .returned (.bool b)∧(b=true→k≤n∧RatsV w lo v k 2 r)∧Below w.heap.size w w'
theorem KeptR.no{w w':World}{lo:Nat}{v:Value}{k n:Nat}{r:Nat→Rat}(h:Below w.heap.size w w'):KeptR w lo v k n r (.returned (.bool false)) w':=⟨false,rfl,(fun h=>by cases h),h⟩
theorem KeptR.yes{w w':World}{lo:Nat}{v:Value}{k n:Nat}{r:Nat→Rat}(h:Below w.heap.size w w')(h1:k≤n)(h2:RatsV w lo v k 2 r):KeptR w lo v k n r (.returned (.bool true)) w':=⟨true,rfl,(fun _=>⟨h1,h2⟩),h⟩
end Go.Proofs.YtellcholbkoakaaGreatDoor
