/-
  The walks of rational's Canonical, Sign, Small, Add, Sub.
-/
import Derived.Test.YtnbbpmagijpmpaaGreatDoorMGi
import Derived.Orders
set_option linter.unusedVariables false
set_option linter.unusedSimpArgs false
namespace Go.Proofs.YtnbbpmagijpmpaaGreatDoor
open Go.Lib (hid)
open Go.RowKit AC
theorem ufi.form{w:World}{lo:Nat}{v:Value}{K:Nat}{q:Rat}(h:ufi w lo v K q) :
 ∃s A k c A' k' c',v = .agg #[.bool s,.slice A k c,.slice A' k' c']:=by
 obtain⟨neg,kn,kd,fn,fd,vn,vd,rfl,h1,h2,_⟩:=h;obtain⟨A,c,rfl⟩:=h1.len;obtain⟨A',c',rfl⟩:=h2.len;exact⟨neg,A,kn,c,A',kd,c',rfl⟩
def uDn(w:World)(q:Rat):Ending->World->Prop:=Ret fun v2 w'=>ud5 w' w.heap.size v2 q/\Below w.heap.size w w'
set_option maxHeartbeats 16000000
theorem uaq(w:World)(lo:Nat)(v:Value)(K:Nat)(q:Rat)(hv:ufi w lo v K q)(hK:K<=4294967290) :
 Calls Tryz.prog 73 #[v] w (uDn w q):=by
 have HV:=hid hv;obtain⟨s,A,k,c,A',k',c',rfl⟩:=hv.form;clear hv;go_enter Tryz.func73,Tryz.ntmps73
 go_wp2_with fail
 refine(uck _ lo _ K q (HV.out.below (uy5 w _ _)) hK).mono ?_;rintro e w1⟨v1,rfl,neg,n,d,a4,b0,b3,b4,a5,a2⟩;have a7:=(uy5 w _ _).trans (a2.mono (by simp;omega))
 have a1:=hid ((Bk.new _ 62 _).below a2 (by simp))
 have b1:=a1.out.lt;have HQ:=hid a5;have HF:=hid a4;simp only[World.size_alloc]at a1 b1 HF;clear a4 a5 a2;go_wp2_with fail
 refine(ufh _ (w.heap.size+1+1) _ neg n d (by omega) HF.out b0 (by omega) (by omega)).mono ?_
 rintro e w2⟨v2,rfl,a0,a3⟩;rw[<-HQ.out]at a0;have a6:=hid a0;obtain⟨A2,c2,A3,c3,rfl,_,_⟩:=uaj.form a0;have a8:=a7.trans (a3.mono (by omega))
 obtain⟨a9,b2,b5⟩:=(a1.out.below a3 (by omega)).facts
 clear a0 a3;go_wp2;exact bodyPost_ret (v:= .agg #[.bool (decide (q.num<0)),.slice A2 (dl q.num.natAbs) c2,.slice A3 (dl q.den) c3]) (by simp[results,Tryz.results73,go_sem,a9]) rfl
  ⟨_,rfl,ud5.lower (uhs a6.out (by omega) _ _ _) (by omega),uo a8 (by omega) _ _ _⟩
set_option maxHeartbeats 200000
def ujj(q:Rat):Int:=q.num.sign
theorem uzm(neg:Bool)(n d:Nat)(hd:d≠0):ub0 neg n=ujj (mkRat (sg neg n) d):=by
 unfold ujj;rw[uuy neg n d hd];unfold ub0;by_cases h:n=0
 ·subst h;simp[ugd]
 ·rw[if_neg h]
  have:=uu0 (d:=d) h;generalize n/Nat.gcd n d=m at *;cases neg
  ·simp[sg];exact(Int.sign_eq_one_of_pos (by omega)).symm
  ·simp[sg];exact(Int.sign_eq_one_of_pos (by omega)).symm
set_option maxHeartbeats 16000000
theorem udg(w:World)(lo:Nat)(v:Value)(K:Nat)(q:Rat)(hv:ufi w lo v K q)(hK:K<=4294967290) :
 Calls Tryz.prog 51 #[v] w (fun e w'=>e = .returned (.int .i64 (ujj q))/\Below w.heap.size w w'):=by
 have HV:=hid hv;obtain⟨s,A,k,c,A',k',c',rfl⟩:=hv.form;clear hv;go_enter Tryz.func51,Tryz.ntmps51
 go_wp2_with fail
 refine(uck _ lo _ K q (HV.out.below (uGb w _)) hK).mono ?_;rintro e w1⟨v1,rfl,neg,n,d,a2,a5,a6,a7,a3,a0⟩;have a1:=(uGb w _).trans (a0.mono (by simp))
 have HQ:=hid a3;have HF:=hid a2;clear a2 a3 a0;go_wp2_with fail
 refine(uid _ _ _ neg n d HF.out).mono ?_;rintro e w2⟨rfl,a4⟩;go_wp2;go_ret
 exact⟨by rw[HQ.out,<-uzm neg n d a5];rfl,a1.trans (a4.mono a1.size)⟩
set_option maxHeartbeats 200000
theorem uvb{s1 s2 s3:Bool}{n1 n2 n3 d1 d2:Nat}(h:sg s3 n3=sg s1 n1*d2+sg s2 n2*d1)(k1:dl n1+dl d2<=4294967290)(k2:dl n2+dl d1<=4294967290):dl n3<=4294967296:=by
 have h1:n3<=n1*d2+n2*d1:=by
  have h2:=congrArg Int.natAbs h;rw[ub9]at h2;have h3:=Int.natAbs_add_le (sg s1 n1*d2) (sg s2 n2*d1);rw[Int.natAbs_mul,Int.natAbs_mul,ub9,ub9,Int.natAbs_natCast,Int.natAbs_natCast]at h3;omega
 have h4:=ub8 h1;have h5:=umq (n1*d2) (n2*d1);have h6:=uT n1 d2;have h7:=uT n2 d1;omega
set_option maxHeartbeats 16000000
theorem uzn(w:World)(lo lo':Nat)(v v':Value)(K K':Nat)(q q':Rat)(hv:ufi w lo v K q)(a9:ufi w lo' v' K' q')(hK:K+K'<=4000000000) :
 Calls Tryz.prog 45 #[v,v'] w (uDn w (q+q')):=by
 have HV:=hid hv;have e2:=hid a9;obtain⟨s,A,k,c,A',k',c',rfl⟩:=hv.form;obtain⟨s2,A2,k2,c2,A3,k3,c3,rfl⟩:=a9.form;clear hv a9;go_enter Tryz.func45,Tryz.ntmps45
 go_wp2;go_region_held3 (fun w'=>w'.cell? ⟨w.heap.size,0,none⟩=some (.bool s)/\w'.cell? ⟨w.heap.size,1,none⟩=some (.slice A k c)/\w'.cell? ⟨w.heap.size,2,none⟩=some (.slice A' k' c')/\w'.cell? ⟨w.heap.size+1,0,none⟩=some (.bool s2)/\w'.cell? ⟨w.heap.size+1,1,none⟩=some (.slice A2 k2 c2)/\w'.cell? ⟨w.heap.size+1,2,none⟩=some (.slice A3 k3 c3)) (and_intros<;>(first|go_keep|(refine(ueb _ (by omega) _ _ _ _).trans ?_;simp[*])))
  (first
   | (go_at_call_of 75 (Value.agg #[Value.bool s,Value.slice A k c,Value.slice A' k' c']);refine(uck _ lo _ K q (by exact HV.out.below (uF4 w _ _ _).drew) (by omega)).mono ?_;rintro e w1 ⟨v1,rfl,f5,n1,d1,c1,b9,h4,h5,c8,a3⟩;have a7:=(uF4 w _ _ _).drew.trans (a3.mono (by simp;omega));have b1:=((((Bk.new w 62 _).alloc _).alloc _).drew.below a3 (by simp;omega));have a5:=(((Bk.new _ 62 _).alloc _).drew.below a3 (by simp));have a6:=((Bk.new _ 62 _).drew.below a3 (by simp));obtain⟨f7,g5,e6⟩:=b1.facts;simp only[World.size_alloc]at a5 a6;obtain⟨g1,g9,e9⟩:=a5.facts;have f2:=a6.lt;have d9:=hid c8;have d5:=hid c1;clear c8 c1)
   | (go_at_call_of 75 (Value.agg #[Value.bool s2,Value.slice A2 k2 c2,Value.slice A3 k3 c3]);refine(uck _ lo' _ K' q' (by exact e2.out.below a7) (by omega)).mono ?_;rintro e w2 ⟨v2,rfl,f6,n2,d2,c6,c0,h6,h7,c9,a0⟩;have a8:=a7.trans (a0.mono a7.size);have b2:=b1.below a0 e6;have b4:=a5.below a0 e9;have b6:=a6.below a0 f2;obtain⟨f8,g6,e7⟩:=b2.facts;obtain⟨g2,h0,f0⟩:=b4.facts;have f3:=b6.lt;have d6:=hid (d5.out.below a0);have e0:=hid c9;have d7:=hid c6;clear c9 c6)
   | (go_at_call 94;refine(uzl _ _ _ _ _ f5 f6 n1 d1 n2 d2 (by exact d6.out) (by exact d7.out) (by omega) (by omega) (by omega)).mono ?_;rintro e w3 ⟨v3,rfl,d4,n3,c7,d3,a1⟩;have b8:=a8.trans (a1.mono a8.size);have b3:=b2.below a1 e7;have b5:=b4.below a1 f0;have b7:=b6.below a1 f3;obtain⟨f9,g7,e8⟩:=b3.facts;obtain⟨g3,h1,f1⟩:=b5.facts;have f4:=b7.lt;have d8:=hid c7;have b0:=hid d3;clear c7 d3)
   | (go_at_call 48;refine(ufh _ w2.heap.size _ d4 n3 (d1*d2) (by exact a1.size) (by exact d8.out) (by exact Nat.mul_ne_zero b9 c0) (by exact uvb b0.out (by omega) (by omega)) (by have:=uT d1 d2;omega)).mono ?_;rintro e w4 ⟨v4,rfl,a2,a4⟩;have e3:=b8.trans (a4.mono b8.size);obtain⟨g0,g8,h8⟩:=(b3.below a4 e8).facts;obtain⟨g4,h2,h9⟩:=(b5.below a4 f1).facts;obtain⟨e4,h3,j0⟩:=(b7.below a4 f4).facts;have e5:Hid (mkRat (sg d4 n3) (d1*d2)=q+q'):=(by show _=_;rw[b0.out,d9.out,e0.out,Rat.mkRat_add_mkRat _ _ b9 c0]);rw[e5.out]at a2;obtain⟨q3,d0⟩:∃q3,Hid (q3=q+q'):=⟨_,rfl⟩;rw[<-d0.out]at a2;have e1:=hid a2;obtain⟨A4,c4,A5,c5,rfl,_,_⟩:=uaj.form a2;clear a2))
 go_wp2;exact bodyPost_ret (v:= .agg #[.bool (decide (q3.num<0)),.slice A4 (dl q3.num.natAbs) c4,.slice A5 (dl q3.den) c5]) (by simp[results,Tryz.results45,go_sem,e4]) rfl
  ⟨_,rfl,by rw[<-d0.out];exact ud5.lower (uhs e1.out (by omega) _ _ _) a8.size,uo e3 (by omega) _ _ _⟩
end Go.Proofs.YtnbbpmagijpmpaaGreatDoor
namespace AC
open Go Go.RowKit
theorem vA0(d:Nat->Bool)(n:Nat)(h:¬∀i,i<n->d i=true):∃i,i<n/\d i=false/\∀j,j<i->d j=true:=by
 induction n with
 | zero=>exact absurd (fun i hi=>absurd hi (by omega)) h
 | succ n ih=>
  by_cases h1:∀i,i<n->d i=true
  ·refine⟨n,by omega,?_,h1⟩
   cases hd:d n with
   | false=>rfl
   | true=>
    refine absurd (fun i hi=>?_) h
    rcases ah i n with h2|h2
    ·exact h1 i h2
    ·obtain rfl:i=n:=by omega
     exact hd
  ·obtain⟨i,hi,h2,h3⟩:=ih h1
   exact⟨i,by omega,h2,h3⟩
def uvc(ops:Array Oper):Bool:=(List.range ops.size).all fun i=>match ops[i]? with
 | some o=>o.after.all fun e=>decide (e.on<i)
 | none=>true
theorem ues{ops:Array Oper}(h:uvc ops=true):∀(i:Nat) (o:Oper),ops[i]? = some o->∀e∈o.after,e.on<i:=by
 intro i o ho e he;unfold uvc at h;rw[aT]at h;have hi:i<ops.size:=(au.1 ho).1;have h1:=h i (aX.2 hi);rw[ho]at h1;have h2:=(Array.all_eq_true_iff_forall_mem.1 h1) e he;simpa using h2
section
variable {P:Program} {ops:Array Oper} {Q:Exit->Act->World->Prop}
theorem uo9{listed:Array Bool}{d:Nat->Bool}(a2:listed.size=ops.size)(hd:∀i,i<ops.size->listed[i]? = some (d i))
 (a0:∀(i:Nat) (o:Oper),ops[i]? = some o->∀e∈o.after,e.on<i) {i:Nat} (hi:i<ops.size) (h1:d i=false) (h2:∀j,j<i->d j=true):i∈Region.ready .any ops listed:=by
 unfold Region.ready;rw[List.mem_filter];refine⟨aX.2 hi,?_⟩;have e1:listed.getD i true=false:=by rw[ak,hd i hi,h1];rfl
 obtain⟨o,ho⟩:∃o,ops[i]? = some o:=⟨ops[i],aR hi⟩;rw[e1,ho];simp only[Bool.not_false,Bool.true_and,Option.map_some,Option.getD_some];rw[Array.all_eq_true_iff_forall_mem];intro e he;have a1:=a0 i o ho e he;have e2:listed.getD e.on false=true:=by rw[ak,hd e.on (by omega),h2 e.on a1];rfl
 rw[e2];simp
theorem uj1{listed:Array Bool}{d:Nat->Bool}(hd:∀i,i<ops.size->listed[i]? = some (d i)){i:Nat}(h:i∈Region.ready .any ops listed)(a0:∀(i:Nat) (o:Oper),ops[i]? = some o->∀e∈o.after,e.on<i) :
 ∃o,ops[i]? = some o/\d i=false/\∀e∈o.after,Region.binds .any e=true->d e.on=true:=by
 unfold Region.ready at h;rw[List.mem_filter]at h;obtain⟨h1,h2⟩:=h;have hi:i<ops.size:=aX.1 h1;obtain⟨o,ho⟩:∃o,ops[i]? = some o:=⟨ops[i],aR hi⟩;rw[ho,ak,hd i hi]at h2;simp only[Option.getD_some,Option.map_some,ax,Bool.not_eq_true']at h2;refine⟨o,ho,h2.1,fun e he hb=>?_⟩
 have h3:=(Array.all_eq_true_iff_forall_mem.1 h2.2) e he;have a1:=a0 i o ho e he;rw[ak,hd e.on (by omega)]at h3
 simpa[hb]using h3
theorem ub1{id:Nat}{a:Act}{w:World}(hm:P.follows .mixedOrders=true)
 (a5:∀(i:Nat) (o:Oper),ops[i]? = some o->∀e∈o.after,e.on<i) (I:(Nat->Bool)->Act->World->Prop) (h0:I (fun _=>false) a w.drew)
 (b4:∀(d:Nat->Bool) (i:Nat) (o:Oper) (a:Act) (w:World),ops[i]? = some o->d i=false->(∀e∈o.after,Region.binds .any e=true->d e.on=true)->I d a w->wpOp P ops Q i (I (fun j=>d j||j==i)) a w)
 (a8:∀(d:Nat->Bool) (a:Act) (w:World),(∀i,i<ops.size->d i=true)->I d a w->Q .normal a w):(Code.region id ops true).wp P Q a w:=by
 have key:∀(a2:Nat) (listed:Array Bool) (d:Nat->Bool) (a:Act) (w:World),listed.size=ops.size->(∀i,i<ops.size->listed[i]? = some (d i))->I d a w ->
  (∃n,n+a2=ops.size/\∃l:List Nat,l.length=n/\l.Nodup/\∀i∈l,i<ops.size/\d i=true)->wpAny P .any ops Q a2 listed a w:=by
  intro a2;induction a2 with
  | zero=>
   intro listed d a w a7 hd hI hn;obtain⟨n,hn,l,hl,a6,a1⟩:=hn;have a3:∀i,i<ops.size->d i=true:=by
    intro i hi;cases a0:d i with
    | true=>rfl
    | false=>
     exfalso;have b3:i∉l:=fun h=>by have:=(a1 i h).2;rw[a0]at this;cases this
     have b2:(i::l).Nodup:=List.nodup_cons.2 ⟨b3,a6⟩;have b5:(i::l) ⊆ List.range ops.size:=by
      intro j hj;rcases List.mem_cons.1 hj with rfl|hj
      ·exact aX.2 hi
      ·exact aX.2 (a1 j hj).1
     have:=List.Nodup.length_le_of_subset b2 b5;simp at this;omega
   refine⟨?_,a8 d a w a3 hI⟩;rcases hr:Region.ready .any ops listed with _|⟨i,rs⟩
   ·rfl
   ·exfalso
    obtain⟨o,ho,a0,_⟩:=uj1 hd (i:=i) (by rw[hr];exact List.mem_cons_self) a5
    have hi:i<ops.size:=(au.1 ho).1;rw[a3 i hi]at a0;cases a0
  | succ a2 ih=>
   intro listed d a w a7 hd hI hn;refine⟨fun hr=>?_,fun i hi=>?_⟩
   ·by_cases a3:∀i,i<ops.size->d i=true
    ·exact a8 d a w a3 hI
    ·exfalso
     obtain⟨i,hi,h1,h2⟩:=vA0 d ops.size a3;have:=uo9 a7 hd a5 hi h1 h2;rw[hr]at this;cases this
   ·obtain⟨o,ho,a0,b0⟩:=uj1 hd hi a5
    have b1:i<ops.size:=(au.1 ho).1;refine wpOp_mono (fun a' w' a9=>ih (listed.setIfInBounds i true) (fun j=>d j||j==i) a' w' (by simpa using a7) ?_ a9 ?_) (b4 d i o a w ho a0 b0 hI)
    ·intro j hj
     by_cases a4:j=i
     ·subst a4
      rw[aO (by omega)]
      simp
     ·rw[Array.getElem?_setIfInBounds_ne (fun e=>a4 e.symm),hd j hj]
      simp[a4]
    ·obtain⟨n,hn,l,hl,a6,a1⟩:=hn
     refine⟨n+1,by omega,i::l,by simp[hl],List.nodup_cons.2 ⟨fun h=>?_,a6⟩,fun j hj=>?_⟩
     ·have:=(a1 i h).2;rw[a0]at this;cases this
     ·rcases List.mem_cons.1 hj with rfl|hj
      ·exact⟨b1,by simp⟩
      ·exact⟨(a1 j hj).1,by simp[(a1 j hj).2]⟩
 refine wp_region_any hm (key ops.size (Array.replicate ops.size false) (fun _=>false) a _ (by simp) (fun i hi=>by simp[hi]) h0 ⟨0,by omega,[],rfl,List.nodup_nil,fun i hi=>by cases hi⟩)
theorem uC{i:Nat}{o:Oper}{I:Act->World->Prop}{a:Act}{w:World}(ho:ops[i]? = some o)(hg:o.guard=none)
 (h:∀K:Act->World->Prop,(∀a w,I a w->K a w)->o.wp P a w K Q):wpOp P ops Q i I a w:=by
 unfold wpOp;rw[ho];simp only[Region.wanted,hg,if_true];exact .inl (h I fun _ _ h=>h)
end
end AC
namespace Go.Proofs.YtnbbpmagijpmpaaGreatDoor
open Go.Lib (hid)
open Go.RowKit AC
def uik(w:World)(lo hi:Nat)(v:Value)(k:Nat)(f:Nat->Nat):Prop:=
 (∀i,i<k->f i<4294967296)/\∃A c,v = .slice A k c/\k<=c/\c<=maxLen /\
  (0<k->∃b off,A=some ⟨b,off,none⟩/\lo<=b/\b<hi/\∀i,i<k->w.cell? ⟨b,off+i,none⟩=some (.int .u32 ((f i:Nat):Int)))
theorem uik.vAb{w w':World}{lo hi:Nat}{v:Value}{k:Nat}{f:Nat->Nat}(h:uik w lo hi v k f)(hk:∀b,lo<=b->b<hi->w'.heap[b]? = w.heap[b]?):uik w' lo hi v k f:=by
 obtain⟨h1,A,c,rfl,h2,h3,h4⟩:=h;refine⟨h1,A,c,rfl,h2,h3,fun h0=>?_⟩
 obtain⟨b,off,rfl,h5,h6,h7⟩:=h4 h0;exact⟨b,off,rfl,h5,h6,fun i hi=>(World.cell?_of_block (a:=⟨b,off+i,none⟩) (hk b h5 h6)).trans (h7 i hi)⟩
theorem uik.vAs{w:World}{lo hi:Nat}{v:Value}{k:Nat}{f:Nat->Nat}(h:uik w lo hi v k f)(hh:hi<=w.heap.size):uu w lo v k f:=by
 obtain⟨h1,A,c,rfl,h2,h3,h4⟩:=h;refine⟨h1,A,c,rfl,h2,h3,fun h0=>?_⟩
 obtain⟨b,off,rfl,h5,h6,h7⟩:=h4 h0;exact⟨b,off,rfl,h5,by omega,h7⟩
def LH(w:World)(lo hi K:Nat)(q:Rat)(v:Value):Prop:=
 ∃neg n d A c A' c',v = .agg #[.bool neg,.slice A (dl n) c,.slice A' (dl d) c']/\uik w lo hi (.slice A (dl n) c) (dl n) (dg n)/\uik w lo hi (.slice A' (dl d) c') (dl d) (dg d) /\
  d≠0/\dl n<=K+1/\dl d<=K+1/\q=mkRat (sg neg n) d
theorem LH.vAb{w w':World}{lo hi K:Nat}{q:Rat}{v:Value}(h:LH w lo hi K q v)(hk:∀b,lo<=b->b<hi->w'.heap[b]? = w.heap[b]?):LH w' lo hi K q v:=by
 obtain⟨neg,n,d,A,c,A',c',rfl,h1,h2,h3⟩:=h;exact⟨neg,n,d,A,c,A',c',rfl,h1.vAb hk,h2.vAb hk,h3⟩
theorem uu2.toH{w w':World}{K:Nat}{q:Rat}{v:Value}(h:uu2 w K q v w'):LH w' w.heap.size w'.heap.size K q v/\Below w.heap.size w w':=by
 obtain⟨neg,n,d,hf,h1,h2,h3,h4,h5⟩:=h;obtain⟨A,c,A',c',rfl,h6,h7⟩:=hf.form;exact⟨⟨neg,n,d,A,c,A',c',rfl,h6,h7,h1,h2,h3,h4⟩,h5⟩
def ufl:Array Value:=#[.bool false,.slice none 0 0,.slice none 0 0]
structure MI (w:World) (va vb:Value) (K K':Nat) (q q':Rat) (d:Nat->Bool) (f g lo1 hi1 lo2 hi2:Nat) (s5 s6 s7 s8 s9 s10:Value) (x:World):Prop where
 below:Below w.heap.size w x
 c0:d 0=true->s7=va
 c2:d 2=true->s9=vb
 c1:d 1=true->w.heap.size<=lo1/\hi1<=x.heap.size/\LH x lo1 hi1 K q s8
 c3:d 3=true->w.heap.size<=lo2/\hi2<=x.heap.size/\LH x lo2 hi2 K' q' s10
 c4:d 4=true->s5 = .pointer (some ⟨f,0,none⟩)/\w.heap.size<=f/\Bk x f 104 (if d 6 then s8.cells else ufl)
 c5:d 5=true->s6 = .pointer (some ⟨g,0,none⟩)/\w.heap.size<=g/\Bk x g 104 (if d 7 then s10.cells else ufl)
 n41:d 4=true->d 1=true->f<lo1\/hi1<=f
 n43:d 4=true->d 3=true->f<lo2\/hi2<=f
 n51:d 5=true->d 1=true->g<lo1\/hi1<=g
 n53:d 5=true->d 3=true->g<lo2\/hi2<=g
 n45:d 4=true->d 5=true->f≠g
 o6:d 6=true->d 1=true/\d 3=true/\d 4=true/\d 5=true
 o7:d 7=true->d 6=true
section
variable {w:World} {va vb:Value} {K K':Nat} {q q':Rat} {d:Nat->Bool} {f g lo1 hi1 lo2 hi2:Nat} {s5 s6 s7 s8 s9 s10:Value} {x x':World}
theorem MI.later(h:MI w va vb K K' q q' d f g lo1 hi1 lo2 hi2 s5 s6 s7 s8 s9 s10 x)(hb:Below x.heap.size x x'):MI w va vb K K' q q' d f g lo1 hi1 lo2 hi2 s5 s6 s7 s8 s9 s10 x' where
 below:=h.below.trans (hb.mono h.below.size)
 c0:=h.c0
 c2:=h.c2
 c1:=fun e=>⟨(h.c1 e).1,ag (h.c1 e).2.1 hb.size,(h.c1 e).2.2.vAb fun b _ h2=>hb.block b (af h2 (h.c1 e).2.1)⟩
 c3:=fun e=>⟨(h.c3 e).1,ag (h.c3 e).2.1 hb.size,(h.c3 e).2.2.vAb fun b _ h2=>hb.block b (af h2 (h.c3 e).2.1)⟩
 c4:=fun e=>⟨(h.c4 e).1,(h.c4 e).2.1,(h.c4 e).2.2.below hb (h.c4 e).2.2.lt⟩
 c5:=fun e=>⟨(h.c5 e).1,(h.c5 e).2.1,(h.c5 e).2.2.below hb (h.c5 e).2.2.lt⟩
 n41:=h.n41
 n43:=h.n43
 n51:=h.n51
 n53:=h.n53
 n45:=h.n45
 o6:=h.o6
 o7:=h.o7
theorem MI.op0(h:MI w va vb K K' q q' d f g lo1 hi1 lo2 hi2 s5 s6 s7 s8 s9 s10 x):MI w va vb K K' q q' (fun j=>d j||j==0) f g lo1 hi1 lo2 hi2 s5 s6 va s8 s9 s10 x where
 below:=h.below
 c0:=fun _=>rfl
 c2:=by simpa using h.c2
 c1:=by simpa using h.c1
 c3:=by simpa using h.c3
 c4:=by simpa using h.c4
 c5:=by simpa using h.c5
 n41:=by simpa using h.n41
 n43:=by simpa using h.n43
 n51:=by simpa using h.n51
 n53:=by simpa using h.n53
 n45:=by simpa using h.n45
 o6:=by simpa using h.o6
 o7:=by simpa using h.o7
theorem MI.op2(h:MI w va vb K K' q q' d f g lo1 hi1 lo2 hi2 s5 s6 s7 s8 s9 s10 x):MI w va vb K K' q q' (fun j=>d j||j==2) f g lo1 hi1 lo2 hi2 s5 s6 s7 s8 vb s10 x where
 below:=h.below
 c0:=by simpa using h.c0
 c2:=fun _=>rfl
 c1:=by simpa using h.c1
 c3:=by simpa using h.c3
 c4:=by simpa using h.c4
 c5:=by simpa using h.c5
 n41:=by simpa using h.n41
 n43:=by simpa using h.n43
 n51:=by simpa using h.n51
 n53:=by simpa using h.n53
 n45:=by simpa using h.n45
 o6:=by simpa using h.o6
 o7:=by simpa using h.o7
theorem MI.op1(h:MI w va vb K K' q q' d f g lo1 hi1 lo2 hi2 s5 s6 s7 s8 s9 s10 x)(hn:d 1=false){v1:Value}(hl:uu2 x K q v1 x') :
 MI w va vb K K' q q' (fun j=>d j||j==1) f g x.heap.size x'.heap.size lo2 hi2 s5 s6 s7 v1 s9 s10 x':=by
 have h6:d 6=false:=by
  cases e:d 6 with
  | false=>rfl
  | true=>have:=h.o6 e;rw[hn]at this;simp at this
 obtain⟨hh,hb⟩:=hl.toH;have h':=h.later hb;exact {
  below:=h'.below
  c0:=by simpa using h'.c0
  c2:=by simpa using h'.c2
  c1:=fun _=>⟨h.below.size,ab,hh⟩
  c3:=by simpa using h'.c3
  c4:=by have:=h'.c4;simp only[h6]at this;simpa[h6]using this
  c5:=by simpa using h'.c5
  n41:=fun e _=> .inl (h.c4 (by simpa using e)).2.2.lt
  n43:=by simpa using h'.n43
  n51:=fun e _=> .inl (h.c5 (by simpa using e)).2.2.lt
  n53:=by simpa using h'.n53
  n45:=by simpa using h'.n45
  o6:=by simp[h6]
  o7:=by intro e;have:=h.o7 (by simpa using e);rw[h6]at this;cases this }
theorem MI.op3(h:MI w va vb K K' q q' d f g lo1 hi1 lo2 hi2 s5 s6 s7 s8 s9 s10 x)(hn:d 3=false){v1:Value}(hl:uu2 x K' q' v1 x') :
 MI w va vb K K' q q' (fun j=>d j||j==3) f g lo1 hi1 x.heap.size x'.heap.size s5 s6 s7 s8 s9 v1 x':=by
 have h6:d 6=false:=by
  cases e:d 6 with
  | false=>rfl
  | true=>have:=h.o6 e;rw[hn]at this;simp at this
 have h7:d 7=false:=by
  cases e:d 7 with
  | false=>rfl
  | true=>have:=h.o7 e;rw[h6]at this;cases this
 obtain⟨hh,hb⟩:=hl.toH;have h':=h.later hb;exact {
  below:=h'.below
  c0:=by simpa using h'.c0
  c2:=by simpa using h'.c2
  c1:=by simpa using h'.c1
  c3:=fun _=>⟨h.below.size,ab,hh⟩
  c4:=by simpa using h'.c4
  c5:=by have:=h'.c5;simp only[h7]at this;simpa[h7]using this
  n41:=by simpa using h'.n41
  n43:=fun e _=> .inl (h.c4 (by simpa using e)).2.2.lt
  n51:=by simpa using h'.n51
  n53:=fun e _=> .inl (h.c5 (by simpa using e)).2.2.lt
  n45:=by simpa using h'.n45
  o6:=by simp[h6]
  o7:=by intro e;have:=h.o7 (by simpa using e);rw[h6]at this;cases this }
theorem MI.op4(h:MI w va vb K K' q q' d f g lo1 hi1 lo2 hi2 s5 s6 s7 s8 s9 s10 x)(hn:d 4=false) :
 MI w va vb K K' q q' (fun j=>d j||j==4) x.heap.size g lo1 hi1 lo2 hi2 (.pointer (some ⟨x.heap.size,0,none⟩)) s6 s7 s8 s9 s10 (x.alloc (.cells ufl 104)):=by
 have h6:d 6=false:=by
  cases e:d 6 with
  | false=>rfl
  | true=>have:=h.o6 e;rw[hn]at this;simp at this
 have h':=h.later (uGb x (.cells ufl 104));exact {
  below:=h'.below
  c0:=by simpa using h'.c0
  c2:=by simpa using h'.c2
  c1:=by simpa using h'.c1
  c3:=by simpa using h'.c3
  c4:=fun _=>⟨rfl,h.below.size,by simp only[h6];exact Bk.new _ _ _⟩
  c5:=by simpa using h'.c5
  n41:=fun _ e=> .inr (h.c1 (by simpa using e)).2.1
  n43:=fun _ e=> .inr (h.c3 (by simpa using e)).2.1
  n51:=by simpa using h'.n51
  n53:=by simpa using h'.n53
  n45:=fun _ e=>Nat.ne_of_gt (h.c5 (by simpa using e)).2.2.lt
  o6:=by simp[h6]
  o7:=by intro e;have:=h.o7 (by simpa using e);rw[h6]at this;cases this }
theorem MI.op5(h:MI w va vb K K' q q' d f g lo1 hi1 lo2 hi2 s5 s6 s7 s8 s9 s10 x)(hn:d 5=false) :
 MI w va vb K K' q q' (fun j=>d j||j==5) f x.heap.size lo1 hi1 lo2 hi2 s5 (.pointer (some ⟨x.heap.size,0,none⟩)) s7 s8 s9 s10 (x.alloc (.cells ufl 104)):=by
 have h6:d 6=false:=by
  cases e:d 6 with
  | false=>rfl
  | true=>have:=h.o6 e;rw[hn]at this;simp at this
 have h7:d 7=false:=by
  cases e:d 7 with
  | false=>rfl
  | true=>have:=h.o7 e;rw[h6]at this;cases this
 have h':=h.later (uGb x (.cells ufl 104));exact {
  below:=h'.below
  c0:=by simpa using h'.c0
  c2:=by simpa using h'.c2
  c1:=by simpa using h'.c1
  c3:=by simpa using h'.c3
  c4:=by simpa using h'.c4
  c5:=fun _=>⟨rfl,h.below.size,by simp only[h7];exact Bk.new _ _ _⟩
  n41:=by simpa using h'.n41
  n43:=by simpa using h'.n43
  n51:=fun _ e=> .inr (h.c1 (by simpa using e)).2.1
  n53:=fun _ e=> .inr (h.c3 (by simpa using e)).2.1
  n45:=fun e _=>Nat.ne_of_lt (h.c4 (by simpa using e)).2.2.lt
  o6:=by simp[h6]
  o7:=by intro e;have:=h.o7 (by simpa using e);rw[h6]at this;cases this }
theorem ucv(x:World)(b':Nat)(p y z:Value)(k:Nat)(hk:k≠b'):(((x.setCell ⟨b',0,none⟩ p).setCell ⟨b',1,none⟩ y).setCell ⟨b',2,none⟩ z).heap[k]? = x.heap[k]? :=by
 rw[Below.heap_setCell _ _ _ _ hk,Below.heap_setCell _ _ _ _ hk,Below.heap_setCell _ _ _ _ hk]
theorem ufm(x:World)(b':Nat)(p y z:Value):(((x.setCell ⟨b',0,none⟩ p).setCell ⟨b',1,none⟩ y).setCell ⟨b',2,none⟩ z).heap.size=x.heap.size:=by simp[World.setCell]
theorem MI.op6(h:MI w va vb K K' q q' d f g lo1 hi1 lo2 hi2 s5 s6 s7 s8 s9 s10 x)(h4:d 4=true)(h5:d 5=true)(h1:d 1=true)(h3:d 3=true)(h6:d 6=false){p y z:Value}(hs:s8 = .agg #[p,y,z]) :
 MI w va vb K K' q q' (fun j=>d j||j==6) f g lo1 hi1 lo2 hi2 s5 s6 s7 s8 s9 s10 (((x.setCell ⟨f,0,none⟩ p).setCell ⟨f,1,none⟩ y).setCell ⟨f,2,none⟩ z):=by
 obtain⟨e1,e2,e3⟩:=h.c4 h4;obtain⟨g1,g2,g3⟩:=h.c5 h5;exact {
  below:=uo h.below (by omega) p y z
  c0:=by simpa using h.c0
  c2:=by simpa using h.c2
  c1:=fun _=>⟨(h.c1 h1).1,by rw[ufm];exact(h.c1 h1).2.1,(h.c1 h1).2.2.vAb fun b hb1 hb2=>ucv x f p y z b (by have:=h.n41 h4 h1;omega)⟩
  c3:=fun _=>⟨(h.c3 h3).1,by rw[ufm];exact(h.c3 h3).2.1,(h.c3 h3).2.2.vAb fun b hb1 hb2=>ucv x f p y z b (by have:=h.n43 h4 h3;omega)⟩
  c4:=fun _=>⟨e1,e2,by
   rw[h6]at e3;simp only[aU,beq_self_eq_true,or_true,if_true,hs];exact((Bk.set e3 0 p).set 1 y).set 2 z⟩
  c5:=fun _=>⟨g1,g2,(ucv x f p y z g (fun e=>h.n45 h4 h5 e.symm)).trans (by simpa[Bk]using g3)⟩
  n41:=by simpa using h.n41
  n43:=by simpa using h.n43
  n51:=by simpa using h.n51
  n53:=by simpa using h.n53
  n45:=by simpa using h.n45
  o6:=fun _=>by simp[h1,h3,h4,h5]
  o7:=fun _=>by simp }
theorem MI.op7(h:MI w va vb K K' q q' d f g lo1 hi1 lo2 hi2 s5 s6 s7 s8 s9 s10 x)(h4:d 4=true)(h5:d 5=true)(h1:d 1=true)(h3:d 3=true)(h6:d 6=true)(h7:d 7=false){p y z:Value}(hs:s10 = .agg #[p,y,z]) :
 MI w va vb K K' q q' (fun j=>d j||j==7) f g lo1 hi1 lo2 hi2 s5 s6 s7 s8 s9 s10 (((x.setCell ⟨g,0,none⟩ p).setCell ⟨g,1,none⟩ y).setCell ⟨g,2,none⟩ z):=by
 obtain⟨e1,e2,e3⟩:=h.c4 h4;obtain⟨g1,g2,g3⟩:=h.c5 h5;exact {
  below:=uo h.below (by omega) p y z
  c0:=by simpa using h.c0
  c2:=by simpa using h.c2
  c1:=fun _=>⟨(h.c1 h1).1,by rw[ufm];exact(h.c1 h1).2.1,(h.c1 h1).2.2.vAb fun b hb1 hb2=>ucv x g p y z b (by have:=h.n51 h5 h1;omega)⟩
  c3:=fun _=>⟨(h.c3 h3).1,by rw[ufm];exact(h.c3 h3).2.1,(h.c3 h3).2.2.vAb fun b hb1 hb2=>ucv x g p y z b (by have:=h.n53 h5 h3;omega)⟩
  c4:=fun _=>⟨e1,e2,(ucv x g p y z f (h.n45 h4 h5)).trans (by simpa[Bk]using e3)⟩
  c5:=fun _=>⟨g1,g2,by
   rw[h7]at g3;simp only[aU,beq_self_eq_true,or_true,if_true,hs];exact((Bk.set g3 0 p).set 1 y).set 2 z⟩
  n41:=by simpa using h.n41
  n43:=by simpa using h.n43
  n51:=by simpa using h.n51
  n53:=by simpa using h.n53
  n45:=by simpa using h.n45
  o6:=fun _=>by simp[h1,h3,h4,h5]
  o7:=fun _=>by simp[h6] }
end
def uIm(w:World)(K K':Nat)(q q':Rat)(x y:Value)(wx:World):Prop:=
 ∃f g n1s n1 d1 n2s n2 d2 A1 c1 B1 e1 A2 c2 B2 e2,x = .pointer (some ⟨f,0,none⟩)/\y = .pointer (some ⟨g,0,none⟩)/\w.heap.size<=f/\w.heap.size<=g /\
  Bk wx f 104 #[.bool n1s,.slice A1 (dl n1) c1,.slice B1 (dl d1) e1]/\Bk wx g 104 #[.bool n2s,.slice A2 (dl n2) c2,.slice B2 (dl d2) e2] /\
  uL wx w.heap.size (.slice A1 (dl n1) c1) n1/\uL wx w.heap.size (.slice B1 (dl d1) e1) d1/\uL wx w.heap.size (.slice A2 (dl n2) c2) n2/\uL wx w.heap.size (.slice B2 (dl d2) e2) d2 /\
  d1≠0/\d2≠0/\dl n1<=K+1/\dl d1<=K+1/\dl n2<=K'+1/\dl d2<=K'+1/\q=mkRat (sg n1s n1) d1/\q'=mkRat (sg n2s n2) d2/\Below w.heap.size w wx
theorem MI.done{w:World}{va vb:Value}{K K':Nat}{q q':Rat}{d:Nat->Bool}{f g lo1 hi1 lo2 hi2:Nat}{s5 s6 s7 s8 s9 s10:Value}{x:World}
 (h:MI w va vb K K' q q' d f g lo1 hi1 lo2 hi2 s5 s6 s7 s8 s9 s10 x) (hd:∀i,i<8->d i=true):uIm w K K' q q' s5 s6 x:=by
 obtain⟨a0,a1,c7,n1,d1,A1,c1,B1,e1,rfl,a6,a7,a8,a9,b0,b1⟩:=h.c1 (hd 1 (by omega))
 obtain⟨a2,a3,c8,n2,d2,A2,c2,B2,e2,rfl,b2,b3,b4,b5,b6,b7⟩:=h.c3 (hd 3 (by omega))
 obtain⟨b8,b9,a4⟩:=h.c4 (hd 4 (by omega))
 obtain⟨c0,c6,a5⟩:=h.c5 (hd 5 (by omega))
 rw[hd 6 (by omega)]at a4
 rw[hd 7 (by omega)]at a5
 exact⟨f,g,c7,n1,d1,c8,n2,d2,A1,c1,B1,e1,A2,c2,B2,e2,b8,c0,b9,c6,a4,a5,(a6.vAs a1).lower a0,(a7.vAs a1).lower a0,(b2.vAs a3).lower a2,(b3.vAs a3).lower a2,
  a8,b4,a9,b0,b5,b6,b1,b7,h.below⟩
theorem uGc(s1 s2:Bool)(n1 n2:Nat):sg (s1 != s2) (n1*n2)=sg s1 n1*sg s2 n2:=by
 cases s1<;>cases s2<;>simp[sg,Int.neg_mul,Int.mul_neg]
set_option maxHeartbeats 16000000
theorem uzo(w:World)(lo lo':Nat)(v v':Value)(K K':Nat)(q q':Rat)(hv:ufi w lo v K q)(c8:ufi w lo' v' K' q')(hK:K+K'<=4000000000) :
 Calls Tryz.prog 46 #[v,v'] w (uDn w (q*q')):=by
 have HV:=hid hv;have g3:=hid c8;obtain⟨s,A,k,c,A',k',c',rfl⟩:=hv.form;obtain⟨s2,A2,k2,c2,A3,k3,c3,rfl⟩:=c8.form;clear hv c8;go_enter Tryz.func46,Tryz.ntmps46
 go_upto_region 1 with(fail)
 obtain⟨W,hW⟩:∃W,W=((w.alloc (.cells #[.bool s,.slice A k c,.slice A' k' c'] 62)).alloc (.cells #[.bool s2,.slice A2 k2 c2,.slice A3 k3 c3] 62)).alloc (.cells #[.bool false,.slice none 0 0,.slice none 0 0] 62):=⟨_,rfl⟩;have a8:Below w.heap.size w W:=by rw[hW];exact uF4 _ _ _ _
 have b7:Bk W w.heap.size 62 #[.bool s,.slice A k c,.slice A' k' c']:=by rw[hW];exact((Bk.new _ _ _).alloc _).alloc _
 have b8:Bk W (w.heap.size+1) 62 #[.bool s2,.slice A2 k2 c2,.slice A3 k3 c3]:=by rw[hW];have:=(Bk.new (w.alloc (.cells #[.bool s,.slice A k c,.slice A' k' c'] 62)) 62 #[.bool s2,.slice A2 k2 c2,.slice A3 k3 c3]).alloc (.cells #[.bool false,.slice none 0 0,.slice none 0 0] 62);simpa using this
 have b1:Bk W (w.heap.size+1+1) 62 ufl:=by rw[hW];have:=Bk.new ((w.alloc (.cells #[.bool s,.slice A k c,.slice A' k' c'] 62)).alloc (.cells #[.bool s2,.slice A2 k2 c2,.slice A3 k3 c3] 62)) 62 ufl;simpa[ufl]using this
 rw[<-hW];clear hW;go_cut [5,6] (fun x y wx=>uIm W K K' q q' x y wx)
 case first=>
  refine ub1 (by kernel_rfl) (ues (by kernel_rfl)) (fun d a x=>∃f g lo1 hi1 lo2 hi2 s5 s6 s7 s8 s9 s10,a=⟨#[.agg #[.bool s,.slice A k c,.slice A' k' c'],.agg #[.bool s2,.slice A2 k2 c2,.slice A3 k3 c3],.pointer (some ⟨w.heap.size,0,none⟩),.pointer (some ⟨w.heap.size+1,0,none⟩),.pointer (some ⟨w.heap.size+1+1,0,none⟩),s5,s6,s7,s8,s9,s10,undef,undef,undef,undef,undef,undef,undef,undef,undef,undef,undef,undef,undef,undef,undef,undef,undef],[]⟩/\MI W (.agg #[.bool s,.slice A k c,.slice A' k' c']) (.agg #[.bool s2,.slice A2 k2 c2,.slice A3 k3 c3]) K K' q q' d f g lo1 hi1 lo2 hi2 s5 s6 s7 s8 s9 s10 x) ?_ ?_ ?_
  ·refine⟨0,0,0,0,0,0,_,_,_,_,_,_,rfl,?_⟩
   exact { below:=aa.drew,c0:=by simp,c2:=by simp,c1:=by simp,c3:=by simp,c4:=by simp,c5:=by simp,n41:=by simp,n43:=by simp,n51:=by simp,n53:=by simp,n45:=by simp,o6:=by simp,o7:=by simp }
  ·intro d i o a1 x ho a2 a3 hI
   obtain⟨f,g,lo1,hi1,lo2,hi2,s5,s6,s7,s8,s9,s10,rfl,hM⟩:=hI;have hi:i<8:=(au.1 ho).1;have h0:i=0\/i=1\/i=2\/i=3\/i=4\/i=5\/i=6\/i=7:=by omega
   have a7:Below w.heap.size w x:=a8.trans (hM.below.mono a8.size);rcases h0 with rfl|rfl|rfl|rfl|rfl|rfl|rfl|rfl
   ·cases ho
    obtain⟨j9,l0,m7⟩:=(b7.below hM.below b7.lt).facts;have HM:=hid hM;clear hM a3 hi a2;refine uC rfl rfl fun KK a0=>?_
    have HK:=hid a0;clear a0;go_wp2;exact HK.out _ _ ⟨f,g,lo1,hi1,lo2,hi2,s5,s6,_,s8,s9,s10,rfl,HM.out.op0⟩
   ·cases ho
    have e0:=hM.c0 (a3 ⟨0,.data⟩ (by simp) rfl)
    have HM:=hid (hM.op1 a2 (x':=x) (v1:=undef));have b4:=hid hM;subst e0;have b9:=hid a2;clear hM a3 hi a2 HM;refine uC rfl rfl fun KK a0=>?_
    have HK:=hid a0;clear a0;go_wp2_with fail
    refine(uck _ lo _ K q (HV.out.below a7) (by omega)).mono ?_
    rintro e x'⟨v1,rfl,hl⟩;exact HK.out _ _ ⟨f,g,_,_,lo2,hi2,s5,s6,_,v1,s9,s10,rfl,b4.out.op1 b9.out hl⟩
   ·cases ho
    obtain⟨k1,l2,m9⟩:=(b8.below hM.below b8.lt).facts;have HM:=hid hM;clear hM a3 hi a2;refine uC rfl rfl fun KK a0=>?_
    have HK:=hid a0;clear a0;go_wp2;exact HK.out _ _ ⟨f,g,lo1,hi1,lo2,hi2,s5,s6,s7,s8,_,s10,rfl,HM.out.op2⟩
   ·cases ho
    have e0:=hM.c2 (a3 ⟨2,.data⟩ (by simp) rfl)
    have b4:=hid hM;subst e0;have b9:=hid a2;clear hM a3 hi a2;refine uC rfl rfl fun KK a0=>?_
    have HK:=hid a0;clear a0;go_wp2_with fail
    refine(uck _ lo' _ K' q' (g3.out.below a7) (by omega)).mono ?_
    rintro e x'⟨v1,rfl,hl⟩;exact HK.out _ _ ⟨f,g,lo1,hi1,_,_,s5,s6,s7,s8,_,v1,rfl,b4.out.op3 b9.out hl⟩
   ·cases ho
    have HM:=hid (hM.op4 a2);clear hM a3 hi a2;refine uC rfl rfl fun KK a0=>?_
    have HK:=hid a0;clear a0;go_wp2;exact HK.out _ _ ⟨_,g,lo1,hi1,lo2,hi2,_,s6,s7,s8,s9,s10,rfl,HM.out⟩
   ·cases ho
    have HM:=hid (hM.op5 a2);clear hM a3 hi a2;refine uC rfl rfl fun KK a0=>?_
    have HK:=hid a0;clear a0;go_wp2;exact HK.out _ _ ⟨f,_,lo1,hi1,lo2,hi2,s5,_,s7,s8,s9,s10,rfl,HM.out⟩
   ·cases ho
    have h4:=a3 ⟨4,.data⟩ (by simp) rfl
    have h1:=a3 ⟨1,.data⟩ (by simp) rfl
    have h3:=a3 ⟨3,.chain⟩ (by simp) rfl
    have h5:=a3 ⟨5,.phase⟩ (by simp) rfl
    obtain⟨_,_,b0,n1,d1,A1,g4,B1,g5,rfl,_⟩:=hM.c1 h1;have HM:=hid (hM.op6 h4 h5 h1 h3 a2 rfl);obtain⟨rfl,h9,a4⟩:=hM.c4 h4;rw[a2]at a4;obtain⟨b3,e6,c9⟩:=a4.facts;simp only[ufl]at b3;clear hM a3 hi a2 h4 h1 h3 h5 a4;refine uC rfl rfl fun KK a0=>?_
    have HK:=hid a0;clear a0;go_wp2;exact HK.out _ _ ⟨f,g,lo1,hi1,lo2,hi2,_,s6,s7,_,s9,s10,rfl,HM.out⟩
   ·cases ho
    have h6:=a3 ⟨6,.chain⟩ (by simp) rfl
    obtain⟨h1,h3,h4,h5⟩:=hM.o6 h6;obtain⟨_,_,b0,n1,d1,A1,g4,B1,g5,rfl,_⟩:=hM.c3 h3;have HM:=hid (hM.op7 h4 h5 h1 h3 h6 a2 rfl);obtain⟨rfl,h9,a4⟩:=hM.c5 h5;rw[a2]at a4;obtain⟨b3,e6,c9⟩:=a4.facts;simp only[ufl]at b3;clear hM a3 hi a2 h4 h1 h3 h5 h6 a4;refine uC rfl rfl fun KK a0=>?_
    have HK:=hid a0;clear a0;go_wp2;exact HK.out _ _ ⟨f,g,lo1,hi1,lo2,hi2,s5,_,s7,s8,s9,_,rfl,HM.out⟩
  ·rintro d a1 x hd ⟨f,g,lo1,hi1,lo2,hi2,s5,s6,s7,s8,s9,s10,rfl,hM⟩
   have HM:=hid (hM.done hd);clear hM hd;go_wp2_with fail
   go_meet
   exact HM.out
 case rest=>
  obtain⟨f,g,b0,n1,d1,d0,n2,d2,Aa,ca,Ba,ea,Ab,cb,Bb,eb,rfl,rfl,j7,j8,b5,b6,e7,e4,e8,e5,h7,h8,m1,m2,m3,m4,e9,f0,a7⟩:=hcut;have l4:=b1.lt;have g6:=hid b5;have g7:=hid b6;have d9:=hid (b1.below a7 b1.lt);obtain⟨b3,e6,c9⟩:=b5.facts;obtain⟨k7,l8,j4⟩:=b6.facts;have f8:=hid e7;have f6:=hid e4;have f9:=hid e8;have f7:=hid e5;have g0:=hid e9;have g1:=hid f0;have g8:=a8.trans (a7.mono a8.size);have m5:=a8.size;have m6:=a7.size;clear b5 b6 e7 e4 e8 e5 e9 f0 b7 b8 b1;go_wp2_with fail
  go_region_held3 (fun w'=>w'.cell? ⟨f,0,none⟩=some (.bool b0)/\w'.cell? ⟨f,1,none⟩=some (.slice Aa (dl n1) ca)/\w'.cell? ⟨f,2,none⟩=some (.slice Ba (dl d1) ea)/\w'.cell? ⟨g,0,none⟩=some (.bool d0)/\w'.cell? ⟨g,1,none⟩=some (.slice Ab (dl n2) cb)/\w'.cell? ⟨g,2,none⟩=some (.slice Bb (dl d2) eb)) (and_intros<;>(first|go_keep|(refine(ueb _ (by omega) _ _ _ _).trans ?_;simp[*])))
   (first
    | (go_at_call_of 78 (Value.slice Aa (dl n1) ca);refine(uan _ W.heap.size W.heap.size _ _ n1 n2 (by exact f8.out.drew) (by exact f9.out.drew) (by omega) (by omega)).mono ?_;rintro e w1 ⟨va,rfl,c6,a5⟩;have d3:=(g6.out.drew.below a5 c9);have d5:=(g7.out.drew.below a5 j4);have d7:=(d9.out.drew.below a5 d9.out.lt);obtain⟨k5,l6,j2⟩:=d3.facts;obtain⟨k8,l9,j5⟩:=d5.facts;have j0:=d7.lt;have f3:=hid c6;obtain⟨Ap,cp,rfl⟩:=uu.len c6;have e1:=g8.drew.trans (a5.mono (by simp;omega));have f2:=a5.size;clear c6)
    | (go_at_call_of 78 (Value.slice Ba (dl d1) ea);refine(uan _ W.heap.size W.heap.size _ _ d1 d2 (by exact f6.out.drew.below a5) (by exact f7.out.drew.below a5) (by omega) (by omega)).mono ?_;rintro e w2 ⟨vb,rfl,c7,a6⟩;have d4:=(d3.below a6 j2);have d6:=(d5.below a6 j5);have d8:=(d7.below a6 j0);obtain⟨k6,l7,j3⟩:=d4.facts;obtain⟨k9,m0,j6⟩:=d6.facts;have j1:=d8.lt;have f5:=hid c7;have f4:=hid (f3.out.below a6);obtain⟨Bp,ep,rfl⟩:=uu.len c7;have e2:=e1.trans (a6.mono e1.size);have n4:=a6.size;clear c7)
    | (go_at_call 48;refine(ufh _ W.heap.size _ (b0 != d0) (n1*n2) (d1*d2) (by simp at f2;omega) (by exact⟨_,_,rfl,f4.out.lower (by simp;omega),f5.out.lower (by simp at f2;omega)⟩) (by exact Nat.mul_ne_zero h7 h8) (by have:=uT n1 n2;omega) (by have:=uT d1 d2;omega)).mono ?_;rintro e w4 ⟨v4,rfl,a9,b2⟩;have g9:=e2.trans (b2.mono e2.size);obtain⟨k0,l1,m8⟩:=(d4.below b2 j3).facts;obtain⟨k4,l3,n0⟩:=(d6.below b2 j6).facts;obtain⟨e3,l5,n3⟩:=(d8.below b2 j1).facts;have h2:Hid (mkRat (sg (b0 != d0) (n1*n2)) (d1*d2)=q*q'):=(by show _=_;rw[g0.out,g1.out,Rat.mkRat_mul_mkRat,uGc]);rw[h2.out]at a9;obtain⟨q3,f1⟩:∃q3,Hid (q3=q*q'):=⟨_,rfl⟩;rw[<-f1.out]at a9;have g2:=hid a9;obtain⟨A4,c4,A5,c5,rfl,_,_⟩:=uaj.form a9;simp only[ufl]at e3;clear a9))
  go_wp2;exact bodyPost_ret (v:= .agg #[.bool (decide (q3.num<0)),.slice A4 (dl q3.num.natAbs) c4,.slice A5 (dl q3.den) c5]) (by simp[results,Tryz.results46,go_sem,e3]) rfl
   ⟨_,rfl,by rw[<-f1.out];exact ud5.lower (uhs g2.out (by omega) _ _ _) (by omega),uo g9 (by omega) _ _ _⟩
end Go.Proofs.YtnbbpmagijpmpaaGreatDoor
