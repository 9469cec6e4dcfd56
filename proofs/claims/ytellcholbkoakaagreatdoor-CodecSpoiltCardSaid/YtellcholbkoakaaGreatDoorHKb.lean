/-
  Which certificates are looked at: numbers, lists of numbers, forms, relations.
-/
import Derived.Test.YtellcholbkoakaaGreatDoorHRTa
import Derived.Test.YtellcholbkoakaaGreatDoorHRefE
import Derived.Test.YtellcholbkoakaaGreatDoorHCRa
import Derived.Handy
import Derived.Test.YtellcholbkoakaaGreatDoorHOpen
namespace Go.Proofs.YtellcholbkoakaaGreatDoor
open Go.Lib (hid)
open Go.RowKit AC
set_option linter.unusedVariables false
set_option linter.unusedSimpArgs false
def KP(P:Prop)(w:World)(e:Ending)(w':World):Prop:=∃b:Bool,e = .returned (.bool b)∧(b=true→P)∧Below w.heap.size w w'
theorem KP.no{P:Prop}{w w':World}(h:Below w.heap.size w w'):KP P w (.returned (.bool false)) w':=⟨false,rfl,(fun h=>by cases h),h⟩
theorem KP.yes{P:Prop}{w w':World}(hp:P)(h:Below w.heap.size w w'):KP P w (.returned (.bool true)) w':=⟨true,rfl,fun _=>hp,h⟩
theorem ukk(w W:World)(D:Nat→Prop)(b:Bool)(A A':Option Addr)(k c k' c':Nat)(t:List UInt8)(h:Rep w D .big [.bool b,.slice A k c,.slice A' k' c'] [t]) :
 Calls Tryz.prog 27 #[.agg #[.bool b,.slice A k c,.slice A' k' c']] W (KP (Rep w D .rat [.bool b,.slice A k c,.slice A' k' c'] [t]∧t.length≤58) W):=by
 obtain⟨q,⟨neg,kn,kd,fn,fd,vn,vd,hv,h1,h2,hq⟩,ht⟩:=h;injection ht with ht _;subst ht;injection hv with hv;have hv':([.bool b,.slice A k c,.slice A' k' c']:List Value)=[.bool neg,vn,vd]:=by simpa using congrArg Array.toList hv
 injection hv' with e1 hv';injection hv' with e2 hv';injection hv' with e3 _;injection e1 with e1;subst e1;subst e2;subst e3;obtain⟨hf1,A1,c1,e4,hk1,hc1,hl1⟩:=h1;obtain⟨hf2,A2,c2,e5,hk2,hc2,hl2⟩:=h2;injection e4 with e6 e7 e8;injection e5 with e9 e10 e11;subst e6;subst e7;subst e8;subst e9;subst e10;subst e11;unfold maxLen at hc1 hc2;refine(uvm W b A A' k c k' c' (by omega) (by omega)).mono ?_
 rintro e w'⟨rfl,hb⟩;refine⟨_,rfl,fun hs=>?_,hb⟩
 unfold uep at hs;simp only[Bool.and_eq_true,decide_eq_true_eq]at hs;refine⟨⟨q,⟨b,k,k',fn,fd,_,_,rfl,⟨hf1,A,c,rfl,hk1,hc1,hl1⟩,⟨hf2,A',c',rfl,hk2,hc2,hl2⟩,by omega,by omega,hq⟩,rfl⟩,?_⟩
 rw[hq];exact uvi hf1 hf2 hs.1 hs.2
theorem ukl{v:List Value}(h:Ty .big v):∃zb zA zk zc zD zl zd,v=[.bool zb,.slice zA zk zc,.slice zD zl zd]:=h
theorem ug2{a b:List UInt8}{N:Nat}(h:a.length+b.length+3≤N):(par (fun i=>[a,b].getD i []) [a,b].length).length≤N:=by rw[umg];exact h
theorem uol{a b c:List UInt8}{N:Nat}(h:a.length+b.length+c.length+4≤N):(par (fun i=>[a,b,c].getD i []) [a,b,c].length).length≤N:=by rw[usq];exact h
theorem uy2{a b c d:List UInt8}{N:Nat}(h:a.length+b.length+c.length+d.length+5≤N):(par (fun i=>[a,b,c,d].getD i []) [a,b,c,d].length).length≤N:=by rw[uxt];exact h
theorem uy3{a b c d e:List UInt8}{N:Nat}(h:a.length+b.length+c.length+d.length+e.length+6≤N):(par (fun i=>[a,b,c,d,e].getD i []) [a,b,c,d,e].length).length≤N:=by rw[uxu];exact h
theorem uvn{w:World}{D:Nat→Prop}{v:List Value}{A:Option Addr}{k c:Nat}{t1 t2:List UInt8}(h1:Rep w D .int v [t1])(h2:Rep w D (.list uH) [.slice A k c] [t2]){r:Nat}(hk:k≤r):(par (fun i=>[t1,t2].getD i []) [t1,t2].length).length≤26+46*r:=by
 have q1:=h1.int_len;have q2:=h2.list_len hk (M:=45) fun v t h=>ue2 h
 exact ug2 (by omega)
def KS(t:List UInt8)(limit:Nat)(w:World)(e:Ending)(w':World):Prop:=∃r:Nat,e = .returned (.int .i64 r)∧1≤r∧r≤limit+1∧(r≤limit→t.length+1≤50*r)∧Below w.heap.size w w'
set_option maxHeartbeats 4000000 in
set_option maxRecDepth 100000 in
theorem ukm:∀(n:Nat) (w W:World) (D:Nat→Prop) (v:List Value) (t:List UInt8) (limit:Nat),limit≤13→Rep w D (uy n) v [t]→Below w.heap.size w W →
 Calls Tryz.prog 70 #[uas (uy n) v,.int .i64 limit] W (KS t limit W)
 | 0,w,W,D,v,t,limit,_,h,_=>False.elim h
 | n+1,w,W,D,v,t,limit,hlim,hrep,hW=>by
  have ih:=ukm n w;have b9:=hid ih;clear ih;obtain⟨_,ht,l0,_,t0,_,rfl,rfl,r0,l1,_,t1,_,rfl,rfl,rL,rfl,rfl⟩:=hrep;injection ht with ht _;subst ht;obtain⟨z0,rfl⟩:=ug r0.ty;obtain⟨zA,zk,zc,rfl⟩:=ua rL.ty;obtain⟨us,tx,c8,d5,c5,b5,b7⟩:=rL.unlist;subst c8;unfold maxLen at c5;have c0:Hid (∀r,1≤r→(ube tx zk).length≤50*(r-1)→(par (fun i=>[t0,par tx zk].getD i []) [t0,par tx zk].length).length+1≤50*r):=by
   intro r h1 h2;have q0:=r0.int_len;have e:(par tx zk).length=(ube tx zk).length+2:=by unfold par;simp
   rw[umg];omega
  have b8:=hid b5;have c1:=hid b7;have HW:=hid hW;clear b5 b7 hW rL r0;show Calls Tryz.prog 70 #[.agg #[.int .i64 z0,.slice zA zk zc],.int .i64 limit] W _
  have b3:=Bk.new W 143 #[.int .i64 z0,.slice zA zk zc];have a1:=hid b3;clear b3;go_enter Tryz.func70,Tryz.ntmps70
  go_upto_region 1 with(fail)
  obtain⟨C,hC⟩:∃C,C=W.alloc (.cells #[.int .i64 z0,.slice zA zk zc] 143):=⟨_,rfl⟩;have a9:Hid (Below W.heap.size W C):=by rw[hC];exact(Below.refl _ _).alloc (Nat.le_refl _) _
  rw[←hC]at a1 ⊢;obtain⟨c4,_,_⟩:=a1.out.facts;clear hC;go_wp2;go_loopw [5,10] (fun nv iv wr=>∃(i r:Nat),i≤zk∧iv = .int .i64 i∧nv = .int .i64 r∧1≤r∧r≤limit+1∧Hid (r≤limit→(ube tx i).length≤50*(r-1))∧Hid (Below C.heap.size C wr)) (fun _ iv _=>zk-(intOf iv).toNat)
  case atStart=>exact⟨0,1,by omega,rfl,rfl,by omega,by omega,(fun _=>by simp[ube]),Below.refl _ _⟩
  case round=>
   obtain⟨i,r,hi,rfl,rfl,a6,b6,HS,HB⟩:=hrel;have a0:=hid (a9.out.trans (HB.out.mono a9.out.size));obtain⟨c9,_,_⟩:=(a1.out.below HB.out a1.out.lt).facts;clear c4;by_cases a5:i<zk
   ·by_cases c6:r≤limit
    ·obtain⟨b,a3,c3,_,b2,a4⟩:=b8.out (by omega)
     subst c3;have a2:=c1.out i a5;have a7:Shape.sz (uy n)=2:=uj;obtain⟨u,hu⟩:∃u,us i=u:=⟨_,rfl⟩;rw[hu]at a2;obtain⟨y0,yA,yk,yc,rfl⟩:=ubz a2.ty;have d3:wr.cell? ⟨b,a3+i*2,none⟩=some (.int .i64 y0):=by
      have h9:=((HW.out.trans (a0.out.mono HW.out.size)).cell (p:=⟨b,a3+i*Shape.sz (uy n)+0,none⟩) b2).trans (a4 i a5 0 (.int .i64 y0) (by rw[hu];rfl))
      rw[a7]at h9;simpa using h9
     have d4:wr.cell? ⟨b,a3+i*2+1,none⟩=some (.slice yA yk yc):=by
      have h9:=((HW.out.trans (a0.out.mono HW.out.size)).cell (p:=⟨b,a3+i*Shape.sz (uy n)+1,none⟩) b2).trans (a4 i a5 1 (.slice yA yk yc) (by rw[hu];rfl))
      rw[a7]at h9;simpa using h9
     clear a4 hu a7;have key:=b9.out wr D _ _ (limit-r) (by omega) a2 (HW.out.trans (a0.out.mono HW.out.size))
     rw[ubp]at key;have c2:=hid key;clear key a2;have c7:((limit:Int)-(r:Int))=((limit-r:Nat):Int):=by omega
     go_wp2_with fail
     refine c2.out.mono ?_;rintro e w2⟨c,rfl,d0,d1,b4,b1⟩;have a8:=hid (HB.out.trans (b1.mono HB.out.size));have b0:Hid (r+c≤limit→(ube tx (i+1)).length≤50*(r+c-1)):=by
      intro h;have h1:=HS.out c6;have h2:=b4 (by omega)
      rcases Nat.eq_zero_or_pos i with h0|h0
      ·subst h0
       have:ube tx 1=tx 0:=rfl;rw[this];omega
      ·rw[ubf tx h0]
       simp;omega
     have d2:c≤14:=by omega
     have d6:r≤13:=by omega
     clear b4 b1 c7;go_wp2;go_roundw
     case rel=>first|exact⟨i+1,r+c,by omega,by go_num,by go_num,by omega,by omega,b0,a8⟩|((repeat apply Exists.intro);exact⟨⟨i+1,r+c,by omega,by go_num,by go_num,by omega,by omega,b0,a8⟩,rfl⟩)
     case measure=>simp[intOf];omega
    ·have d7:limit<r:=by omega
     go_wp2;go_ret
     exact⟨r,rfl,a6,b6,(fun h=>absurd h (by omega)),a0.out⟩
   ·obtain rfl:i=zk:=by omega
    go_wp2;go_ret
    exact⟨r,rfl,a6,b6,(fun h=>c0.out r a6 (HS.out h)),a0.out⟩
set_option maxHeartbeats 4000000 in
set_option maxRecDepth 100000 in
theorem ufm:∀(n:Nat) (w W:World) (D:Nat→Prop) (v:List Value) (t:List UInt8) (limit:Nat),limit≤13→Rep w D (ua1 n) v [t]→Below w.heap.size w W →
 Calls Tryz.prog 69 #[uas (ua1 n) v,.int .i64 limit] W (KS t limit W)
 | 0,w,W,D,v,t,limit,_,h,_=>False.elim h
 | n+1,w,W,D,v,t,limit,hlim,hrep,hW=>by
  have ih:=ufm n w;have b9:=hid ih;clear ih;obtain⟨_,ht,l0,_,t0,_,rfl,rfl,r0,l1,_,t1,_,rfl,rfl,r1,l2,_,t2,_,rfl,rfl,rL,rfl,rfl⟩:=hrep;injection ht with ht _;subst ht;obtain⟨z0,rfl⟩:=ug r0.ty;obtain⟨z1,rfl⟩:=ug r1.ty;obtain⟨zA,zk,zc,rfl⟩:=ua rL.ty;obtain⟨us,tx,c8,d6,c5,b5,b7⟩:=rL.unlist;subst c8;unfold maxLen at c5;have c0:Hid (∀r,1≤r→(ube tx zk).length≤50*(r-1)→(par (fun i=>[t0,t1,par tx zk].getD i []) [t0,t1,par tx zk].length).length+1≤50*r):=by
   intro r h1 h2;have q0:=r0.int_len;have q1:=r1.int_len;have e:(par tx zk).length=(ube tx zk).length+2:=by unfold par;simp
   rw[usq];omega
  have b8:=hid b5;have c1:=hid b7;have HW:=hid hW;clear b5 b7 hW rL r0 r1;show Calls Tryz.prog 69 #[.agg #[.int .i64 z0,.int .i64 z1,.slice zA zk zc],.int .i64 limit] W _
  have b3:=Bk.new W 116 #[.int .i64 z0,.int .i64 z1,.slice zA zk zc];have a2:=hid b3;clear b3;go_enter Tryz.func69,Tryz.ntmps69
  go_upto_region 1 with(fail)
  obtain⟨C,hC⟩:∃C,C=W.alloc (.cells #[.int .i64 z0,.int .i64 z1,.slice zA zk zc] 116):=⟨_,rfl⟩;have b0:Hid (Below W.heap.size W C):=by rw[hC];exact(Below.refl _ _).alloc (Nat.le_refl _) _
  rw[←hC]at a2 ⊢;obtain⟨c4,_,_⟩:=a2.out.facts;clear hC;go_wp2;go_loopw [5,10] (fun nv iv wr=>∃(i r:Nat),i≤zk∧iv = .int .i64 i∧nv = .int .i64 r∧1≤r∧r≤limit+1∧Hid (r≤limit→(ube tx i).length≤50*(r-1))∧Hid (Below C.heap.size C wr)) (fun _ iv _=>zk-(intOf iv).toNat)
  case atStart=>exact⟨0,1,by omega,rfl,rfl,by omega,by omega,(fun _=>by simp[ube]),Below.refl _ _⟩
  case round=>
   obtain⟨i,r,hi,rfl,rfl,a8,b6,HS,HB⟩:=hrel;have a0:=hid (b0.out.trans (HB.out.mono b0.out.size));obtain⟨c9,_,_⟩:=(a2.out.below HB.out a2.out.lt).facts;clear c4;by_cases a4:i<zk
   ·by_cases c6:r≤limit
    ·obtain⟨b,a1,c3,_,a7,a3⟩:=b8.out (by omega)
     subst c3;have a5:=c1.out i a4;have a6:Shape.sz (ua1 n)=3:=uA;obtain⟨u,hu⟩:∃u,us i=u:=⟨_,rfl⟩;rw[hu]at a5;obtain⟨y0,y1,yA,yk,yc,rfl⟩:=uek a5.ty;have d3:wr.cell? ⟨b,a1+i*3,none⟩=some (.int .i64 y0):=by
      have h9:=((HW.out.trans (a0.out.mono HW.out.size)).cell (p:=⟨b,a1+i*Shape.sz (ua1 n)+0,none⟩) a7).trans (a3 i a4 0 (.int .i64 y0) (by rw[hu];rfl))
      rw[a6]at h9;simpa using h9
     have d4:wr.cell? ⟨b,a1+i*3+1,none⟩=some (.int .i64 y1):=by
      have h9:=((HW.out.trans (a0.out.mono HW.out.size)).cell (p:=⟨b,a1+i*Shape.sz (ua1 n)+1,none⟩) a7).trans (a3 i a4 1 (.int .i64 y1) (by rw[hu];rfl))
      rw[a6]at h9;simpa using h9
     have d5:wr.cell? ⟨b,a1+i*3+2,none⟩=some (.slice yA yk yc):=by
      have h9:=((HW.out.trans (a0.out.mono HW.out.size)).cell (p:=⟨b,a1+i*Shape.sz (ua1 n)+2,none⟩) a7).trans (a3 i a4 2 (.slice yA yk yc) (by rw[hu];rfl))
      rw[a6]at h9;simpa using h9
     clear a3 hu a6;have key:=b9.out wr D _ _ (limit-r) (by omega) a5 (HW.out.trans (a0.out.mono HW.out.size))
     rw[udg]at key;have c2:=hid key;clear key a5;have c7:((limit:Int)-(r:Int))=((limit-r:Nat):Int):=by omega
     go_wp2_with fail
     refine c2.out.mono ?_;rintro e w2⟨c,rfl,d0,d1,b4,b2⟩;have a9:=hid (HB.out.trans (b2.mono HB.out.size));have b1:Hid (r+c≤limit→(ube tx (i+1)).length≤50*(r+c-1)):=by
      intro h;have h1:=HS.out c6;have h2:=b4 (by omega)
      rcases Nat.eq_zero_or_pos i with h0|h0
      ·subst h0
       have:ube tx 1=tx 0:=rfl;rw[this];omega
      ·rw[ubf tx h0]
       simp;omega
     have d2:c≤14:=by omega
     have d7:r≤13:=by omega
     clear b4 b2 c7;go_wp2;go_roundw
     case rel=>first|exact⟨i+1,r+c,by omega,by go_num,by go_num,by omega,by omega,b1,a9⟩|((repeat apply Exists.intro);exact⟨⟨i+1,r+c,by omega,by go_num,by go_num,by omega,by omega,b1,a9⟩,rfl⟩)
     case measure=>simp[intOf];omega
    ·have d8:limit<r:=by omega
     go_wp2;go_ret
     exact⟨r,rfl,a8,b6,(fun h=>absurd h (by omega)),a0.out⟩
   ·obtain rfl:i=zk:=by omega
    go_wp2;go_ret
    exact⟨r,rfl,a8,b6,(fun h=>c0.out r a8 (HS.out h)),a0.out⟩
set_option maxHeartbeats 4000000 in
set_option maxRecDepth 100000 in
theorem umq(n:Nat)(w W:World)(D:Nat→Prop)(A:Option Addr)(k c:Nat)(t:List UInt8)(m:Nat)(hm:m≤1000)(h:Rep w D (.list .big) [.slice A k c] [t])(hW:Below w.heap.size w W) :
 Calls Tryz.prog 25 #[.slice A k c,.int .i64 m] W (KP (Rep w D (.list .rat) [.slice A k c] [t]∧t.length≤2+m*(58+1)) W):=by
 have HW:=hid hW;clear hW;have b8:=hid (Below.refl W.heap.size W);have d8:=hid h;clear h;obtain⟨c4,a6,e6,e4,d6,d5,d7⟩:=d8.out.unlist;subst e6;unfold maxLen at d6;have d1:=hid d5;have e0:=hid d7;clear d5 d7;by_cases e5:k≤m
 ·have f4:decide (m<k)=false:=decide_eq_false (by omega)
  go_enter Tryz.func25,Tryz.ntmps25
  go_wp2;go_loopw [12] (fun iv wr=>∃(i:Nat),i≤k∧iv = .int .i64 i∧Hid (∀j,j<i→Rep w D .rat (c4 j) [a6 j]∧(a6 j).length≤58)∧Hid (Below W.heap.size W wr)) (fun iv _=>k-(intOf iv).toNat)
  case atStart=>exact⟨0,by omega,rfl,(fun j hj=>absurd hj (by omega)),Below.refl _ _⟩
  obtain⟨k8,f5,rfl,c0,b9⟩:=hrel;obtain⟨c6,e7⟩:∃w:World,w=wr:=⟨_,rfl⟩;subst e7;have d4:=b9.out;have a2:=hid (b8.out.trans (d4.mono b8.out.size));clear d4;by_cases b6:k8<k
  ·obtain⟨a0,a1,e3,_,a3,b5⟩:=d1.out (by omega)
   subst e3;have a5:=e0.out k8 b6;obtain⟨f8,a4⟩:∃u,c4 k8=u:=⟨_,rfl⟩;rw[a4]at a5;have b7:Shape.sz .big=3:=rfl;obtain⟨f7,c3⟩:∃t,a6 k8=t:=⟨_,rfl⟩;rw[c3]at a5;have d3:=hid c3;clear c3;obtain⟨a9,a7,b2,b0,a8,b3,b1,rfl⟩:=ukl a5.ty;have d9:=hid a5;clear a5;have e2:=hid a4;have c8:Hid (w.cell? ⟨a0,a1+k8*3,none⟩=some (.bool a9)):=by
    have h9:=b5 k8 b6 0 (.bool a9) (by rw[a4];rfl)
    rw[b7]at h9;show w.cell? ⟨a0,a1+k8*3,none⟩=some (.bool a9)
    simpa using h9
   have e8:c6.cell? ⟨a0,a1+k8*3,none⟩=some (.bool a9):=((HW.out.trans (a2.out.mono HW.out.size)).cell (p:=⟨a0,a1+k8*3,none⟩) a3).trans c8.out;have c9:Hid (w.cell? ⟨a0,a1+k8*3+1,none⟩=some (.slice a7 b2 b0)):=by
    have h9:=b5 k8 b6 1 (.slice a7 b2 b0) (by rw[a4];rfl)
    rw[b7]at h9;show w.cell? ⟨a0,a1+k8*3+1,none⟩=some (.slice a7 b2 b0)
    exact h9
   have e9:c6.cell? ⟨a0,a1+k8*3+1,none⟩=some (.slice a7 b2 b0):=((HW.out.trans (a2.out.mono HW.out.size)).cell (p:=⟨a0,a1+k8*3+1,none⟩) a3).trans c9.out;have d0:Hid (w.cell? ⟨a0,a1+k8*3+2,none⟩=some (.slice a8 b3 b1)):=by
    have h9:=b5 k8 b6 2 (.slice a8 b3 b1) (by rw[a4];rfl)
    rw[b7]at h9;show w.cell? ⟨a0,a1+k8*3+2,none⟩=some (.slice a8 b3 b1)
    exact h9
   have f0:c6.cell? ⟨a0,a1+k8*3+2,none⟩=some (.slice a8 b3 b1):=((HW.out.trans (a2.out.mono HW.out.size)).cell (p:=⟨a0,a1+k8*3+2,none⟩) a3).trans d0.out;clear b5 a4 b7;go_wp2_with fail
   refine(ukk w _ D _ _ _ _ _ _ _ _ d9.out).mono ?_;rintro e c5⟨bb,rfl,c1,c2⟩;have b4:=hid (a2.out.trans (c2.mono a2.out.size));have c7:=hid (b9.out.trans (c2.mono b9.out.size));have f1:c5.cell? ⟨a0,a1+k8*3,none⟩=some (.bool a9):=((HW.out.trans (b4.out.mono HW.out.size)).cell (p:=⟨a0,a1+k8*3,none⟩) a3).trans c8.out;have f2:c5.cell? ⟨a0,a1+k8*3+1,none⟩=some (.slice a7 b2 b0):=((HW.out.trans (b4.out.mono HW.out.size)).cell (p:=⟨a0,a1+k8*3+1,none⟩) a3).trans c9.out;have f3:c5.cell? ⟨a0,a1+k8*3+2,none⟩=some (.slice a8 b3 b1):=((HW.out.trans (b4.out.mono HW.out.size)).cell (p:=⟨a0,a1+k8*3+2,none⟩) a3).trans d0.out;clear c2;rcases bb with _|_
   ·clear c1
    go_wp2;go_ret
    exact KP.no b4.out
   have e1:=hid (c1 rfl);clear c1;have d2:Hid (∀j,j<k8+1→Rep w D .rat (c4 j) [a6 j]∧(a6 j).length≤58):=fun j hj=>by
    rcases Nat.lt_or_ge j k8 with h|h
    ·exact c0.out j h
    ·obtain rfl:j=k8:=by omega
     first|rw[e2.out,d3.out]|rw[d3.out]
     exact e1.out
   go_wp2;go_roundw
   case rel=>first|exact⟨k8+1,by omega,by go_num,d2,c7⟩|((repeat apply Exists.intro);exact⟨⟨k8+1,by omega,by go_num,d2,c7⟩,rfl⟩)
   case measure=>simp[intOf];omega
  obtain rfl:k8=k:=by omega
  go_wp2;go_ret
  exact KP.yes (⟨Rep.relist rfl e4 d6 d1.out (fun j hj=>(c0.out j hj).1),uah e5 fun j hj=>(c0.out j hj).2⟩) a2.out
 ·have f6:m<k:=by omega
  go_enter Tryz.func25,Tryz.ntmps25
  go_wp2;go_ret
  exact KP.no b8.out
set_option maxHeartbeats 4000000 in
set_option maxRecDepth 100000 in
theorem us8(n:Nat)(w W:World)(D:Nat→Prop)(A:Option Addr)(k c:Nat)(t:List UInt8)(m r:Nat)(hm:m≤1000)(hr:r≤1000)(h:Rep w D (.list uX) [.slice A k c] [t])(hW:Below w.heap.size w W) :
 Calls Tryz.prog 68 #[.slice A k c,.int .i64 m,.int .i64 r] W (KP (t.length≤2+m*(26+46*r+1)) W):=by
 have HW:=hid hW;clear hW;have a9:=hid (Below.refl W.heap.size W);have d2:=hid h;clear h;obtain⟨e2,b9,e0,e7,d8,c5,c6⟩:=d2.out.unlist;subst e0;unfold maxLen at d8;have d1:=hid c5;have d5:=hid c6;clear c5 c6;by_cases d9:k≤m
 ·have e5:decide (m<k)=false:=decide_eq_false (by omega)
  go_enter Tryz.func68,Tryz.ntmps68
  go_wp2;go_loopw [14] (fun iv wr=>∃(i:Nat),i≤k∧iv = .int .i64 i∧Hid (∀j,j<i→(b9 j).length≤26+46*r)∧Hid (Below W.heap.size W wr)) (fun iv _=>k-(intOf iv).toNat)
  case atStart=>exact⟨0,by omega,rfl,(fun j hj=>absurd hj (by omega)),Below.refl _ _⟩
  obtain⟨a0,e6,rfl,c0,b0⟩:=hrel;obtain⟨c8,e1⟩:∃w:World,w=wr:=⟨_,rfl⟩;subst e1;have c3:=b0.out;have a5:=hid (a9.out.trans (c3.mono a9.out.size));clear c3;by_cases b2:a0<k
  ·obtain⟨a1,a2,d7,_,c4,b1⟩:=d1.out (by omega)
   subst d7;have b4:=d5.out a0 b2;obtain⟨f5,a4⟩:∃u,e2 a0=u:=⟨_,rfl⟩;rw[a4]at b4;have b5:Shape.sz uX=2:=uw;obtain⟨f2,b3⟩:∃t,b9 a0=t:=⟨_,rfl⟩;rw[b3]at b4;have c2:=hid b3;clear b3;obtain⟨_,b6,f0,_,f3,_,rfl,rfl,b7,f1,_,f4,_,rfl,rfl,b8,rfl,rfl⟩:=b4;injection b6 with b6 _;obtain⟨a6,rfl⟩:=ug b7.ty;obtain⟨a7,a3,a8,rfl⟩:=ua b8.ty;subst b6;have d3:=hid b7;clear b7;have d4:=hid b8;clear b8;have d6:=hid a4;have c9:Hid (w.cell? ⟨a1,a2+a0*2,none⟩=some (.int .i64 a6)):=by
    have h9:=b1 a0 b2 0 (.int .i64 a6) (by rw[a4];rfl)
    rw[b5]at h9;show w.cell? ⟨a1,a2+a0*2,none⟩=some (.int .i64 a6)
    simpa using h9
   have e3:c8.cell? ⟨a1,a2+a0*2,none⟩=some (.int .i64 a6):=((HW.out.trans (a5.out.mono HW.out.size)).cell (p:=⟨a1,a2+a0*2,none⟩) c4).trans c9.out;have d0:Hid (w.cell? ⟨a1,a2+a0*2+1,none⟩=some (.slice a7 a3 a8)):=by
    have h9:=b1 a0 b2 1 (.slice a7 a3 a8) (by rw[a4];rfl)
    rw[b5]at h9;show w.cell? ⟨a1,a2+a0*2+1,none⟩=some (.slice a7 a3 a8)
    exact h9
   have e4:c8.cell? ⟨a1,a2+a0*2+1,none⟩=some (.slice a7 a3 a8):=((HW.out.trans (a5.out.mono HW.out.size)).cell (p:=⟨a1,a2+a0*2+1,none⟩) c4).trans d0.out;clear b1 a4 b5;rcases Nat.lt_or_ge r a3 with e9|c7
   ·go_wp2
    go_ret
    exact KP.no a5.out
   have c7:a3≤r:=c7;have c1:Hid (∀j,j<a0+1→(b9 j).length≤26+46*r):=fun j hj=>by
    rcases Nat.lt_or_ge j a0 with h|h
    ·exact c0.out j h
    ·obtain rfl:j=a0:=by omega
     first|rw[d6.out,c2.out]|rw[c2.out]
     exact uvn d3.out d4.out (by assumption)
   go_wp2;go_roundw
   case rel=>first|exact⟨a0+1,by omega,by go_num,c1,b0⟩|((repeat apply Exists.intro);exact⟨⟨a0+1,by omega,by go_num,c1,b0⟩,rfl⟩)
   case measure=>simp[intOf];omega
  obtain rfl:a0=k:=by omega
  go_wp2;go_ret
  exact KP.yes (uah d9 c0.out) a5.out
 ·have e8:m<k:=by omega
  go_enter Tryz.func68,Tryz.ntmps68
  go_wp2;go_ret
  exact KP.no a9.out
set_option maxHeartbeats 4000000 in
set_option maxRecDepth 100000 in
theorem uxy(n:Nat)(w W:World)(D:Nat→Prop)(A:Option Addr)(k c:Nat)(t:List UInt8)(m:Nat)(hm:m≤1000)(h:Rep w D (.list ut) [.slice A k c] [t])(hW:Below w.heap.size w W) :
 Calls Tryz.prog 22 #[.slice A k c,.int .i64 m] W (KP (t.length≤2+8*(2*(2+m*(26+46*5+1))+3+1)) W):=by
 have HW:=hid hW;clear hW;have b3:=hid (Below.refl W.heap.size W);have e3:=hid h;clear h;obtain⟨f5,d0,f3,g4,f1,d7,d8⟩:=e3.out.unlist;subst f3;unfold maxLen at f1;have e2:=hid d7;have e6:=hid d8;clear d7 d8;by_cases f2:k≤8
 ·have g2:decide (8<k)=false:=decide_eq_false (by omega)
  go_enter Tryz.func22,Tryz.ntmps22
  go_wp2;go_loopw [11] (fun iv wr=>∃(i:Nat),i≤k∧iv = .int .i64 i∧Hid (∀j,j<i→(d0 j).length≤2*(2+m*(26+46*5+1))+3)∧Hid (Below W.heap.size W wr)) (fun iv _=>k-(intOf iv).toNat)
  case atStart=>exact⟨0,by omega,rfl,(fun j hj=>absurd hj (by omega)),Below.refl _ _⟩
  obtain⟨a0,g3,rfl,d3,b5⟩:=hrel;obtain⟨e1,f4⟩:∃w:World,w=wr:=⟨_,rfl⟩;subst f4;have d6:=b5.out;have a3:=hid (b3.out.trans (d6.mono b3.out.size));clear d6;by_cases c3:a0<k
  ·obtain⟨a1,a2,f0,_,a5,c2⟩:=e2.out (by omega)
   subst f0;have c5:=e6.out a0 c3;obtain⟨h1,b2⟩:∃u,f5 a0=u:=⟨_,rfl⟩;rw[b2]at c5;have c6:Shape.sz ut=2:=ua9;obtain⟨g8,c4⟩:∃t,d0 a0=t:=⟨_,rfl⟩;rw[c4]at c5;have d5:=hid c4;clear c4;obtain⟨_,c7,g6,_,g9,_,rfl,rfl,c8,g7,_,h0,_,rfl,rfl,c9,rfl,rfl⟩:=c5;injection c7 with c7 _;obtain⟨a6,a8,a7,rfl⟩:=ua c8.ty;obtain⟨a9,b1,b0,rfl⟩:=ua c9.ty;subst c7;have e4:=hid c8;clear c8;have e5:=hid c9;clear c9;have e9:=hid b2;have b6:Hid (w.cell? ⟨a1,a2+a0*2,none⟩=some (.slice a6 a8 a7)):=by
    have h9:=c2 a0 c3 0 (.slice a6 a8 a7) (by rw[b2];rfl)
    rw[c6]at h9;show w.cell? ⟨a1,a2+a0*2,none⟩=some (.slice a6 a8 a7)
    simpa using h9
   have f6:e1.cell? ⟨a1,a2+a0*2,none⟩=some (.slice a6 a8 a7):=((HW.out.trans (a3.out.mono HW.out.size)).cell (p:=⟨a1,a2+a0*2,none⟩) a5).trans b6.out;have b7:Hid (w.cell? ⟨a1,a2+a0*2+1,none⟩=some (.slice a9 b1 b0)):=by
    have h9:=c2 a0 c3 1 (.slice a9 b1 b0) (by rw[b2];rfl)
    rw[c6]at h9;show w.cell? ⟨a1,a2+a0*2+1,none⟩=some (.slice a9 b1 b0)
    exact h9
   have f7:e1.cell? ⟨a1,a2+a0*2+1,none⟩=some (.slice a9 b1 b0):=((HW.out.trans (a3.out.mono HW.out.size)).cell (p:=⟨a1,a2+a0*2+1,none⟩) a5).trans b7.out;clear c2 b2 c6;go_wp2_with fail
   refine(us8 n w _ D _ _ _ _ m 5 hm (by omega) e4.out (HW.out.trans (a3.out.mono HW.out.size))).mono ?_
   rintro e d9⟨bb,rfl,b8,c0⟩;have a4:=hid (a3.out.trans (c0.mono a3.out.size));have d1:=hid (b5.out.trans (c0.mono b5.out.size));have f8:d9.cell? ⟨a1,a2+a0*2,none⟩=some (.slice a6 a8 a7):=((HW.out.trans (a4.out.mono HW.out.size)).cell (p:=⟨a1,a2+a0*2,none⟩) a5).trans b6.out;have f9:d9.cell? ⟨a1,a2+a0*2+1,none⟩=some (.slice a9 b1 b0):=((HW.out.trans (a4.out.mono HW.out.size)).cell (p:=⟨a1,a2+a0*2+1,none⟩) a5).trans b7.out;clear c0;rcases bb with _|_
   ·clear b8
    go_wp2;go_ret
    exact KP.no a4.out
   have e7:=hid (b8 rfl);clear b8;go_wp2_with fail
   refine(us8 n w _ D _ _ _ _ m 5 hm (by omega) e5.out (HW.out.trans (a4.out.mono HW.out.size))).mono ?_
   rintro e e0⟨bb,rfl,b9,c1⟩;have b4:=hid (a4.out.trans (c1.mono a4.out.size));have d2:=hid (d1.out.trans (c1.mono d1.out.size));have g0:e0.cell? ⟨a1,a2+a0*2,none⟩=some (.slice a6 a8 a7):=((HW.out.trans (b4.out.mono HW.out.size)).cell (p:=⟨a1,a2+a0*2,none⟩) a5).trans b6.out;have g1:e0.cell? ⟨a1,a2+a0*2+1,none⟩=some (.slice a9 b1 b0):=((HW.out.trans (b4.out.mono HW.out.size)).cell (p:=⟨a1,a2+a0*2+1,none⟩) a5).trans b7.out;clear c1;rcases bb with _|_
   ·clear b9
    go_wp2;go_ret
    exact KP.no b4.out
   have e8:=hid (b9 rfl);clear b9;have d4:Hid (∀j,j<a0+1→(d0 j).length≤2*(2+m*(26+46*5+1))+3):=fun j hj=>by
    rcases Nat.lt_or_ge j a0 with h|h
    ·exact d3.out j h
    ·obtain rfl:j=a0:=by omega
     first|rw[e9.out,d5.out]|rw[d5.out]
     have q1:=e7.out;have q2:=e8.out;exact ug2 (by omega)
   go_wp2;go_roundw
   case rel=>first|exact⟨a0+1,by omega,by go_num,d4,d2⟩|((repeat apply Exists.intro);exact⟨⟨a0+1,by omega,by go_num,d4,d2⟩,rfl⟩)
   case measure=>simp[intOf];omega
  obtain rfl:a0=k:=by omega
  go_wp2;go_ret
  exact KP.yes (uah f2 d3.out) a3.out
 ·have g5:8<k:=by omega
  go_enter Tryz.func22,Tryz.ntmps22
  go_wp2;go_ret
  exact KP.no b3.out
end Go.Proofs.YtellcholbkoakaaGreatDoor
