/-
 Which certificates are looked at (printed by kgen.py).
-/
import Derived.Test.YtellcholbkoakaaGreatDoorHKb
import Derived.Test.YtellcholbkoakaaGreatDoorHOpen
namespace Go.Proofs.YtellcholbkoakaaGreatDoor
open Go.Lib (hid)
open Go.RowKit AC
set_option linter.unusedVariables false
set_option linter.unusedSimpArgs false
theorem uvv(n:Nat)(w W:World)(D:Nat→Prop)(v:List Value)(t:List UInt8)(limit:Nat)(hl:limit≤13)(h:Rep w D (uy n) v [t])(hW:Below w.heap.size w W):Calls Tryz.prog 70 #[.agg v.toArray,.int .i64 limit] W (KS t limit W):=by
 have:=ukm n w W D v t limit hl h hW;rw[ubp]at this;exact this
theorem ukq(n:Nat)(w W:World)(D:Nat→Prop)(v:List Value)(t:List UInt8)(limit:Nat)(hl:limit≤13)(h:Rep w D (ua1 n) v [t])(hW:Below w.heap.size w W):Calls Tryz.prog 69 #[.agg v.toArray,.int .i64 limit] W (KS t limit W):=by
 have:=ufm n w W D v t limit hl h hW;rw[udg]at this;exact this
set_option maxHeartbeats 4000000 in
set_option maxRecDepth 100000 in
theorem ufo(n:Nat)(w W:World)(D:Nat→Prop)(v:List Value)(t:List UInt8)(h:Rep w D (uC n) v [t])(hW:Below w.heap.size w W) :
 Calls Tryz.prog 26 #[.agg v.toArray] W (KP (t.length≤3443) W):=by
 have HW:=hid hW;clear hW;have g5:=hid (Below.refl W.heap.size W);obtain⟨_,e6,o5,_,p1,_,rfl,rfl,f0,o6,_,p2,_,rfl,rfl,f1,rfl,rfl⟩:=h;injection e6 with e6 _;obtain⟨g1,a6,g2,rfl⟩:=ua f0.ty;obtain⟨g3,a7,g4,rfl⟩:=ua f1.ty;subst e6;have k5:=hid f0;clear f0;have k6:=hid f1;clear f1;show Calls Tryz.prog 26 #[.agg #[.slice g1 a6 g2,.slice g3 a7 g4]] W _
 go_enter Tryz.func26,Tryz.ntmps26
 go_upto_region 1 with(fail)
 obtain⟨C,hC⟩:∃C,C=W.alloc (.cells #[.slice g1 a6 g2,.slice g3 a7 g4] 80):=⟨_,rfl⟩;have h6:Below W.heap.size W C:=by rw[hC];exact(Below.refl _ _).alloc (Nat.le_refl _) _
 have c1:=hid (g5.out.trans (h6.mono g5.out.size));have d6:Hid (Bk C W.heap.size 80 #[.slice g1 a6 g2,.slice g3 a7 g4]):=by rw[hC];exact Bk.new _ _ _
 obtain⟨m4,_,_⟩:=d6.out.facts;rw[←hC];clear hC h6;rcases Nat.lt_or_ge 4 a6 with o1|j2
 ·go_wp2
  go_ret
  exact KP.no c1.out
 have j2:a6≤4:=j2;rcases Nat.lt_or_ge 4 a7 with o2|j3
 ·go_wp2
  go_ret
  exact KP.no c1.out
 have j3:a7≤4:=j3;obtain⟨m0,f7,l8,n9,l6,h7,j0⟩:=k5.out.unlist;subst l8;unfold maxLen at l6;have k1:=hid h7;have l1:=hid j0;clear h7 j0;go_wp2;go_loopw [18] (fun iv wr=>∃(i:Nat),i≤a6∧iv = .int .i64 i∧Hid (∀j,j<i→(f7 j).length≤623)∧Hid (Below C.heap.size C wr)) (fun iv _=>a6-(intOf iv).toNat)
 case atStart=>exact⟨0,by omega,rfl,(fun j hj=>absurd hj (by omega)),Below.refl _ _⟩
 obtain⟨a0,n7,rfl,h0,d4⟩:=hrel;obtain⟨b9,e9⟩:∃w:World,w=wr:=⟨_,rfl⟩;subst e9;have d9:=d4.out;have a8:=hid (c1.out.trans (d9.mono c1.out.size));have b8:=hid (d6.out.below d9 d6.out.lt);obtain⟨m5,_,_⟩:=b8.out.facts;clear d9;by_cases c6:a0<a6
 ·obtain⟨a2,a3,d7,_,b3,c4⟩:=k1.out (by omega)
  subst d7;have e4:=l1.out a0 c6;obtain⟨p9,b4⟩:∃u,m0 a0=u:=⟨_,rfl⟩;rw[b4]at e4;have c8:Shape.sz (uO n)=3:=ub2;obtain⟨p3,e2⟩:∃t,f7 a0=t:=⟨_,rfl⟩;rw[e2]at e4;have h4:=hid e2;clear e2;obtain⟨_,e7,o7,_,p4,_,rfl,rfl,f2,o8,_,p5,_,rfl,rfl,f3,rfl,rfl⟩:=e4;injection e7 with e7 _;obtain⟨c0,rfl⟩:=ug f2.ty;obtain⟨a9,b0,b2,b1,rfl⟩:=ubz f3.ty;subst e7;have k7:=hid f2;clear f2;have k8:=hid f3;clear f3;have l4:=hid b4;have g7:Hid (w.cell? ⟨a2,a3+a0*3,none⟩=some (.int .i64 c0)):=by
   have h9:=c4 a0 c6 0 (.int .i64 c0) (by rw[b4];rfl)
   rw[c8]at h9;show w.cell? ⟨a2,a3+a0*3,none⟩=some (.int .i64 c0)
   simpa using h9
  have m8:b9.cell? ⟨a2,a3+a0*3,none⟩=some (.int .i64 c0):=((HW.out.trans (a8.out.mono HW.out.size)).cell (p:=⟨a2,a3+a0*3,none⟩) b3).trans g7.out;have g8:Hid (w.cell? ⟨a2,a3+a0*3+1,none⟩=some (.int .i64 a9)):=by
   have h9:=c4 a0 c6 1 (.int .i64 a9) (by rw[b4];rfl)
   rw[c8]at h9;show w.cell? ⟨a2,a3+a0*3+1,none⟩=some (.int .i64 a9)
   exact h9
  have m9:b9.cell? ⟨a2,a3+a0*3+1,none⟩=some (.int .i64 a9):=((HW.out.trans (a8.out.mono HW.out.size)).cell (p:=⟨a2,a3+a0*3+1,none⟩) b3).trans g8.out;have g9:Hid (w.cell? ⟨a2,a3+a0*3+2,none⟩=some (.slice b0 b2 b1)):=by
   have h9:=c4 a0 c6 2 (.slice b0 b2 b1) (by rw[b4];rfl)
   rw[c8]at h9;show w.cell? ⟨a2,a3+a0*3+2,none⟩=some (.slice b0 b2 b1)
   exact h9
  have n0:b9.cell? ⟨a2,a3+a0*3+2,none⟩=some (.slice b0 b2 b1):=((HW.out.trans (a8.out.mono HW.out.size)).cell (p:=⟨a2,a3+a0*3+2,none⟩) b3).trans g9.out;clear c4 b4 c8;go_wp2_with fail
  refine((show Calls _ _ #[.agg #[.int .i64 a9,.slice b0 b2 b1],_] _ _ from uvv n w _ D [.int .i64 a9,.slice b0 b2 b1] _ 13 (by omega) k8.out (HW.out.trans (a8.out.mono HW.out.size)))).mono ?_
  rintro e f9⟨f6,rfl,m2,m3,d8,c3⟩;have c2:=hid (a8.out.trans (c3.mono a8.out.size));have g6:=hid (d4.out.trans (c3.mono d4.out.size));have j6:=hid (b8.out.below c3 b8.out.lt);obtain⟨m6,_,_⟩:=j6.out.facts;have n1:f9.cell? ⟨a2,a3+a0*3,none⟩=some (.int .i64 c0):=((HW.out.trans (c2.out.mono HW.out.size)).cell (p:=⟨a2,a3+a0*3,none⟩) b3).trans g7.out;have n2:f9.cell? ⟨a2,a3+a0*3+1,none⟩=some (.int .i64 a9):=((HW.out.trans (c2.out.mono HW.out.size)).cell (p:=⟨a2,a3+a0*3+1,none⟩) b3).trans g8.out;have n3:f9.cell? ⟨a2,a3+a0*3+2,none⟩=some (.slice b0 b2 b1):=((HW.out.trans (c2.out.mono HW.out.size)).cell (p:=⟨a2,a3+a0*3+2,none⟩) b3).trans g9.out;clear c3;rcases Nat.lt_or_ge 12 f6 with o3|j4
  ·clear d8
   go_wp2;go_ret
   exact KP.no c2.out
  have j4:f6≤12:=j4;have l3:=hid (Nat.le_trans (d8 (by omega)) (show 50*f6≤600 by omega))
  clear d8;have h2:Hid (∀j,j<a0+1→(f7 j).length≤623):=fun j hj=>by
   rcases Nat.lt_or_ge j a0 with h|h
   ·exact h0.out j h
   ·obtain rfl:j=a0:=by omega
    first|rw[l4.out,h4.out]|rw[h4.out]
    have q0:=k7.out.int_len;have q1:=l3.out;exact ug2 (by omega)
  go_wp2;go_roundw
  case rel=>first|exact⟨a0+1,by omega,by go_num,h2,g6⟩|((repeat apply Exists.intro);exact⟨⟨a0+1,by omega,by go_num,h2,g6⟩,rfl⟩)
  case measure=>simp[intOf];omega
 obtain rfl:a0=a6:=by omega
 have k3:=hid h0.out;obtain⟨m1,f8,l9,o0,l7,h8,j1⟩:=k6.out.unlist;subst l9;unfold maxLen at l7;have k2:=hid h8;have l2:=hid j1;clear h8 j1;go_wp2;go_loopw [33] (fun iv wr=>∃(i:Nat),i≤a7∧iv = .int .i64 i∧Hid (∀j,j<i→(f8 j).length≤234)∧Hid (Below b9.heap.size b9 wr)) (fun iv _=>a7-(intOf iv).toNat)
 case atStart=>exact⟨0,by omega,rfl,(fun j hj=>absurd hj (by omega)),Below.refl _ _⟩
 obtain⟨a1,n8,rfl,h1,d5⟩:=hrel;obtain⟨g0,e9⟩:∃w:World,w=wr:=⟨_,rfl⟩;subst e9;have e0:=d5.out;have b7:=hid (a8.out.trans (e0.mono a8.out.size));have j7:=hid (b8.out.below e0 b8.out.lt);obtain⟨m7,_,_⟩:=j7.out.facts;clear e0;by_cases c7:a1<a7
 ·obtain⟨a4,a5,d7,_,e1,c5⟩:=k2.out (by omega)
  subst d7;have e5:=l2.out a1 c7;obtain⟨q3,b5⟩:∃u,m1 a1=u:=⟨_,rfl⟩;rw[b5]at e5;have c9:Shape.sz ua5=3:=udz;obtain⟨p6,e3⟩:∃t,f8 a1=t:=⟨_,rfl⟩;rw[e3]at e5;have h5:=hid e3;clear e3;obtain⟨_,e8,o9,_,p7,_,rfl,rfl,f4,p0,_,p8,_,rfl,rfl,f5,rfl,rfl⟩:=e5;injection e8 with e8 _;obtain⟨d0,d1,b6,d2,rfl⟩:=ua2 f4.ty;obtain⟨d3,rfl⟩:=ug f5.ty;subst e8;have k9:=hid f4;clear f4;have l0:=hid f5;clear f5;have l5:=hid b5;have j8:Hid (w.cell? ⟨a4,a5+a1*3,none⟩=some (.int .i64 d0)):=by
   have h9:=c5 a1 c7 0 (.int .i64 d0) (by rw[b5];rfl)
   rw[c9]at h9;show w.cell? ⟨a4,a5+a1*3,none⟩=some (.int .i64 d0)
   simpa using h9
  have n4:g0.cell? ⟨a4,a5+a1*3,none⟩=some (.int .i64 d0):=((HW.out.trans (b7.out.mono HW.out.size)).cell (p:=⟨a4,a5+a1*3,none⟩) e1).trans j8.out;have j9:Hid (w.cell? ⟨a4,a5+a1*3+1,none⟩=some (.slice d1 b6 d2)):=by
   have h9:=c5 a1 c7 1 (.slice d1 b6 d2) (by rw[b5];rfl)
   rw[c9]at h9;show w.cell? ⟨a4,a5+a1*3+1,none⟩=some (.slice d1 b6 d2)
   exact h9
  have n5:g0.cell? ⟨a4,a5+a1*3+1,none⟩=some (.slice d1 b6 d2):=((HW.out.trans (b7.out.mono HW.out.size)).cell (p:=⟨a4,a5+a1*3+1,none⟩) e1).trans j9.out;have k0:Hid (w.cell? ⟨a4,a5+a1*3+2,none⟩=some (.int .i64 d3)):=by
   have h9:=c5 a1 c7 2 (.int .i64 d3) (by rw[b5];rfl)
   rw[c9]at h9;show w.cell? ⟨a4,a5+a1*3+2,none⟩=some (.int .i64 d3)
   exact h9
  have n6:g0.cell? ⟨a4,a5+a1*3+2,none⟩=some (.int .i64 d3):=((HW.out.trans (b7.out.mono HW.out.size)).cell (p:=⟨a4,a5+a1*3+2,none⟩) e1).trans k0.out;clear c5 b5 c9;rcases Nat.lt_or_ge 4 b6 with o4|j5
  ·go_wp2
   go_ret
   exact KP.no b7.out
  have j5:b6≤4:=j5;have h3:Hid (∀j,j<a1+1→(f8 j).length≤234):=fun j hj=>by
   rcases Nat.lt_or_ge j a1 with h|h
   ·exact h1.out j h
   ·obtain rfl:j=a1:=by omega
    first|rw[l5.out,h5.out]|rw[h5.out]
    have q0:=l0.out.int_len;have q1:=umh k9.out (n:=4) (fun z A k c e=>by injection e with _ e;injection e with e _;injection e with _ e _;omega)
    exact ug2 (by omega)
  go_wp2;go_roundw
  case rel=>first|exact⟨a1+1,by omega,by go_num,h3,d5⟩|((repeat apply Exists.intro);exact⟨⟨a1+1,by omega,by go_num,h3,d5⟩,rfl⟩)
  case measure=>simp[intOf];omega
 obtain rfl:a1=a7:=by omega
 have k4:=hid h1.out;go_wp2;go_ret
 exact KP.yes (by
  have q1:=uah (show a0≤4 by omega) k3.out
  have q2:=uah (show a1≤4 by omega) k4.out
  exact ug2 (by omega)) b7.out
set_option maxHeartbeats 4000000 in
set_option maxRecDepth 100000 in
theorem us7(n:Nat)(w W:World)(D:Nat→Prop)(v:List Value)(t:List UInt8)(h:Rep w D (uaw n) v [t])(hW:Below w.heap.size w W) :
 Calls Tryz.prog 23 #[.agg v.toArray,.int .i64 10] W (KP (t.length≤14040) W):=by
 have HW:=hid hW;clear hW;have j0:=hid (Below.refl W.heap.size W);obtain⟨_,g0,t3,_,t8,_,rfl,rfl,g2,t4,_,t9,_,rfl,rfl,g3,t5,_,v0,_,rfl,rfl,g4,rfl,rfl⟩:=h;injection g0 with g0 _;obtain⟨h3,a6,h4,rfl⟩:=ua g2.ty;obtain⟨h5,a7,h6,rfl⟩:=ua g3.ty;obtain⟨h7,a8,h8,rfl⟩:=ua g4.ty;subst g0;have n4:=hid g2;clear g2;have n5:=hid g3;clear g3;have n6:=hid g4;clear g4;show Calls Tryz.prog 23 #[.agg #[.slice h3 a6 h4,.slice h5 a7 h6,.slice h7 a8 h8],.int .i64 10] W _
 go_enter Tryz.func23,Tryz.ntmps23
 go_upto_region 1 with(fail)
 obtain⟨C,hC⟩:∃C,C=W.alloc (.cells #[.slice h3 a6 h4,.slice h5 a7 h6,.slice h7 a8 h8] 30):=⟨_,rfl⟩;have k5:Below W.heap.size W C:=by rw[hC];exact(Below.refl _ _).alloc (Nat.le_refl _) _
 have b9:=hid (j0.out.trans (k5.mono j0.out.size));have e8:Hid (Bk C W.heap.size 30 #[.slice h3 a6 h4,.slice h5 a7 h6,.slice h7 a8 h8]):=by rw[hC];exact Bk.new _ _ _
 obtain⟨q5,_,_⟩:=e8.out.facts;rw[←hC];clear hC k5;rcases Nat.lt_or_ge 10 a6 with s6|l8
 ·go_wp2
  go_ret
  exact KP.no b9.out
 have l8:a6≤10:=l8;rcases Nat.lt_or_ge 10 a7 with s7|l9
 ·go_wp2
  go_ret
  exact KP.no b9.out
 have l9:a7≤10:=l9;rcases Nat.lt_or_ge 10 a8 with s8|m0
 ·go_wp2
  go_ret
  exact KP.no b9.out
 have m0:a8≤10:=m0;obtain⟨p6,g8,p3,s3,p0,k8,l3⟩:=n4.out.unlist;subst p3;unfold maxLen at p0;have m8:=hid k8;have o1:=hid l3;clear k8 l3;go_wp2;go_loopw [30] (fun iv wr=>∃(i:Nat),i≤a6∧iv = .int .i64 i∧Hid (∀j,j<i→(g8 j).length≤266)∧Hid (Below C.heap.size C wr)) (fun iv _=>a6-(intOf iv).toNat)
 case atStart=>exact⟨0,by omega,rfl,(fun j hj=>absurd hj (by omega)),Below.refl _ _⟩
 obtain⟨a3,s0,rfl,j6,e5⟩:=hrel;obtain⟨h1,c7⟩:∃w:World,w=wr:=⟨_,rfl⟩;subst c7;have f3:=e5.out;have d0:=hid (b9.out.trans (f3.mono b9.out.size));have e9:=hid (e8.out.below f3 e8.out.lt);obtain⟨q6,_,_⟩:=e9.out.facts;clear f3;by_cases l1:a3<a6
 ·obtain⟨d2,d7,c1,_,o8,k6⟩:=m8.out (by omega)
  subst c1;have c4:=o1.out a3 l1;obtain⟨v6,d5⟩:∃u,p6 a3=u:=⟨_,rfl⟩;rw[d5]at c4;have l6:Shape.sz (.list .int)=1:=rfl;obtain⟨v1,f6⟩:∃t,g8 a3=t:=⟨_,rfl⟩;rw[f6]at c4;have k2:=hid f6;clear f6;obtain⟨e1,b7,e2,rfl⟩:=ua c4.ty;have n7:=hid c4;clear c4;have o5:=hid d5;have m6:Hid (w.cell? ⟨d2,d7+a3,none⟩=some (.slice e1 b7 e2)):=by
   have h9:=k6 a3 l1 0 (.slice e1 b7 e2) (by rw[d5];rfl)
   rw[l6]at h9;show w.cell? ⟨d2,d7+a3,none⟩=some (.slice e1 b7 e2)
   simpa using h9
  have r0:h1.cell? ⟨d2,d7+a3,none⟩=some (.slice e1 b7 e2):=((HW.out.trans (d0.out.mono HW.out.size)).cell (p:=⟨d2,d7+a3,none⟩) o8).trans m6.out;clear k6 d5 l6;rcases Nat.lt_or_ge 12 b7 with s9|m1
  ·go_wp2
   go_ret
   exact KP.no d0.out
  have m1:b7≤12:=m1;have j9:Hid (∀j,j<a3+1→(g8 j).length≤266):=fun j hj=>by
   rcases Nat.lt_or_ge j a3 with h|h
   ·exact j6.out j h
   ·obtain rfl:j=a3:=by omega
    first|rw[o5.out,k2.out]|rw[k2.out]
    have q:=n7.out.list_len (n:=12) (by assumption) (M:=21) fun v t h=>h.int_len
    omega
  go_wp2;go_roundw
  case rel=>first|exact⟨a3+1,by omega,by go_num,j9,e5⟩|((repeat apply Exists.intro);exact⟨⟨a3+1,by omega,by go_num,j9,e5⟩,rfl⟩)
  case measure=>simp[intOf];omega
 obtain rfl:a3=a6:=by omega
 have n1:=hid j6.out;obtain⟨p7,g9,p4,s4,p1,k9,l4⟩:=n5.out.unlist;subst p4;unfold maxLen at p1;have m9:=hid k9;have o2:=hid l4;clear k9 l4;go_wp2;go_loopw [44] (fun iv wr=>∃(i:Nat),i≤a7∧iv = .int .i64 i∧Hid (∀j,j<i→(g9 j).length≤266)∧Hid (Below h1.heap.size h1 wr)) (fun iv _=>a7-(intOf iv).toNat)
 case atStart=>exact⟨0,by omega,rfl,(fun j hj=>absurd hj (by omega)),Below.refl _ _⟩
 obtain⟨a4,s1,rfl,j7,e6⟩:=hrel;obtain⟨h2,c7⟩:∃w:World,w=wr:=⟨_,rfl⟩;subst c7;have f4:=e6.out;have d1:=hid (d0.out.trans (f4.mono d0.out.size));have f0:=hid (e9.out.below f4 e9.out.lt);obtain⟨q7,_,_⟩:=f0.out.facts;clear f4;by_cases l2:a4<a7
 ·obtain⟨d3,d8,c1,_,o9,k7⟩:=m9.out (by omega)
  subst c1;have c5:=o2.out a4 l2;obtain⟨v7,d6⟩:∃u,p7 a4=u:=⟨_,rfl⟩;rw[d6]at c5;have l7:Shape.sz (.list .int)=1:=rfl;obtain⟨v2,f7⟩:∃t,g9 a4=t:=⟨_,rfl⟩;rw[f7]at c5;have k3:=hid f7;clear f7;obtain⟨e3,b8,e4,rfl⟩:=ua c5.ty;have n8:=hid c5;clear c5;have o6:=hid d6;have m7:Hid (w.cell? ⟨d3,d8+a4,none⟩=some (.slice e3 b8 e4)):=by
   have h9:=k7 a4 l2 0 (.slice e3 b8 e4) (by rw[d6];rfl)
   rw[l7]at h9;show w.cell? ⟨d3,d8+a4,none⟩=some (.slice e3 b8 e4)
   simpa using h9
  have r1:h2.cell? ⟨d3,d8+a4,none⟩=some (.slice e3 b8 e4):=((HW.out.trans (d1.out.mono HW.out.size)).cell (p:=⟨d3,d8+a4,none⟩) o9).trans m7.out;clear k7 d6 l7;rcases Nat.lt_or_ge 12 b8 with t0|m2
  ·go_wp2
   go_ret
   exact KP.no d1.out
  have m2:b8≤12:=m2;have k0:Hid (∀j,j<a4+1→(g9 j).length≤266):=fun j hj=>by
   rcases Nat.lt_or_ge j a4 with h|h
   ·exact j7.out j h
   ·obtain rfl:j=a4:=by omega
    first|rw[o6.out,k3.out]|rw[k3.out]
    have q:=n8.out.list_len (n:=12) (by assumption) (M:=21) fun v t h=>h.int_len
    omega
  go_wp2;go_roundw
  case rel=>first|exact⟨a4+1,by omega,by go_num,k0,e6⟩|((repeat apply Exists.intro);exact⟨⟨a4+1,by omega,by go_num,k0,e6⟩,rfl⟩)
  case measure=>simp[intOf];omega
 obtain rfl:a4=a7:=by omega
 have n2:=hid j7.out;obtain⟨p8,h0,p5,s5,p2,l0,l5⟩:=n6.out.unlist;subst p5;unfold maxLen at p2;have n0:=hid l0;have o3:=hid l5;clear l0 l5;go_wp2;go_loopw [58] (fun iv wr=>∃(i:Nat),i≤a8∧iv = .int .i64 i∧Hid (∀j,j<i→(h0 j).length≤868)∧Hid (Below h2.heap.size h2 wr)) (fun iv _=>a8-(intOf iv).toNat)
 case atStart=>exact⟨0,by omega,rfl,(fun j hj=>absurd hj (by omega)),Below.refl _ _⟩
 obtain⟨a0,s2,rfl,j8,e7⟩:=hrel;obtain⟨e0,c7⟩:∃w:World,w=wr:=⟨_,rfl⟩;subst c7;have f5:=e7.out;have a5:=hid (d1.out.trans (f5.mono d1.out.size));have f1:=hid (f0.out.below f5 f0.out.lt);obtain⟨q8,_,_⟩:=f1.out.facts;clear f5;by_cases c3:a0<a8
 ·obtain⟨a1,a2,c1,_,a9,c2⟩:=n0.out (by omega)
  subst c1;have f9:=o3.out a0 c3;obtain⟨v8,b0⟩:∃u,p8 a0=u:=⟨_,rfl⟩;rw[b0]at f9;have c6:Shape.sz (uae n)=4:=ucr;obtain⟨v3,f8⟩:∃t,h0 a0=t:=⟨_,rfl⟩;rw[f8]at f9;have k4:=hid f8;clear f8;obtain⟨_,g1,t6,_,v4,_,rfl,rfl,g5,t7,_,v5,_,rfl,rfl,g6,rfl,rfl⟩:=f9;injection g1 with g1 _;obtain⟨b1,b2,b3,b5,b4,rfl⟩:=uek g5.ty;obtain⟨c8,b6,c9,rfl⟩:=ua g6.ty;subst g1;have n9:=hid g5;clear g5;have o0:=hid g6;clear g6;have o7:=hid b0;have j2:Hid (w.cell? ⟨a1,a2+a0*4,none⟩=some (.int .i64 b1)):=by
   have h9:=c2 a0 c3 0 (.int .i64 b1) (by rw[b0];rfl)
   rw[c6]at h9;show w.cell? ⟨a1,a2+a0*4,none⟩=some (.int .i64 b1)
   simpa using h9
  have r2:e0.cell? ⟨a1,a2+a0*4,none⟩=some (.int .i64 b1):=((HW.out.trans (a5.out.mono HW.out.size)).cell (p:=⟨a1,a2+a0*4,none⟩) a9).trans j2.out;have j3:Hid (w.cell? ⟨a1,a2+a0*4+1,none⟩=some (.int .i64 b2)):=by
   have h9:=c2 a0 c3 1 (.int .i64 b2) (by rw[b0];rfl)
   rw[c6]at h9;show w.cell? ⟨a1,a2+a0*4+1,none⟩=some (.int .i64 b2)
   exact h9
  have r3:e0.cell? ⟨a1,a2+a0*4+1,none⟩=some (.int .i64 b2):=((HW.out.trans (a5.out.mono HW.out.size)).cell (p:=⟨a1,a2+a0*4+1,none⟩) a9).trans j3.out;have j4:Hid (w.cell? ⟨a1,a2+a0*4+2,none⟩=some (.slice b3 b5 b4)):=by
   have h9:=c2 a0 c3 2 (.slice b3 b5 b4) (by rw[b0];rfl)
   rw[c6]at h9;show w.cell? ⟨a1,a2+a0*4+2,none⟩=some (.slice b3 b5 b4)
   exact h9
  have r4:e0.cell? ⟨a1,a2+a0*4+2,none⟩=some (.slice b3 b5 b4):=((HW.out.trans (a5.out.mono HW.out.size)).cell (p:=⟨a1,a2+a0*4+2,none⟩) a9).trans j4.out;have j5:Hid (w.cell? ⟨a1,a2+a0*4+3,none⟩=some (.slice c8 b6 c9)):=by
   have h9:=c2 a0 c3 3 (.slice c8 b6 c9) (by rw[b0];rfl)
   rw[c6]at h9;show w.cell? ⟨a1,a2+a0*4+3,none⟩=some (.slice c8 b6 c9)
   exact h9
  have r5:e0.cell? ⟨a1,a2+a0*4+3,none⟩=some (.slice c8 b6 c9):=((HW.out.trans (a5.out.mono HW.out.size)).cell (p:=⟨a1,a2+a0*4+3,none⟩) a9).trans j5.out;clear c2 b0 c6;rcases Nat.lt_or_ge 12 b6 with t1|m3
  ·go_wp2
   go_ret
   exact KP.no a5.out
  have m3:b6≤12:=m3;go_wp2_with fail
  refine((show Calls _ _ #[.agg #[.int .i64 b1,.int .i64 b2,.slice b3 b5 b4],_] _ _ from ukq n w _ D [.int .i64 b1,.int .i64 b2,.slice b3 b5 b4] _ 13 (by omega) n9.out (HW.out.trans (a5.out.mono HW.out.size)))).mono ?_
  rintro e d9⟨g7,rfl,p9,q4,f2,d4⟩;have c0:=hid (a5.out.trans (d4.mono a5.out.size));have j1:=hid (e7.out.trans (d4.mono e7.out.size));have m5:=hid (f1.out.below d4 f1.out.lt);obtain⟨q9,_,_⟩:=m5.out.facts;have r6:d9.cell? ⟨a1,a2+a0*4,none⟩=some (.int .i64 b1):=((HW.out.trans (c0.out.mono HW.out.size)).cell (p:=⟨a1,a2+a0*4,none⟩) a9).trans j2.out;have r7:d9.cell? ⟨a1,a2+a0*4+1,none⟩=some (.int .i64 b2):=((HW.out.trans (c0.out.mono HW.out.size)).cell (p:=⟨a1,a2+a0*4+1,none⟩) a9).trans j3.out;have r8:d9.cell? ⟨a1,a2+a0*4+2,none⟩=some (.slice b3 b5 b4):=((HW.out.trans (c0.out.mono HW.out.size)).cell (p:=⟨a1,a2+a0*4+2,none⟩) a9).trans j4.out;have r9:d9.cell? ⟨a1,a2+a0*4+3,none⟩=some (.slice c8 b6 c9):=((HW.out.trans (c0.out.mono HW.out.size)).cell (p:=⟨a1,a2+a0*4+3,none⟩) a9).trans j5.out;clear d4;rcases Nat.lt_or_ge 12 g7 with t2|m4
  ·clear f2
   go_wp2;go_ret
   exact KP.no c0.out
  have m4:g7≤12:=m4;have o4:=hid (Nat.le_trans (f2 (by omega)) (show 50*g7≤600 by omega))
  clear f2;have k1:Hid (∀j,j<a0+1→(h0 j).length≤868):=fun j hj=>by
   rcases Nat.lt_or_ge j a0 with h|h
   ·exact j8.out j h
   ·obtain rfl:j=a0:=by omega
    first|rw[o7.out,k4.out]|rw[k4.out]
    have q0:=o0.out.list_len (n:=12) (by assumption) (M:=21) fun v t h=>h.int_len
    have q1:=o4.out;exact ug2 (by omega)
  go_wp2;go_roundw
  case rel=>first|exact⟨a0+1,by omega,by go_num,k1,j1⟩|((repeat apply Exists.intro);exact⟨⟨a0+1,by omega,by go_num,k1,j1⟩,rfl⟩)
  case measure=>simp[intOf];omega
 obtain rfl:a0=a8:=by omega
 have n3:=hid j8.out;go_wp2;go_ret
 exact KP.yes (by
  have q1:=uah (show a3≤10 by omega) n1.out
  have q2:=uah (show a4≤10 by omega) n2.out
  have q3:=uah (show a0≤10 by omega) n3.out
  exact uol (by omega)) a5.out
end Go.Proofs.YtellcholbkoakaaGreatDoor
