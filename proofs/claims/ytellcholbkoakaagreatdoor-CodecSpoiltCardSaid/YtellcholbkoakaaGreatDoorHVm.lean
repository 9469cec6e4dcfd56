/-
 The reference's reader: Parse (printed by vgen.py).
-/
import Derived.Test.YtellcholbkoakaaGreatDoorHVk
import Derived.Test.YtellcholbkoakaaGreatDoorHCAs
namespace Go.Proofs.YtellcholbkoakaaGreatDoor
open Go.Lib (hid)
open Go.RowKit AC
set_option linter.unusedVariables false
set_option linter.unusedSimpArgs false
theorem Vst.new(w:World)(s:ByteArray)(hs:s.size≤262144):Vst (w.alloc (.cells #[.string s,.int .i64 0,.bool false] 52)) w.heap.size s (some s.data.toList):=
 ⟨0,false,Bk.new w _ _,by omega,hs,rfl⟩
def CPN(N:Nat)(l:List UInt8)(w:World)(e:Ending)(w':World):Prop:=
 (262144<l.length∧e = .returned (.tuple #[.agg #[.bool false,.slice none 0 0,.slice none 0 0,.slice none 0 0,.slice none 0 0,.slice none 0 0,.slice none 0 0,.slice none 0 0,.slice none 0 0],.int .i64 9])∧Below w.heap.size w w') ∨
 (l.length≤262144∧rd (ubb N) 0 (some l)≠some []∧e = .returned (.tuple #[.agg #[.bool false,.slice none 0 0,.slice none 0 0,.slice none 0 0,.slice none 0 0,.slice none 0 0,.slice none 0 0,.slice none 0 0,.slice none 0 0],.int .i64 2])∧Below w.heap.size w w') ∨
 (l.length≤262144∧rd (ubb N) 0 (some l)=some []∧∃v,e = .returned (.tuple #[.agg v.toArray,.int .i64 0])∧Rep w' (w.heap.size ≤ ·) (ubb N) v [l]∧Below w.heap.size w w')
theorem CPN.out{l:List UInt8}{w w':World}{e:Ending}(h:CPN NN l w e w'):CPPost l w e w':=by
 have e:uf2.toArray = #[.bool false,.slice none 0 0,.slice none 0 0,.slice none 0 0,.slice none 0 0,.slice none 0 0,.slice none 0 0,.slice none 0 0,.slice none 0 0]:=rfl;unfold CPPost;rw[e];exact h
theorem CPN.cert{N:Nat}{w W w':World}{br b b0:Nat}{str:ByteArray}{v:List Value}(hs:str.size≤262144)(h:RP (Sb br b) (ubb N) br str (some str.data.toList) W v w')(a0:rd (ubb N) 0 (some str.data.toList)=some [])(hW:Below w.heap.size w W)(a2:w.heap.size≤br)(hb:w.heap.size≤b)(a1:w.heap.size≤b0)(a3:b0<W.heap.size)(l:List Value) :
 CPN N str.data.toList w (.returned (.tuple #[.agg v.toArray,.int .i64 0])) (stores w' b0 0 l):=by
 obtain⟨h1,h2,h3,h4⟩:=h;obtain⟨t,ht,hr⟩:=h4 _ _ rfl a0;have f1:=ucn (S:=(· = b0)) rfl l 0 (Fr.refl (· = b0) w')
 refine .inr (.inr ⟨by simpa using hs,a0,v,rfl,?_,(hW.trans (h3.toBelow (n:=w.heap.size) (fun x hx=>?_) hW.size)).trans (f1.toBelow (n:=w.heap.size) (fun x hx=>by rw[show x=b0 from hx];exact a1) (Nat.le_trans hW.size h3.size))⟩)
 ·rw[show str.data.toList=t from by rw[ht];simp]
  refine(hr.fr f1 fun x hx e=>?_).sub fun x hx _=>Nat.le_trans hW.size hx
  have a4:W.heap.size≤x:=hx;have e':x=b0:=e;omega
 ·rcases hx with rfl|rfl
  ·exact a2
  ·exact hb
theorem CPN.syn{N:Nat}{w W w':World}{br b b0:Nat}{str:ByteArray}{v:List Value}(hs:str.size≤262144)(h:RP (Sb br b) (ubb N) br str (some str.data.toList) W v w')(a2:rd (ubb N) 0 (some str.data.toList)≠some [])(hW:Below w.heap.size w W)(a1:w.heap.size≤br)(hb:w.heap.size≤b)(a0:w.heap.size≤b0)(l:List Value) :
 CPN N str.data.toList w (.returned (.tuple #[.agg #[.bool false,.slice none 0 0,.slice none 0 0,.slice none 0 0,.slice none 0 0,.slice none 0 0,.slice none 0 0,.slice none 0 0,.slice none 0 0],.int .i64 2])) (stores w' b0 0 l):=by
 obtain⟨h1,h2,h3,h4⟩:=h;have f1:=ucn (S:=(· = b0)) rfl l 0 (Fr.refl (· = b0) w')
 refine .inr (.inl ⟨by simpa using hs,a2,rfl,(hW.trans (h3.toBelow (n:=w.heap.size) (fun x hx=>?_) hW.size)).trans (f1.toBelow (n:=w.heap.size) (fun x hx=>by rw[show x=b0 from hx];exact a0) (Nat.le_trans hW.size h3.size))⟩)
 rcases hx with rfl|rfl
 ·exact a1
 ·exact hb
theorem CPN.lim{N:Nat}{w w':World}{str:ByteArray}(hs:262144<str.size)(hW:Below w.heap.size w w'):CPN N str.data.toList w (.returned (.tuple #[.agg #[.bool false,.slice none 0 0,.slice none 0 0,.slice none 0 0,.slice none 0 0,.slice none 0 0,.slice none 0 0,.slice none 0 0,.slice none 0 0],.int .i64 9])) w':=
 .inl ⟨by simpa using hs,rfl,hW⟩
set_option maxHeartbeats 16000000 in
set_option maxRecDepth 100000 in
theorem uuh(N:Nat)(hN:262144≤N)(w:World)(str:ByteArray):Calls Tryz.prog 7 #[.string str] w (CPN N str.data.toList w):=by
 by_cases O7:262144<str.size
 ·have d1:decide ((262144:Int)<(str.size:Int))=true:=decide_eq_true (by omega)
  go_enter Tryz.func7,Tryz.ntmps7
  have a3:=Bk.new w 34 #[.bool false,.slice none 0 0,.slice none 0 0,.slice none 0 0,.slice none 0 0,.slice none 0 0,.slice none 0 0,.slice none 0 0,.slice none 0 0];have c0:=a3.cell 0;have c1:=a3.cell 1;have c2:=a3.cell 2;have c3:=a3.cell 3;have c4:=a3.cell 4;have c5:=a3.cell 5;have c6:=a3.cell 6;have c7:=a3.cell 7;have c8:=a3.cell 8;have f0:=a3.frozen 0;have f1:=a3.frozen 1;have f2:=a3.frozen 2;have f3:=a3.frozen 3;have f4:=a3.frozen 4;have f5:=a3.frozen 5;have f6:=a3.frozen 6;have f7:=a3.frozen 7;have f8:=a3.frozen 8;simp only[gq]at c0 c1 c2 c3 c4 c5 c6 c7 c8;go_wp2;refine bodyPost_ret (v:= .tuple #[.agg #[.bool false,.slice none 0 0,.slice none 0 0,.slice none 0 0,.slice none 0 0,.slice none 0 0,.slice none 0 0,.slice none 0 0,.slice none 0 0],.int .i64 9]) (by simp[results,Tryz.results7,go_sem,c0,c1,c2,c3,c4,c5,c6,c7,c8]) rfl ?_
  exact CPN.lim O7 ((Below.refl w.heap.size w).alloc (Nat.le_refl _) _)
 ·have d1:decide ((262144:Int)<(str.size:Int))=false:=decide_eq_false (by omega)
  have hs:str.size≤262144:=by omega
  go_enter Tryz.func7,Tryz.ntmps7
  have a2:w.heap.size≠(w.heap.size+1):=by omega
  have a1:(w.heap.size+1+1)≠(w.heap.size+1):=by omega
  have f9:w.heap.size≠(w.heap.size+1+1):=by omega
  obtain⟨W0,g3⟩:∃W,W=((w.alloc (.cells #[.bool false,.slice none 0 0,.slice none 0 0,.slice none 0 0,.slice none 0 0,.slice none 0 0,.slice none 0 0,.slice none 0 0,.slice none 0 0] 34)).alloc (.cells #[.string str,.int .i64 0,.bool false] 52)).alloc (.cells #[.bool false,.slice none 0 0,.slice none 0 0,.slice none 0 0,.slice none 0 0,.slice none 0 0,.slice none 0 0,.slice none 0 0,.slice none 0 0] 34):=⟨_,rfl⟩;have F8:Vst W0 (w.heap.size+1) str (some str.data.toList):=by rw[g3];have:=(Vst.new (w.alloc (.cells #[.bool false,.slice none 0 0,.slice none 0 0,.slice none 0 0,.slice none 0 0,.slice none 0 0,.slice none 0 0,.slice none 0 0,.slice none 0 0] 34)) str hs).alloc (.cells #[.bool false,.slice none 0 0,.slice none 0 0,.slice none 0 0,.slice none 0 0,.slice none 0 0,.slice none 0 0,.slice none 0 0,.slice none 0 0] 34);simpa using this
  have B9:=hid F8;have A9:Hid (Bk W0 w.heap.size 34 #[.bool false,.slice none 0 0,.slice none 0 0,.slice none 0 0,.slice none 0 0,.slice none 0 0,.slice none 0 0,.slice none 0 0,.slice none 0 0]):=by rw[g3];exact((Bk.new _ _ _).alloc _).alloc _
  have D3:Bk W0 (w.heap.size+1+1) 34 #[.bool false,.slice none 0 0,.slice none 0 0,.slice none 0 0,.slice none 0 0,.slice none 0 0,.slice none 0 0,.slice none 0 0,.slice none 0 0]:=by rw[g3];have:=Bk.new ((w.alloc (.cells #[.bool false,.slice none 0 0,.slice none 0 0,.slice none 0 0,.slice none 0 0,.slice none 0 0,.slice none 0 0,.slice none 0 0,.slice none 0 0] 34)).alloc (.cells #[.string str,.int .i64 0,.bool false] 52)) 34 #[.bool false,.slice none 0 0,.slice none 0 0,.slice none 0 0,.slice none 0 0,.slice none 0 0,.slice none 0 0,.slice none 0 0,.slice none 0 0];simpa using this
  have B0:=hid D3;clear F8 D3;have o8:Hid (Below w.heap.size w W0):=by rw[g3];exact(((Below.refl _ _).alloc (Nat.le_refl _) _).alloc (by simp) _).alloc (by simp;omega) _
  have e9:=Sb.lt (b:=(w.heap.size+1+1)) B9.out.lt B0.out.lt;have P3:=A9.out.lt;go_upto_region 5 with(fail)
  rw[←g3];clear g3;go_wp2_with fail
  refine(ui _ (w.heap.size+1) str _ 40 40 rfl B9.out).mono ?_;rintro e w1⟨rfl,E7,n2⟩;obtain⟨o4,q1⟩:=QM.start' (b:=(w.heap.size+1+1)) (ss:=[.bool,uM,(.list ut),(uaw N),(.list (uac N)),(.list uW)]) E7 n2;have z8:=hid (Bk.fr (A9.out) n2 a2);have A1:=hid (Bk.fr (B0.out) n2 a1);clear E7 n2;go_wp2_with fail
  refine(uxa.go _ (w.heap.size+1) str _ q1.out.st).mono ?_;rintro e w8⟨v,rfl,k4⟩;obtain⟨a5,rfl⟩:=ua8 k4.1;rw[ub9];have v4:=hid (Bk.fr (z8.out) k4.fr a2);have k7:=hid (Bk.fr (A1.out) k4.fr a1);clear z8 A1;have c13:=(k7.out).cell 0;have O1:=(k7.out).frozen 0;simp only[gq]at c13;obtain⟨W1,s8⟩:=QM.got' rfl q1.out k4 e9 a1 0 [.bool a5];simp only[stores,Nat.reduceAdd]at s8;have p2:=hid s8;have q9:=Bk.storesFar v4.out f9 0 [.bool a5];simp only[stores,Nat.reduceAdd]at q9;have w4:=hid q9;clear q9 v4;have r1:=Bk.stores (cs:=[.bool false,.slice none 0 0,.slice none 0 0,.slice none 0 0,.slice none 0 0,.slice none 0 0,.slice none 0 0,.slice none 0 0,.slice none 0 0]) 0 [.bool a5] k7.out;simp only[stores,spl,List.set_cons_zero,List.set_cons_succ,Nat.reduceAdd]at r1;have w7:=hid r1;clear r1 k7;clear k4 s8 q1;go_wp2_with fail
  refine(ur _ (w.heap.size+1) str _ p2.out.st).mono ?_;rintro e Y6⟨rfl,E9,n1⟩;obtain⟨W9,m1⟩:=QInv.space' p2.out E9 n1;have y4:=hid (Bk.fr (w4.out) n1 a2);have o6:=hid (Bk.fr (w7.out) n1 a1);clear c13 O1 w4 w7;clear E9 n1 p2;have m5:=Sb.lt (b:=(w.heap.size+1+1)) (m1.out.st).lt (o6.out).lt;go_wp2_with fail
  refine(ui _ (w.heap.size+1) str _ 40 40 rfl m1.out.st).mono ?_;rintro e Z2⟨rfl,F3,n4⟩;obtain⟨X4,p9⟩:=QM.start' (b:=(w.heap.size+1+1)) (ss:=[(.list .int),(.list .int)]) F3 n4;have z1:=hid (Bk.fr (y4.out) n4 a2);have z2:=hid (Bk.fr (o6.out) n4 a1);clear y4 o6;clear F3 n4;go_wp2_with fail
  refine(utm.go _ (w.heap.size+1) str _ p9.out.st).mono ?_;rintro e Z4⟨v,rfl,j9⟩;obtain⟨a6,a8,a7,rfl⟩:=ua j9.1;rw[ue];have z3:=hid (Bk.fr (z1.out) j9.fr a2);have l5:=hid (Bk.fr (z2.out) j9.fr a1);clear z1 z2;have C8:=(l5.out).cell 1;have O4:=(l5.out).frozen 1;simp only[gq]at C8;obtain⟨X5,t6⟩:=QM.got' rfl p9.out j9 m5 a1 1 [.slice a6 a8 a7];simp only[stores,Nat.reduceAdd]at t6;have q0:=hid t6;have r9:=Bk.storesFar z3.out f9 1 [.slice a6 a8 a7];simp only[stores,Nat.reduceAdd]at r9;have z4:=hid r9;clear r9 z3;have s0:=Bk.stores (cs:=[.bool a5,.slice none 0 0,.slice none 0 0,.slice none 0 0,.slice none 0 0,.slice none 0 0,.slice none 0 0,.slice none 0 0,.slice none 0 0]) 1 [.slice a6 a8 a7] l5.out;simp only[stores,spl,List.set_cons_zero,List.set_cons_succ,Nat.reduceAdd]at s0;have z5:=hid s0;clear s0 l5;clear j9 t6 p9;go_wp2_with fail
  refine(ur _ (w.heap.size+1) str _ q0.out.st).mono ?_;rintro e Z5⟨rfl,F5,n5⟩;obtain⟨X6,q2⟩:=QInv.space' q0.out F5 n5;have z6:=hid (Bk.fr (z4.out) n5 a2);have z7:=hid (Bk.fr (z5.out) n5 a1);clear C8 O4 z4 z5;clear F5 n5 q0;go_wp2_with fail
  refine(utm.go _ (w.heap.size+1) str _ q2.out.st).mono ?_;rintro e Z6⟨v,rfl,k0⟩;obtain⟨a9,b1,b0,rfl⟩:=ua k0.1;rw[ue];have z9:=hid (Bk.fr (z6.out) k0.fr a2);have l6:=hid (Bk.fr (z7.out) k0.fr a1);clear z6 z7;have C9:=(l6.out).cell 2;have O5:=(l6.out).frozen 2;simp only[gq]at C9;obtain⟨X7,t7⟩:=QM.got' rfl q2.out k0 m5 a1 2 [.slice a9 b1 b0];simp only[stores,Nat.reduceAdd]at t7;have q3:=hid t7;have s1:=Bk.storesFar z9.out f9 2 [.slice a9 b1 b0];simp only[stores,Nat.reduceAdd]at s1;have A0:=hid s1;clear s1 z9;have s2:=Bk.stores (cs:=[.bool a5,.slice a6 a8 a7,.slice none 0 0,.slice none 0 0,.slice none 0 0,.slice none 0 0,.slice none 0 0,.slice none 0 0,.slice none 0 0]) 2 [.slice a9 b1 b0] l6.out;simp only[stores,spl,List.set_cons_zero,List.set_cons_succ,Nat.reduceAdd]at s2;have A2:=hid s2;clear s2 l6;clear k0 t7 q2;go_wp2_with fail
  refine(ui _ (w.heap.size+1) str _ 41 41 rfl q3.out.st).mono ?_;rintro e Z7⟨rfl,F6,n6⟩;have B8:=QInv.last' (v:=[.slice a6 a8 a7,.slice a9 b1 b0]) rfl q3.out F6 n6 m5 rfl;have A3:=hid (Bk.fr (A0.out) n6 a2);have A4:=hid (Bk.fr (A2.out) n6 a1);clear C9 O5 A0 A2;clear F6 n6 q3;obtain⟨X8,q4⟩:=QM.next' rfl m1.out B8.out e9;clear m1 B8 m5;go_wp2_with fail
  refine(ur _ (w.heap.size+1) str _ q4.out.st).mono ?_;rintro e Z8⟨rfl,F7,n7⟩;obtain⟨X9,q5⟩:=QInv.space' q4.out F7 n7;have A5:=hid (Bk.fr (A3.out) n7 a2);have A6:=hid (Bk.fr (A4.out) n7 a1);clear A3 A4;clear F7 n7 q4;go_wp2_with fail
  refine(umw.go _ (w.heap.size+1) str _ q5.out.st).mono ?_;rintro e Z9⟨v,rfl,k3⟩;obtain⟨b6,b8,b7,rfl⟩:=ua k3.1;rw[ue];have A7:=hid (Bk.fr (A5.out) k3.fr a2);have l7:=hid (Bk.fr (A6.out) k3.fr a1);clear A5 A6;have D0:=(l7.out).cell 3;have O6:=(l7.out).frozen 3;simp only[gq]at D0;obtain⟨Y0,t8⟩:=QM.got' rfl q5.out k3 e9 a1 3 [.slice b6 b8 b7];simp only[stores,Nat.reduceAdd]at t8;have q6:=hid t8;have s3:=Bk.storesFar A7.out f9 3 [.slice b6 b8 b7];simp only[stores,Nat.reduceAdd]at s3;have A8:=hid s3;clear s3 A7;have s4:=Bk.stores (cs:=[.bool a5,.slice a6 a8 a7,.slice a9 b1 b0,.slice none 0 0,.slice none 0 0,.slice none 0 0,.slice none 0 0,.slice none 0 0,.slice none 0 0]) 3 [.slice b6 b8 b7] l7.out;simp only[stores,spl,List.set_cons_zero,List.set_cons_succ,Nat.reduceAdd]at s4;have v1:=hid s4;clear s4 l7;clear k3 t8 q5;go_wp2_with fail
  refine(ur _ (w.heap.size+1) str _ q6.out.st).mono ?_;rintro e Y1⟨rfl,E3,m6⟩;obtain⟨V6,p0⟩:=QInv.space' q6.out E3 m6;have v2:=hid (Bk.fr (A8.out) m6 a2);have v3:=hid (Bk.fr (v1.out) m6 a1);clear D0 O6 A8 v1;clear E3 m6 q6;go_wp2_with fail
  refine((uy8 N hN).go _ (w.heap.size+1) str _ p0.out.st).mono ?_;rintro e Y2⟨v,rfl,j8⟩;obtain⟨d3,d5,d4,d6,d8,d7,d9,e1,e0,rfl⟩:=udy j8.1;rw[ui1];have v5:=hid (Bk.fr (v2.out) j8.fr a2);have e2:=hid (Bk.fr (v3.out) j8.fr a1);clear v2 v3;have C0:=(e2.out).cell 4;have N8:=(e2.out).frozen 4;have C1:=(e2.out).cell 5;have N9:=(e2.out).frozen 5;have C2:=(e2.out).cell 6;have O0:=(e2.out).frozen 6;simp only[gq]at C0 C1 C2;obtain⟨V7,s7⟩:=QM.got' rfl p0.out j8 e9 a1 4 [.slice d3 d5 d4,.slice d6 d8 d7,.slice d9 e1 e0];simp only[stores,Nat.reduceAdd]at s7;have p1:=hid s7;have q7:=Bk.storesFar v5.out f9 4 [.slice d3 d5 d4,.slice d6 d8 d7,.slice d9 e1 e0];simp only[stores,Nat.reduceAdd]at q7;have v6:=hid q7;clear q7 v5;have q8:=Bk.stores (cs:=[.bool a5,.slice a6 a8 a7,.slice a9 b1 b0,.slice b6 b8 b7,.slice none 0 0,.slice none 0 0,.slice none 0 0,.slice none 0 0,.slice none 0 0]) 4 [.slice d3 d5 d4,.slice d6 d8 d7,.slice d9 e1 e0] e2.out;simp only[stores,spl,List.set_cons_zero,List.set_cons_succ,Nat.reduceAdd]at q8;have v7:=hid q8;clear q8 e2;clear j8 s7 p0;go_wp2_with fail
  refine(ur _ (w.heap.size+1) str _ p1.out.st).mono ?_;rintro e Q3⟨rfl,E4,m7⟩;obtain⟨Q1,h6⟩:=QInv.space' p1.out E4 m7;have o2:=hid (Bk.fr (v6.out) m7 a2);have k8:=hid (Bk.fr (v7.out) m7 a1);clear C0 N8 C1 N9 C2 O0 v6 v7;clear E4 m7 p1;have D4:=(h6.out.st).lt;have m3:=Sb.lt (b:=(w.heap.size+1+1)) D4 (k8.out).lt;have P4:=(o2.out).lt;have P5:=(k8.out).lt;go_wp2_with fail
  refine(ui _ (w.heap.size+1) str _ 40 40 rfl h6.out.st).mono ?_;rintro e Y3⟨rfl,E5,m8⟩;obtain⟨V8,B1⟩:=LI.start' (S:=(Sb (w.heap.size+1) (w.heap.size+1+1))) (s:=(uac N)) (e:=65) (h6.out.st) E5 (frb m8);have v8:=hid (Bk.fr (o2.out) m8 a2);have v9:=hid (Bk.fr (k8.out) m8 a1);clear o2 k8;clear E5 m8;go_wp2;go_loopw [6] (fun fv wr=>∃(nn:Nat) (oo:Option (List UInt8)) (lv:Value),fv = .bool (decide (nn=0))∧Hid (LI (Sb (w.heap.size+1) (w.heap.size+1+1)) (uac N) 65 (w.heap.size+1) str Q1 Q3 lv nn oo wr)∧Hid (Bk wr w.heap.size 34 #[.bool false,.slice none 0 0,.slice none 0 0,.slice none 0 0,.slice none 0 0,.slice none 0 0,.slice none 0 0,.slice none 0 0,.slice none 0 0])∧Hid (Bk wr (w.heap.size+1+1) 34 #[.bool a5,.slice a6 a8 a7,.slice a9 b1 b0,.slice b6 b8 b7,.slice d3 d5 d4,.slice d6 d8 d7,.slice d9 e1 e0,lv,.slice none 0 0])) (fun _ wr=>262146-ug7 wr (w.heap.size+1+1) 7)
  case atStart=>exact⟨0,_,_,rfl,B1,v8,v9⟩
  case round=>
   clear B1 v8 v9;obtain⟨a4,V9,V4,rfl,l8,w0,w2⟩:=hrel;obtain⟨aa0,v0⟩:∃w:World,w=wr:=⟨_,rfl⟩;subst v0;obtain⟨e5,e7,rfl,T6,O9⟩:=l8.out.form;have V0:=l8.out.small;unfold maxLen at O9;go_wp2_with fail
   refine(uad _ (w.heap.size+1) str _ (decide (a4=0)) l8.out.st).mono ?_;intro e d0 j4;have k9:=hid (Bk.fr (w0.out) j4.fr a2);clear w0;have g9:=hid (Bk.fr (w2.out) j4.fr a1);rcases LI.more' m3 Sb.br l8.out j4 with⟨rfl,o1,e6⟩|⟨rfl,B5⟩
   ·clear j4
    go_upto_region 22 with(fail)
    refine udm (by kernel_rfl) (by kernel_rfl) [54,55,56,57,58] 40 (by kernel_rfl) (fun d x=>Fr (· = (w.heap.size+1)) d0 x∧(d 3=false→Below d0.heap.size d0 x)) (fun j x x'=>match j with
     | 3=>Fr (· = (w.heap.size+1)) x x'
     | _=>Below x.heap.size x x') (fun io v x=>match io with
     | 0=>v = .pointer (some ⟨(w.heap.size+1+1),7,none⟩)
     | 1=>v = .slice e5 a4 e7
     | 2=>v = .pointer (some ⟨(w.heap.size+1),0,none⟩)
     | 3=>∃u,v=uas (uac N) u∧RP (· = (w.heap.size+1)) (uac N) (w.heap.size+1) str o1 d0 u x
     | _=>∃u g,v = .slice (some ⟨g,0,none⟩) 1 1∧RP (· = (w.heap.size+1)) (uac N) (w.heap.size+1) str o1 d0 u x∧Bk x g 65 u.toArray∧d0.heap.size≤g) ⟨(Fr.refl _ _).drew,fun _=>(Below.refl _ _).drew⟩ ?_ ?_ ?_ ?_
    ·rintro d j x x' ⟨h,hb⟩ hd hg
     rcases j with _|_|_|_|j
     ·exact⟨h.below hg,fun e=>(hb (Bool.or_eq_false_iff.1 e).1).trans (hg.mono h.size)⟩
     ·exact⟨h.below hg,fun e=>(hb (Bool.or_eq_false_iff.1 e).1).trans (hg.mono h.size)⟩
     ·exact⟨h.below hg,fun e=>(hb (Bool.or_eq_false_iff.1 e).1).trans (hg.mono h.size)⟩
     ·exact⟨h.trans hg,fun e=>by simp at e⟩
     ·exact⟨h.below hg,fun e=>(hb (Bool.or_eq_false_iff.1 e).1).trans (hg.mono h.size)⟩
    ·intro io jo v x x' hi hj P1 ha h hg
     rcases io with _|_|_|_|_|io
     ·exact h
     ·exact h
     ·exact h
     ·obtain⟨u,h1,h2⟩:=h
      rcases jo with _|_|_|_|jo
      ·exact⟨u,h1,h2.bel hg⟩
      ·exact⟨u,h1,h2.bel hg⟩
      ·exact⟨u,h1,h2.bel hg⟩
      ·exact absurd rfl P1
      ·exact⟨u,h1,h2.bel hg⟩
     ·obtain⟨u,g,h1,h2,h3,h4⟩:=h
      rcases jo with _|_|_|_|jo
      ·exact⟨u,g,h1,h2.bel hg,h3.below hg h3.lt,h4⟩
      ·exact⟨u,g,h1,h2.bel hg,h3.below hg h3.lt,h4⟩
      ·exact⟨u,g,h1,h2.bel hg,h3.below hg h3.lt,h4⟩
      ·exact absurd (ha.symm.trans (by kernel_rfl:AC.ucm _ 40 4 3=true)) (by decide)
      ·exact⟨u,g,h1,h2.bel hg,h3.below hg h3.lt,h4⟩
     ·exact absurd hi (by simp)
    ·intro io oo S d x ho g5 hd c9 e4
     rcases io with _|_|_|_|_|io
     ·cases ho
      refine ub rfl rfl fun KK HK=>?_
      clear e4 g5;simp only[nv,Nat.reduceAdd]at HK ⊢;go_wp2;exact HK.out _ _ ⟨_,rfl,rfl,Below.refl _ _⟩
     ·cases ho
      have h0:S 0 = .pointer (some ⟨(w.heap.size+1+1),7,none⟩):=e4 0 (by kernel_rfl) (by decide)
      have cc:=(Bk.fr (g9.out) c9.1 a1).cell 7;simp only[gq]at cc;refine ub rfl rfl fun KK HK=>?_
      clear e4 g5;simp only[nv,Nat.reduceAdd]at HK ⊢;generalize S 0=t0 at *;subst h0;go_wp2;exact HK.out _ _ ⟨_,rfl,rfl,Below.refl _ _⟩
     ·cases ho
      refine ub rfl rfl fun KK HK=>?_
      clear e4 g5;simp only[nv,Nat.reduceAdd]at HK ⊢;go_wp2;exact HK.out _ _ ⟨_,rfl,rfl,Below.refl _ _⟩
     ·cases ho
      have h2:S 2 = .pointer (some ⟨(w.heap.size+1),0,none⟩):=e4 2 (by kernel_rfl) (by decide)
      refine ub rfl rfl fun KK HK=>?_
      clear e4 g5;simp only[nv,Nat.reduceAdd]at HK ⊢;generalize S 2=t2 at *;subst h2;go_wp2_with fail
      refine((uy7 N hN).go _ (w.heap.size+1) str _ (e6.out.st.below (c9.2 hd))).mono ?_;rintro e xN⟨u,rfl,hp⟩;exact HK.out _ _ ⟨_,rfl,⟨u,rfl,hp.from c9.1 fun _ h=> .inl h⟩,hp.2.2.1⟩
     ·cases ho
      have h3:∃u,S 3=uas (uac N) u∧RP (· = (w.heap.size+1)) (uac N) (w.heap.size+1) str o1 d0 u x:=e4 3 (by kernel_rfl) (by decide)
      refine ub rfl rfl fun KK HK=>?_
      clear e4 g5;simp only[nv,Nat.reduceAdd]at HK ⊢;obtain⟨u,h3,hp⟩:=h3;obtain⟨aa2,aa6,aa7,aa8,ab0,aa9,ab1,ab3,ab2,ab4,ab6,ab5,ab7,ab9,ab8,ac0,ac2,ac1,ac3,ac5,ac4,ac6,ac8,ac7,aa3,aa5,aa4,rfl⟩:=ur9 hp.1;rw[ui2]at h3;generalize S 3=t3 at *;subst h3;go_wp2;exact HK.out _ _ ⟨_,rfl,⟨_,_,rfl,hp.bel ((Below.refl _ _).alloc (Nat.le_refl _) _),Bk.new _ _ _,c9.1.size⟩,(Below.refl _ _).alloc (Nat.le_refl _) _⟩
     ·exact absurd g5 (by simp)
    intro S d x c9 hF;have g1:S 1 = .slice e5 a4 e7:=hF 1 (by decide)
    have g4:∃u g,S 4 = .slice (some ⟨g,0,none⟩) 1 1∧RP (· = (w.heap.size+1)) (uac N) (w.heap.size+1) str o1 d0 u x∧Bk x g 65 u.toArray∧d0.heap.size≤g:=hF 4 (by decide)
    clear hF;simp only[nv,Nat.reduceAdd,List.length_cons,List.length_nil,List.drop_succ_cons,List.drop_zero];obtain⟨u,gb,g4,hp,O8,T5⟩:=g4;generalize S 0=t0 at *;generalize S 1=t1 at *;generalize S 2=t2 at *;generalize S 3=t3 at *;generalize S 4=t4 at *;subst g1;subst g4;obtain⟨xs,j6⟩:=e6.out.own m3 (frb c9.1);have P9:=Nat.le_trans e6.out.size c9.1.size;have t9:Shape.sz (uac N)=11:=ugs;rw[t9]at j6;have P2:u.length=11:=by rw[hp.1.len,t9]
    have o9:=hid (hp.mono (S':=Sb (w.heap.size+1) (w.heap.size+1+1)) fun x hx=> .inl hx)
    clear hp;have J0:=hid (Bk.fr (k9.out) c9.1 a2);have J1:=hid (Bk.fr (g9.out) c9.1 a1);clear k9 g9;refine ud6 x rfl _ _ 31 65 rfl Tryz.underlying31 11 216 uqc (by decide) (by decide) _ _ a4 xs u (by rfl) j6 gb _ O8 (by rfl) P2 o9.out.1.one (by omega) P9 ?_
    intro g e8 Y4 s5 n8 D8 E0;rw[←t9]at j6 s5;obtain⟨W2,J7⟩:=LM.nextW uu9 m3 D4 e6.out o9.out j6 s5 n8 D8 E0;have J2:=hid (LM.boxW e6.out J0.out P4 n8);have o3:=hid (LM.boxW e6.out J1.out P5 n8);clear j6 s5 n8 D8 E0 e6 o9;have K0:=(o3.out).cell 7;have Q6:=(o3.out).frozen 7;simp only[gq]at K0;have B2:=hid (LI.put J7.out a1 m3 7 (.slice (some ⟨g,0,none⟩) (a4+1) e8));have D1:=(J2.out).far (p:=⟨(w.heap.size+1+1),7,none⟩) f9 (.slice (some ⟨g,0,none⟩) (a4+1) e8);have J3:=hid D1;clear D1;have r0:=(o3.out).set 7 (.slice (some ⟨g,0,none⟩) (a4+1) e8);simp only[List.setIfInBounds_toArray,List.set_cons_succ,List.set_cons_zero]at r0;have w3:=hid r0;clear r0;have V1:=B2.out.small;go_wp2;go_roundw
    case rel=>exact⟨_,_,_,by simp,B2,J3,w3⟩
    case measure=>rw[uaq (n:=a4) w2.out rfl,uaq (n:=a4+1) w3.out rfl];omega
   clear j4;obtain⟨W3,p3⟩:=QM.next' rfl h6.out B5.out e9;clear h6 B5;go_wp2_with fail
   refine(ur _ (w.heap.size+1) str _ p3.out.st).mono ?_;rintro e Q4⟨rfl,E6,m9⟩;obtain⟨Q2,j0⟩:=QInv.space' p3.out E6 m9;have o5:=hid (Bk.fr (k9.out) m9 a2);have l0:=hid (Bk.fr (g9.out) m9 a1);clear k9 g9;clear E6 m9 p3;have D5:=(j0.out.st).lt;have m4:=Sb.lt (b:=(w.heap.size+1+1)) D5 (l0.out).lt;have P6:=(o5.out).lt;have P7:=(l0.out).lt;go_wp2_with fail
   refine(ui _ (w.heap.size+1) str _ 40 40 rfl j0.out.st).mono ?_;rintro e Y5⟨rfl,E8,n0⟩;obtain⟨W4,B3⟩:=LI.start' (S:=(Sb (w.heap.size+1) (w.heap.size+1+1))) (s:=uW) (e:=68) (j0.out.st) E8 (frb n0);have w5:=hid (Bk.fr (o5.out) n0 a2);have w6:=hid (Bk.fr (l0.out) n0 a1);clear o5 l0;clear E8 n0;go_wp2;go_loopw [7] (fun fv wr=>∃(nn:Nat) (oo:Option (List UInt8)) (lv:Value),fv = .bool (decide (nn=0))∧Hid (LI (Sb (w.heap.size+1) (w.heap.size+1+1)) uW 68 (w.heap.size+1) str Q2 Q4 lv nn oo wr)∧Hid (Bk wr w.heap.size 34 #[.bool false,.slice none 0 0,.slice none 0 0,.slice none 0 0,.slice none 0 0,.slice none 0 0,.slice none 0 0,.slice none 0 0,.slice none 0 0])∧Hid (Bk wr (w.heap.size+1+1) 34 #[.bool a5,.slice a6 a8 a7,.slice a9 b1 b0,.slice b6 b8 b7,.slice d3 d5 d4,.slice d6 d8 d7,.slice d9 e1 e0,.slice e5 a4 e7,lv])) (fun _ wr=>262146-ug7 wr (w.heap.size+1+1) 8)
   case atStart=>exact⟨0,_,_,rfl,B3,w5,w6⟩
   case round=>
    clear B3 w5 w6;obtain⟨b2,W5,V5,rfl,l9,w9,x0⟩:=hrel;obtain⟨aa1,v0⟩:∃w:World,w=wr:=⟨_,rfl⟩;subst v0;obtain⟨k6,m2,rfl,T7,P0⟩:=l9.out.form;have V2:=l9.out.small;unfold maxLen at P0;go_wp2_with fail
    refine(uad _ (w.heap.size+1) str _ (decide (b2=0)) l9.out.st).mono ?_;intro e k5 j5;have l1:=hid (Bk.fr (w9.out) j5.fr a2);clear w9;have l2:=hid (Bk.fr (x0.out) j5.fr a1);rcases LI.more' m4 Sb.br l9.out j5 with⟨rfl,W6,e3⟩|⟨rfl,B6⟩
    ·clear j5
     have o0:=e3.out.st.lt;have g0:k5.heap.size≠(w.heap.size+1):=(Nat.ne_of_lt o0).symm;have D6:w.heap.size≠k5.heap.size:=Nat.ne_of_lt (l1.out).lt;have D7:(w.heap.size+1+1)≠k5.heap.size:=Nat.ne_of_lt (l2.out).lt;go_wp2_with fail
     refine(ui _ (w.heap.size+1) str _ 40 40 rfl (e3.out.st.alloc _)).mono ?_;rintro e Y7⟨rfl,F0,j1⟩;obtain⟨W7,p4⟩:=QM.start' (b:=k5.heap.size) (ss:=[.int,.int]) F0 j1;have x1:=hid (Bk.fr (l1.out.alloc _) j1 a2);have x2:=hid (Bk.fr (l2.out.alloc _) j1 a1);have x3:=hid (Bk.fr (Bk.new k5 68 #[.int .i64 0,.int .i64 0]) j1 g0);clear F0 j1;go_wp2_with fail
     refine(uej.go _ (w.heap.size+1) str _ p4.out.st).mono ?_;rintro e Y8⟨v,rfl,g6⟩;obtain⟨g2,rfl⟩:=ug g6.1;rw[uo];have x4:=hid (Bk.fr (x1.out) g6.fr a2);have x5:=hid (Bk.fr (x2.out) g6.fr a1);have l3:=hid (Bk.fr (x3.out) g6.fr g0);clear x1 x2 x3;have C3:=(l3.out).cell 0;have O2:=(l3.out).frozen 0;simp only[gq]at C3;obtain⟨W8,s9⟩:=QM.got' rfl p4.out g6 (Sb.box o0 _) g0 0 [.int .i64 g2];simp only[stores,Nat.reduceAdd]at s9;have p5:=hid s9;have r2:=Bk.storesFar x4.out D6 0 [.int .i64 g2];simp only[stores,Nat.reduceAdd]at r2;have x6:=hid r2;clear r2 x4;have r3:=Bk.storesFar x5.out D7 0 [.int .i64 g2];simp only[stores,Nat.reduceAdd]at r3;have x7:=hid r3;clear r3 x5;have r4:=Bk.stores (cs:=[.int .i64 0,.int .i64 0]) 0 [.int .i64 g2] l3.out;simp only[stores,spl,List.set_cons_zero,List.set_cons_succ,Nat.reduceAdd]at r4;have x8:=hid r4;clear r4 l3;clear g6 s9 p4;go_wp2_with fail
     refine(ur _ (w.heap.size+1) str _ p5.out.st).mono ?_;rintro e Y9⟨rfl,F1,j2⟩;obtain⟨X0,p6⟩:=QInv.space' p5.out F1 j2;have x9:=hid (Bk.fr (x6.out) j2 a2);have y0:=hid (Bk.fr (x7.out) j2 a1);have y1:=hid (Bk.fr (x8.out) j2 g0);clear C3 O2 x6 x7 x8;clear F1 j2 p5;go_wp2_with fail
     refine(uej.go _ (w.heap.size+1) str _ p6.out.st).mono ?_;rintro e Z0⟨v,rfl,g7⟩;obtain⟨g8,rfl⟩:=ug g7.1;rw[uo];have y2:=hid (Bk.fr (x9.out) g7.fr a2);have y3:=hid (Bk.fr (y0.out) g7.fr a1);have l4:=hid (Bk.fr (y1.out) g7.fr g0);clear x9 y0 y1;have C4:=(l4.out).cell 1;have O3:=(l4.out).frozen 1;simp only[gq]at C4;obtain⟨X1,t5⟩:=QM.got' rfl p6.out g7 (Sb.box o0 _) g0 1 [.int .i64 g8];simp only[stores,Nat.reduceAdd]at t5;have p7:=hid t5;have r5:=Bk.storesFar y2.out D6 1 [.int .i64 g8];simp only[stores,Nat.reduceAdd]at r5;have y5:=hid r5;clear r5 y2;have r6:=Bk.storesFar y3.out D7 1 [.int .i64 g8];simp only[stores,Nat.reduceAdd]at r6;have y6:=hid r6;clear r6 y3;have r7:=Bk.stores (cs:=[.int .i64 g2,.int .i64 0]) 1 [.int .i64 g8] l4.out;simp only[stores,spl,List.set_cons_zero,List.set_cons_succ,Nat.reduceAdd]at r7;have y7:=hid r7;clear r7 l4;clear g7 t5 p6;go_wp2_with fail
     refine(ui _ (w.heap.size+1) str _ 41 41 rfl p7.out.st).mono ?_;rintro e Q5⟨rfl,F2,j3⟩;have B7:=QInv.last' (v:=[.int .i64 g2,.int .i64 g8]) rfl p7.out F2 j3 (Sb.box o0 _) rfl;have J4:=hid (Bk.fr (y5.out) j3 a2);have y8:=hid (Bk.fr (y6.out) j3 a1);have y9:=hid (Bk.fr (y7.out) j3 g0);clear C4 O3 y5 y6 y7;clear F2 j3 p7;have h5:=hid (RP.inner (c:=(w.heap.size+1+1)) B7.out ((Fr.refl _ _).alloc _) (Nat.le_refl _));clear B7;have C5:=(y9.out).cell 0;have C6:=(y9.out).cell 1;simp only[gq]at C5 C6;obtain⟨xs,j7⟩:=e3.out.own m4 h5.out.fr;have Q0:=Nat.le_trans e3.out.size h5.out.fr.size;have F9:Shape.sz uW=2:=udh;rw[F9]at j7;have C7:=(y8.out).cell 8;simp only[gq]at C7;go_wp2_with (at_builtin;refine uJ Q5 rfl _ _ 32 68 rfl Tryz.underlying32 2 16 umu (by decide) (by decide) _ _ b2 xs [.int .i64 g2,.int .i64 g8] (by rfl) j7 (by rfl) rfl h5.out.1.one (by omega) Q0 ?_)
     intro g e8 Z1 s6 n9 D9 E1;rw[←F9]at j7 s6;obtain⟨X2,J8⟩:=LM.next' usa m4 D5 e3.out h5.out j7 s6 n9 D9 E1;have J5:=hid (LM.box e3.out J4.out P6 _ n9);have o7:=hid (LM.box e3.out y8.out P7 _ n9);clear j7 s6 n9 D9 E1 e3 h5 C5 C6 C7;have K1:=(o7.out).cell 8;have Q7:=(o7.out).frozen 8;simp only[gq]at K1;have B4:=hid (LI.put J8.out a1 m4 8 (.slice (some ⟨g,0,none⟩) (b2+1) e8));have D2:=(J5.out).far (p:=⟨(w.heap.size+1+1),8,none⟩) f9 (.slice (some ⟨g,0,none⟩) (b2+1) e8);have J6:=hid D2;clear D2;have r8:=(o7.out).set 8 (.slice (some ⟨g,0,none⟩) (b2+1) e8);simp only[List.setIfInBounds_toArray,List.set_cons_succ,List.set_cons_zero]at r8;have z0:=hid r8;clear r8;have V3:=B4.out.small;go_wp2;go_roundw
     case rel=>exact⟨_,_,_,by simp,B4,J6,z0⟩
     case measure=>rw[uaq (n:=b2) x0.out rfl,uaq (n:=b2+1) z0.out rfl];omega
    clear j5;obtain⟨X3,p8⟩:=QM.next' rfl j0.out B6.out e9;clear j0 B6;go_wp2_with fail
    refine(ui _ (w.heap.size+1) str _ 41 41 rfl p8.out.st).mono ?_;rintro e Z3⟨rfl,F4,n3⟩;have m0:=QInv.last' (v:=[.bool a5,.slice a6 a8 a7,.slice a9 b1 b0,.slice b6 b8 b7,.slice d3 d5 d4,.slice d6 d8 d7,.slice d9 e1 e0,.slice e5 a4 e7,.slice k6 b2 m2]) rfl p8.out F4 n3 e9 rfl;have a0:=hid (Bk.fr (l1.out) n3 a2);have b9:=hid (Bk.fr (l2.out) n3 a1);clear l1 l2;clear F4 n3 p8;obtain⟨pos,bad,hk,T8,T9,ho⟩:=m0.out.st;have k1:=hk.cell 1;have k2:=hk.cell 2;simp only[gq]at k1 k2;have HO:Hid (rd (ubb N) 0 (some str.data.toList)=if bad then none else some (str.data.toList.drop pos)):=ho
    clear ho hk;cases bad with
    | true=>
     have K2:=(a0.out).cell 0;have Q8:=(a0.out).frozen 0;have K3:=(a0.out).cell 1;have Q9:=(a0.out).frozen 1;have K4:=(a0.out).cell 2;have R0:=(a0.out).frozen 2;have K5:=(a0.out).cell 3;have R1:=(a0.out).frozen 3;have K6:=(a0.out).cell 4;have R2:=(a0.out).frozen 4;have K7:=(a0.out).cell 5;have R3:=(a0.out).frozen 5;have K8:=(a0.out).cell 6;have R4:=(a0.out).frozen 6;have K9:=(a0.out).cell 7;have R5:=(a0.out).frozen 7;have L0:=(a0.out).cell 8;have R6:=(a0.out).frozen 8;simp only[gq]at K2 K3 K4 K5 K6 K7 K8 K9 L0;have G0:=CPN.syn (l:=[.bool false,.slice none 0 0,.slice none 0 0,.slice none 0 0,.slice none 0 0,.slice none 0 0,.slice none 0 0,.slice none 0 0,.slice none 0 0]) hs m0.out (by rw[HO.out];simp) o8.out (by omega) (by omega) (Nat.le_refl _)
     have b3:=Bk.stores (cs:=[.bool false,.slice none 0 0,.slice none 0 0,.slice none 0 0,.slice none 0 0,.slice none 0 0,.slice none 0 0,.slice none 0 0,.slice none 0 0]) 0 [.bool false,.slice none 0 0,.slice none 0 0,.slice none 0 0,.slice none 0 0,.slice none 0 0,.slice none 0 0,.slice none 0 0,.slice none 0 0] (a0.out);simp only[stores,spl,List.set_cons_zero,List.set_cons_succ,Nat.reduceAdd]at G0 b3;go_wp2;have G3:=b3.cell 0;have G4:=b3.cell 1;have G5:=b3.cell 2;have G6:=b3.cell 3;have G7:=b3.cell 4;have G8:=b3.cell 5;have G9:=b3.cell 6;have H0:=b3.cell 7;have H1:=b3.cell 8;simp only[gq]at G3 G4 G5 G6 G7 G8 G9 H0 H1;refine bodyPost_ret (v:= .tuple #[.agg #[.bool false,.slice none 0 0,.slice none 0 0,.slice none 0 0,.slice none 0 0,.slice none 0 0,.slice none 0 0,.slice none 0 0,.slice none 0 0],.int .i64 2]) (by simp[results,Tryz.results7,go_sem,G3,G4,G5,G6,G7,G8,G9,H0,H1]) rfl ?_
     exact G0
    | false=>
     by_cases P8:pos=str.size
     ·subst P8
      have d2:(((str.size:Nat):Int) != ((str.size:Nat):Int))=false:=by simp
      have L1:=(b9.out).cell 0;have L2:=(b9.out).cell 1;have L3:=(b9.out).cell 2;have L4:=(b9.out).cell 3;have L5:=(b9.out).cell 4;have L6:=(b9.out).cell 5;have L7:=(b9.out).cell 6;have L8:=(b9.out).cell 7;have L9:=(b9.out).cell 8;simp only[gq]at L1 L2 L3 L4 L5 L6 L7 L8 L9;have M0:=(a0.out).cell 0;have R7:=(a0.out).frozen 0;have M1:=(a0.out).cell 1;have R8:=(a0.out).frozen 1;have M2:=(a0.out).cell 2;have R9:=(a0.out).frozen 2;have M3:=(a0.out).cell 3;have S0:=(a0.out).frozen 3;have M4:=(a0.out).cell 4;have S1:=(a0.out).frozen 4;have M5:=(a0.out).cell 5;have S2:=(a0.out).frozen 5;have M6:=(a0.out).cell 6;have S3:=(a0.out).frozen 6;have M7:=(a0.out).cell 7;have S4:=(a0.out).frozen 7;have M8:=(a0.out).cell 8;have S5:=(a0.out).frozen 8;simp only[gq]at M0 M1 M2 M3 M4 M5 M6 M7 M8;have G1:=CPN.cert (l:=[.bool a5,.slice a6 a8 a7,.slice a9 b1 b0,.slice b6 b8 b7,.slice d3 d5 d4,.slice d6 d8 d7,.slice d9 e1 e0,.slice e5 a4 e7,.slice k6 b2 m2]) hs m0.out (by rw[HO.out];simp) o8.out (by omega) (by omega) (Nat.le_refl _) P3
      have b4:=Bk.stores (cs:=[.bool false,.slice none 0 0,.slice none 0 0,.slice none 0 0,.slice none 0 0,.slice none 0 0,.slice none 0 0,.slice none 0 0,.slice none 0 0]) 0 [.bool a5,.slice a6 a8 a7,.slice a9 b1 b0,.slice b6 b8 b7,.slice d3 d5 d4,.slice d6 d8 d7,.slice d9 e1 e0,.slice e5 a4 e7,.slice k6 b2 m2] (a0.out);simp only[stores,spl,List.set_cons_zero,List.set_cons_succ,Nat.reduceAdd]at G1 b4;go_wp2;have H2:=b4.cell 0;have H3:=b4.cell 1;have H4:=b4.cell 2;have H5:=b4.cell 3;have H6:=b4.cell 4;have H7:=b4.cell 5;have H8:=b4.cell 6;have H9:=b4.cell 7;have I0:=b4.cell 8;simp only[gq]at H2 H3 H4 H5 H6 H7 H8 H9 I0;refine bodyPost_ret (v:= .tuple #[.agg #[.bool a5,.slice a6 a8 a7,.slice a9 b1 b0,.slice b6 b8 b7,.slice d3 d5 d4,.slice d6 d8 d7,.slice d9 e1 e0,.slice e5 a4 e7,.slice k6 b2 m2],.int .i64 0]) (by simp[results,Tryz.results7,go_sem,H2,H3,H4,H5,H6,H7,H8,H9,I0]) rfl ?_
      exact G1
     ·have d2:(((pos:Nat):Int) != ((str.size:Nat):Int))=true:=bne_iff_ne.2 (by omega)
      have E2:rd (ubb N) 0 (some str.data.toList)≠some []:=by
       rw[HO.out];intro h9;have h8:(str.data.toList.drop pos).length=0:=by
        have h7:str.data.toList.drop pos=[]:=by simpa using h9
        rw[h7];rfl
       simp at h8;omega
      have J9:=hid E2;clear E2;have M9:=(a0.out).cell 0;have S6:=(a0.out).frozen 0;have N0:=(a0.out).cell 1;have S7:=(a0.out).frozen 1;have N1:=(a0.out).cell 2;have S8:=(a0.out).frozen 2;have N2:=(a0.out).cell 3;have S9:=(a0.out).frozen 3;have N3:=(a0.out).cell 4;have T0:=(a0.out).frozen 4;have N4:=(a0.out).cell 5;have T1:=(a0.out).frozen 5;have N5:=(a0.out).cell 6;have T2:=(a0.out).frozen 6;have N6:=(a0.out).cell 7;have T3:=(a0.out).frozen 7;have N7:=(a0.out).cell 8;have T4:=(a0.out).frozen 8;simp only[gq]at M9 N0 N1 N2 N3 N4 N5 N6 N7;have G2:=CPN.syn (l:=[.bool false,.slice none 0 0,.slice none 0 0,.slice none 0 0,.slice none 0 0,.slice none 0 0,.slice none 0 0,.slice none 0 0,.slice none 0 0]) hs m0.out J9.out o8.out (by omega) (by omega) (Nat.le_refl _)
      have b5:=Bk.stores (cs:=[.bool false,.slice none 0 0,.slice none 0 0,.slice none 0 0,.slice none 0 0,.slice none 0 0,.slice none 0 0,.slice none 0 0,.slice none 0 0]) 0 [.bool false,.slice none 0 0,.slice none 0 0,.slice none 0 0,.slice none 0 0,.slice none 0 0,.slice none 0 0,.slice none 0 0,.slice none 0 0] (a0.out);simp only[stores,spl,List.set_cons_zero,List.set_cons_succ,Nat.reduceAdd]at G2 b5;go_wp2;have I1:=b5.cell 0;have I2:=b5.cell 1;have I3:=b5.cell 2;have I4:=b5.cell 3;have I5:=b5.cell 4;have I6:=b5.cell 5;have I7:=b5.cell 6;have I8:=b5.cell 7;have I9:=b5.cell 8;simp only[gq]at I1 I2 I3 I4 I5 I6 I7 I8 I9;refine bodyPost_ret (v:= .tuple #[.agg #[.bool false,.slice none 0 0,.slice none 0 0,.slice none 0 0,.slice none 0 0,.slice none 0 0,.slice none 0 0,.slice none 0 0,.slice none 0 0],.int .i64 2]) (by simp[results,Tryz.results7,go_sem,I1,I2,I3,I4,I5,I6,I7,I8,I9]) rfl ?_
      exact G2
theorem un8(w:World)(str:ByteArray):Calls Tryz.prog 7 #[.string str] w (CPPost str.data.toList w):=(uuh NN (by unfold NN;omega) w str).mono fun e w' h=>h.out
end Go.Proofs.YtellcholbkoakaaGreatDoor
