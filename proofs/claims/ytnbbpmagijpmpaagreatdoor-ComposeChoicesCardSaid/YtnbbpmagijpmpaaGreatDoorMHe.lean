/-
  validArgs: are the arguments of a constructor valid? (printed by gen_va.py)
-/
import Derived.Test.YtnbbpmagijpmpaaGreatDoorMGy
import Derived.Test.YtnbbpmagijpmpaaGreatDoorMGg
set_option linter.unusedVariables false
set_option linter.unusedSimpArgs false
namespace Go.Proofs.YtnbbpmagijpmpaaGreatDoor
open Go.Lib (hid)
open Go.RowKit AC
section
variable {P:Program} {ops:Array Oper} {Q:Exit->Act->World->Prop}
theorem udl{i j:Nat}{want:Bool}{o:Oper}{I:Act->World->Prop}{a:Act}{w:World}(ho:ops[i]? = some o)(hg:o.guard=some (j,want))(t:Nat)(hd:(ops[j]?).bind (·.dst)=some t)(hv:a.tmps[t]? = some undef)
 (h:I (a.put o.dst undef) w):ua5 P ops Q i I a w:=by
 refine ua5.of ?_;have hy:yielded ops a.tmps j=none:=by
  unfold yielded;rw[hd];show(match a.tmps[t]? with|some (.bool b)=>some b|_=>none)=none
  rw[hv];rfl
 unfold wpOp;rw[ho];have:((none:Option Bool)==some want)=false:=rfl;simp only[Region.wanted,hg,hy,this];exact h
end
def ugm(dat:List DaD)(d:Nat)(vr:Int)(a:Tr):Bool:=(uA (dat.take (d+1)) vr 200 a).isSome&&(uqv d vr a || !upm d a)
def uee(dat:List DaD)(d:Nat)(vr:Int)(l:List Tr):Bool:=decide (l.length<=6)&&l.all (ugm dat d vr)
set_option maxHeartbeats 16000000
set_option maxRecDepth 100000
theorem ulm{D:Nat->Prop}{dat:List DaD}{A:Option Addr}{dl dc:Nat}(d c:Nat)(hd:d<dat.length)(hc:c<dat[d].cons.length)(w:World)(hD:DaS w D dat A dl dc) :
 Calls Tryz.prog 136 #[.slice A dl dc,.int .i64 (d:Int),.int .i64 (c:Int)] w (uY (.bool (uee dat d dat[d].vars dat[d].cons[c].args)) w):=by
 have f2:=hid fun h6=>uft d c hd hc h6 w hD
 obtain⟨b,off,s,A',j3,l5,rfl,hb,e0,e1,e2,m7,k5,d2⟩:=hD.get (i:=d) hd;obtain⟨bc,o1,sc,Ac,al,ac,rfl,n1,f0,f1,m3,d1⟩:=d2.get (i:=c) hc;have m5:dl=dat.length:=hD.1;have n9:=hD.2.1;have m4:dc<=maxLen:=hD.2.2.1;have m2:j3=dat[d].cons.length:=d2.1;have n5:=d2.2.1;have m1:l5<=maxLen:=d2.2.2.1;unfold maxLen at m4 m1;have n6:d<dl:=by omega
 have n2:c<j3:=by omega
 have l3:=hid (hD.take (n:=d+1) (by omega))
 generalize dat[d].cons[c].args=args at *;generalize dat[d].vars=vr at *;have b4:=hid fun(a:Tr) (v:List Value) (x:World) (hx:Below w.heap.size w x) (D':Nat->Prop) (hr:TrR x D' a v)=>ugl k5 a x v hr (l3.out.below hx)
 unfold rng at k5;have k0:al=args.length:=d1.1;have m9:=d1.2.1;have m0:ac<=maxLen:=d1.2.2.1;unfold maxLen at m0;have k9:=hid d1;have b7:=hid k0;have n7:(0:Int)<=d:=by omega
 have n3:(0:Int)<=c:=by omega
 have n8:(d:Int)<dl:=by omega
 have n4:(c:Int)<j3:=by omega
 obtain⟨q,hq⟩:∃q,uee dat d vr args=q:=⟨_,rfl⟩;rw[hq];have HQ:=hid hq;clear d1 k0 d2 m3 m7 f0 e0 hq m5 m2;go_enter Tryz.func136,Tryz.ntmps136
 by_cases h6:al<=6
 ·have l8:¬(6:Int)<(al:Int):=by omega
  have l9:args.length<=6:=by have:=b7.out;omega
  have k2:q=args.all (ugm dat d vr):=by
   rw[<-HQ.out,uee,decide_eq_true l9,Bool.true_and]
  have j7:=hid k2;have l4:=hid (f2.out (by omega))
  clear k2 hD f2;go_wp2_with fail
  refine l4.out.mono ?_;rintro e w1⟨Z,rfl,j0,k1⟩;have m8:(args.map (uqv d vr)).length=al:=by rw[List.length_map,b7.out]
  rw[m8]at j0 ⊢;have l0:=hid j0;have j4:=hid k1;clear j0 k1;go_wp2;go_loopw [29] (fun iv wr=>∃i:Nat,i<=al/\iv = .int .i64 i/\Hid ((args.take i).all (ugm dat d vr)=true)/\Hid (Below w1.heap.size w1 wr)) (fun iv _=>al-(intOf iv).toNat)
  case atStart=>exact⟨0,by omega,rfl,by simp[Hid],aa⟩
  case round=>
   obtain⟨i,hi,rfl,HL,HB⟩:=hrel;have d5:=hid (j4.out.trans (HB.out.mono j4.out.size));by_cases m6:i<al
   ·have d9:i<args.length:=by have:=b7.out;omega
    obtain⟨b2,o0,A2,a8,a7,rfl,n0,e3,e4,e5,e6⟩:=(k9.out.below d5.out).get (i:=i) d9;have e9:Hid (ugm dat d vr args[i]=true->Hid ((args.take (i+1)).all (ugm dat d vr)=true)):=fun h=>by
     show _=true
     rw[aJ d9,List.all_append,show(args.take i).all (ugm dat d vr)=true from HL.out]
     simp[h]
    have e8:Hid (ugm dat d vr args[i]=false->q=false):=fun h=>by
     rw[j7.out];cases hx:args.all (ugm dat d vr)with
     | false=>rfl
     | true=>
      rw[aT]at hx;have:=hx _ (aq d9);rw[h]at this;cases this
    unfold ugm at e9 e8;obtain⟨zb,zo,rfl,_,k8,b6⟩:=l0.out.2 (by omega)
    replace b6:=b6 i m6
    have b5:(args.map (uqv d vr)).getD i false=uqv d vr args[i]:=by rw[aj,List.getElem?_map,ai d9];rfl
    rw[b5]at b6;clear b5;obtain⟨y0,k6⟩:∃x,args[i].k=x:=⟨_,rfl⟩;obtain⟨y1,k7⟩:∃x,args[i].m=x:=⟨_,rfl⟩;rw[k6]at e3 e6;rw[k7]at e4 e6;clear k6 k7;obtain⟨wi,e7⟩:∃wi,wi=wr.alloc (.cells #[.int .i64 y0,.int .i64 y1,.slice A2 a8 a7] 25):=⟨_,rfl⟩;have d8:Below wr.heap.size wr wi:=by rw[e7];exact aa.alloc ab _
    have b0:Hid (Bk wi wr.heap.size 25 #[.int .i64 y0,.int .i64 y1,.slice A2 a8 a7]):=by rw[e7];exact Bk.new _ _ _
    have d6:=hid (e6.below d8);have a9:=hid (HB.out.trans (d8.mono HB.out.size));have a6:=hid (d5.out.trans (d8.mono d5.out.size));have j6:=hid fun(v:List Value) (x:World) (hr:TrR x D args[i] v)=>uri args[i].size D args[i] d x v ab hr
    replace b4:=hid fun(v:List Value) (x:World) (hx:Below w.heap.size w x) (hr:TrR x D args[i] v)=>b4.out args[i] v x hx D hr
    obtain⟨vb,j2⟩:∃x,(uA (dat.take (d+1)) vr 200 args[i]).isSome=x:=⟨_,rfl⟩;obtain⟨rb,b5⟩:∃x,uqv d vr args[i]=x:=⟨_,rfl⟩;obtain⟨mb,j1⟩:∃x,upm d args[i]=x:=⟨_,rfl⟩;have f3:=hid j2;have j8:=hid b5;have j5:=hid j1;rw[b5]at b6;simp only[j2]at b4;simp only[j1]at j6;clear e6 d8 j2 b5 j1;go_upto_region 8 with(fail)
    rw[<-e7];clear e7;cases vb with
    | false=>
     refine uao (by kernel_rfl) (by kernel_rfl) [34,35,36,37,38,39,40,41,42,43,44,45,46,47,48,49,50,51,52,53,54,55,56] 40 (by kernel_rfl) (fun io v x=>match io with
      | 0=>v = .slice (some ⟨b,off,none⟩) dl dc
      | 1=>v = .int .i64 (d:Int)
      | 2=>v = .int .i64 ((d:Int)+1)
      | 3=>v = .slice (some ⟨b,off,none⟩) (d+1) dc
      | 4=>v = .agg #[.int .i64 y0,.int .i64 y1,.slice A2 a8 a7]
      | 5=>v = .slice (some ⟨b,off,none⟩) dl dc
      | 6=>v = .int .i64 (d:Int)
      | 7=>v = .pointer (some ⟨b,off+d*3,none⟩)
      | 8=>v = .pointer (some ⟨b,off+d*3+1,none⟩)
      | 9=>v = .int .i64 vr
      | 10=>v = .bool false
      | 11=>v = .bool true
      | 12=>v = .bool true
      | 13=>v=undef
      | 14=>v=undef
      | 15=>v=undef
      | 16=>v=undef
      | 17=>v=undef
      | 18=>v=undef
      | 19=>v=undef
      | 20=>v=undef
      | 21=>v=undef
      | _=>v=undef) ?_ ?_ ?_
     ·intro io v x x' a1 h hb
      rcases io with _|_|_|_|_|_|_|_|_|_|_|_|_|_|_|_|_|_|_|_|_|_|io
      ·exact h
      ·exact h
      ·exact h
      ·exact h
      ·exact h
      ·exact h
      ·exact h
      ·exact h
      ·exact h
      ·exact h
      ·exact h
      ·exact h
      ·exact h
      ·exact h
      ·exact h
      ·exact h
      ·exact h
      ·exact h
      ·exact h
      ·exact h
      ·exact h
      ·exact h
      ·exact h
     ·intro io oo S x ho a1 a4 a0
      rcases io with _|_|_|_|_|_|_|_|_|_|_|_|_|_|_|_|_|_|_|_|_|_|_|io
      ·cases ho
       refine uh rfl rfl fun KK HK=>?_
       clear a0 a1;simp only[nv,Nat.reduceAdd]at HK ⊢;go_wp2;exact HK.out _ _ ⟨_,rfl,rfl,aa⟩
      ·cases ho
       refine uh rfl rfl fun KK HK=>?_
       clear a0 a1;simp only[nv,Nat.reduceAdd]at HK ⊢;go_wp2;exact HK.out _ _ ⟨_,rfl,rfl,aa⟩
      ·cases ho
       have h1:S 1 = .int .i64 (d:Int):=a0 1 (by kernel_rfl) (by decide)
       refine uh rfl rfl fun KK HK=>?_
       clear a0 a1;simp only[nv,Nat.reduceAdd]at HK ⊢;generalize S 1=t1 at *;subst h1;go_wp2;exact HK.out _ _ ⟨_,rfl,rfl,aa⟩
      ·cases ho
       have h0:S 0 = .slice (some ⟨b,off,none⟩) dl dc:=a0 0 (by kernel_rfl) (by decide)
       have h2:S 2 = .int .i64 ((d:Int)+1):=a0 2 (by kernel_rfl) (by decide)
       refine uh rfl rfl fun KK HK=>?_
       clear a0 a1;simp only[nv,Nat.reduceAdd]at HK ⊢;generalize S 0=t0 at *;subst h0;generalize S 2=t2 at *;subst h2;go_wp2;exact HK.out _ _ ⟨_,rfl,rfl,aa⟩
      ·cases ho
       have cc:=(b0.out.below a4 b0.out.lt).facts.1;refine uh rfl rfl fun KK HK=>?_
       clear a0 a1;simp only[nv,Nat.reduceAdd]at HK ⊢;go_wp2;exact HK.out _ _ ⟨_,rfl,rfl,aa⟩
      ·cases ho
       refine uh rfl rfl fun KK HK=>?_
       clear a0 a1;simp only[nv,Nat.reduceAdd]at HK ⊢;go_wp2;exact HK.out _ _ ⟨_,rfl,rfl,aa⟩
      ·cases ho
       refine uh rfl rfl fun KK HK=>?_
       clear a0 a1;simp only[nv,Nat.reduceAdd]at HK ⊢;go_wp2;exact HK.out _ _ ⟨_,rfl,rfl,aa⟩
      ·cases ho
       have h5:S 5 = .slice (some ⟨b,off,none⟩) dl dc:=a0 5 (by kernel_rfl) (by decide)
       have h6:S 6 = .int .i64 (d:Int):=a0 6 (by kernel_rfl) (by decide)
       refine uh rfl rfl fun KK HK=>?_
       clear a0 a1;simp only[nv,Nat.reduceAdd]at HK ⊢;generalize S 5=t5 at *;subst h5;generalize S 6=t6 at *;subst h6;go_wp2;exact HK.out _ _ ⟨_,rfl,rfl,aa⟩
      ·cases ho
       have h7:S 7 = .pointer (some ⟨b,off+d*3,none⟩):=a0 7 (by kernel_rfl) (by decide)
       refine uh rfl rfl fun KK HK=>?_
       clear a0 a1;simp only[nv,Nat.reduceAdd]at HK ⊢;generalize S 7=t7 at *;subst h7;go_wp2;exact HK.out _ _ ⟨_,rfl,rfl,aa⟩
      ·cases ho
       have h8:S 8 = .pointer (some ⟨b,off+d*3+1,none⟩):=a0 8 (by kernel_rfl) (by decide)
       have cc:=ux e1 (a6.out.trans (a4.mono a6.out.size)) hb;refine uh rfl rfl fun KK HK=>?_
       clear a0 a1;simp only[nv,Nat.reduceAdd]at HK ⊢;generalize S 8=t8 at *;subst h8;go_wp2;exact HK.out _ _ ⟨_,rfl,rfl,aa⟩
      ·cases ho
       have h3:S 3 = .slice (some ⟨b,off,none⟩) (d+1) dc:=a0 3 (by kernel_rfl) (by decide)
       have h4:S 4 = .agg #[.int .i64 y0,.int .i64 y1,.slice A2 a8 a7]:=a0 4 (by kernel_rfl) (by decide)
       have h9:S 9 = .int .i64 vr:=a0 9 (by kernel_rfl) (by decide)
       have b1:=hid (b4.out _ _ (a6.out.trans (a4.mono a6.out.size)) (d6.out.below a4));refine uh rfl rfl fun KK HK=>?_
       clear a0 a1;simp only[nv,Nat.reduceAdd]at HK ⊢;generalize S 3=t3 at *;subst h3;generalize S 4=t4 at *;subst h4;generalize S 9=t9 at *;subst h9;go_wp2_with fail
       refine(b1.out).mono ?_;rintro e xN⟨rfl,b3⟩;exact HK.out _ _ ⟨_,rfl,rfl,b3⟩
      ·cases ho
       have c9:(S 10) = .bool false:=a0 10 (by kernel_rfl) (by decide)
       refine uh rfl rfl fun KK HK=>?_
       clear a0 a1;simp only[nv,Nat.reduceAdd]at HK ⊢;generalize S 10=t10 at *;subst c9;go_wp2;exact HK.out _ _ ⟨_,rfl,rfl,aa⟩
      ·cases ho
       have d0:S 11 = .bool true:=a0 11 (by kernel_rfl) (by decide)
       refine uh rfl rfl fun KK HK=>?_
       clear a0 a1;simp only[nv,Nat.reduceAdd]at HK ⊢;generalize S 11=t11 at *;subst d0;go_wp2;exact HK.out _ _ ⟨_,rfl,rfl,aa⟩
      ·cases ho
       have a2:S 12 = .bool true:=a0 12 (by kernel_rfl) (by decide)
       exact ui rfl rfl 46 (by kernel_rfl) (by simp only[nv,Nat.reduceAdd,a2,ae];rfl) ⟨_,rfl,rfl,aa⟩
      ·cases ho
       have a2:S 12 = .bool true:=a0 12 (by kernel_rfl) (by decide)
       exact ui rfl rfl 46 (by kernel_rfl) (by simp only[nv,Nat.reduceAdd,a2,ae];rfl) ⟨_,rfl,rfl,aa⟩
      ·cases ho
       have a2:S 12 = .bool true:=a0 12 (by kernel_rfl) (by decide)
       exact ui rfl rfl 46 (by kernel_rfl) (by simp only[nv,Nat.reduceAdd,a2,ae];rfl) ⟨_,rfl,rfl,aa⟩
      ·cases ho
       have a2:S 12 = .bool true:=a0 12 (by kernel_rfl) (by decide)
       exact ui rfl rfl 46 (by kernel_rfl) (by simp only[nv,Nat.reduceAdd,a2,ae];rfl) ⟨_,rfl,rfl,aa⟩
      ·cases ho
       have a2:S 12 = .bool true:=a0 12 (by kernel_rfl) (by decide)
       exact ui rfl rfl 46 (by kernel_rfl) (by simp only[nv,Nat.reduceAdd,a2,ae];rfl) ⟨_,rfl,rfl,aa⟩
      ·cases ho
       have a2:S 12 = .bool true:=a0 12 (by kernel_rfl) (by decide)
       exact ui rfl rfl 46 (by kernel_rfl) (by simp only[nv,Nat.reduceAdd,a2,ae];rfl) ⟨_,rfl,rfl,aa⟩
      ·cases ho
       have a5:S 18=undef:=a0 18 (by kernel_rfl) (by decide)
       exact udl rfl rfl 52 (by kernel_rfl) (by simp only[nv,Nat.reduceAdd,a5,ae]) ⟨_,rfl,rfl,aa⟩
      ·cases ho
       have a5:S 18=undef:=a0 18 (by kernel_rfl) (by decide)
       exact udl rfl rfl 52 (by kernel_rfl) (by simp only[nv,Nat.reduceAdd,a5,ae]) ⟨_,rfl,rfl,aa⟩
      ·cases ho
       have a5:S 18=undef:=a0 18 (by kernel_rfl) (by decide)
       exact udl rfl rfl 52 (by kernel_rfl) (by simp only[nv,Nat.reduceAdd,a5,ae]) ⟨_,rfl,rfl,aa⟩
      ·cases ho
       have a2:S 12 = .bool true:=a0 12 (by kernel_rfl) (by decide)
       exact ui rfl rfl 46 (by kernel_rfl) (by simp only[nv,Nat.reduceAdd,a2,ae];rfl) ⟨_,rfl,rfl,aa⟩
      ·exact absurd a1 (by simp)
     ·intro S x a4 hF
      have g0:S 0 = .slice (some ⟨b,off,none⟩) dl dc:=hF 0 (by decide)
      have g1:S 1 = .int .i64 (d:Int):=hF 1 (by decide)
      have g2:S 2 = .int .i64 ((d:Int)+1):=hF 2 (by decide)
      have g3:S 3 = .slice (some ⟨b,off,none⟩) (d+1) dc:=hF 3 (by decide)
      have g4:S 4 = .agg #[.int .i64 y0,.int .i64 y1,.slice A2 a8 a7]:=hF 4 (by decide)
      have g5:S 5 = .slice (some ⟨b,off,none⟩) dl dc:=hF 5 (by decide)
      have g6:S 6 = .int .i64 (d:Int):=hF 6 (by decide)
      have g7:S 7 = .pointer (some ⟨b,off+d*3,none⟩):=hF 7 (by decide)
      have g8:S 8 = .pointer (some ⟨b,off+d*3+1,none⟩):=hF 8 (by decide)
      have g9:S 9 = .int .i64 vr:=hF 9 (by decide)
      have j9:(S 10) = .bool false:=hF 10 (by decide)
      have b8:S 11 = .bool true:=hF 11 (by decide)
      have b9:S 12 = .bool true:=hF 12 (by decide)
      have c0:S 13=undef:=hF 13 (by decide)
      have c1:S 14=undef:=hF 14 (by decide)
      have c2:S 15=undef:=hF 15 (by decide)
      have c3:S 16=undef:=hF 16 (by decide)
      have c4:S 17=undef:=hF 17 (by decide)
      have c5:S 18=undef:=hF 18 (by decide)
      have c6:S 19=undef:=hF 19 (by decide)
      have c7:S 20=undef:=hF 20 (by decide)
      have d7:S 21=undef:=hF 21 (by decide)
      have c8:S 22=undef:=hF 22 (by decide)
      clear hF;simp only[nv,Nat.reduceAdd,aB,aE,aC,List.drop_zero];generalize S 0=t0 at *;subst g0;generalize S 1=t1 at *;subst g1;generalize S 2=t2 at *;subst g2;generalize S 3=t3 at *;subst g3;generalize S 4=t4 at *;subst g4;generalize S 5=t5 at *;subst g5;generalize S 6=t6 at *;subst g6;generalize S 7=t7 at *;subst g7;generalize S 8=t8 at *;subst g8;generalize S 9=t9 at *;subst g9;generalize S 10=t10 at *;generalize S 11=t11 at *;subst b8;generalize S 12=t12 at *;subst b9;generalize S 13=t13 at *;subst c0;generalize S 14=t14 at *;subst c1;generalize S 15=t15 at *;subst c2;generalize S 16=t16 at *;subst c3;generalize S 17=t17 at *;subst c4;generalize S 18=t18 at *;subst c5;generalize S 19=t19 at *;subst c6;generalize S 20=t20 at *;subst c7;generalize S 21=t21 at *;subst d7;generalize S 22=t22 at *;subst c8;have d3:=hid (a6.out.trans (a4.mono a6.out.size));have d4:=hid (a9.out.trans (a4.mono a9.out.size));clear a4;go_wp2;go_ret
      exact⟨by rw[show q=false from e8.out (by rw[show(uA (dat.take (d+1)) vr 200 args[i]).isSome=false from f3.out];rfl)];rfl,d3.out⟩
    | true=>
     cases rb with
     | true=>
      refine uao (by kernel_rfl) (by kernel_rfl) [34,35,36,37,38,39,40,41,42,43,44,45,46,47,48,49,50,51,52,53,54,55,56] 40 (by kernel_rfl) (fun io v x=>match io with
       | 0=>v = .slice (some ⟨b,off,none⟩) dl dc
       | 1=>v = .int .i64 (d:Int)
       | 2=>v = .int .i64 ((d:Int)+1)
       | 3=>v = .slice (some ⟨b,off,none⟩) (d+1) dc
       | 4=>v = .agg #[.int .i64 y0,.int .i64 y1,.slice A2 a8 a7]
       | 5=>v = .slice (some ⟨b,off,none⟩) dl dc
       | 6=>v = .int .i64 (d:Int)
       | 7=>v = .pointer (some ⟨b,off+d*3,none⟩)
       | 8=>v = .pointer (some ⟨b,off+d*3+1,none⟩)
       | 9=>v = .int .i64 vr
       | 10=>v = .bool true
       | 11=>v = .bool false
       | 12=>v = .bool false
       | 13=>v = .slice (some ⟨zb,zo,none⟩) al al
       | 14=>v = .int .i64 (i:Int)
       | 15=>v = .pointer (some ⟨zb,zo+i,none⟩)
       | 16=>v = .bool true
       | 17=>v = .bool false
       | 18=>v = .bool false
       | 19=>v=undef
       | 20=>v=undef
       | 21=>v=undef
       | _=>v = .bool false) ?_ ?_ ?_
      ·intro io v x x' a1 h hb
       rcases io with _|_|_|_|_|_|_|_|_|_|_|_|_|_|_|_|_|_|_|_|_|_|io
       ·exact h
       ·exact h
       ·exact h
       ·exact h
       ·exact h
       ·exact h
       ·exact h
       ·exact h
       ·exact h
       ·exact h
       ·exact h
       ·exact h
       ·exact h
       ·exact h
       ·exact h
       ·exact h
       ·exact h
       ·exact h
       ·exact h
       ·exact h
       ·exact h
       ·exact h
       ·exact h
      ·intro io oo S x ho a1 a4 a0
       rcases io with _|_|_|_|_|_|_|_|_|_|_|_|_|_|_|_|_|_|_|_|_|_|_|io
       ·cases ho
        refine uh rfl rfl fun KK HK=>?_
        clear a0 a1;simp only[nv,Nat.reduceAdd]at HK ⊢;go_wp2;exact HK.out _ _ ⟨_,rfl,rfl,aa⟩
       ·cases ho
        refine uh rfl rfl fun KK HK=>?_
        clear a0 a1;simp only[nv,Nat.reduceAdd]at HK ⊢;go_wp2;exact HK.out _ _ ⟨_,rfl,rfl,aa⟩
       ·cases ho
        have h1:S 1 = .int .i64 (d:Int):=a0 1 (by kernel_rfl) (by decide)
        refine uh rfl rfl fun KK HK=>?_
        clear a0 a1;simp only[nv,Nat.reduceAdd]at HK ⊢;generalize S 1=t1 at *;subst h1;go_wp2;exact HK.out _ _ ⟨_,rfl,rfl,aa⟩
       ·cases ho
        have h0:S 0 = .slice (some ⟨b,off,none⟩) dl dc:=a0 0 (by kernel_rfl) (by decide)
        have h2:S 2 = .int .i64 ((d:Int)+1):=a0 2 (by kernel_rfl) (by decide)
        refine uh rfl rfl fun KK HK=>?_
        clear a0 a1;simp only[nv,Nat.reduceAdd]at HK ⊢;generalize S 0=t0 at *;subst h0;generalize S 2=t2 at *;subst h2;go_wp2;exact HK.out _ _ ⟨_,rfl,rfl,aa⟩
       ·cases ho
        have cc:=(b0.out.below a4 b0.out.lt).facts.1;refine uh rfl rfl fun KK HK=>?_
        clear a0 a1;simp only[nv,Nat.reduceAdd]at HK ⊢;go_wp2;exact HK.out _ _ ⟨_,rfl,rfl,aa⟩
       ·cases ho
        refine uh rfl rfl fun KK HK=>?_
        clear a0 a1;simp only[nv,Nat.reduceAdd]at HK ⊢;go_wp2;exact HK.out _ _ ⟨_,rfl,rfl,aa⟩
       ·cases ho
        refine uh rfl rfl fun KK HK=>?_
        clear a0 a1;simp only[nv,Nat.reduceAdd]at HK ⊢;go_wp2;exact HK.out _ _ ⟨_,rfl,rfl,aa⟩
       ·cases ho
        have h5:S 5 = .slice (some ⟨b,off,none⟩) dl dc:=a0 5 (by kernel_rfl) (by decide)
        have h6:S 6 = .int .i64 (d:Int):=a0 6 (by kernel_rfl) (by decide)
        refine uh rfl rfl fun KK HK=>?_
        clear a0 a1;simp only[nv,Nat.reduceAdd]at HK ⊢;generalize S 5=t5 at *;subst h5;generalize S 6=t6 at *;subst h6;go_wp2;exact HK.out _ _ ⟨_,rfl,rfl,aa⟩
       ·cases ho
        have h7:S 7 = .pointer (some ⟨b,off+d*3,none⟩):=a0 7 (by kernel_rfl) (by decide)
        refine uh rfl rfl fun KK HK=>?_
        clear a0 a1;simp only[nv,Nat.reduceAdd]at HK ⊢;generalize S 7=t7 at *;subst h7;go_wp2;exact HK.out _ _ ⟨_,rfl,rfl,aa⟩
       ·cases ho
        have h8:S 8 = .pointer (some ⟨b,off+d*3+1,none⟩):=a0 8 (by kernel_rfl) (by decide)
        have cc:=ux e1 (a6.out.trans (a4.mono a6.out.size)) hb;refine uh rfl rfl fun KK HK=>?_
        clear a0 a1;simp only[nv,Nat.reduceAdd]at HK ⊢;generalize S 8=t8 at *;subst h8;go_wp2;exact HK.out _ _ ⟨_,rfl,rfl,aa⟩
       ·cases ho
        have h3:S 3 = .slice (some ⟨b,off,none⟩) (d+1) dc:=a0 3 (by kernel_rfl) (by decide)
        have h4:S 4 = .agg #[.int .i64 y0,.int .i64 y1,.slice A2 a8 a7]:=a0 4 (by kernel_rfl) (by decide)
        have h9:S 9 = .int .i64 vr:=a0 9 (by kernel_rfl) (by decide)
        have b1:=hid (b4.out _ _ (a6.out.trans (a4.mono a6.out.size)) (d6.out.below a4));refine uh rfl rfl fun KK HK=>?_
        clear a0 a1;simp only[nv,Nat.reduceAdd]at HK ⊢;generalize S 3=t3 at *;subst h3;generalize S 4=t4 at *;subst h4;generalize S 9=t9 at *;subst h9;go_wp2_with fail
        refine(b1.out).mono ?_;rintro e xN⟨rfl,b3⟩;exact HK.out _ _ ⟨_,rfl,rfl,b3⟩
       ·cases ho
        have c9:(S 10) = .bool true:=a0 10 (by kernel_rfl) (by decide)
        refine uh rfl rfl fun KK HK=>?_
        clear a0 a1;simp only[nv,Nat.reduceAdd]at HK ⊢;generalize S 10=t10 at *;subst c9;go_wp2;exact HK.out _ _ ⟨_,rfl,rfl,aa⟩
       ·cases ho
        have d0:S 11 = .bool false:=a0 11 (by kernel_rfl) (by decide)
        refine uh rfl rfl fun KK HK=>?_
        clear a0 a1;simp only[nv,Nat.reduceAdd]at HK ⊢;generalize S 11=t11 at *;subst d0;go_wp2;exact HK.out _ _ ⟨_,rfl,rfl,aa⟩
       ·cases ho
        have a2:S 12 = .bool false:=a0 12 (by kernel_rfl) (by decide)
        refine uv rfl rfl 46 (by kernel_rfl) (by simp only[nv,Nat.reduceAdd,a2,ae]) fun KK a3=>?_
        have HK:=hid a3;clear a3 a0 a1;simp only[nv,Nat.reduceAdd]at HK ⊢;generalize S 12=t12 at *;subst a2;go_wp2;exact HK.out _ _ ⟨_,rfl,rfl,aa⟩
       ·cases ho
        have a2:S 12 = .bool false:=a0 12 (by kernel_rfl) (by decide)
        refine uv rfl rfl 46 (by kernel_rfl) (by simp only[nv,Nat.reduceAdd,a2,ae]) fun KK a3=>?_
        have HK:=hid a3;clear a3 a0 a1;simp only[nv,Nat.reduceAdd]at HK ⊢;generalize S 12=t12 at *;subst a2;go_wp2;exact HK.out _ _ ⟨_,rfl,rfl,aa⟩
       ·cases ho
        have a2:S 12 = .bool false:=a0 12 (by kernel_rfl) (by decide)
        have f4:S 13 = .slice (some ⟨zb,zo,none⟩) al al:=a0 13 (by kernel_rfl) (by decide)
        have f5:S 14 = .int .i64 (i:Int):=a0 14 (by kernel_rfl) (by decide)
        refine uv rfl rfl 46 (by kernel_rfl) (by simp only[nv,Nat.reduceAdd,a2,ae]) fun KK a3=>?_
        have HK:=hid a3;clear a3 a0 a1;simp only[nv,Nat.reduceAdd]at HK ⊢;generalize S 12=t12 at *;subst a2;generalize S 13=t13 at *;subst f4;generalize S 14=t14 at *;subst f5;go_wp2;exact HK.out _ _ ⟨_,rfl,rfl,aa⟩
       ·cases ho
        have a2:S 12 = .bool false:=a0 12 (by kernel_rfl) (by decide)
        have f6:S 15 = .pointer (some ⟨zb,zo+i,none⟩):=a0 15 (by kernel_rfl) (by decide)
        have cc:=ux b6 (a9.out.trans (a4.mono a9.out.size)) k8;refine uv rfl rfl 46 (by kernel_rfl) (by simp only[nv,Nat.reduceAdd,a2,ae]) fun KK a3=>?_
        have HK:=hid a3;clear a3 a0 a1;simp only[nv,Nat.reduceAdd]at HK ⊢;generalize S 12=t12 at *;subst a2;generalize S 15=t15 at *;subst f6;go_wp2;exact HK.out _ _ ⟨_,rfl,rfl,aa⟩
       ·cases ho
        have a2:S 12 = .bool false:=a0 12 (by kernel_rfl) (by decide)
        have f7:S 16 = .bool true:=a0 16 (by kernel_rfl) (by decide)
        refine uv rfl rfl 46 (by kernel_rfl) (by simp only[nv,Nat.reduceAdd,a2,ae]) fun KK a3=>?_
        have HK:=hid a3;clear a3 a0 a1;simp only[nv,Nat.reduceAdd]at HK ⊢;generalize S 12=t12 at *;subst a2;generalize S 16=t16 at *;subst f7;go_wp2;exact HK.out _ _ ⟨_,rfl,rfl,aa⟩
       ·cases ho
        have a2:S 12 = .bool false:=a0 12 (by kernel_rfl) (by decide)
        have f8:S 17 = .bool false:=a0 17 (by kernel_rfl) (by decide)
        refine uv rfl rfl 46 (by kernel_rfl) (by simp only[nv,Nat.reduceAdd,a2,ae]) fun KK a3=>?_
        have HK:=hid a3;clear a3 a0 a1;simp only[nv,Nat.reduceAdd]at HK ⊢;generalize S 12=t12 at *;subst a2;generalize S 17=t17 at *;subst f8;go_wp2;exact HK.out _ _ ⟨_,rfl,rfl,aa⟩
       ·cases ho
        have a5:S 18 = .bool false:=a0 18 (by kernel_rfl) (by decide)
        exact ui rfl rfl 52 (by kernel_rfl) (by simp only[nv,Nat.reduceAdd,a5,ae];rfl) ⟨_,rfl,rfl,aa⟩
       ·cases ho
        have a5:S 18 = .bool false:=a0 18 (by kernel_rfl) (by decide)
        exact ui rfl rfl 52 (by kernel_rfl) (by simp only[nv,Nat.reduceAdd,a5,ae];rfl) ⟨_,rfl,rfl,aa⟩
       ·cases ho
        have a5:S 18 = .bool false:=a0 18 (by kernel_rfl) (by decide)
        exact ui rfl rfl 52 (by kernel_rfl) (by simp only[nv,Nat.reduceAdd,a5,ae];rfl) ⟨_,rfl,rfl,aa⟩
       ·cases ho
        have a2:S 12 = .bool false:=a0 12 (by kernel_rfl) (by decide)
        have a5:S 18 = .bool false:=a0 18 (by kernel_rfl) (by decide)
        have f9:S 21=undef:=a0 21 (by kernel_rfl) (by decide)
        refine uv rfl rfl 46 (by kernel_rfl) (by simp only[nv,Nat.reduceAdd,a2,ae]) fun KK a3=>?_
        have HK:=hid a3;clear a3 a0 a1;simp only[nv,Nat.reduceAdd]at HK ⊢;generalize S 12=t12 at *;subst a2;generalize S 18=t18 at *;subst a5;generalize S 21=t21 at *;subst f9;go_wp2;exact HK.out _ _ ⟨_,rfl,rfl,aa⟩
       ·exact absurd a1 (by simp)
      ·intro S x a4 hF
       have g0:S 0 = .slice (some ⟨b,off,none⟩) dl dc:=hF 0 (by decide)
       have g1:S 1 = .int .i64 (d:Int):=hF 1 (by decide)
       have g2:S 2 = .int .i64 ((d:Int)+1):=hF 2 (by decide)
       have g3:S 3 = .slice (some ⟨b,off,none⟩) (d+1) dc:=hF 3 (by decide)
       have g4:S 4 = .agg #[.int .i64 y0,.int .i64 y1,.slice A2 a8 a7]:=hF 4 (by decide)
       have g5:S 5 = .slice (some ⟨b,off,none⟩) dl dc:=hF 5 (by decide)
       have g6:S 6 = .int .i64 (d:Int):=hF 6 (by decide)
       have g7:S 7 = .pointer (some ⟨b,off+d*3,none⟩):=hF 7 (by decide)
       have g8:S 8 = .pointer (some ⟨b,off+d*3+1,none⟩):=hF 8 (by decide)
       have g9:S 9 = .int .i64 vr:=hF 9 (by decide)
       have j9:(S 10) = .bool true:=hF 10 (by decide)
       have b8:S 11 = .bool false:=hF 11 (by decide)
       have b9:S 12 = .bool false:=hF 12 (by decide)
       have c0:S 13 = .slice (some ⟨zb,zo,none⟩) al al:=hF 13 (by decide)
       have c1:S 14 = .int .i64 (i:Int):=hF 14 (by decide)
       have c2:S 15 = .pointer (some ⟨zb,zo+i,none⟩):=hF 15 (by decide)
       have c3:S 16 = .bool true:=hF 16 (by decide)
       have c4:S 17 = .bool false:=hF 17 (by decide)
       have c5:S 18 = .bool false:=hF 18 (by decide)
       have c6:S 19=undef:=hF 19 (by decide)
       have c7:S 20=undef:=hF 20 (by decide)
       have d7:S 21=undef:=hF 21 (by decide)
       have c8:S 22 = .bool false:=hF 22 (by decide)
       clear hF;simp only[nv,Nat.reduceAdd,aB,aE,aC,List.drop_zero];generalize S 0=t0 at *;subst g0;generalize S 1=t1 at *;subst g1;generalize S 2=t2 at *;subst g2;generalize S 3=t3 at *;subst g3;generalize S 4=t4 at *;subst g4;generalize S 5=t5 at *;subst g5;generalize S 6=t6 at *;subst g6;generalize S 7=t7 at *;subst g7;generalize S 8=t8 at *;subst g8;generalize S 9=t9 at *;subst g9;generalize S 10=t10 at *;generalize S 11=t11 at *;subst b8;generalize S 12=t12 at *;subst b9;generalize S 13=t13 at *;subst c0;generalize S 14=t14 at *;subst c1;generalize S 15=t15 at *;subst c2;generalize S 16=t16 at *;subst c3;generalize S 17=t17 at *;subst c4;generalize S 18=t18 at *;subst c5;generalize S 19=t19 at *;subst c6;generalize S 20=t20 at *;subst c7;generalize S 21=t21 at *;subst d7;generalize S 22=t22 at *;subst c8;have d3:=hid (a6.out.trans (a4.mono a6.out.size));have d4:=hid (a9.out.trans (a4.mono a9.out.size));clear a4;go_wp2;go_roundw
       case rel=>exact⟨i+1,by omega,by go_num,e9.out (by rw[show(uA (dat.take (d+1)) vr 200 args[i]).isSome=true from f3.out,show uqv d vr args[i]=true from j8.out];rfl),d4⟩
       case measure=>simp[intOf];omega
     | false=>
      refine uao (by kernel_rfl) (by kernel_rfl) [34,35,36,37,38,39,40,41,42,43,44,45,46,47,48,49,50,51,52,53,54,55,56] 40 (by kernel_rfl) (fun io v x=>match io with
       | 0=>v = .slice (some ⟨b,off,none⟩) dl dc
       | 1=>v = .int .i64 (d:Int)
       | 2=>v = .int .i64 ((d:Int)+1)
       | 3=>v = .slice (some ⟨b,off,none⟩) (d+1) dc
       | 4=>v = .agg #[.int .i64 y0,.int .i64 y1,.slice A2 a8 a7]
       | 5=>v = .slice (some ⟨b,off,none⟩) dl dc
       | 6=>v = .int .i64 (d:Int)
       | 7=>v = .pointer (some ⟨b,off+d*3,none⟩)
       | 8=>v = .pointer (some ⟨b,off+d*3+1,none⟩)
       | 9=>v = .int .i64 vr
       | 10=>v = .bool true
       | 11=>v = .bool false
       | 12=>v = .bool false
       | 13=>v = .slice (some ⟨zb,zo,none⟩) al al
       | 14=>v = .int .i64 (i:Int)
       | 15=>v = .pointer (some ⟨zb,zo+i,none⟩)
       | 16=>v = .bool false
       | 17=>v = .bool true
       | 18=>v = .bool true
       | 19=>v = .agg #[.int .i64 y0,.int .i64 y1,.slice A2 a8 a7]
       | 20=>v = .int .i64 (d:Int)
       | 21=>v = .bool mb
       | _=>v = .bool mb) ?_ ?_ ?_
      ·intro io v x x' a1 h hb
       rcases io with _|_|_|_|_|_|_|_|_|_|_|_|_|_|_|_|_|_|_|_|_|_|io
       ·exact h
       ·exact h
       ·exact h
       ·exact h
       ·exact h
       ·exact h
       ·exact h
       ·exact h
       ·exact h
       ·exact h
       ·exact h
       ·exact h
       ·exact h
       ·exact h
       ·exact h
       ·exact h
       ·exact h
       ·exact h
       ·exact h
       ·exact h
       ·exact h
       ·exact h
       ·exact h
      ·intro io oo S x ho a1 a4 a0
       rcases io with _|_|_|_|_|_|_|_|_|_|_|_|_|_|_|_|_|_|_|_|_|_|_|io
       ·cases ho
        refine uh rfl rfl fun KK HK=>?_
        clear a0 a1;simp only[nv,Nat.reduceAdd]at HK ⊢;go_wp2;exact HK.out _ _ ⟨_,rfl,rfl,aa⟩
       ·cases ho
        refine uh rfl rfl fun KK HK=>?_
        clear a0 a1;simp only[nv,Nat.reduceAdd]at HK ⊢;go_wp2;exact HK.out _ _ ⟨_,rfl,rfl,aa⟩
       ·cases ho
        have h1:S 1 = .int .i64 (d:Int):=a0 1 (by kernel_rfl) (by decide)
        refine uh rfl rfl fun KK HK=>?_
        clear a0 a1;simp only[nv,Nat.reduceAdd]at HK ⊢;generalize S 1=t1 at *;subst h1;go_wp2;exact HK.out _ _ ⟨_,rfl,rfl,aa⟩
       ·cases ho
        have h0:S 0 = .slice (some ⟨b,off,none⟩) dl dc:=a0 0 (by kernel_rfl) (by decide)
        have h2:S 2 = .int .i64 ((d:Int)+1):=a0 2 (by kernel_rfl) (by decide)
        refine uh rfl rfl fun KK HK=>?_
        clear a0 a1;simp only[nv,Nat.reduceAdd]at HK ⊢;generalize S 0=t0 at *;subst h0;generalize S 2=t2 at *;subst h2;go_wp2;exact HK.out _ _ ⟨_,rfl,rfl,aa⟩
       ·cases ho
        have cc:=(b0.out.below a4 b0.out.lt).facts.1;refine uh rfl rfl fun KK HK=>?_
        clear a0 a1;simp only[nv,Nat.reduceAdd]at HK ⊢;go_wp2;exact HK.out _ _ ⟨_,rfl,rfl,aa⟩
       ·cases ho
        refine uh rfl rfl fun KK HK=>?_
        clear a0 a1;simp only[nv,Nat.reduceAdd]at HK ⊢;go_wp2;exact HK.out _ _ ⟨_,rfl,rfl,aa⟩
       ·cases ho
        refine uh rfl rfl fun KK HK=>?_
        clear a0 a1;simp only[nv,Nat.reduceAdd]at HK ⊢;go_wp2;exact HK.out _ _ ⟨_,rfl,rfl,aa⟩
       ·cases ho
        have h5:S 5 = .slice (some ⟨b,off,none⟩) dl dc:=a0 5 (by kernel_rfl) (by decide)
        have h6:S 6 = .int .i64 (d:Int):=a0 6 (by kernel_rfl) (by decide)
        refine uh rfl rfl fun KK HK=>?_
        clear a0 a1;simp only[nv,Nat.reduceAdd]at HK ⊢;generalize S 5=t5 at *;subst h5;generalize S 6=t6 at *;subst h6;go_wp2;exact HK.out _ _ ⟨_,rfl,rfl,aa⟩
       ·cases ho
        have h7:S 7 = .pointer (some ⟨b,off+d*3,none⟩):=a0 7 (by kernel_rfl) (by decide)
        refine uh rfl rfl fun KK HK=>?_
        clear a0 a1;simp only[nv,Nat.reduceAdd]at HK ⊢;generalize S 7=t7 at *;subst h7;go_wp2;exact HK.out _ _ ⟨_,rfl,rfl,aa⟩
       ·cases ho
        have h8:S 8 = .pointer (some ⟨b,off+d*3+1,none⟩):=a0 8 (by kernel_rfl) (by decide)
        have cc:=ux e1 (a6.out.trans (a4.mono a6.out.size)) hb;refine uh rfl rfl fun KK HK=>?_
        clear a0 a1;simp only[nv,Nat.reduceAdd]at HK ⊢;generalize S 8=t8 at *;subst h8;go_wp2;exact HK.out _ _ ⟨_,rfl,rfl,aa⟩
       ·cases ho
        have h3:S 3 = .slice (some ⟨b,off,none⟩) (d+1) dc:=a0 3 (by kernel_rfl) (by decide)
        have h4:S 4 = .agg #[.int .i64 y0,.int .i64 y1,.slice A2 a8 a7]:=a0 4 (by kernel_rfl) (by decide)
        have h9:S 9 = .int .i64 vr:=a0 9 (by kernel_rfl) (by decide)
        have b1:=hid (b4.out _ _ (a6.out.trans (a4.mono a6.out.size)) (d6.out.below a4));refine uh rfl rfl fun KK HK=>?_
        clear a0 a1;simp only[nv,Nat.reduceAdd]at HK ⊢;generalize S 3=t3 at *;subst h3;generalize S 4=t4 at *;subst h4;generalize S 9=t9 at *;subst h9;go_wp2_with fail
        refine(b1.out).mono ?_;rintro e xN⟨rfl,b3⟩;exact HK.out _ _ ⟨_,rfl,rfl,b3⟩
       ·cases ho
        have c9:(S 10) = .bool true:=a0 10 (by kernel_rfl) (by decide)
        refine uh rfl rfl fun KK HK=>?_
        clear a0 a1;simp only[nv,Nat.reduceAdd]at HK ⊢;generalize S 10=t10 at *;subst c9;go_wp2;exact HK.out _ _ ⟨_,rfl,rfl,aa⟩
       ·cases ho
        have d0:S 11 = .bool false:=a0 11 (by kernel_rfl) (by decide)
        refine uh rfl rfl fun KK HK=>?_
        clear a0 a1;simp only[nv,Nat.reduceAdd]at HK ⊢;generalize S 11=t11 at *;subst d0;go_wp2;exact HK.out _ _ ⟨_,rfl,rfl,aa⟩
       ·cases ho
        have a2:S 12 = .bool false:=a0 12 (by kernel_rfl) (by decide)
        refine uv rfl rfl 46 (by kernel_rfl) (by simp only[nv,Nat.reduceAdd,a2,ae]) fun KK a3=>?_
        have HK:=hid a3;clear a3 a0 a1;simp only[nv,Nat.reduceAdd]at HK ⊢;generalize S 12=t12 at *;subst a2;go_wp2;exact HK.out _ _ ⟨_,rfl,rfl,aa⟩
       ·cases ho
        have a2:S 12 = .bool false:=a0 12 (by kernel_rfl) (by decide)
        refine uv rfl rfl 46 (by kernel_rfl) (by simp only[nv,Nat.reduceAdd,a2,ae]) fun KK a3=>?_
        have HK:=hid a3;clear a3 a0 a1;simp only[nv,Nat.reduceAdd]at HK ⊢;generalize S 12=t12 at *;subst a2;go_wp2;exact HK.out _ _ ⟨_,rfl,rfl,aa⟩
       ·cases ho
        have a2:S 12 = .bool false:=a0 12 (by kernel_rfl) (by decide)
        have f4:S 13 = .slice (some ⟨zb,zo,none⟩) al al:=a0 13 (by kernel_rfl) (by decide)
        have f5:S 14 = .int .i64 (i:Int):=a0 14 (by kernel_rfl) (by decide)
        refine uv rfl rfl 46 (by kernel_rfl) (by simp only[nv,Nat.reduceAdd,a2,ae]) fun KK a3=>?_
        have HK:=hid a3;clear a3 a0 a1;simp only[nv,Nat.reduceAdd]at HK ⊢;generalize S 12=t12 at *;subst a2;generalize S 13=t13 at *;subst f4;generalize S 14=t14 at *;subst f5;go_wp2;exact HK.out _ _ ⟨_,rfl,rfl,aa⟩
       ·cases ho
        have a2:S 12 = .bool false:=a0 12 (by kernel_rfl) (by decide)
        have f6:S 15 = .pointer (some ⟨zb,zo+i,none⟩):=a0 15 (by kernel_rfl) (by decide)
        have cc:=ux b6 (a9.out.trans (a4.mono a9.out.size)) k8;refine uv rfl rfl 46 (by kernel_rfl) (by simp only[nv,Nat.reduceAdd,a2,ae]) fun KK a3=>?_
        have HK:=hid a3;clear a3 a0 a1;simp only[nv,Nat.reduceAdd]at HK ⊢;generalize S 12=t12 at *;subst a2;generalize S 15=t15 at *;subst f6;go_wp2;exact HK.out _ _ ⟨_,rfl,rfl,aa⟩
       ·cases ho
        have a2:S 12 = .bool false:=a0 12 (by kernel_rfl) (by decide)
        have f7:S 16 = .bool false:=a0 16 (by kernel_rfl) (by decide)
        refine uv rfl rfl 46 (by kernel_rfl) (by simp only[nv,Nat.reduceAdd,a2,ae]) fun KK a3=>?_
        have HK:=hid a3;clear a3 a0 a1;simp only[nv,Nat.reduceAdd]at HK ⊢;generalize S 12=t12 at *;subst a2;generalize S 16=t16 at *;subst f7;go_wp2;exact HK.out _ _ ⟨_,rfl,rfl,aa⟩
       ·cases ho
        have a2:S 12 = .bool false:=a0 12 (by kernel_rfl) (by decide)
        have f8:S 17 = .bool true:=a0 17 (by kernel_rfl) (by decide)
        refine uv rfl rfl 46 (by kernel_rfl) (by simp only[nv,Nat.reduceAdd,a2,ae]) fun KK a3=>?_
        have HK:=hid a3;clear a3 a0 a1;simp only[nv,Nat.reduceAdd]at HK ⊢;generalize S 12=t12 at *;subst a2;generalize S 17=t17 at *;subst f8;go_wp2;exact HK.out _ _ ⟨_,rfl,rfl,aa⟩
       ·cases ho
        have a5:S 18 = .bool true:=a0 18 (by kernel_rfl) (by decide)
        have cc:=(b0.out.below a4 b0.out.lt).facts.1;refine uv rfl rfl 52 (by kernel_rfl) (by simp only[nv,Nat.reduceAdd,a5,ae]) fun KK a3=>?_
        have HK:=hid a3;clear a3 a0 a1;simp only[nv,Nat.reduceAdd]at HK ⊢;generalize S 18=t18 at *;subst a5;go_wp2;exact HK.out _ _ ⟨_,rfl,rfl,aa⟩
       ·cases ho
        have a5:S 18 = .bool true:=a0 18 (by kernel_rfl) (by decide)
        refine uv rfl rfl 52 (by kernel_rfl) (by simp only[nv,Nat.reduceAdd,a5,ae]) fun KK a3=>?_
        have HK:=hid a3;clear a3 a0 a1;simp only[nv,Nat.reduceAdd]at HK ⊢;generalize S 18=t18 at *;subst a5;go_wp2;exact HK.out _ _ ⟨_,rfl,rfl,aa⟩
       ·cases ho
        have a5:S 18 = .bool true:=a0 18 (by kernel_rfl) (by decide)
        have l6:S 19 = .agg #[.int .i64 y0,.int .i64 y1,.slice A2 a8 a7]:=a0 19 (by kernel_rfl) (by decide)
        have l7:S 20 = .int .i64 (d:Int):=a0 20 (by kernel_rfl) (by decide)
        have b1:=hid (j6.out _ _ (d6.out.below a4));refine uv rfl rfl 52 (by kernel_rfl) (by simp only[nv,Nat.reduceAdd,a5,ae]) fun KK a3=>?_
        have HK:=hid a3;clear a3 a0 a1;simp only[nv,Nat.reduceAdd]at HK ⊢;generalize S 18=t18 at *;subst a5;generalize S 19=t19 at *;subst l6;generalize S 20=t20 at *;subst l7;go_wp2_with fail
        refine(b1.out).mono ?_;rintro e xN⟨rfl,b3⟩;exact HK.out _ _ ⟨_,rfl,rfl,b3⟩
       ·cases ho
        have a2:S 12 = .bool false:=a0 12 (by kernel_rfl) (by decide)
        have a5:S 18 = .bool true:=a0 18 (by kernel_rfl) (by decide)
        have f9:(S 21) = .bool mb:=a0 21 (by kernel_rfl) (by decide)
        refine uv rfl rfl 46 (by kernel_rfl) (by simp only[nv,Nat.reduceAdd,a2,ae]) fun KK a3=>?_
        have HK:=hid a3;clear a3 a0 a1;simp only[nv,Nat.reduceAdd]at HK ⊢;generalize S 12=t12 at *;subst a2;generalize S 18=t18 at *;subst a5;generalize S 21=t21 at *;subst f9;go_wp2;exact HK.out _ _ ⟨_,rfl,rfl,aa⟩
       ·exact absurd a1 (by simp)
      ·intro S x a4 hF
       have g0:S 0 = .slice (some ⟨b,off,none⟩) dl dc:=hF 0 (by decide)
       have g1:S 1 = .int .i64 (d:Int):=hF 1 (by decide)
       have g2:S 2 = .int .i64 ((d:Int)+1):=hF 2 (by decide)
       have g3:S 3 = .slice (some ⟨b,off,none⟩) (d+1) dc:=hF 3 (by decide)
       have g4:S 4 = .agg #[.int .i64 y0,.int .i64 y1,.slice A2 a8 a7]:=hF 4 (by decide)
       have g5:S 5 = .slice (some ⟨b,off,none⟩) dl dc:=hF 5 (by decide)
       have g6:S 6 = .int .i64 (d:Int):=hF 6 (by decide)
       have g7:S 7 = .pointer (some ⟨b,off+d*3,none⟩):=hF 7 (by decide)
       have g8:S 8 = .pointer (some ⟨b,off+d*3+1,none⟩):=hF 8 (by decide)
       have g9:S 9 = .int .i64 vr:=hF 9 (by decide)
       have j9:(S 10) = .bool true:=hF 10 (by decide)
       have b8:S 11 = .bool false:=hF 11 (by decide)
       have b9:S 12 = .bool false:=hF 12 (by decide)
       have c0:S 13 = .slice (some ⟨zb,zo,none⟩) al al:=hF 13 (by decide)
       have c1:S 14 = .int .i64 (i:Int):=hF 14 (by decide)
       have c2:S 15 = .pointer (some ⟨zb,zo+i,none⟩):=hF 15 (by decide)
       have c3:S 16 = .bool false:=hF 16 (by decide)
       have c4:S 17 = .bool true:=hF 17 (by decide)
       have c5:S 18 = .bool true:=hF 18 (by decide)
       have c6:S 19 = .agg #[.int .i64 y0,.int .i64 y1,.slice A2 a8 a7]:=hF 19 (by decide)
       have c7:S 20 = .int .i64 (d:Int):=hF 20 (by decide)
       have d7:(S 21) = .bool mb:=hF 21 (by decide)
       have c8:S 22 = .bool mb:=hF 22 (by decide)
       clear hF;simp only[nv,Nat.reduceAdd,aB,aE,aC,List.drop_zero];generalize S 0=t0 at *;subst g0;generalize S 1=t1 at *;subst g1;generalize S 2=t2 at *;subst g2;generalize S 3=t3 at *;subst g3;generalize S 4=t4 at *;subst g4;generalize S 5=t5 at *;subst g5;generalize S 6=t6 at *;subst g6;generalize S 7=t7 at *;subst g7;generalize S 8=t8 at *;subst g8;generalize S 9=t9 at *;subst g9;generalize S 10=t10 at *;generalize S 11=t11 at *;subst b8;generalize S 12=t12 at *;subst b9;generalize S 13=t13 at *;subst c0;generalize S 14=t14 at *;subst c1;generalize S 15=t15 at *;subst c2;generalize S 16=t16 at *;subst c3;generalize S 17=t17 at *;subst c4;generalize S 18=t18 at *;subst c5;generalize S 19=t19 at *;subst c6;generalize S 20=t20 at *;subst c7;generalize S 21=t21 at *;generalize S 22=t22 at *;subst c8;have d3:=hid (a6.out.trans (a4.mono a6.out.size));have d4:=hid (a9.out.trans (a4.mono a9.out.size));clear a4;cases mb with
       | true=>
        go_wp2;go_ret
        exact⟨by rw[show q=false from e8.out (by rw[show uqv d vr args[i]=false from j8.out,show upm d args[i]=true from j5.out];simp)];rfl,d3.out⟩
       | false=>
        go_wp2;go_roundw
        case rel=>exact⟨i+1,by omega,by go_num,e9.out (by rw[show(uA (dat.take (d+1)) vr 200 args[i]).isSome=true from f3.out,show upm d args[i]=false from j5.out];simp),d4⟩
        case measure=>simp[intOf];omega
   ·obtain rfl:i=al:=by omega
    have k4:q=true:=by rw[j7.out,<-show(args.take i).all (ugm dat d vr)=args.all (ugm dat d vr) from by rw[b7.out,List.take_length]];exact HL.out
    have l2:=hid k4;clear k4;go_wp2;go_ret
    exact⟨by rw[show q=true from l2.out];rfl,d5.out⟩
 ·have l8:(6:Int)<(al:Int):=by omega
  have k3:q=false:=by
   rw[<-HQ.out,uee,aQ (by have:=b7.out;omega),Bool.false_and]
  have l1:=hid k3;clear k3 hD f2;go_wp2;go_ret
  exact⟨by rw[show q=false from l1.out];rfl,aa⟩
end Go.Proofs.YtnbbpmagijpmpaaGreatDoor
