/-
  The law's sanity check: it returns true.
-/
import Derived.Test.YtnbbpmagijpmpaaGreatDoorMYs
import Derived.Test.YtnbbpmagijpmpaaGreatDoorMYt
import Derived.Test.YtnbbpmagijpmpaaGreatDoorMDv
set_option linter.unusedVariables false
set_option linter.unusedSimpArgs false
namespace Go.Proofs.YtnbbpmagijpmpaaGreatDoor
open Go.Lib (hid)
open Go.RowKit AC
theorem uJe:Ev.uyx Tryz.prog uJd:=by
 refine⟨fun f fn h=>?_,fun f E h=>by cases h⟩
 obtain⟨hf,e⟩:=au.1 h;have:=Array.all_eq_true.1 uCa f hf;rw[e]at this;simpa using this
theorem uys(w:World):Calls Tryz.prog 4 #[] w (fun e w'=>e = .returned (.bool true)/\Below w.heap.size w w'):=by
 refine(Ev.uE5 uJe (by kernel_rfl) uyr ab w fun g o h=>?_).mono ?_
 ·cases h
 ·rintro e w' ⟨v,v',m',φ',hK,rfl,hv,h1,h2,h3,h4,h5⟩
  have a0:v = .bool true:=by
   cases v with
   | bool b=>cases b with
    | true=>rfl
    | false=>cases hK
   | _=>cases hK
  subst a0;exact⟨by rw[hv.vAt],h1,h2,h3,h4,h5⟩
set_option maxHeartbeats 16000000
set_option maxRecDepth 100000
theorem uqr{X:Ctx}(lower:Bool)(l:List (List Ter×List Ter))(xv:List Value)(A:Option Addr)(n c:Nat)(w:World)(hx:uok w (· < w.heap.size) X xv)(hl:umo w (· < w.heap.size) l A n c)(hg:Gp w) :
 Calls Tryz.prog 3 #[.agg xv.toArray,.slice A n c,.bool lower] w (uY (.bool true) w):=by
 have hn:n=l.length:=hl.1;have j6:=hl.2.1;have g7:c<=maxLen:=hl.2.2.1;unfold maxLen at g7;have KC:Hid (∀(x:World),Below w.heap.size w x->(∀b∈l,uz b.1/\uz b.2)->Calls Tryz.prog 7 #[.agg xv.toArray,.slice A n c,.bool lower] x (uyg X lower l x)):=fun x hb hs=>
  uul lower l xv A n c x ((hx.vAb (uc.of hb)).sub fun b a1 _=>a1) ((umo.vAb (uc.of hb) hl).sub fun b a1 _=>a1) hs (hg.below hb hg.2)
 have KA:Hid (∀(x:World) (p q:List Ter) (P:Option Addr) (p1 p2:Nat) (Q:Option Addr) (q1 q2:Nat),Below w.heap.size w x->uB x (fun _=>True) p P p1 p2->uB x (fun _=>True) q Q q1 q2->uz p->uz q->X.okP->X.vAl p->X.vAl q->Dom (p.map trm) (q.map trm)->Calls Tryz.prog 8 #[.agg xv.toArray,.slice P p1 p2,.slice Q q1 q2] x (uY (.bool true) x)):=fun x p q P p1 p2 Q q1 q2 hb hp hq h1 h2 h3 h4 h5 h6=>
  uqq p q xv P p1 p2 Q q1 q2 x ((hx.vAb (uc.of hb)).sub fun b a1 _=>a1) (hp.sub fun b a1 _=>a1) (hq.sub fun b a1 _=>a1) h1 h2 (hg.below hb hg.2) h3 h4 h5 h6
 obtain⟨dA,dn,dc,vA,vn,vc,rk,rm,rA,rn,rc,rfl,hd,hv,hr⟩:=hx;have g8:dn<=9223372036854775807:=by have h1:=hd.2.1;have h2:dc<=maxLen:=hd.2.2.1;unfold maxLen at h2;omega
 have h9:vn<=9223372036854775807:=by have h1:=hv.2.1;have h2:vc<=maxLen:=hv.2.2.1;unfold maxLen at h2;omega
 have HL:=hid hl;have HN:=hid hn;clear hl hg hn hd hv hr;show Calls Tryz.prog 3 #[.agg #[.slice dA dn dc,.slice vA vn vc,.int .i64 rk,.int .i64 rm,.slice rA rn rc],.slice A n c,.bool lower] w _
 go_enter Tryz.func3,Tryz.ntmps3
 go_upto_region 1 with(fail)
 obtain⟨W,hW⟩:∃W,W=w.alloc (.cells #[.slice dA dn dc,.slice vA vn vc,.int .i64 rk,.int .i64 rm,.slice rA rn rc] 27):=⟨_,rfl⟩;have e4:Hid (Below w.heap.size w W):=by rw[hW];exact aa.alloc ab _
 have HX:Hid (Bk W w.heap.size 27 #[.slice dA dn dc,.slice vA vn vc,.int .i64 rk,.int .i64 rm,.slice rA rn rc]):=by rw[hW];exact Bk.new _ _ _
 rw[<-hW];clear hW;go_wp2_with fail
 refine(uys W).mono ?_;rintro e w1⟨rfl,hb⟩;have d3:=hid (e4.out.trans (hb.mono e4.out.size));have b9:=hid (HX.out.below hb HX.out.lt);clear hb;obtain⟨j0,_,_⟩:=b9.out.facts;go_wp2_with fail
 refine(uoy dA dn dc vA vn vc rk rm rA rn rc w1 g8 h9).mono ?_;rintro e w2⟨r,rfl,hb,_⟩;have b7:=hid (d3.out.trans (hb.mono d3.out.size));have g6:=hid (b9.out.below hb b9.out.lt);clear hb j0;cases r with
 | false=>
  go_wp2;go_ret
  exact⟨rfl,b7.out⟩
 | true=>
  by_cases j5:n>4
  ·go_wp2
   go_ret
   exact⟨rfl,b7.out⟩
  go_wp2;go_loopw [24] (fun iv wr=>∃(i:Nat),i<=n/\iv = .int .i64 i/\Hid (∀(k:Nat) (h:k<l.length),k<i->uz l[k].1/\uz l[k].2)/\Hid (Below w.heap.size w wr)/\Hid (Bk wr w.heap.size 27 #[.slice dA dn dc,.slice vA vn vc,.int .i64 rk,.int .i64 rm,.slice rA rn rc])) (fun iv _=>n-(intOf iv).toNat)
  case atStart=>exact⟨0,by omega,rfl,hid (fun k _ h=>absurd h (by omega)),b7,g6⟩
  case round=>
   obtain⟨i,hi,rfl,HI,HB,a9⟩:=hrel;by_cases h8:i<n
   ·have h7:i<l.length:=by have:=HN.out;omega
    have hS:umo wr (· < w.heap.size) l A n c:=umo.vAb (uc.of HB.out) HL.out
    obtain⟨b,off,v,rfl,hD,hb,hc,hr⟩:=hS.get h7;have KS:=hid (uuq l[i] v wr hr);obtain⟨A1,n1,c1,A2,n2,c2,rfl,_,_⟩:=hr;have d0:=hc 0 _ rfl;rw[Nat.add_zero]at d0;have d1:=hc 1 _ rfl;have g0:Hid (uz l[i].1/\uz l[i].2->∀(k:Nat) (h:k<l.length),k<i+1->uz l[k].1/\uz l[k].2):=fun h k hk j4=>by
     rcases ah k i with h5|h5
     ·exact HI.out k hk h5
     ·obtain rfl:k=i:=by omega
      exact h
    clear hc hD hS;generalize l[i]=bi at *;go_wp2_with fail
    refine KS.out.mono ?_;rintro e w3⟨r,rfl,a4,hr⟩;have a2:=hid (HB.out.trans (a4.mono HB.out.size));have b5:=hid (a9.out.below a4 a9.out.lt);have HR:=hid hr;clear a4 hr d0 d1 KS;cases r with
    | false=>
     go_wp2;go_ret
     exact⟨rfl,a2.out⟩
    | true=>
     have g1:=hid (g0.out (HR.out (by first|rfl|trivial)))
     go_wp2;go_roundw
     case rel=>exact⟨i+1,by omega,by go_num,g1,a2,b5⟩
     case measure=>simp[intOf];omega
   ·obtain rfl:i=n:=by omega
    have d7:Hid (∀b∈l,uz b.1/\uz b.2):=fun b hb=>by
     obtain⟨k,hk,rfl⟩:=aW hb;exact HI.out k hk (by have:=HN.out;omega)
    obtain⟨j1,_,_⟩:=a9.out.facts;go_wp2_with fail
    refine(KC.out wr HB.out d7.out).mono ?_;rintro e w3⟨P1,p1,p2,P2,p3,p4,er,rfl,a4,e7⟩;have a2:=hid (HB.out.trans (a4.mono HB.out.size));have b5:=hid (a9.out.below a4 a9.out.lt);have d4:=hid e7;clear a4 e7 j1;by_cases g9:er=0
    ·subst g9
     obtain⟨h0,r1,r2,e8,e5,e6,e9,f0,e3,f1,f2⟩:=d4.out rfl;have g2:=hid (And.intro e8 (And.intro e5 (And.intro e6 (And.intro e9 f0))));have f8:=hid e3;have d8:=hid f1;have d9:=hid f2;have j2:0<i:=by have:=HN.out;omega
     clear e8 e5 e6 e9 f0 e3 f1 f2 d4 h0;go_upto_region 12 with(fail)
     obtain⟨C,hC⟩:∃C,C=w3.alloc (.cells #[.slice P1 p1 p2,.slice P2 p3 p4] 34):=⟨_,rfl⟩;have b2:Below w3.heap.size w3 C:=by rw[hC];exact aa.alloc ab _
     have HY:Hid (Bk C w3.heap.size 34 #[.slice P1 p1 p2,.slice P2 p3 p4]):=by rw[hC];exact Bk.new _ _ _
     have a6:=hid (a2.out.trans (b2.mono a2.out.size));have e0:=hid (b5.out.below b2 b5.out.lt);have g4:Hid (uB C (fun _=>True) r1 P1 p1 p2):=(uB.vAb (uc.of b2) d8.out).sub fun _ _ _=>trivial
     have g5:Hid (uB C (fun _=>True) r2 P2 p3 p4):=(uB.vAb (uc.of b2) d9.out).sub fun _ _ _=>trivial
     have j7:w.heap.size<=w3.heap.size:=a2.out.size;rw[<-hC];clear hC b2 d8 d9;generalize w3.heap.size=yb at *;go_wp2;go_loopw [45] (fun jv wr=>∃(j:Nat),j<=i/\jv = .int .i64 j/\Hid (Below C.heap.size C wr)) (fun jv _=>i-(intOf jv).toNat)
     case atStart=>exact⟨0,by omega,rfl,hid aa⟩
     case round=>
      obtain⟨j,hj,rfl,b4⟩:=hrel;by_cases h8:j<i
      ·have c5:j<l.length:=by have:=HN.out;omega
       have f9:=hid (a6.out.trans (b4.out.mono a6.out.size));have hS:umo wr (· < w.heap.size) l A i c:=umo.vAb (uc.of f9.out) HL.out
       obtain⟨b,off,v,rfl,hD,hb,hc,hr⟩:=hS.get c5;obtain⟨A1,n1,c1,A2,n2,c2,rfl,e1,e2⟩:=hr;have d0:=hc 0 _ rfl;rw[Nat.add_zero]at d0;have d1:=hc 1 _ rfl;have HA:=hid (f8.out l[j] (aq c5));have g3:=hid (d7.out l[j] (aq c5));have f6:Hid (uB wr (fun _=>True) l[j].1 A1 n1 c1):=e1.sub fun _ _ _=>trivial
       have f7:Hid (uB wr (fun _=>True) l[j].2 A2 n2 c2):=e2.sub fun _ _ _=>trivial
       clear hc hD hS e1 e2;generalize l[j]=bj at *;go_upto_region 17 with(fail)
       obtain⟨V,hV⟩:∃V,V=wr.alloc (.cells #[.slice A1 n1 c1,.slice A2 n2 c2] 34):=⟨_,rfl⟩;have b6:Below wr.heap.size wr V:=by rw[hV];exact aa.alloc ab _
       have HZ:Hid (Bk V wr.heap.size 34 #[.slice A1 n1 c1,.slice A2 n2 c2]):=by rw[hV];exact Bk.new _ _ _
       have a5:Below C.heap.size C V:=b4.out.trans (b6.mono b4.out.size);have a7:=hid (a6.out.trans (a5.mono a6.out.size));have b3:=hid a5;have a8:=hid (e0.out.below a5 e0.out.lt);have b0:=hid (HY.out.below a5 HY.out.lt);have c9:=hid (uB.vAb (uc.of b6) f6.out);have d2:=hid (uB.vAb (uc.of b6) f7.out);have d5:=hid (uB.vAb (uc.of a5) g4.out);have d6:=hid (uB.vAb (uc.of a5) g5.out);rw[<-hV];clear hV b6 a5 d0 d1;obtain⟨f3,_,_⟩:=a8.out.facts;obtain⟨f4,_,_⟩:=b0.out.facts;obtain⟨f5,_,_⟩:=HZ.out.facts;obtain⟨o1,o2,o3,o4,o5⟩:=g2.out;obtain⟨q1,q2,q3,q4⟩:=HA.out;obtain⟨s1,s2⟩:=g3.out;cases lower with
       | false=>
        have K1:=hid (KA.out V r1 bj.1 _ _ _ _ _ _ a7.out d5.out c9.out o4 s1 o1 o2 q1 q3);have K2:=hid (fun(x:World) (hx:Below V.heap.size V x)=>KA.out x bj.2 r2 _ _ _ _ _ _ (a7.out.trans (hx.mono a7.out.size)) (uB.vAb (uc.of hx) d2.out) (uB.vAb (uc.of hx) d6.out) s2 o5 o1 q2 o3 q4)
        clear q1 q2 q3 q4 s1 s2 o1 o2 o3 o4 o5;go_wp2_with fail
        refine K1.out.mono ?_;rintro e w5⟨rfl,a0⟩;have c0:=hid (a8.out.below a0 a8.out.lt);have c3:=hid (b0.out.below a0 b0.out.lt);have c4:=hid (HZ.out.below a0 HZ.out.lt);have a3:=hid a0;clear a0 f3 f4 f5;obtain⟨c6,_,_⟩:=c0.out.facts;obtain⟨c7,_,_⟩:=c3.out.facts;obtain⟨c8,_,_⟩:=c4.out.facts;go_wp2_with fail
        refine(K2.out w5 a3.out).mono ?_;rintro e w6⟨rfl,b1⟩;have b8:=hid (b3.out.trans ((a3.out.trans (b1.mono a3.out.size)).mono b3.out.size));clear b1 c6 c7 c8;go_wp2;go_roundw
        case rel=>exact⟨j+1,by omega,by go_num,b8⟩
        case measure=>simp[intOf];omega
       | true=>
        have K1:=hid (KA.out V bj.1 r1 _ _ _ _ _ _ a7.out c9.out d5.out s1 o4 o1 q1 o2 q3);have K2:=hid (fun(x:World) (hx:Below V.heap.size V x)=>KA.out x r2 bj.2 _ _ _ _ _ _ (a7.out.trans (hx.mono a7.out.size)) (uB.vAb (uc.of hx) d6.out) (uB.vAb (uc.of hx) d2.out) o5 s2 o1 o3 q2 q4)
        clear q1 q2 q3 q4 s1 s2 o1 o2 o3 o4 o5;go_wp2_with fail
        refine K1.out.mono ?_;rintro e w5⟨rfl,a0⟩;have c0:=hid (a8.out.below a0 a8.out.lt);have c3:=hid (b0.out.below a0 b0.out.lt);have c4:=hid (HZ.out.below a0 HZ.out.lt);have a3:=hid a0;clear a0 f3 f4 f5;obtain⟨c6,_,_⟩:=c0.out.facts;obtain⟨c7,_,_⟩:=c3.out.facts;obtain⟨c8,_,_⟩:=c4.out.facts;go_wp2_with fail
        refine(K2.out w5 a3.out).mono ?_;rintro e w6⟨rfl,b1⟩;have b8:=hid (b3.out.trans ((a3.out.trans (b1.mono a3.out.size)).mono b3.out.size));clear b1 c6 c7 c8;go_wp2;go_roundw
        case rel=>exact⟨j+1,by omega,by go_num,b8⟩
        case measure=>simp[intOf];omega
      ·obtain rfl:j=i:=by omega
       have j3:(j:Int)>0:=by omega
       go_wp2;go_ret
       exact⟨by first|rfl|(simp;omega),(a6.out.trans (b4.out.mono a6.out.size))⟩
    ·go_wp2
     go_ret
     exact⟨rfl,a2.out.alloc a2.out.size _⟩
end Go.Proofs.YtnbbpmagijpmpaaGreatDoor
