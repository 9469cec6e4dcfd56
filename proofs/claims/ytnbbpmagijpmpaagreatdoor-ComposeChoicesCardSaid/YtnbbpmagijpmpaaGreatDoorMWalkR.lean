/-
  The walk of rational's Cmp.
-/
import Derived.Test.YtnbbpmagijpmpaaGreatDoorMWalkP
set_option linter.unusedVariables false
set_option linter.unusedSimpArgs false
namespace Go.Proofs.YtnbbpmagijpmpaaGreatDoor
open Go.Lib (hid)
open Go.RowKit AC
theorem utc(x:Int)(d:Nat)(hd:d≠0):(mkRat x d).num.sign=x.sign:=by
 rw[Rat.num_mkRat,if_neg hd];have hg:0<Nat.gcd d x.natAbs:=Nat.gcd_pos_of_pos_left _ (Nat.pos_of_ne_zero hd);have a0:((Nat.gcd d x.natAbs:Nat):Int)∣x:=Int.ofNat_dvd_left.2 (Nat.gcd_dvd_right _ _);obtain⟨y,hy⟩:=a0;generalize hG:Nat.gcd d x.natAbs=G at *;rw[hy,Int.mul_ediv_cancel_left _ (by omega),Int.sign_mul,Int.sign_eq_one_of_pos (show(0:Int)<G by omega),Int.one_mul]
def upa(q q':Rat):Int:=ujj (q-q')
theorem uDo(s1 s2:Bool)(n1 d1 n2 d2:Nat)(h1:d1≠0)(h2:d2≠0):upa (mkRat (sg s1 n1) d1) (mkRat (sg s2 n2) d2)=(sg s1 n1*d2-sg s2 n2*d1).sign:=by
 unfold upa ujj;rw[Rat.sub_eq_add_neg,Rat.neg_mkRat,Rat.mkRat_add_mkRat _ _ h1 h2,utc _ _ (Nat.mul_ne_zero h1 h2),Int.neg_mul,<-Int.sub_eq_add_neg]
theorem uq1(s:Bool)(n:Nat):ub0 s n=(sg s n).sign:=by
 unfold ub0 sg;by_cases h:n=0
 ·subst h;cases s<;>simp
 ·rw[if_neg h]
  cases s
  ·simp;exact(Int.sign_eq_one_of_pos (by omega)).symm
  ·simp;exact(Int.sign_eq_one_of_pos (by omega)).symm
theorem uCk{s1 s2:Bool}{n1 d1 n2 d2:Nat}(h1:d1≠0)(h2:d2≠0)(h:ub0 s1 n1<ub0 s2 n2):(sg s1 n1*d2-sg s2 n2*d1).sign = -1:=by
 have p1:(0:Int)<d1:=by omega
 have p2:(0:Int)<d2:=by omega
 apply Int.sign_eq_neg_one_of_neg;rw[uq1,uq1]at h;rcases Int.lt_trichotomy (sg s1 n1) 0 with a|a|a
 ·have e1:sg s1 n1*d2<0:=Int.mul_neg_of_neg_of_pos a p2
  rcases Int.lt_trichotomy (sg s2 n2) 0 with b|b|b
  ·rw[Int.sign_eq_neg_one_of_neg a,Int.sign_eq_neg_one_of_neg b]at h;omega
  ·rw[b,Int.zero_mul];omega
  ·have:=Int.mul_pos b p1;omega
 ·rw[a,Int.zero_mul]
  rcases Int.lt_trichotomy (sg s2 n2) 0 with b|b|b
  ·rw[a,Int.sign_eq_neg_one_of_neg b]at h;simp at h
  ·rw[a,b]at h;simp at h
  ·have:=Int.mul_pos b p1;omega
 ·rcases Int.lt_trichotomy (sg s2 n2) 0 with b|b|b
  ·rw[Int.sign_eq_one_of_pos a,Int.sign_eq_neg_one_of_neg b]at h;simp at h
  ·rw[Int.sign_eq_one_of_pos a,b]at h;simp at h
  ·rw[Int.sign_eq_one_of_pos a,Int.sign_eq_one_of_pos b]at h;omega
theorem um6(a b:Int):(a-b).sign = -(b-a).sign:=by rw[<-Int.sign_neg];congr 1;omega
theorem uGd{s1 s2:Bool}{n1 d1 n2 d2:Nat}(h1:d1≠0)(h2:d2≠0)(h:ub0 s2 n2<ub0 s1 n1):(sg s1 n1*d2-sg s2 n2*d1).sign=1:=by
 rw[um6,uCk h2 h1 h];rfl
theorem uvd(a b:Nat):((a:Int)-b).sign=uho a b:=by
 unfold uho;rcases Nat.lt_trichotomy a b with h|h|h
 ·rw[if_pos h];exact Int.sign_eq_neg_one_of_neg (by omega)
 ·rw[if_neg (by omega),if_pos h,h];simp
 ·rw[if_neg (by omega),if_neg (by omega)];exact Int.sign_eq_one_of_pos (by omega)
theorem uzp{s1 s2:Bool}{n1 d1 n2 d2:Nat}(h:ub0 s1 n1=ub0 s2 n2):(sg s1 n1*d2-sg s2 n2*d1).sign=ub0 s1 n1*uho (n1*d2) (n2*d1):=by
 unfold ub0 at *;by_cases a:n1=0
 ·subst a
  have b:n2=0:=by
   rcases aK n2 with b|b
   ·exact b
   ·rw[if_neg (show ¬n2=0 by omega)]at h;cases s2<;>simp at h
  subst b;simp[ugd]
 ·rw[if_neg a]at h ⊢
  have b:n2≠0:=by rintro rfl;cases s1<;>simp at h
  rw[if_neg b]at h;rw[<-uvd];have e1:((n1*d2:Nat):Int)=(n1:Int)*d2:=by simp
  have e2:((n2*d1:Nat):Int)=(n2:Int)*d1:=by simp
  rw[e1,e2];cases s1<;>cases s2<;>simp[sg]at h ⊢
  rw[<-Int.sign_neg];congr 1;rw[Int.neg_mul,Int.neg_mul];omega
theorem upb(s:Bool)(n:Nat) : -1<=ub0 s n/\ub0 s n<=1:=by
 unfold ub0;by_cases h:n=0
 ·simp[h]
 ·cases s<;>simp[h]
theorem utd(a b:Nat) : -1<=uho a b/\uho a b<=1:=by
 unfold uho;by_cases h:a<b
 ·simp[h]
 ·by_cases h2:a=b<;>simp[h,h2]
set_option maxHeartbeats 16000000
theorem uve(w:World)(lo lo':Nat)(v v':Value)(K K':Nat)(q q':Rat)(hv:ufi w lo v K q)(e3:ufi w lo' v' K' q')(hK:K+K'<=4000000000) :
 Calls Tryz.prog 39 #[v,v'] w (fun e w'=>e = .returned (.int .i64 (upa q q'))/\Below w.heap.size w w'):=by
 have HV:=hid hv;have h8:=hid e3;obtain⟨s,A,k,c,A',k',c',rfl⟩:=hv.form;obtain⟨s2,A2,k2,c2,A3,k3,c3,rfl⟩:=e3.form;clear hv e3;go_enter Tryz.func39,Tryz.ntmps39
 go_upto_region 1 with(fail)
 obtain⟨W,hW⟩:∃W,W=((w.alloc (.cells #[.bool s,.slice A k c,.slice A' k' c'] 62)).alloc (.cells #[.bool s2,.slice A2 k2 c2,.slice A3 k3 c3] 62)):=⟨_,rfl⟩;have b1:Below w.heap.size w W:=by rw[hW];exact uy5 _ _ _
 have d5:Bk W w.heap.size 62 #[.bool s,.slice A k c,.slice A' k' c']:=by rw[hW];exact(Bk.new _ _ _).alloc _
 have d8:Bk W (w.heap.size+1) 62 #[.bool s2,.slice A2 k2 c2,.slice A3 k3 c3]:=by rw[hW];have:=(Bk.new (w.alloc (.cells #[.bool s,.slice A k c,.slice A' k' c'] 62)) 62 #[.bool s2,.slice A2 k2 c2,.slice A3 k3 c3]);simpa using this
 rw[<-hW];clear hW;go_cut [5,6] (fun x y wx=>uIm W K K' q q' x y wx)
 case first=>
  refine ub1 (by kernel_rfl) (ues (by kernel_rfl)) (fun d a x=>∃f g lo1 hi1 lo2 hi2 s5 s6 s7 s8 s9 s10,a=⟨#[.agg #[.bool s,.slice A k c,.slice A' k' c'],.agg #[.bool s2,.slice A2 k2 c2,.slice A3 k3 c3],.pointer (some ⟨w.heap.size,0,none⟩),.pointer (some ⟨w.heap.size+1,0,none⟩),.int .i64 0,s5,s6,undef,undef,s7,s8,s9,s10,undef,undef,undef,undef,undef,undef,undef,undef,undef,undef,undef,undef,undef,undef,undef,undef,undef,undef,undef,undef,undef,undef,undef,undef,undef],[]⟩/\MI W (.agg #[.bool s,.slice A k c,.slice A' k' c']) (.agg #[.bool s2,.slice A2 k2 c2,.slice A3 k3 c3]) K K' q q' d f g lo1 hi1 lo2 hi2 s5 s6 s7 s8 s9 s10 x) ?_ ?_ ?_
  ·refine⟨0,0,0,0,0,0,_,_,_,_,_,_,rfl,?_⟩
   exact { below:=aa.drew,c0:=by simp,c2:=by simp,c1:=by simp,c3:=by simp,c4:=by simp,c5:=by simp,n41:=by simp,n43:=by simp,n51:=by simp,n53:=by simp,n45:=by simp,o6:=by simp,o7:=by simp }
  ·intro d i o a1 x ho a2 a3 hI
   obtain⟨f,g,lo1,hi1,lo2,hi2,s5,s6,s7,s8,s9,s10,rfl,hM⟩:=hI;have hi:i<8:=(au.1 ho).1;have j5:i=0\/i=1\/i=2\/i=3\/i=4\/i=5\/i=6\/i=7:=by omega
   have b2:Below w.heap.size w x:=b1.trans (hM.below.mono b1.size);rcases j5 with rfl|rfl|rfl|rfl|rfl|rfl|rfl|rfl
   ·cases ho
    obtain⟨l0,l8,n6⟩:=(d5.below hM.below d5.lt).facts;have HM:=hid hM;clear hM a3 hi a2;refine uC rfl rfl fun KK a0=>?_
    have HK:=hid a0;clear a0;go_wp2;exact HK.out _ _ ⟨f,g,lo1,hi1,lo2,hi2,s5,s6,_,s8,s9,s10,rfl,HM.out.op0⟩
   ·cases ho
    have e0:=hM.c0 (a3 ⟨0,.data⟩ (by simp) rfl)
    have HM:=hid (hM.op1 a2 (x':=x) (v1:=undef));have c6:=hid hM;subst e0;have e1:=hid a2;clear hM a3 hi a2 HM;refine uC rfl rfl fun KK a0=>?_
    have HK:=hid a0;clear a0;go_wp2_with fail
    refine(uck _ lo _ K q (HV.out.below b2) (by omega)).mono ?_
    rintro e x'⟨v1,rfl,hl⟩;exact HK.out _ _ ⟨f,g,_,_,lo2,hi2,s5,s6,_,v1,s9,s10,rfl,c6.out.op1 e1.out hl⟩
   ·cases ho
    obtain⟨l1,l9,n7⟩:=(d8.below hM.below d8.lt).facts;have HM:=hid hM;clear hM a3 hi a2;refine uC rfl rfl fun KK a0=>?_
    have HK:=hid a0;clear a0;go_wp2;exact HK.out _ _ ⟨f,g,lo1,hi1,lo2,hi2,s5,s6,s7,s8,_,s10,rfl,HM.out.op2⟩
   ·cases ho
    have e0:=hM.c2 (a3 ⟨2,.data⟩ (by simp) rfl)
    have c6:=hid hM;subst e0;have e1:=hid a2;clear hM a3 hi a2;refine uC rfl rfl fun KK a0=>?_
    have HK:=hid a0;clear a0;go_wp2_with fail
    refine(uck _ lo' _ K' q' (h8.out.below b2) (by omega)).mono ?_
    rintro e x'⟨v1,rfl,hl⟩;exact HK.out _ _ ⟨f,g,lo1,hi1,_,_,s5,s6,s7,s8,_,v1,rfl,c6.out.op3 e1.out hl⟩
   ·cases ho
    have HM:=hid (hM.op4 a2);clear hM a3 hi a2;refine uC rfl rfl fun KK a0=>?_
    have HK:=hid a0;clear a0;go_wp2;exact HK.out _ _ ⟨_,g,lo1,hi1,lo2,hi2,_,s6,s7,s8,s9,s10,rfl,HM.out⟩
   ·cases ho
    have HM:=hid (hM.op5 a2);clear hM a3 hi a2;refine uC rfl rfl fun KK a0=>?_
    have HK:=hid a0;clear a0;go_wp2;exact HK.out _ _ ⟨f,_,lo1,hi1,lo2,hi2,s5,_,s7,s8,s9,s10,rfl,HM.out⟩
   ·cases ho
    have h4:=a3 ⟨4,.data⟩ (by simp) rfl
    have h1:=a3 ⟨1,.data⟩ (by simp) rfl
    have h3:=a3 ⟨3,.chain⟩ (by simp) rfl
    have h5:=a3 ⟨5,.phase⟩ (by simp) rfl
    obtain⟨_,_,a6,n1,d1,A1,h9,B1,j0,rfl,_⟩:=hM.c1 h1;have HM:=hid (hM.op6 h4 h5 h1 h3 a2 rfl);obtain⟨rfl,k5,a7⟩:=hM.c4 h4;rw[a2]at a7;obtain⟨b3,e2,b7⟩:=a7.facts;simp only[ufl]at b3;clear hM a3 hi a2 h4 h1 h3 h5 a7;refine uC rfl rfl fun KK a0=>?_
    have HK:=hid a0;clear a0;go_wp2;exact HK.out _ _ ⟨f,g,lo1,hi1,lo2,hi2,_,s6,s7,_,s9,s10,rfl,HM.out⟩
   ·cases ho
    have h6:=a3 ⟨6,.chain⟩ (by simp) rfl
    obtain⟨h1,h3,h4,h5⟩:=hM.o6 h6;obtain⟨_,_,a6,n1,d1,A1,h9,B1,j0,rfl,_⟩:=hM.c3 h3;have HM:=hid (hM.op7 h4 h5 h1 h3 h6 a2 rfl);obtain⟨rfl,k5,a7⟩:=hM.c5 h5;rw[a2]at a7;obtain⟨b3,e2,b7⟩:=a7.facts;simp only[ufl]at b3;clear hM a3 hi a2 h4 h1 h3 h5 h6 a7;refine uC rfl rfl fun KK a0=>?_
    have HK:=hid a0;clear a0;go_wp2;exact HK.out _ _ ⟨f,g,lo1,hi1,lo2,hi2,s5,_,s7,s8,s9,_,rfl,HM.out⟩
  ·rintro d a1 x hd ⟨f,g,lo1,hi1,lo2,hi2,s5,s6,s7,s8,s9,s10,rfl,hM⟩
   have HM:=hid (hM.done hd);clear hM hd;go_wp2_with fail
   go_meet
   exact HM.out
 case rest=>
  obtain⟨f,g,a6,n1,d1,a9,n2,d2,Aa,ca,Ba,ea,Ab,cb,Bb,eb,rfl,rfl,k8,k9,c9,d0,f6,f4,f7,f5,e4,e5,m6,m7,m8,m9,g0,g1,b2⟩:=hcut;have e8:=hid c9;have f1:=hid d0;obtain⟨b3,e2,b7⟩:=c9.facts;obtain⟨j7,k1,g4⟩:=d0.facts;have c7:=hid f6;have b8:=hid f4;have c8:=hid f7;have b9:=hid f5;have HQ:Hid (upa q q'=(sg a6 n1*d2-sg a9 n2*d1).sign):=by show _=_;rw[g0,g1];exact uDo _ _ _ _ _ _ e4 e5
  have j3:=b1.trans (b2.mono b1.size);have n3:=b1.size;have n4:=b2.size;clear c9 d0 f6 f4 f7 f5 g0 g1 d5 d8;go_wp2_with fail
  go_region_held3 (fun w'=>w'.cell? ⟨f,0,none⟩=some (.bool a6)/\w'.cell? ⟨f,1,none⟩=some (.slice Aa (dl n1) ca)/\w'.cell? ⟨f,2,none⟩=some (.slice Ba (dl d1) ea)/\w'.cell? ⟨g,0,none⟩=some (.bool a9)/\w'.cell? ⟨g,1,none⟩=some (.slice Ab (dl n2) cb)/\w'.cell? ⟨g,2,none⟩=some (.slice Bb (dl d2) eb)) (go_keep)
   (first
    | (go_at_call_of 76 (Value.agg #[Value.bool a6,Value.slice Aa (dl n1) ca,Value.slice Ba (dl d1) ea]);refine(uid _ W.heap.size _ a6 n1 d1 (by exact⟨_,_,rfl,c7.out.drew,b8.out.drew⟩)).mono ?_;rintro e w1 ⟨rfl,a4⟩;have d3:=(e8.out.drew.below a4 b7);have d6:=(f1.out.drew.below a4 g4);obtain⟨j6,k0,g3⟩:=d3.facts;obtain⟨j8,k4,g5⟩:=d6.facts;have f2:=j3.drew.trans (a4.mono (by simp;omega)))
    | (go_at_call_of 76 (Value.agg #[Value.bool a9,Value.slice Ab (dl n2) cb,Value.slice Bb (dl d2) eb]);refine(uid _ W.heap.size _ a9 n2 d2 (by exact⟨_,_,rfl,c8.out.drew.below a4,b9.out.drew.below a4⟩)).mono ?_;rintro e w2 ⟨rfl,a5⟩;have d4:=(d3.below a5 g3);have d7:=(d6.below a5 g5);obtain⟨l2,m0,n8⟩:=d4.facts;obtain⟨l5,m3,o0⟩:=d7.facts;have d9:=f2.trans (a5.mono f2.size)))
  have h2:=hid ((c7.out.drew.below a4).below a5);have g9:=hid ((b8.out.drew.below a4).below a5);have h7:=hid ((c8.out.drew.below a4).below a5);have h0:=hid ((b9.out.drew.below a4).below a5);obtain⟨si,a8⟩:∃si,Hid (si=ub0 a6 n1):=⟨_,rfl⟩;obtain⟨ti,b6⟩:∃ti,Hid (ti=ub0 a9 n2):=⟨_,rfl⟩;have n0 : -1<=si/\si<=1:=by rw[a8.out];exact upb _ _
  rw[<-a8.out,<-b6.out];have e6:=hid d4;have e9:=hid d7;have n5:W.heap.size<=w2.heap.size:=by have:=a4.size;have:=a5.size;simp at *;omega
  clear d3 d6 d4 d7 a4 a5 j6 k0 g3 j8 k4 g5 b3 e2 b7 j7 k1 g4 c7 b8 c8 b9 e8 f1;rcases Int.lt_trichotomy si ti with hlt|heq|hgt
  ·have b4:Hid (upa q q' = -1):=by show _=_;rw[HQ.out];exact uCk e4 e5 (by rw[<-a8.out,<-b6.out];exact hlt)
   go_wp2;go_ret
   exact⟨by rw[b4.out];rfl,d9⟩
  ·subst heq
   have b4:Hid (upa q q'=si*uho (n1*d2) (n2*d1)):=by show _=_;rw[HQ.out,a8.out];exact uzp (by rw[<-a8.out,<-b6.out])
   go_wp2;go_region_held3 (fun w'=>w'.cell? ⟨f,0,none⟩=some (.bool a6)/\w'.cell? ⟨f,1,none⟩=some (.slice Aa (dl n1) ca)/\w'.cell? ⟨f,2,none⟩=some (.slice Ba (dl d1) ea)/\w'.cell? ⟨g,0,none⟩=some (.bool a9)/\w'.cell? ⟨g,1,none⟩=some (.slice Ab (dl n2) cb)/\w'.cell? ⟨g,2,none⟩=some (.slice Bb (dl d2) eb)) (go_keep)
    (first
     | (go_at_call_of 78 (Value.slice Aa (dl n1) ca);refine(uan _ W.heap.size W.heap.size _ _ n1 d2 (by exact h2.out.drew) (by exact h0.out.drew) (by omega) (by omega)).mono ?_;rintro e w3 ⟨va,rfl,f8,b0⟩;have e7:=(e6.out.drew.below b0 e6.out.lt);have f0:=(e9.out.drew.below b0 e9.out.lt);obtain⟨l3,m1,k6⟩:=e7.facts;obtain⟨l6,m4,k7⟩:=f0.facts;have f3:=d9.drew.trans (b0.mono (by simp;omega));have g6:=hid f8;clear f8)
     | (go_at_call_of 78 (Value.slice Ab (dl n2) cb);refine(uan _ W.heap.size W.heap.size _ _ n2 d1 (by exact h7.out.drew.below b0) (by exact g9.out.drew.below b0) (by omega) (by omega)).mono ?_;rintro e w4 ⟨vb,rfl,f9,b5⟩;have j1:=(e7.below b5 k6);have j2:=(f0.below b5 k7);obtain⟨l4,m2,n9⟩:=j1.facts;obtain⟨l7,m5,o1⟩:=j2.facts;have j4:=f3.trans (b5.mono f3.size);have g7:=hid (g6.out.below b5);have g8:=hid f9;clear f9)
     | (go_at_call 77;refine(ubn _ _ _ _ _ _ _ (by exact g7.out) (by exact g8.out)).mono ?_;rintro e w5 ⟨rfl,qc,rfl⟩))
   have j9:=utd (n1*d2) (n2*d1);have g2:IntKind.i64.wrap (si*uho (n1*d2) (n2*d1))=si*uho (n1*d2) (n2*d1):=by
    apply IntWalk.i64_in;generalize uho (n1*d2) (n2*d1)=ci at *;have h3:si = -1\/si=0\/si=1:=by omega
    rcases h3 with h3|h3|h3<;>rw[h3]<;>omega
   rw[g2];clear g2 j9;go_wp2;go_ret
   exact⟨by rw[b4.out];rfl,j4.drewN _⟩
  ·have b4:Hid (upa q q'=1):=by show _=_;rw[HQ.out];exact uGd e4 e5 (by rw[<-a8.out,<-b6.out];exact hgt)
   go_wp2;go_ret
   exact⟨by rw[b4.out];rfl,d9⟩
set_option maxHeartbeats 200000
theorem uet(x:Int)(d:Nat)(h1 : -9223372036854775808<=x)(h2:x<=9223372036854775807)(h3:d<=9223372036854775807):sz (mkRat x d)<=3:=by
 have h5:B^3=1000000000000000000000000000:=by decide
 exact uy6 _ _ _ (ue4 (by omega)) (ue4 (by omega)) (by omega)
def ubz(w:World)(S:Nat->Prop)(v:Value)(k:Nat)(f:Nat->Nat):Prop:=
 (∀i,i<k->f i<4294967296)/\∃A c,v = .slice A k c/\k<=c/\c<=maxLen /\
  (0<k->∃b off,A=some ⟨b,off,none⟩/\S b/\b<w.heap.size/\∀i,i<k->w.cell? ⟨b,off+i,none⟩=some (.int .u32 ((f i:Nat):Int)))
def uK(w:World)(S:Nat->Prop)(v:Value)(K:Nat)(q:Rat):Prop:=
 ∃(neg:Bool) (kn kd:Nat) (fn fd:Nat->Nat) (vn vd:Value),v = .agg #[.bool neg,vn,vd]/\ubz w S vn kn fn/\ubz w S vd kd fd/\kn<=K/\kd<=K/\q=mkRat (sg neg (vs fn kn)) (vs fd kd)
theorem ufi.toP{w:World}{lo:Nat}{v:Value}{K:Nat}{q:Rat}(h:ufi w lo v K q):uK w (lo <= ·) v K q:=h
theorem uK.toV{w:World}{lo:Nat}{v:Value}{K:Nat}{q:Rat}(h:uK w (lo <= ·) v K q):ufi w lo v K q:=h
section
variable {w w':World} {S S':Nat->Prop} {v:Value} {k K K':Nat} {f:Nat->Nat} {q:Rat} {r:Nat->Rat}
theorem ubz.vAb(h:ubz w S v k f)(hs:w.heap.size<=w'.heap.size)(hk:∀b,S b->b<w.heap.size->w'.heap[b]? = w.heap[b]? /\ S' b):ubz w' S' v k f:=by
 obtain⟨h1,A,c,rfl,h2,h3,h4⟩:=h;refine⟨h1,A,c,rfl,h2,h3,fun h0=>?_⟩
 obtain⟨b,off,rfl,h5,h6,h7⟩:=h4 h0;exact⟨b,off,rfl,(hk b h5 h6).2,by omega,fun i hi=>(World.cell?_of_block (a:=⟨b,off+i,none⟩) (hk b h5 h6).1).trans (h7 i hi)⟩
theorem uK.vAb(h:uK w S v K q)(hs:w.heap.size<=w'.heap.size)(hk:∀b,S b->b<w.heap.size->w'.heap[b]? = w.heap[b]? /\ S' b):uK w' S' v K q:=by
 obtain⟨neg,kn,kd,fn,fd,vn,vd,rfl,h1,h2,h3⟩:=h;exact⟨neg,kn,kd,fn,fd,vn,vd,rfl,h1.vAb hs hk,h2.vAb hs hk,h3⟩
theorem uK.more(h:uK w S v K q)(hK:K<=K'):uK w S v K' q:=by
 obtain⟨neg,kn,kd,fn,fd,vn,vd,rfl,h1,h2,h3,h4,h5⟩:=h;exact⟨neg,kn,kd,fn,fd,vn,vd,rfl,h1,h2,ag h3 hK,ag h4 hK,h5⟩
end
section
variable {w w':World} {b k n K:Nat} {r:Nat->Rat}
end
mutual
def IxR(w:World)(D:Nat->Prop):Ix->List Value->Prop
 | .n k l,v=>rng k/\∃(A:Option Addr) (len cap:Nat),v=[.int .i64 k,.slice A len cap]/\len=l.length/\len<=cap/\cap<=maxLen /\
  (0<len->∃b off,A=some ⟨b,off,none⟩/\D b/\b<w.heap.size/\IxL w D b l off)
def IxL(w:World)(D:Nat->Prop)(b:Nat):List Ix->Nat->Prop
 | [],_=>True
 | x::l,off=>(∃v,um w b off v/\IxR w D x v)/\IxL w D b l (off+2)
end
def Ix.k:Ix->Int | .n k _=>k
def Ix.l:Ix->List Ix | .n _ l=>l
theorem Ix.vBj(x:Ix):x.sz=szs x.l+1:=by obtain⟨k,l⟩:=x;rw[Ix.sz];rfl
theorem IxL.get{w:World}{D:Nat->Prop}{b:Nat}:∀ {l:List Ix} {off i:Nat} (hi:i<l.length),IxL w D b l off->∃v,um w b (off+i*2) v/\IxR w D l[i] v
 | t::l,off,0,hi,h=>by
  rw[IxL]at h;simpa using h.1
 | t::l,off,i+1,hi,h=>by
  rw[IxL]at h;obtain⟨v,h1,h2⟩:=IxL.get (l:=l) (off:=off+2) (i:=i) (by simpa using hi) h.2
  exact⟨v,by rw[show off+(i+1)*2=off+2+i*2 from by omega];exact h1,by simpa using h2⟩
theorem IxL.of{w:World}{D:Nat->Prop}{b:Nat}:∀ {l:List Ix} {off:Nat},(∀(i:Nat) (h:i<l.length),∃v,um w b (off+i*2) v/\IxR w D l[i] v)->IxL w D b l off
 | [],_,_=>by rw[IxL];trivial
 | t::l,off,h=>by
  rw[IxL];refine⟨?_,IxL.of fun i hi=>?_⟩
  ·obtain⟨v,h1,h2⟩:=h 0 (by simp)
   exact⟨v,by rw[Nat.zero_mul,Nat.add_zero]at h1;exact h1,h2⟩
  obtain⟨v,h1,h2⟩:=h (i+1) (by simpa using hi)
  exact⟨v,by rw[show off+2+i*2=off+(i+1)*2 from by omega];exact h1,by simpa using h2⟩
abbrev IxS(w:World)(D:Nat->Prop)(l:List Ix)(A:Option Addr)(len cap:Nat):Prop:=Sl 2 (IxR w D) w D l A len cap
theorem IxR.form{w:World}{D:Nat->Prop}{x:Ix}{v:List Value}(h:IxR w D x v):∃A len cap,v=[.int .i64 x.k,.slice A len cap]/\IxS w D x.l A len cap/\rng x.k:=by
 obtain⟨k,l⟩:=x;rw[IxR]at h;obtain⟨h1,A,len,cap,rfl,h2,h3,h4,h5⟩:=h;refine⟨A,len,cap,rfl,⟨h2,h3,h4,fun hp=>?_⟩,h1⟩
 obtain⟨b,off,h6,h7,h8,h9⟩:=h5 hp;exact⟨b,off,h6,h7,h8,fun i hi=>h9.get hi⟩
theorem IxR.mk{w:World}{D:Nat->Prop}{k:Int}{l:List Ix}{A:Option Addr}{len cap:Nat}(hk:rng k)(h:IxS w D l A len cap):IxR w D (.n k l) [.int .i64 k,.slice A len cap]:=by
 obtain⟨h2,h3,h4,h5⟩:=h;rw[IxR];refine⟨hk,A,len,cap,rfl,h2,h3,h4,fun hp=>?_⟩
 obtain⟨b,off,h6,h7,h8,h9⟩:=h5 hp;exact⟨b,off,h6,h7,h8,IxL.of h9⟩
mutual
theorem IxR.vAb{w w':World}{D:Nat->Prop}(hk:uc D w w'):∀ {x:Ix} {v:List Value},IxR w D x v->IxR w' D x v
 | .n k l,v,h=>by
  rw[IxR]at h ⊢;obtain⟨h1,A,len,cap,h3,h4,h5,h6,h7⟩:=h;refine⟨h1,A,len,cap,h3,h4,h5,h6,fun hp=>?_⟩
  obtain⟨b,off,hA,hD,hb,hL⟩:=h7 hp;exact⟨b,off,hA,hD,af hb hk.1,IxL.vAb hk hb hD hL⟩
theorem IxL.vAb{w w':World}{D:Nat->Prop}(hk:uc D w w'){b:Nat}(hb:b<w.heap.size)(hD:D b):∀ {l:List Ix} {off:Nat},IxL w D b l off->IxL w' D b l off
 | [],_,_=>by rw[IxL];trivial
 | t::l,off,h=>by
  rw[IxL]at h ⊢;obtain⟨⟨v,h1,h2⟩,h3⟩:=h;exact⟨⟨v,h1.vAb hk hb hD,IxR.vAb hk h2⟩,IxL.vAb hk hb hD h3⟩
end
mutual
theorem IxR.sub{w:World}{D D':Nat->Prop}(hd:∀b,b<w.heap.size->D b->D' b):∀ {x:Ix} {v:List Value},IxR w D x v->IxR w D' x v
 | .n k l,v,h=>by
  rw[IxR]at h ⊢;obtain⟨h1,A,len,cap,h3,h4,h5,h6,h7⟩:=h;refine⟨h1,A,len,cap,h3,h4,h5,h6,fun hp=>?_⟩
  obtain⟨b,off,hA,hD,hb,hL⟩:=h7 hp;exact⟨b,off,hA,hd b hb hD,hb,IxL.sub hd hL⟩
theorem IxL.sub{w:World}{D D':Nat->Prop}(hd:∀b,b<w.heap.size->D b->D' b){b:Nat}:∀ {l:List Ix} {off:Nat},IxL w D b l off->IxL w D' b l off
 | [],_,_=>by rw[IxL];trivial
 | t::l,off,h=>by
  rw[IxL]at h ⊢;obtain⟨⟨v,h1,h2⟩,h3⟩:=h;exact⟨⟨v,h1,IxR.sub hd h2⟩,IxL.sub hd h3⟩
end
def ujk(w:World)(D:Nat->Prop)(f:Fac)(v:List Value):Prop:=rng f.v/\∃A len cap,v=[.int .i64 f.v,.int .i64 f.i.k,.slice A len cap]/\IxR w D f.i [.int .i64 f.i.k,.slice A len cap]
abbrev uhl(w:World)(D:Nat->Prop)(l:List Fac)(A:Option Addr)(len cap:Nat):Prop:=Sl 3 (ujk w D) w D l A len cap
def LtR(t:Int×Int)(v:List Value):Prop:=rng t.1/\rng t.2/\v=[.int .i64 t.1,.int .i64 t.2]
abbrev LtS(w:World)(D:Nat->Prop)(l:List (Int×Int))(A:Option Addr)(len cap:Nat):Prop:=Sl 2 LtR w D l A len cap
def uoz(w:World)(D:Nat->Prop)(l:Lin)(v:List Value):Prop:=rng l.c/\∃A len cap,v=[.int .i64 l.c,.slice A len cap]/\LtS w D l.ts A len cap
def ujl(w:World)(D:Nat->Prop)(a:Ato)(v:List Value):Prop:=rng a.d/\∃A len cap,v=[.int .i64 a.l.c,.slice A len cap,.int .i64 a.d]/\uoz w D a.l [.int .i64 a.l.c,.slice A len cap]
abbrev uht(w:World)(D:Nat->Prop)(l:List Ato)(A:Option Addr)(len cap:Nat):Prop:=Sl 3 (ujl w D) w D l A len cap
def uU(w:World)(D:Nat->Prop)(m:Mon)(v:List Value):Prop:=∃A n c A' n' c',v=[.slice A n c,.slice A' n' c']/\uhl w D m.fs A n c/\uht w D m.ats A' n' c'
structure Cof where
 neg:Bool
 num:List Nat
 den:List Nat
def upc(w:World)(D:Nat->Prop)(l:List Nat)(A:Option Addr)(len cap:Nat):Prop:=(∀x∈l,x<4294967296)/\Sl 1 (fun x v=>v=[.int .u32 (x:Nat)]) w D l A len cap
def ub2(w:World)(D:Nat->Prop)(q:Cof)(v:List Value):Prop:=∃A n c A' n' c',v=[.bool q.neg,.slice A n c,.slice A' n' c']/\upc w D q.num A n c/\upc w D q.den A' n' c'
structure Ter where
 q:Cof
 m:Mon
def uk9(w:World)(D:Nat->Prop)(t:Ter)(v:List Value):Prop:=∃A1 n1 c1 A2 n2 c2 A3 n3 c3 A4 n4 c4,v=[.bool t.q.neg,.slice A1 n1 c1,.slice A2 n2 c2,.slice A3 n3 c3,.slice A4 n4 c4]/\ub2 w D t.q [.bool t.q.neg,.slice A1 n1 c1,.slice A2 n2 c2]/\uU w D t.m [.slice A3 n3 c3,.slice A4 n4 c4]
abbrev uB(w:World)(D:Nat->Prop)(l:List Ter)(A:Option Addr)(len cap:Nat):Prop:=Sl 5 (uk9 w D) w D l A len cap
section
variable {w w':World} {D D':Nat->Prop}
theorem ujk.vAb(hk:uc D w w'){f:Fac}{v:List Value}(h:ujk w D f v):ujk w' D f v:=by
 obtain⟨h1,A,len,cap,e,h2⟩:=h;exact⟨h1,A,len,cap,e,h2.vAb hk⟩
theorem uhl.vAb(hk:uc D w w'){l:List Fac}{A:Option Addr}{n c:Nat}(h:uhl w D l A n c):uhl w' D l A n c:=Sl.vAb hk (fun _ _ h=>ujk.vAb hk h) h
theorem IxS.vAb(hk:uc D w w'){l:List Ix}{A:Option Addr}{n c:Nat}(h:IxS w D l A n c):IxS w' D l A n c:=Sl.vAb hk (fun _ _ h=>IxR.vAb hk h) h
theorem LtS.vAb(hk:uc D w w'){l:List (Int×Int)}{A:Option Addr}{n c:Nat}(h:LtS w D l A n c):LtS w' D l A n c:=Sl.vAb hk (fun _ _ h=>h) h
theorem uoz.vAb(hk:uc D w w'){l:Lin}{v:List Value}(h:uoz w D l v):uoz w' D l v:=by
 obtain⟨h1,A,len,cap,e,h2⟩:=h;exact⟨h1,A,len,cap,e,LtS.vAb hk h2⟩
theorem ujl.vAb(hk:uc D w w'){a:Ato}{v:List Value}(h:ujl w D a v):ujl w' D a v:=by
 obtain⟨h1,A,len,cap,e,h2⟩:=h;exact⟨h1,A,len,cap,e,h2.vAb hk⟩
theorem uht.vAb(hk:uc D w w'){l:List Ato}{A:Option Addr}{n c:Nat}(h:uht w D l A n c):uht w' D l A n c:=Sl.vAb hk (fun _ _ h=>ujl.vAb hk h) h
theorem uU.vAb(hk:uc D w w'){m:Mon}{v:List Value}(h:uU w D m v):uU w' D m v:=by
 obtain⟨A,n,c,A',n',c',e,h1,h2⟩:=h;exact⟨A,n,c,A',n',c',e,uhl.vAb hk h1,uht.vAb hk h2⟩
theorem upc.vAb(hk:uc D w w'){l:List Nat}{A:Option Addr}{n c:Nat}(h:upc w D l A n c):upc w' D l A n c:=⟨h.1,Sl.vAb hk (fun _ _ h=>h) h.2⟩
theorem ub2.vAb(hk:uc D w w'){q:Cof}{v:List Value}(h:ub2 w D q v):ub2 w' D q v:=by
 obtain⟨A,n,c,A',n',c',e,h1,h2⟩:=h;exact⟨A,n,c,A',n',c',e,h1.vAb hk,h2.vAb hk⟩
theorem uk9.vAb(hk:uc D w w'){t:Ter}{v:List Value}(h:uk9 w D t v):uk9 w' D t v:=by
 obtain⟨A1,n1,c1,A2,n2,c2,A3,n3,c3,A4,n4,c4,e,h1,h2⟩:=h;exact⟨A1,n1,c1,A2,n2,c2,A3,n3,c3,A4,n4,c4,e,h1.vAb hk,h2.vAb hk⟩
theorem uB.vAb(hk:uc D w w'){l:List Ter}{A:Option Addr}{n c:Nat}(h:uB w D l A n c):uB w' D l A n c:=Sl.vAb hk (fun _ _ h=>uk9.vAb hk h) h
theorem ujk.sub(hd:∀b,b<w.heap.size->D b->D' b){f:Fac}{v:List Value}(h:ujk w D f v):ujk w D' f v:=by
 obtain⟨h1,A,len,cap,e,h2⟩:=h;exact⟨h1,A,len,cap,e,h2.sub hd⟩
theorem uhl.sub(hd:∀b,b<w.heap.size->D b->D' b){l:List Fac}{A:Option Addr}{n c:Nat}(h:uhl w D l A n c):uhl w D' l A n c:=Sl.sub hd (fun _ _ h=>ujk.sub hd h) h
theorem LtS.sub(hd:∀b,b<w.heap.size->D b->D' b){l:List (Int×Int)}{A:Option Addr}{n c:Nat}(h:LtS w D l A n c):LtS w D' l A n c:=Sl.sub hd (fun _ _ h=>h) h
theorem uoz.sub(hd:∀b,b<w.heap.size->D b->D' b){l:Lin}{v:List Value}(h:uoz w D l v):uoz w D' l v:=by
 obtain⟨h1,A,len,cap,e,h2⟩:=h;exact⟨h1,A,len,cap,e,LtS.sub hd h2⟩
theorem ujl.sub(hd:∀b,b<w.heap.size->D b->D' b){a:Ato}{v:List Value}(h:ujl w D a v):ujl w D' a v:=by
 obtain⟨h1,A,len,cap,e,h2⟩:=h;exact⟨h1,A,len,cap,e,h2.sub hd⟩
theorem uht.sub(hd:∀b,b<w.heap.size->D b->D' b){l:List Ato}{A:Option Addr}{n c:Nat}(h:uht w D l A n c):uht w D' l A n c:=Sl.sub hd (fun _ _ h=>ujl.sub hd h) h
theorem uU.sub(hd:∀b,b<w.heap.size->D b->D' b){m:Mon}{v:List Value}(h:uU w D m v):uU w D' m v:=by
 obtain⟨A,n,c,A',n',c',e,h1,h2⟩:=h;exact⟨A,n,c,A',n',c',e,uhl.sub hd h1,uht.sub hd h2⟩
theorem upc.sub(hd:∀b,b<w.heap.size->D b->D' b){l:List Nat}{A:Option Addr}{n c:Nat}(h:upc w D l A n c):upc w D' l A n c:=⟨h.1,Sl.sub hd (fun _ _ h=>h) h.2⟩
theorem ub2.sub(hd:∀b,b<w.heap.size->D b->D' b){q:Cof}{v:List Value}(h:ub2 w D q v):ub2 w D' q v:=by
 obtain⟨A,n,c,A',n',c',e,h1,h2⟩:=h;exact⟨A,n,c,A',n',c',e,h1.sub hd,h2.sub hd⟩
theorem uk9.sub(hd:∀b,b<w.heap.size->D b->D' b){t:Ter}{v:List Value}(h:uk9 w D t v):uk9 w D' t v:=by
 obtain⟨A1,n1,c1,A2,n2,c2,A3,n3,c3,A4,n4,c4,e,h1,h2⟩:=h;exact⟨A1,n1,c1,A2,n2,c2,A3,n3,c3,A4,n4,c4,e,h1.sub hd,h2.sub hd⟩
theorem uB.sub(hd:∀b,b<w.heap.size->D b->D' b){l:List Ter}{A:Option Addr}{n c:Nat}(h:uB w D l A n c):uB w D' l A n c:=Sl.sub hd (fun _ _ h=>uk9.sub hd h) h
def Cof.val(q:Cof):Rat:=mkRat (sg q.neg (vs (fun i=>q.num.getD i 0) q.num.length)) (vs (fun i=>q.den.getD i 0) q.den.length)
theorem upc.vAs{l:List Nat}{A:Option Addr}{n c:Nat}(h:upc w D l A n c):ubz w D (.slice A n c) l.length (fun i=>l.getD i 0):=by
 obtain⟨h1,h2,h3,h4,h5⟩:=h;subst h2;refine⟨fun i hi=>?_,A,c,rfl,h3,h4,fun hp=>?_⟩
 ·show l.getD i 0<4294967296
  rw[aj,ai hi];exact h1 _ (aq hi)
 ·obtain⟨b,off,h6,h7,h8,h9⟩:=h5 hp
  refine⟨b,off,h6,h7,h8,fun i hi=>?_⟩
  obtain⟨v,a0,rfl⟩:=h9 i hi;have:=a0 0 _ rfl;show _=some (Value.int .u32 ((l.getD i 0:Nat):Int))
  rw[aj,ai hi];rw[Nat.mul_one]at this;exact this
theorem ub2.rat{q:Cof}{v:List Value}(h:ub2 w D q v){K:Nat}(h1:q.num.length<=K)(h2:q.den.length<=K):uK w D (.agg v.toArray) K q.val:=by
 obtain⟨A,n,c,A',n',c',rfl,h3,h4⟩:=h;exact⟨q.neg,_,_,_,_,_,_,rfl,h3.vAs,h4.vAs,h1,h2,rfl⟩
end
open AC
def trm(t:Ter):Mon×Rat:=(t.m,t.q.val)
def chS(sel:Rat->Rat->Bool)(a b:Rat):Rat:=if sel a b=true then b else a
def vAh(sel:Rat->Rat->Bool):List Ter->List Ter->List Ter
 | [],[]=>[]
 | s::p,[]=>if sel s.q.val 0=true then vAh sel p []else s::vAh sel p []
 | [],t::q=>if sel 0 t.q.val=true then t::vAh sel [] q else vAh sel [] q
 | s::p,t::q=>
  if uc9 s.m t.m<0 then(if sel s.q.val 0=true then vAh sel p (t::q)else s::vAh sel p (t::q))
  else if 0<uc9 s.m t.m then(if sel 0 t.q.val=true then t::vAh sel (s::p) q else vAh sel (s::p) q)
  else(if sel s.q.val t.q.val=true then t::vAh sel p q else s::vAh sel p q)
termination_by p q=>p.length+q.length
theorem uj2{m:Mon}{c:Rat}{p:Pol}(h:c≠0):put m c p=(m,c)::p:=by unfold put;rw[if_neg h]
theorem uzq{m:Mon}{p:Pol}:put m 0 p=p:=by unfold put;rw[if_pos rfl]
theorem udh(sel:Rat->Rat->Bool):∀(n:Nat) (p q:List Ter),p.length+q.length<=n->(∀t∈p,t.q.val≠0)->(∀t∈q,t.q.val≠0)->(vAh sel p q).map trm=mrg (chS sel) (p.map trm) (q.map trm)
 | 0,[],[],_,_,_=>by rw[vAh];simp only[List.map_nil];rw[mrg]
 | 0,_::_,_,h,_,_=>by simp at h
 | 0,[],_::_,h,_,_=>by simp at h
 | n+1,[],[],_,_,_=>by rw[vAh];simp only[List.map_nil];rw[mrg]
 | n+1,s::p,[],hn,hp,hq=>by
  have ih:=udh sel n p [] (by simp at hn ⊢;omega) (fun t ht=>hp t (by simp[ht])) (fun t ht=>by cases ht)
  have hs:=hp s (by simp)
  simp only[List.map_nil]at ih;rw[vAh,List.map_cons,List.map_nil,trm,mrg,chS];by_cases h:sel s.q.val 0=true
  ·rw[if_pos h,if_pos h,uzq,ih]
  ·rw[if_neg h,if_neg h,uj2 hs,List.map_cons,ih,trm]
 | n+1,[],t::q,hn,hp,hq=>by
  have ih:=udh sel n [] q (by simp at hn ⊢;omega) (fun t ht=>by cases ht) (fun t ht=>hq t (by simp[ht]))
  have hs:=hq t (by simp)
  simp only[List.map_nil]at ih;rw[vAh,List.map_nil,List.map_cons,trm,mrg,chS];by_cases h:sel 0 t.q.val=true
  ·rw[if_pos h,if_pos h,uj2 hs,List.map_cons,ih,trm]
  ·rw[if_neg h,if_neg h,uzq,ih]
 | n+1,s::p,t::q,hn,hp,hq=>by
  have hs:=hp s (by simp)
  have ht:=hq t (by simp)
  have a0:∀t∈p,t.q.val≠0:=fun t ht=>hp t (by simp[ht])
  have a1:∀t∈q,t.q.val≠0:=fun t ht=>hq t (by simp[ht])
  have i1:=udh sel n p (t::q) (by simp at hn ⊢;omega) a0 hq
  have i2:=udh sel n (s::p) q (by simp at hn ⊢;omega) hp a1
  have i3:=udh sel n p q (by simp at hn ⊢;omega) a0 a1
  simp only[List.map_cons]at i1 i2;rw[vAh,List.map_cons,List.map_cons];show _=mrg (chS sel) ((s.m,s.q.val)::p.map trm) ((t.m,t.q.val)::q.map trm)
  rw[mrg];by_cases h1:uc9 s.m t.m<0
  ·rw[if_pos h1,if_pos h1,chS]
   by_cases h:sel s.q.val 0=true
   ·rw[if_pos h,if_pos h,uzq,i1];rfl
   ·rw[if_neg h,if_neg h,uj2 hs,List.map_cons,i1];rfl
  ·rw[if_neg h1,if_neg h1]
   by_cases h2:0<uc9 s.m t.m
   ·rw[if_pos h2,if_pos h2,chS]
    by_cases h:sel 0 t.q.val=true
    ·rw[if_pos h,if_pos h,uj2 ht,List.map_cons,i2];rfl
    ·rw[if_neg h,if_neg h,uzq,i2];rfl
   ·rw[if_neg h2,if_neg h2,chS]
    have e:s.m=t.m:=(uu6.eq _ _).1 (by omega)
    by_cases h:sel s.q.val t.q.val=true
    ·rw[if_pos h,if_pos h,uj2 ht,List.map_cons,i3,trm,e]
    ·rw[if_neg h,if_neg h,uj2 hs,List.map_cons,i3];rfl
theorem udi(sel:Rat->Rat->Bool):∀(n:Nat) (p q:List Ter),p.length+q.length<=n->∀x∈vAh sel p q,x∈p\/x∈q
 | 0,[],[],_,x,h=>by rw[vAh]at h;cases h
 | 0,_::_,_,h,_,_=>by simp at h
 | 0,[],_::_,h,_,_=>by simp at h
 | n+1,[],[],_,x,h=>by rw[vAh]at h;cases h
 | n+1,s::p,[],hn,x,h=>by
  have ih:=udi sel n p [] (by simp at hn ⊢;omega) x
  rw[vAh]at h;split at h
  ·rcases ih h with h|h
   ·exact .inl (by simp[h])
   ·cases h
  ·rcases List.mem_cons.1 h with rfl|h
   ·exact .inl (by simp)
   ·rcases ih h with h|h
    ·exact .inl (by simp[h])
    ·cases h
 | n+1,[],t::q,hn,x,h=>by
  have ih:=udi sel n [] q (by simp at hn ⊢;omega) x
  rw[vAh]at h;split at h
  ·rcases List.mem_cons.1 h with rfl|h
   ·exact .inr (by simp)
   ·rcases ih h with h|h
    ·cases h
    ·exact .inr (by simp[h])
  ·rcases ih h with h|h
   ·cases h
   ·exact .inr (by simp[h])
 | n+1,s::p,t::q,hn,x,h=>by
  have i1:=udi sel n p (t::q) (by simp at hn ⊢;omega) x
  have i2:=udi sel n (s::p) q (by simp at hn ⊢;omega) x
  have i3:=udi sel n p q (by simp at hn ⊢;omega) x
  rw[vAh]at h;have w1:x∈vAh sel p (t::q)->x∈s::p\/x∈t::q:=fun h=>(i1 h).elim (fun h=> .inl (by simp[h])) .inr
  have w2:x∈vAh sel (s::p) q->x∈s::p\/x∈t::q:=fun h=>(i2 h).elim .inl (fun h=> .inr (by simp[h]))
  have w3:x∈vAh sel p q->x∈s::p\/x∈t::q:=fun h=>(i3 h).elim (fun h=> .inl (by simp[h])) (fun h=> .inr (by simp[h]))
  have c1:∀ {l:List Ter},(x∈l->x∈s::p\/x∈t::q)->x∈s::l->x∈s::p\/x∈t::q:=fun hl h=>by
   rcases List.mem_cons.1 h with rfl|h
   ·exact .inl (by simp)
   ·exact hl h
  have c2:∀ {l:List Ter},(x∈l->x∈s::p\/x∈t::q)->x∈t::l->x∈s::p\/x∈t::q:=fun hl h=>by
   rcases List.mem_cons.1 h with rfl|h
   ·exact .inr (by simp)
   ·exact hl h
  split at h
  ·split at h
   ·exact w1 h
   ·exact c1 w1 h
  ·split at h
   ·split at h
    ·exact c2 w2 h
    ·exact w2 h
   ·split at h
    ·exact c2 w3 h
    ·exact c1 w3 h
theorem uhu{us:Nat->List Value}{sz:Nat}:∀ {n:Nat},(∀i,i<n->(us i).length=sz)->(ucr us n).length=n*sz
 | 0,_=>by simp[ucr]
 | n+1,h=>by rw[uay,ay,uhu fun i hi=>h i (by omega),h n (by omega),Nat.succ_mul]
theorem uil{us:Nat->List Value}{sz:Nat}:∀ {n i j:Nat} {x:Value},(∀i,i<n->(us i).length=sz)->i<n->(us i)[j]? = some x->(ucr us n)[i*sz+j]? = some x
 | 0,i,j,x,_,hi,_=>absurd hi (by omega)
 | n+1,i,j,x,h,hi,hx=>by
  have hj:j<(us i).length:=(aI.1 hx).1;have hl:=uhu (n:=n) (sz:=sz) fun i hi=>h i (by omega)
  have a0:=h i hi;rw[uay];rcases ah i n with h1|h1
  ·have:i*sz+sz<=n*sz:=by rw[<-Nat.succ_mul];exact aF _ h1
   rw[List.getElem?_append_left (by omega)]
   exact uil (fun i hi=>h i (by omega)) h1 hx
  ·obtain rfl:i=n:=by omega
   rw[List.getElem?_append_right (by omega),hl,show i*sz+j-i*sz=j from by omega]
   exact hx
structure vCk {α:Type} (R:World->(Nat->Prop)->α->List Value->Prop):Prop where
 vAb:∀ {w w':World} {D:Nat->Prop} {a:α} {v:List Value},uc D w w'->R w D a v->R w' D a v
 sub:∀ {w:World} {D D':Nat->Prop} {a:α} {v:List Value},(∀b,b<w.heap.size->D b->D' b)->R w D a v->R w D' a v
def ucb{α:Type}(sz:Nat)(R:World->(Nat->Prop)->α->List Value->Prop)(e:TypeId)(base:Nat)(w:World)(lv:Value)(l:List α)(us:Nat->List Value):Prop:=
 w.ownsRow base e sz lv l.length (ucr us l.length)/\∀(i:Nat) (h:i<l.length),(us i).length=sz/\R w (fun b=>base<=b/\some b≠lv.ownBlock) l[i] (us i)
section
variable {α:Type} {sz:Nat} {R:World->(Nat->Prop)->α->List Value->Prop} {base:Nat} {e:TypeId} {w w' w3:World} {lv:Value} {l:List α} {us:Nat->List Value}
theorem ucb.nil(sz:Nat)(R:World->(Nat->Prop)->α->List Value->Prop)(base:Nat)(e:TypeId)(w:World):ucb sz R e base w (.slice none 0 0) [] fun _=>[]:=⟨World.ownsRow_nil _ _ _ _,fun i hi=>absurd hi (by simp)⟩
theorem ucb.kept(hR:vCk R)(h:ucb sz R e base w lv l us)(hg:w.grownBy w' none):ucb sz R e base w' lv l us:=by
 refine⟨h.1.kept (row:=none) hg ?_,fun i hi=>⟨(h.2 i hi).1,?_⟩⟩
 ·cases lv.ownBlock with
  | none=>exact .inl rfl
  | some g=>exact .inr (fun e=>by cases e)
 ·have:=hR.vAb (D:=fun b=>b<w.heap.size/\base<=b/\some b≠lv.ownBlock) (w':=w') ⟨hg.size,fun b hb hD=>hg.block b hb (by simp)⟩ (hR.sub (fun b hb hD=>⟨hb,hD⟩) (h.2 i hi).2)
  exact hR.sub (fun b _ hD=>hD.2) this
theorem ucb.below(hR:vCk R)(h:ucb sz R e base w lv l us)(hb:Below w.heap.size w w'):ucb sz R e base w' lv l us:=
 h.kept hR ⟨hb.os,hb.tape,hb.output,hb.size,fun k hk _=>hb.block k hk⟩
theorem ucb.fw(hR:vCk R){S:Nat->Prop}(h:ucb sz R e base w lv l us)(f:Fw S w w')(hS:∀b,S b->b<base):ucb sz R e base w' lv l us:=by
 have a0:=h.1;refine⟨?_,fun i hi=>⟨(h.2 i hi).1,hR.vAb (uc.fw f fun b hD a1=>by have:=hS b a1;omega) (h.2 i hi).2⟩⟩
 have a2:=a0.lt;rcases a0.2 with⟨hv,hn0⟩|⟨g,cap,cur,hv,r⟩
 ·refine⟨a0.1,.inl ⟨hv,hn0⟩⟩
 ·have a3:lv.ownBlock=some g:=by rw[hv];rfl
  have hg:=a2 g a3;obtain⟨r1,r2,r3⟩:=r;exact⟨a0.1,.inr ⟨g,cap,cur,hv,r1,(f.block g hg.2 (fun e=>by have:=hS g e;omega)).trans r2,r3⟩⟩
theorem ucb.next(hR:vCk R)(h:ucb sz R e base w lv l us){t:α}{v:List Value}(hv:R w (fun b=>base<=b/\some b≠lv.ownBlock) t v)(a6:v.length=sz){g cap:Nat}
 (a4:w3.ownsRow base e sz (.slice (some ⟨g,0,none⟩) (l.length+1) cap) (l.length+1) (ucr us l.length++v)) (hg:(w.alloc (.cells v.toArray e)).grownBy w3 lv.ownBlock) (a1:lv.ownBlock=some g\/g=w.heap.size+1) :
 ucb sz R e base w3 (.slice (some ⟨g,0,none⟩) (l.length+1) cap) (l++[t]) fun i=>if i=l.length then v else us i:=by
 have a3:∀b,b<w.heap.size->some b≠lv.ownBlock->w3.heap[b]? = w.heap[b]? :=fun b hb a0=>(hg.block b (by simp;omega) a0).trans (Below.heap_alloc w _ b hb)
 have a2:∀b,b<w.heap.size->some b≠lv.ownBlock->some b≠(Value.slice (some ⟨g,0,none⟩) (l.length+1) cap).ownBlock:=by
  intro b hb a0 e;have e':b=g:=by simpa[Value.ownBlock]using e
  subst e';rcases a1 with h|h
  ·exact a0 h.symm
  ·omega
 have a5:w.heap.size<=w3.heap.size:=by have:=hg.size;simp at this;omega
 have vAb:∀ {t:α} {v:List Value},R w (fun b=>base<=b/\some b≠lv.ownBlock) t v->R w3 (fun b=>base<=b/\some b≠(Value.slice (some ⟨g,0,none⟩) (l.length+1) cap).ownBlock) t v:=fun h=>by
  have h1:=hR.sub (D':=fun b=>b<w.heap.size/\base<=b/\some b≠lv.ownBlock) (fun b hb hD=>⟨hb,hD⟩) h
  have h2:=hR.vAb (w':=w3) ⟨a5,fun b hb hD=>a3 b hb (hD.2.2)⟩ h1
  exact hR.sub (fun b _ hD=>⟨hD.2.1,a2 b hD.1 hD.2.2⟩) h2
 refine⟨?_,fun i hi=>?_⟩
 ·have e1:ucr (fun i=>if i=l.length then v else us i) (l++[t]).length=ucr us l.length++v:=by
   rw[ay,List.length_singleton,uay,ucu (us':=us) fun i hi=>if_neg (by omega),if_pos rfl]
  rw[e1];simpa using a4
 ·rw[ay,List.length_singleton]at hi
  rcases ah i l.length with h1|h1
  ·simp only[if_neg (show ¬i=l.length from by omega)]
   rw[List.getElem_append_left h1];exact⟨(h.2 i h1).1,vAb (h.2 i h1).2⟩
  ·obtain rfl:i=l.length:=by omega
   simp only[if_true];rw[List.getElem_append_right ab];simp only[Nat.sub_self,List.getElem_cons_zero];exact⟨a6,vAb hv⟩
theorem ucb.vBc(hR:vCk R)(h:ucb sz R e base w lv l us){t:α}{v:List Value}(hv:R w (fun b=>base<=b/\some b≠lv.ownBlock) t v)(a6:v.length=sz){g cap:Nat}
 (a4:w3.ownsRow base e sz (.slice (some ⟨g,0,none⟩) (l.length+1) cap) (l.length+1) (ucr us l.length++v)) (hg:w.grownBy w3 lv.ownBlock) (a1:lv.ownBlock=some g\/g=w.heap.size) :
 ucb sz R e base w3 (.slice (some ⟨g,0,none⟩) (l.length+1) cap) (l++[t]) fun i=>if i=l.length then v else us i:=by
 have a3:∀b,b<w.heap.size->some b≠lv.ownBlock->w3.heap[b]? = w.heap[b]? :=fun b hb a0=>hg.block b hb a0
 have a2:∀b,b<w.heap.size->some b≠lv.ownBlock->some b≠(Value.slice (some ⟨g,0,none⟩) (l.length+1) cap).ownBlock:=by
  intro b hb a0 e;have e':b=g:=by simpa[Value.ownBlock]using e
  subst e';rcases a1 with h|h
  ·exact a0 h.symm
  ·omega
 have a5:w.heap.size<=w3.heap.size:=hg.size;have vAb:∀ {t:α} {v:List Value},R w (fun b=>base<=b/\some b≠lv.ownBlock) t v->R w3 (fun b=>base<=b/\some b≠(Value.slice (some ⟨g,0,none⟩) (l.length+1) cap).ownBlock) t v:=fun h=>by
  have h1:=hR.sub (D':=fun b=>b<w.heap.size/\base<=b/\some b≠lv.ownBlock) (fun b hb hD=>⟨hb,hD⟩) h
  have h2:=hR.vAb (w':=w3) ⟨a5,fun b hb hD=>a3 b hb (hD.2.2)⟩ h1
  exact hR.sub (fun b _ hD=>⟨hD.2.1,a2 b hD.1 hD.2.2⟩) h2
 refine⟨?_,fun i hi=>?_⟩
 ·have e1:ucr (fun i=>if i=l.length then v else us i) (l++[t]).length=ucr us l.length++v:=by
   rw[ay,List.length_singleton,uay,ucu (us':=us) fun i hi=>if_neg (by omega),if_pos rfl]
  rw[e1];simpa using a4
 ·rw[ay,List.length_singleton]at hi
  rcases ah i l.length with h1|h1
  ·simp only[if_neg (show ¬i=l.length from by omega)]
   rw[List.getElem_append_left h1];exact⟨(h.2 i h1).1,vAb (h.2 i h1).2⟩
  ·obtain rfl:i=l.length:=by omega
   simp only[if_true];rw[List.getElem_append_right ab];simp only[Nat.sub_self,List.getElem_cons_zero];exact⟨a6,vAb hv⟩
theorem ucb.lt(h:ucb sz R e base w lv l us){g:Nat}(hg:lv.ownBlock=some g):base<=g/\g<w.heap.size:=h.1.lt g hg
theorem ucb.form(h:ucb sz R e base w lv l us):∃A c,lv = .slice A l.length c/\l.length<=c/\c<=maxLen:=by
 rcases h.1.2 with⟨hv,hn0⟩|⟨g,cap,cur,hv,_,_,hnc,hcm,_⟩
 ·exact⟨none,0,by rw[hv,hn0],by omega,by unfold maxLen;omega⟩
 ·exact⟨_,_,hv,hnc,hcm⟩
theorem ucb.done(hR:vCk R)(h:ucb sz R e base w lv l us):∃A len cap,lv = .slice A len cap/\Sl sz (R w (base <= ·)) w (base <= ·) l A len cap:=by
 have hc:=h.1;have a1:=fun g (hg:lv.ownBlock=some g)=>hc.cells hg
 have a2:=hc.lt;rcases hc.2 with⟨hv,hn0⟩|⟨g,cap,cur,hv,hb,hgg,hnc,hcm,_⟩
 ·exact⟨none,0,0,hv,hn0.symm,ab,by unfold maxLen;omega,fun h=>absurd h (by omega)⟩
 ·have a0:lv.ownBlock=some g:=by rw[hv];rfl
  refine⟨_,_,_,hv,rfl,hnc,hcm,fun _=>⟨g,0,rfl,hb,(a2 g a0).2,fun i hi=>⟨us i,fun j x hx=>?_,hR.sub (fun b _ hD=>hD.1) (h.2 i hi).2⟩⟩⟩
  have:=a1 g a0 (i*sz+j) x (uil (fun i hi=>(h.2 i hi).1) hi hx)
  rw[Addr.add_lit]at this;simpa using this
end
end Go.Proofs.YtnbbpmagijpmpaaGreatDoor
namespace AC
open Go Go.RowKit
def uj:Act->List Nat->Nat->(Nat->Value)->Act
 | a,[],_,_=>a
 | a,t::r,k,s=>uj (a.put (some t) (s k)) r (k+1) s
theorem udj{a:Act}:∀(l:List Nat) (k:Nat) (s s':Nat->Value),(∀i,k<=i->i<k+l.length->s i=s' i)->uj a l k s=uj a l k s'
 | [],_,_,_,_=>rfl
 | t::r,k,s,s',h=>by
  unfold uj;rw[h k ab (by simp),udj r (k+1) s s' fun i h1 h2=>h i (by omega) (by simp;omega)]
theorem ugh:∀(l:List Nat) (a:Act) (k:Nat) (s:Nat->Value) (t:Nat) (v:Value),t∉l->(uj a l k s).put (some t) v=uj (a.put (some t) v) l k s
 | [],_,_,_,_,_,_=>rfl
 | u::r,a,k,s,t,v,h=>by
  unfold uj;rw[ugh r _ (k+1) s t v (fun hm=>h (aG _ hm))]
  rw[Act.put_comm a (s k) v (x:=some u) (y:=some t) (fun d e e'=>by
   injection e with e;injection e' with e';subst e;subst e';exact h List.mem_cons_self)]
theorem upe(a:Act)(t:Nat)(u v:Value):(a.put (some t) u).put (some t) v=a.put (some t) v:=by
 unfold Act.put;simp
theorem ubi:∀(l:List Nat) (a:Act) (k i:Nat) (s:Nat->Value) (t:Nat) (v:Value),l.Nodup->l[i]? = some t ->
 (uj a l k s).put (some t) v=uj a l k (fun j=>if j=k+i then v else s j)
 | [],_,_,_,_,_,_,_,h=>by simp at h
 | u::r,a,k,0,s,t,v,hn,h=>by
  simp only[List.getElem?_cons_zero,Option.some.injEq]at h;subst h;unfold uj;have e:(fun j=>if j=k+0 then v else s j) k=v:=if_pos rfl
  rw[ugh r _ (k+1) s u v (List.nodup_cons.1 hn).1,upe,e];exact udj r (k+1) _ _ fun i h1 _=>(if_neg (by omega)).symm
 | u::r,a,k,i+1,s,t,v,hn,h=>by
  unfold uj;rw[List.getElem?_cons_succ]at h;have e:(fun j=>if j=k+(i+1)then v else s j) k=s k:=if_neg (by omega)
  rw[ubi r _ (k+1) i s t v (List.nodup_cons.1 hn).2 h,e];exact udj r (k+1) _ _ fun j _ _=>by
   rw[show k+1+i=k+(i+1) from by omega]
theorem ua4:∀(l:List Nat) (a:Act) (k:Nat),l.Nodup->∃s,uj a l k s=a
 | [],a,k,_=>⟨fun _=>undef,rfl⟩
 | t::r,a,k,hn=>by
  obtain⟨s,hs⟩:=ua4 r (a.put (some t) (a.tmps.getD t undef)) (k+1) (List.nodup_cons.1 hn).2;refine⟨fun j=>if j=k then a.tmps.getD t undef else s j,?_⟩
  unfold uj;have e:(fun j=>if j=k then a.tmps.getD t undef else s j) k=a.tmps.getD t undef:=if_pos rfl
  rw[e,udj r (k+1) _ s (fun i h1 _=>if_neg (by omega)),hs]
  unfold Act.put;have:a.tmps.setIfInBounds t (a.tmps.getD t undef)=a.tmps:=by
   apply Array.ext_getElem?;intro j;by_cases hj:j=t
   ·subst hj
    by_cases a0:j<a.tmps.size
    ·rw[aO a0,ak,aR a0];rfl
    ·rw[Array.getElem?_eq_none (by simpa using a0),Array.getElem?_eq_none (by simpa using a0)]
   ·rw[Array.getElem?_setIfInBounds_ne (fun e=>hj e.symm)]
  simp only[this]
def ahead(ops:Array Oper):Nat->Nat->Nat->Bool
 | 0,_,_=>false
 | f+1,i,j=>match ops[i]? with
  | some o=>o.after.any fun e=>Region.binds .any e&&(e.on==j||ahead ops f e.on j)
  | none=>false
def uvf(ops:Array Oper)(n f:Nat):Bool:=
 (List.range ops.size).all fun i=>decide (i<n)||(List.range i).all fun j=>ahead ops f i j
def ucw(ops:Array Oper)(vAa:List Nat):Bool:=
 (List.range vAa.length).all fun i=>match ops[i]? with
  | some o=>decide (o.dst=vAa[i]?)
  | none=>false
theorem ub7{ops:Array Oper}{d:Nat->Bool}(a0:∀(i:Nat) (o:Oper),ops[i]? = some o->d i=true->∀e∈o.after,Region.binds .any e=true->d e.on=true) :
 ∀(f i j:Nat) (o:Oper),ops[i]? = some o->(∀e∈o.after,Region.binds .any e=true->d e.on=true)->ahead ops f i j=true->d j=true
 | 0,_,_,_,_,_,h=>by simp[ahead]at h
 | f+1,i,j,o,ho,hp,h=>by
  unfold ahead at h;rw[ho]at h;obtain⟨e,he,h2⟩:=Array.any_eq_true'.1 h;simp only[ax,aU,beq_iff_eq]at h2;have a1:=hp e he h2.1;rcases h2.2 with h3|h3
  ·rw[<-h3];exact a1
  ·cases ho':ops[e.on]? with
   | none=>cases f with
    | zero=>simp[ahead]at h3
    | succ f=>simp[ahead,ho']at h3
   | some o'=>exact ub7 a0 f e.on j o' ho' (fun e' a3 a2=>a0 e.on o' ho' a1 e' a3 a2) h3
section
variable {P:Program} {ops:Array Oper} {Q:Exit->Act->World->Prop}
theorem vAd{i:Nat}{o:Oper}{rest:List Oper}{a:Act}{w:World}(ho:ops[i]? = some o)(h:wpList P ops Q (o::rest) a w):wpOp P ops Q i (wpList P ops Q rest) a w:=by
 unfold wpOp;rw[ho];exact h
theorem vA1{ops:Array Oper}{i:Nat}{o:Oper}(ho:ops[i]? = some o):ops.toList.drop i=o::ops.toList.drop (i+1):=by
 obtain⟨hi,e⟩:=au.1 ho;rw[aN (by simpa using hi)]
 congr 1
def StI(a0:Act)(w0:World)(vAa:List Nat)(F:Nat->Nat->Nat->Value->World->Prop)(d:Nat->Bool)(a:Act)(x:World):Prop:=
 ∃(s:Nat->Value) (lo hi:Nat->Nat),a=uj a0 vAa 0 s/\Below w0.heap.size w0 x/\(∀i,i<vAa.length->d i=true->F i (lo i) (hi i) (s i) x/\w0.heap.size<=lo i/\lo i<=hi i/\hi i<=x.heap.size) /\
  ∀i j,i<vAa.length->j<vAa.length->i≠j->d i=true->d j=true->hi i<=lo j\/hi j<=lo i
theorem uhm{id:Nat}{a0:Act}{w0:World}(hm:P.follows .mixedOrders=true)
 (c4:uvc ops=true) (vAa:List Nat) (f:Nat) (b5:(ucw ops vAa&&uvf ops vAa.length f&&decide vAa.Nodup&&decide (vAa.length<=ops.size))=true)
 (F:Nat->Nat->Nat->Value->World->Prop)
 (c6:∀i lo hi v x x',i<vAa.length->F i lo hi v x->Below x.heap.size x x'->F i lo hi v x')
 (step:∀(i:Nat) (o:Oper) (s:Nat->Value) (x:World),ops[i]? = some o->i<vAa.length->Below w0.heap.size w0 x ->
  (∀j,ahead ops f i j=true->j<vAa.length->∃lo hi,F j lo hi (s j) x) ->
  wpOp P ops Q i (fun a' x'=>∃v,a'=(uj a0 vAa 0 s).put (some (vAa.getD i 0)) v/\F i x.heap.size x'.heap.size v x'/\Below x.heap.size x x') (uj a0 vAa 0 s) x)
 (fin:∀(s:Nat->Value) (lo hi:Nat->Nat) (x:World),Below w0.heap.size w0 x->(∀i,i<vAa.length->F i (lo i) (hi i) (s i) x/\w0.heap.size<=lo i/\lo i<=hi i/\hi i<=x.heap.size) ->
  (∀i j,i<vAa.length->j<vAa.length->i≠j->hi i<=lo j\/hi j<=lo i)->wpList P ops Q (ops.toList.drop vAa.length) (uj a0 vAa 0 s) x) :
 (Code.region id ops true).wp P Q a0 w0:=by
 simp only[ax,aP]at b5;obtain⟨⟨⟨b8,c2⟩,b4⟩,c8⟩:=b5;have hl:=ues c4;have c3:∀i,i<ops.size->vAa.length<=i->∀j,j<i->ahead ops f i j=true:=by
  intro i hi hn j hj;have h1:=aT.1 c2 i (aX.2 hi);simp only[aU,aP]at h1;rcases h1 with h1|h1
  ·omega
  ·exact aT.1 h1 j (aX.2 hj)
 have c7:∀i o,i<vAa.length->ops[i]? = some o->o.dst=vAa[i]? :=by
  intro i o hi ho;have h1:=aT.1 b8 i (aX.2 hi);rw[ho]at h1;simpa using h1
 refine ub1 hm hl (fun d a x=>(∀(i:Nat) (o:Oper),ops[i]? = some o->d i=true->∀e∈o.after,Region.binds .any e=true->d e.on=true) /\
  (((∀j,vAa.length<=j->d j=false)/\StI a0 w0 vAa F d a x)\/(∃k,vAa.length<k/\(∀j,d j=decide (j<k))/\wpList P ops Q (ops.toList.drop k) a x))) ?_ ?_ ?_
 ·refine⟨(fun i o _ h=>by cases h),.inl ⟨fun _ _=>rfl,?_⟩⟩
  obtain⟨s,hs⟩:=ua4 vAa a0 0 b4;exact⟨s,fun _=>0,fun _=>0,hs.symm,aa.drew,(fun i _ h=>by cases h),(fun i j _ _ _ h _=>by cases h)⟩
 ·rintro d i o a x ho a5 b0 ⟨a9,hI⟩
  have hi:i<ops.size:=(au.1 ho).1;have b2:∀(k:Nat) (o':Oper),ops[k]? = some o'->(d k||k==i)=true->∀e∈o'.after,Region.binds .any e=true->(d e.on||e.on==i)=true:=by
   intro k o' a7 hk e he hb;rw[aU]at hk ⊢;rcases hk with hk|hk
   ·exact .inl (a9 k o' a7 hk e he hb)
   ·have:k=i:=by simpa using hk
    subst this;rw[ho]at a7;injection a7 with a7;subst a7;exact .inl (b0 e he hb)
  rcases ah i vAa.length with hin|hin
  ·rcases hI with⟨hnone,s,lo,hi',rfl,hbx,hF,hdis⟩|⟨k,hk,a2,hw⟩
   ·refine wpOp_mono ?_ (step i o s x ho hin hbx fun j hj c0=>⟨_,_,(hF j c0 (ub7 a9 f i j o ho b0 hj)).1⟩)
    rintro a' x'⟨v,rfl,b6,a8⟩;refine⟨b2,.inl ⟨fun j hj=>?_,?_⟩⟩
    ·have:(j==i)=false:=by rw[aw];omega
     show(d j||j==i)=false
     rw[hnone j hj,this];rfl
    ·refine⟨fun j=>if j=i then v else s j,fun j=>if j=i then x.heap.size else lo j,fun j=>if j=i then x'.heap.size else hi' j,?_,hbx.trans (a8.mono hbx.size),?_,?_⟩
     ·have ht:vAa[i]? = some (vAa.getD i 0):=by rw[aj,ai hin];rfl
      rw[ubi vAa a0 0 i s (vAa.getD i 0) v b4 ht,Nat.zero_add]
     ·intro j hj a4
      by_cases a3:j=i
      ·subst a3
       simp only[if_true];exact⟨b6,hbx.size,a8.size,ab⟩
      ·simp only[if_neg a3]
       have b7:d j=true:=by
        rw[aU]at a4;rcases a4 with h|h
        ·exact h
        ·exact absurd (by simpa using h) a3
       obtain⟨h1,h2,h3,h4⟩:=hF j hj b7;exact⟨c6 _ _ _ _ _ _ hj h1 a8,h2,h3,ag h4 a8.size⟩
     ·intro j k hj hk a6 a4 a2
      have old:∀j,(d j||j==i)=true->j≠i->d j=true:=by
       intro j h c5;rw[aU]at h;rcases h with h|h
       ·exact h
       ·exact absurd (by simpa using h) c5
      by_cases a3:j=i
      ·subst a3
       have b3:k≠j:=fun e=>a6 e.symm
       simp only[if_true,if_neg b3];exact .inr (hF k hk (old k a2 b3)).2.2.2
      ·by_cases b1:k=i
       ·subst b1
        simp only[if_true,if_neg a3];exact .inl (hF j hj (old j a4 a3)).2.2.2
       ·simp only[if_neg a3,if_neg b1]
        exact hdis j k hj hk a6 (old j a4 a3) (old k a2 b1)
   ·rw[a2 i]at a5
    simp at a5;omega
  ·have a1:∀j,j<i->d j=true:=fun j hj=>ub7 a9 f i j o ho b0 (c3 i hi hin j hj)
   have key:∃w',w'=wpList P ops Q (ops.toList.drop i) a x/\w':=by
    refine⟨_,rfl,?_⟩;rcases hI with⟨hnone,s,lo,hi',rfl,hbx,hF,hdis⟩|⟨k,hk,a2,hw⟩
    ·have b9:i=vAa.length:=by
      rcases ah vAa.length i with h|h
      ·have:=a1 vAa.length h;rw[hnone _ ab]at this;cases this
      ·omega
     rw[b9];exact fin s lo hi' x hbx (fun j hj=>hF j hj (a1 j (by omega))) (fun j k hj hk a6=>hdis j k hj hk a6 (a1 j (by omega)) (a1 k (by omega)))
    ·have:i=k:=by
      rcases Nat.lt_trichotomy i k with h|h|h
      ·rw[a2 i]at a5;simp at a5;omega
      ·exact h
      ·have:=a1 k h;rw[a2 k]at this;simp at this
     rw[this];exact hw
   obtain⟨_,rfl,key⟩:=key;rw[vA1 ho]at key;refine wpOp_mono ?_ (vAd ho key);intro a' x' hw;refine⟨b2,.inr ⟨i+1,by omega,fun j=>?_,hw⟩⟩
   show(d j||j==i)=_
   rcases Nat.lt_trichotomy j i with h|h|h
   ·rw[a1 j h];simp;omega
   ·subst h;simp
   ·have a4:d j=false:=by
     rcases hI with⟨hnone,_⟩|⟨k,hk,a2,hw⟩
     ·exact hnone j (by omega)
     ·rw[a2 i]at a5;rw[a2 j];simp at a5 ⊢;omega
    rw[a4];have:(j==i)=false:=by rw[aw];omega
    rw[this];simp;omega
 ·rintro d a x a1 ⟨a9,hI⟩
  rcases hI with⟨hnone,s,lo,hi',rfl,hbx,hF,hdis⟩|⟨k,hk,a2,hw⟩
  ·have hn:vAa.length=ops.size:=by
    rcases ah vAa.length ops.size with h|h
    ·have:=a1 _ h;rw[hnone _ ab]at this;cases this
    ·omega
   have:=fin s lo hi' x hbx (fun j hj=>hF j hj (a1 j (by omega))) (fun j k hj hk a6=>hdis j k hj hk a6 (a1 j (by omega)) (a1 k (by omega)))
   rw[hn,List.drop_of_length_le (by simp)]at this
   exact this
  ·have c1:ops.size<=k:=by
    rcases ah k ops.size with h|h
    ·have:=a1 k h;rw[a2 k]at this;simp at this
    ·exact h
   rw[List.drop_of_length_le (by simpa using c1)]at hw
   exact hw
end
def ua5(P:Program)(ops:Array Oper)(Q:Exit->Act->World->Prop)(i:Nat)(K:Act->World->Prop)(a:Act)(w:World):Prop:=wpOp P ops Q i K a w
theorem ua5.out{P:Program}{ops:Array Oper}{Q:Exit->Act->World->Prop}{i:Nat}{K:Act->World->Prop}{a:Act}{w:World}(h:ua5 P ops Q i K a w):wpOp P ops Q i K a w:=h
theorem ua5.of{P:Program}{ops:Array Oper}{Q:Exit->Act->World->Prop}{i:Nat}{K:Act->World->Prop}{a:Act}{w:World}(h:wpOp P ops Q i K a w):ua5 P ops Q i K a w:=h
attribute [irreducible] ua5
section
variable {P:Program} {ops:Array Oper} {Q:Exit->Act->World->Prop}
theorem ua7{i:Nat}{o:Oper}{I:Act->World->Prop}{a:Act}{w:World}(ho:ops[i]? = some o)(hg:o.guard=none)
 (h:∀K:Act->World->Prop,(∀a w,I a w->K a w)->o.wp P a w K Q):ua5 P ops Q i I a w:=ua5.of (uC ho hg h)
theorem uh{i:Nat}{o:Oper}{I:Act->World->Prop}{a:Act}{w:World}(ho:ops[i]? = some o)(hg:o.guard=none)
 (h:∀K:Act->World->Prop,Hid (∀a w,I a w->K a w)->o.wp P a w K Q):ua5 P ops Q i I a w:=ua7 ho hg h
theorem uv{i j:Nat}{want:Bool}{o:Oper}{I:Act->World->Prop}{a:Act}{w:World}(ho:ops[i]? = some o)(hg:o.guard=some (j,want))(t:Nat)(hd:(ops[j]?).bind (·.dst)=some t)(hv:a.tmps[t]? = some (.bool want))
 (h:∀K:Act->World->Prop,(∀a w,I a w->K a w)->o.wp P a w K Q):ua5 P ops Q i I a w:=by
 refine ua5.of ?_;have hy:yielded ops a.tmps j=some want:=by
  unfold yielded;rw[hd];show(match a.tmps[t]? with|some (.bool b)=>some b|_=>none)=some want
  rw[hv]
 unfold wpOp;rw[ho];simp only[Region.wanted,hg,hy,beq_self_eq_true,if_true];exact .inl (h I fun _ _ h=>h)
theorem ui{i j:Nat}{want:Bool}{o:Oper}{I:Act->World->Prop}{a:Act}{w:World}(ho:ops[i]? = some o)(hg:o.guard=some (j,want))(t:Nat)(hd:(ops[j]?).bind (·.dst)=some t)(hv:a.tmps[t]? = some (.bool (!want)))
 (h:I (a.put o.dst undef) w):ua5 P ops Q i I a w:=by
 refine ua5.of ?_;have hy:yielded ops a.tmps j=some (!want):=by
  unfold yielded;rw[hd];show(match a.tmps[t]? with|some (.bool b)=>some b|_=>none)=some (!want)
  rw[hv]
 unfold wpOp;rw[ho];have:(some (!want)==some want)=false:=by cases want<;>rfl
 simp only[Region.wanted,hg,hy,this];exact h
theorem uao{id:Nat}{a0:Act}{w0:World}(hm:P.follows .mixedOrders=true)
 (a3:uvc ops=true) (vAa:List Nat) (f:Nat) (a4:(ucw ops vAa&&uvf ops vAa.length f&&decide vAa.Nodup&&decide (vAa.length<=ops.size))=true)
 (F:Nat->Value->World->Prop)
 (a5:∀i v x x',i<vAa.length->F i v x->Below x.heap.size x x'->F i v x')
 (step:∀(i:Nat) (o:Oper) (s:Nat->Value) (x:World),ops[i]? = some o->i<vAa.length->Below w0.heap.size w0 x ->
  (∀j,ahead ops f i j=true->j<vAa.length->F j (s j) x) ->
  ua5 P ops Q i (fun a' x'=>∃v,a'=(uj a0 vAa 0 s).put (some (vAa.getD i 0)) v/\F i v x'/\Below x.heap.size x x') (uj a0 vAa 0 s) x)
 (fin:∀(s:Nat->Value) (x:World),Below w0.heap.size w0 x->(∀i,i<vAa.length->F i (s i) x)->wpList P ops Q (ops.toList.drop vAa.length) (uj a0 vAa 0 s) x) :
 (Code.region id ops true).wp P Q a0 w0:=
 uhm hm a3 vAa f a4 (fun i _ _ v x=>F i v x) (fun i _ _ v x x' hi h hb=>a5 i v x x' hi h hb)
  (fun i o s x ho hi hb a1=>(step i o s x ho hi hb fun j hj a2=>(a1 j hj a2).choose_spec.choose_spec).out)
  (fun s _ _ x hb hF _=>fin s x hb fun i hi=>(hF i hi).1)
end
theorem nv:(∀(a:Act) (k:Nat) (s:Nat->Value),uj a [] k s=a)/\(∀(a:Act) (t:Nat) (r:List Nat) (k:Nat) (s:Nat->Value),uj a (t::r) k s=uj (a.put (some t) (s k)) r (k+1) s) /\
 (∀(l:List Value) (d) (i:Nat) (v:Value),Act.put ⟨l.toArray,d⟩ (some i) v=⟨(l.set i v).toArray,d⟩)/\(∀(x y:Value) (l:List Value) (i:Nat),(x::l).set (i+1) y=x::l.set i y)/\(∀(x y:Value) (l:List Value),(x::l).set 0 y=y::l) /\
 (∀(x y:Nat) (l:List Nat),(x::l).getD 0 y=x)/\(∀(x y i:Nat) (l:List Nat),(x::l).getD (i+1) y=l.getD i y)/\(∀n:Nat,0+n=n):=
 ⟨fun _ _ _=>rfl,fun _ _ _ _ _=>rfl,fun l d i v=>by simp[Act.put],fun _ _ _ _=>rfl,fun _ _ _=>rfl,fun _ _ _=>rfl,fun _ _ _ _=>rfl,Nat.zero_add⟩
section
variable {P:Program} {ops:Array Oper} {Q:Exit->Act->World->Prop}
def RlI(a0:Act)(R:(Nat->Bool)->World->Prop)(vAa:List Nat)(F:Nat->Value->World->Prop)(d:Nat->Bool)(a:Act)(x:World):Prop:=
 ∃(s:Nat->Value),a=uj a0 vAa 0 s/\R d x/\∀i,i<vAa.length->d i=true->F i (s i) x
theorem ufn{id:Nat}{a0:Act}{w0:World}(hm:P.follows .mixedOrders=true)
 (c1:uvc ops=true) (vAa:List Nat) (f:Nat) (b3:(ucw ops vAa&&uvf ops vAa.length f&&decide vAa.Nodup&&decide (vAa.length<=ops.size))=true)
 (R:(Nat->Bool)->World->Prop) (G:Nat->World->World->Prop) (F:Nat->Value->World->Prop) (h0:R (fun _=>false) w0.drew) (hR:∀d j x x',R d x->d j=false->G j x x'->R (fun k=>d k||k==j) x')
 (c2:∀i j v x x',i<vAa.length->j<vAa.length->i≠j->ahead ops f i j=false->F i v x->G j x x'->F i v x')
 (step:∀(i:Nat) (o:Oper) (s:Nat->Value) (d:Nat->Bool) (x:World),ops[i]? = some o->i<vAa.length->d i=false->R d x ->
  (∀j,ahead ops f i j=true->j<vAa.length->F j (s j) x) ->
  ua5 P ops Q i (fun a' x'=>∃v,a'=(uj a0 vAa 0 s).put (some (vAa.getD i 0)) v/\F i v x'/\G i x x') (uj a0 vAa 0 s) x)
 (fin:∀(s:Nat->Value) (d:Nat->Bool) (x:World),R d x->(∀i,i<vAa.length->F i (s i) x)->wpList P ops Q (ops.toList.drop vAa.length) (uj a0 vAa 0 s) x) :
 (Code.region id ops true).wp P Q a0 w0:=by
 simp only[ax,aP]at b3;obtain⟨⟨⟨c3,b9⟩,b1⟩,c4⟩:=b3;have hl:=ues c1;have c0:∀i,i<ops.size->vAa.length<=i->∀j,j<i->ahead ops f i j=true:=by
  intro i hi hn j hj;have h1:=aT.1 b9 i (aX.2 hi);simp only[aU,aP]at h1;rcases h1 with h1|h1
  ·omega
  ·exact aT.1 h1 j (aX.2 hj)
 refine ub1 hm hl (fun d a x=>(∀(i:Nat) (o:Oper),ops[i]? = some o->d i=true->∀e∈o.after,Region.binds .any e=true->d e.on=true) /\
  (((∀j,vAa.length<=j->d j=false)/\RlI a0 R vAa F d a x)\/(∃k,vAa.length<k/\(∀j,d j=decide (j<k))/\wpList P ops Q (ops.toList.drop k) a x))) ?_ ?_ ?_
 ·refine⟨(fun i o _ h=>by cases h),.inl ⟨fun _ _=>rfl,?_⟩⟩
  obtain⟨s,hs⟩:=ua4 vAa a0 0 b1;exact⟨s,hs.symm,h0,fun i _ h=>by cases h⟩
 ·rintro d i o a x ho a1 a7 ⟨a3,hI⟩
  have hi:i<ops.size:=(au.1 ho).1;have a9:∀(k:Nat) (o':Oper),ops[k]? = some o'->(d k||k==i)=true->∀e∈o'.after,Region.binds .any e=true->(d e.on||e.on==i)=true:=by
   intro k o' a4 hk e he hb;rw[aU]at hk ⊢;rcases hk with hk|hk
   ·exact .inl (a3 k o' a4 hk e he hb)
   ·have:k=i:=by simpa using hk
    subst this;rw[ho]at a4;injection a4 with a4;subst a4;exact .inl (a7 e he hb)
  rcases ah i vAa.length with hin|hin
  ·rcases hI with⟨hnone,s,rfl,hbx,hF⟩|⟨k,hk,hdk,hw⟩
   ·refine wpOp_mono ?_ (step i o s d x ho hin a1 hbx fun j hj b6=>hF j b6 (ub7 a3 f i j o ho a7 hj)).out
    rintro a' x'⟨v,rfl,b4,a8⟩;refine⟨a9,.inl ⟨fun j hj=>?_,?_⟩⟩
    ·have:(j==i)=false:=by rw[aw];omega
     show(d j||j==i)=false
     rw[hnone j hj,this];rfl
    ·refine⟨fun j=>if j=i then v else s j,?_,hR d i x x' hbx a1 a8,?_⟩
     ·have ht:vAa[i]? = some (vAa.getD i 0):=by rw[aj,ai hin];rfl
      rw[ubi vAa a0 0 i s (vAa.getD i 0) v b1 ht,Nat.zero_add]
     ·intro j hj a5
      by_cases a6:j=i
      ·subst a6
       simp only[if_true];exact b4
      ·simp only[if_neg a6]
       have b0:d j=true:=by
        rw[aU]at a5;rcases a5 with h|h
        ·exact h
        ·exact absurd (by simpa using h) a6
       refine c2 j i _ x x' hj hin a6 ?_ (hF j hj b0) a8;cases ha:ahead ops f j i with
       | false=>rfl
       | true=>
        exfalso;have b7:j<ops.size:=by omega
        have b2:ops[j]? = some ops[j]:=aR b7;have:=ub7 a3 f j i _ b2 (a3 j _ b2 b0) ha;rw[a1]at this;cases this
   ·rw[hdk i]at a1
    simp at a1;omega
  ·have a2:∀j,j<i->d j=true:=fun j hj=>ub7 a3 f i j o ho a7 (c0 i hi hin j hj)
   have key:∃w',w'=wpList P ops Q (ops.toList.drop i) a x/\w':=by
    refine⟨_,rfl,?_⟩;rcases hI with⟨hnone,s,rfl,hbx,hF⟩|⟨k,hk,hdk,hw⟩
    ·have b5:i=vAa.length:=by
      rcases ah vAa.length i with h|h
      ·have:=a2 vAa.length h;rw[hnone _ ab]at this;cases this
      ·omega
     rw[b5];exact fin s d x hbx fun j hj=>hF j hj (a2 j (by omega))
    ·have:i=k:=by
      rcases Nat.lt_trichotomy i k with h|h|h
      ·rw[hdk i]at a1;simp at a1;omega
      ·exact h
      ·have:=a2 k h;rw[hdk k]at this;simp at this
     rw[this];exact hw
   obtain⟨_,rfl,key⟩:=key;rw[vA1 ho]at key;refine wpOp_mono ?_ (vAd ho key);intro a' x' hw;refine⟨a9,.inr ⟨i+1,by omega,fun j=>?_,hw⟩⟩
   show(d j||j==i)=_
   rcases Nat.lt_trichotomy j i with h|h|h
   ·rw[a2 j h];simp;omega
   ·subst h;simp
   ·have a5:d j=false:=by
     rcases hI with⟨hnone,_⟩|⟨k,hk,hdk,hw⟩
     ·exact hnone j (by omega)
     ·rw[hdk i]at a1;rw[hdk j];simp at a1 ⊢;omega
    rw[a5];have:(j==i)=false:=by rw[aw];omega
    rw[this];simp;omega
 ·rintro d a x a2 ⟨a3,hI⟩
  rcases hI with⟨hnone,s,rfl,hbx,hF⟩|⟨k,hk,hdk,hw⟩
  ·have hn:vAa.length=ops.size:=by
    rcases ah vAa.length ops.size with h|h
    ·have:=a2 _ h;rw[hnone _ ab]at this;cases this
    ·omega
   have:=fin s d x hbx fun j hj=>hF j hj (a2 j (by omega))
   rw[hn,List.drop_of_length_le (by simp)]at this
   exact this
  ·have b8:ops.size<=k:=by
    rcases ah k ops.size with h|h
    ·have:=a2 k h;rw[hdk k]at this;simp at this
    ·exact h
   rw[List.drop_of_length_le (by simpa using b8)]at hw
   exact hw
end
end AC
