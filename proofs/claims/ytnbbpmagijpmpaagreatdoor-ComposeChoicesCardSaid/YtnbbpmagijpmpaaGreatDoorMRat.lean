/-
  Plain facts about rational numbers and their sizes.
-/
import Derived.Test.YtnbbpmagijpmpaaGreatDoorMWalkG
import Derived.Deep.RegionHeld3
import Derived.RegionTactic
import Derived.ChangeAlike
import Derived.BigRegion
import Derived.Lib.Builder
import Derived.Lib.AppendStr
import Derived.Lib.UnsafeStr
import Derived.Laws.Externs
import Derived.LoopTactic
import Derived.Shelf.Abstract
import Derived.Laws.EntriesVeiled
import Derived.Outline
import Derived.Deep.Cut
import Derived.Handy
import Derived.Deep.AppendLies
import Derived.Great.BuildSlice
import Derived.Laws.MakeOwn
import Derived.Shelf.Strings.Builder1
import Derived.Shelf.Small.Wraps
import Derived.Shelf.Strings.BuilderF
import Derived.Shelf.Strings.BuilderK
import Derived.Shelf.Strconv.Itoa0
import Derived.Shelf.Strconv.Itoa1
import Derived.Shelf.LaysM
import Derived.Shelf.Strconv.Itoa2
import Derived.Shelf.Strconv.Itoa3
import Derived.Shelf.Strconv.Itoa4
import Derived.Shelf.Strings.BuilderCap
import Derived.Lib.LaidTab
import Derived.Lib.ItoaLen
import Derived.Lib.AppendIntMem
set_option linter.unusedVariables false
set_option linter.unusedSimpArgs false
namespace AC
def sg(neg:Bool)(n:Nat):Int:=if neg then -(n:Int)else(n:Int)
theorem ub9(neg:Bool)(n:Nat):(sg neg n).natAbs=n:=by cases neg<;>simp[sg]
theorem ugd(neg:Bool):sg neg 0=0:=by cases neg<;>simp[sg]
theorem uF5(neg:Bool)(n d:Nat)(hd:d≠0):(mkRat (sg neg n) d).den=d/Nat.gcd n d:=by
 rw[Rat.den_mkRat,if_neg hd,ub9,Nat.gcd_comm]
theorem uuy(neg:Bool)(n d:Nat)(hd:d≠0):(mkRat (sg neg n) d).num=sg neg (n/Nat.gcd n d):=by
 rw[Rat.num_mkRat,if_neg hd,ub9,Nat.gcd_comm];cases neg
 ·simp[sg]
 ·simp only[sg,if_true]
  rw[Int.neg_ediv_of_dvd (Int.natCast_dvd_natCast.2 (Nat.gcd_dvd_left n d))];simp
theorem uuz(neg:Bool)(n d:Nat)(hd:d≠0):(mkRat (sg neg n) d).num.natAbs=n/Nat.gcd n d:=by
 rw[uuy neg n d hd,ub9]
theorem uu0{n d:Nat}(hn:n≠0):n/Nat.gcd n d≠0:=by
 have h1:0<Nat.gcd n d:=Nat.gcd_pos_of_pos_left d (Nat.pos_of_ne_zero hn);have h2:Nat.gcd n d<=n:=Nat.gcd_le_left d (Nat.pos_of_ne_zero hn);have:=Nat.div_pos h2 h1;omega
theorem uF6(neg:Bool)(n d:Nat)(hd:d≠0)(hn:n≠0):decide ((mkRat (sg neg n) d).num<0)=neg:=by
 rw[uuy neg n d hd];have:=uu0 (d:=d) hn;generalize n/Nat.gcd n d=m at *;cases neg
 ·simp[sg]
 ·simp[sg];omega
def sz(q:Rat):Nat:=max (dl q.num.natAbs) (dl q.den)
theorem uy6(x:Int)(d k:Nat)(h1:dl x.natAbs<=k)(h2:dl d<=k)(hk:1<=k):sz (mkRat x d)<=k:=by
 unfold sz;rw[Rat.num_mkRat,Rat.den_mkRat];by_cases hd:d=0
 ·subst hd
  have:dl 1=1:=ump (k:=0) (by decide) (by decide)
  simp[uV,this];omega
 ·rw[if_neg hd,if_neg hd]
  apply Nat.max_le.2;constructor
  ·refine ag (ub8 ?_) h1
   have:(x/((Nat.gcd d x.natAbs:Nat):Int)).natAbs<=x.natAbs:=by
    have a0:((Nat.gcd d x.natAbs:Nat):Int)∣x:=Int.ofNat_dvd_left.2 (Nat.gcd_dvd_right _ _);rw[Int.natAbs_ediv_of_dvd a0];exact Nat.div_le_self _ _
   exact this
  ·exact ag (ub8 (Nat.div_le_self _ _)) h2
theorem uu1(q:Rat):1<=sz q:=by
 have h:dl q.den≠0:=fun e=>q.den_nz (uR.1 e)
 unfold sz;omega
theorem udc(x y:Int):dl (x*y).natAbs<=dl x.natAbs+dl y.natAbs:=by rw[Int.natAbs_mul];exact uT _ _
theorem uF7(a b:Rat):sz (a+b)<=sz a+sz b+1:=by
 rw[Rat.add_def'];have h1:dl a.num.natAbs<=sz a:=Nat.le_max_left _ _;have h2:dl a.den<=sz a:=Nat.le_max_right _ _;have h3:dl b.num.natAbs<=sz b:=Nat.le_max_left _ _;have h4:dl b.den<=sz b:=Nat.le_max_right _ _;refine uy6 _ _ _ ?_ ?_ (by omega)
 ·have h5:(a.num*b.den+b.num*a.den).natAbs<=(a.num*b.den).natAbs+(b.num*a.den).natAbs:=Int.natAbs_add_le _ _
  refine ag (ub8 h5) (ag (umq _ _) ?_);have h6:=udc a.num b.den;have h7:=udc b.num a.den;simp only[Int.natAbs_natCast]at h6 h7;omega
 ·have:=uT a.den b.den
  omega
theorem uCh(a b:Rat):sz (a*b)<=sz a+sz b:=by
 rw[Rat.mul_def'];have h1:dl a.num.natAbs<=sz a:=Nat.le_max_left _ _;have h2:dl a.den<=sz a:=Nat.le_max_right _ _;have h3:dl b.num.natAbs<=sz b:=Nat.le_max_left _ _;have h4:dl b.den<=sz b:=Nat.le_max_right _ _;have h5:=uu1 a;refine uy6 _ _ _ ?_ ?_ (by omega)
 ·have:=udc a.num b.num;omega
 ·have:=uT a.den b.den;omega
end AC
namespace Go.Proofs.YtnbbpmagijpmpaaGreatDoor
open Go.Lib (hid)
open Go.RowKit AC
def ud5(w:World)(lo:Nat)(v:Value)(q:Rat):Prop:=uaj w lo v (decide (q.num<0)) q.num.natAbs q.den
theorem ud5.below{w w':World}{lo:Nat}{v:Value}{q:Rat}(h:ud5 w lo v q)(hb:Below w.heap.size w w'):ud5 w' lo v q:=uaj.below h hb
theorem ud5.lower{w:World}{lo lo':Nat}{v:Value}{q:Rat}(h:ud5 w lo v q)(hl:lo'<=lo):ud5 w lo' v q:=uaj.lower h hl
theorem ud5.vC7{w:World}{lo:Nat}{v:Value}{neg:Bool}{n d:Nat}(hd:d≠0)(hn:n≠0)(h:uaj w lo v neg (n/Nat.gcd n d) (d/Nat.gcd n d)):ud5 w lo v (mkRat (sg neg n) d):=by
 unfold ud5;rw[uF6 neg n d hd hn,uuz neg n d hd,uF5 neg n d hd];exact h
theorem ud5.vDd{w:World}{lo:Nat}{v:Value}{neg:Bool}{d:Nat}(h:uaj w lo v false 0 1):ud5 w lo v (mkRat (sg neg 0) d):=by
 rw[ugd,Rat.zero_mkRat];exact h
theorem us6(w:World)(lo:Nat)(v:Value)(neg:Bool)(n d:Nat)(a1:lo<=w.heap.size)(hv:uaj w lo v neg n d)(hd:d≠0)(hk:dl n<=4294967296)(a0:dl d<=4294967296) :
 Calls Tryz.prog 96 #[v] w (Ret fun v2 w'=>(v2=v/\(∀W l,uaj W l v neg n d->ud5 W l v (mkRat (sg neg n) d))\/ud5 w' w.heap.size v2 (mkRat (sg neg n) d))/\Below w.heap.size w w'):=by
 by_cases hn:n=0
 ·subst hn
  refine(uo6 w lo v neg d hv).mono ?_;rintro e w'⟨v2,rfl,h,hb⟩;exact⟨v2,rfl,.inr (ud5.vDd h),hb⟩
 ·by_cases h1:d=1
  ·subst h1
   refine(us5 w lo v neg n hv hn).mono ?_;rintro e w'⟨v2,rfl,rfl,hb⟩;exact⟨_,rfl,.inl ⟨rfl,fun W l h=>ud5.vC7 hd hn (by rw[Nat.gcd_one_right,Nat.div_one,Nat.div_one];exact h)⟩,hb⟩
  ·refine(uo7 w lo v neg n d a1 hv hn h1 hk a0).mono ?_
   rintro e w'⟨v2,rfl,h,hb⟩;rcases h with⟨rfl,hg⟩|h
   ·exact⟨_,rfl,.inl ⟨rfl,fun W l h=>ud5.vC7 hd hn (by rw[hg,Nat.div_one,Nat.div_one];exact h)⟩,hb⟩
   ·exact⟨v2,rfl,.inr (ud5.vC7 hd hn h),hb⟩
theorem uaj.form{w:World}{lo:Nat}{v:Value}{neg:Bool}{n d:Nat}(h:uaj w lo v neg n d) :
 ∃A c A' c',v = .agg #[.bool neg,.slice A (dl n) c,.slice A' (dl d) c']/\uL w lo (.slice A (dl n) c) n/\uL w lo (.slice A' (dl d) c') d:=by
 obtain⟨vn,vd,rfl,h1,h2⟩:=h;obtain⟨A,c,rfl⟩:=uu.len h1;obtain⟨A',c',rfl⟩:=uu.len h2;exact⟨A,c,A',c',rfl,h1,h2⟩
set_option maxHeartbeats 16000000
theorem ufh(w:World)(lo:Nat)(v:Value)(neg:Bool)(n d:Nat)(a9:lo<=w.heap.size)(hv:uaj w lo v neg n d)(hd:d≠0)(hk:dl n<=4294967296)(a5:dl d<=4294967296) :
 Calls Tryz.prog 48 #[v] w (Ret fun v2 w'=>ud5 w' lo v2 (mkRat (sg neg n) d)/\Below w.heap.size w w'):=by
 have HV:=hid hv;obtain⟨A,c,A',c',rfl,h1,h2⟩:=hv.form;clear h1 h2 hv;go_enter Tryz.func48,Tryz.ntmps48
 go_wp2_with fail
 refine(us6 _ lo _ neg n d (by simp;omega) (HV.out.below (uy5 w _ _)) hd hk a5).mono ?_
 rintro e w2⟨v2,rfl,a2,a0⟩;obtain⟨a4,a8⟩:=uDi a0;have a7:w.heap.size+1<w2.heap.size:=by have:=a0.size;simp at this;omega
 have b0:w.heap.size<w2.heap.size:=by omega
 have a3:=(uy5 w _ _).trans (a0.mono (by simp;omega))
 obtain⟨q,hq⟩:∃q,Hid (q=mkRat (sg neg n) d):=⟨_,rfl⟩;rw[<-hq.out]at a2;have a1:∃A2 c2 A3 c3,v2 = .agg #[.bool (decide (q.num<0)),.slice A2 (dl q.num.natAbs) c2,.slice A3 (dl q.den) c3] /\
  ∀(a b c:Value) (o:Obj),ud5 (World.alloc (((w2.setCell ⟨w.heap.size+1,0,none⟩ a).setCell ⟨w.heap.size+1,1,none⟩ b).setCell ⟨w.heap.size+1,2,none⟩ c) o) lo v2 q:=by
  rcases a2 with⟨rfl,h⟩|h
  ·have h0:=h w lo HV.out
   obtain⟨A2,c2,A3,c3,e,_,_⟩:=uaj.form h0;refine⟨A2,c2,A3,c3,e,fun a b c o=>?_⟩
   exact h0.below ((((a3.setCell (by simp) a).setCell (by simp) b).setCell (by simp) c).alloc (by simp[World.setCell];omega) o)
  ·obtain⟨A2,c2,A3,c3,e,_,_⟩:=uaj.form h
   refine⟨A2,c2,A3,c3,e,fun a b c o=>?_⟩
   obtain⟨vn,vd,a6,h1,h2⟩:=h;exact⟨vn,vd,a6,((((uu.setCell h1 (by simp) a).setCell (by simp) b).setCell (by simp) c).alloc o).lower (by simp;omega),((((uu.setCell h2 (by simp) a).setCell (by simp) b).setCell (by simp) c).alloc o).lower (by simp;omega)⟩
 obtain⟨A2,c2,A3,c3,rfl,a1⟩:=a1;have HD:=hid a1;clear a1 a2 a0;go_wp2;refine bodyPost_ret (v:= .agg #[.bool (decide (q.num<0)),.slice A2 (dl q.num.natAbs) c2,.slice A3 (dl q.den) c3]) (by simp[results,Tryz.results48,go_sem,a4,a7]) rfl ⟨_,rfl,?_,?_⟩
 ·rw[<-hq.out];exact HD.out _ _ _ _
 ·exact(((a3.setCell (by simp) _).setCell (by simp) _).setCell (by simp) _).alloc (by simp[World.setCell];omega) _
set_option maxHeartbeats 200000
def ufi(w:World)(lo:Nat)(v:Value)(K:Nat)(q:Rat):Prop:=
 ∃(neg:Bool) (kn kd:Nat) (fn fd:Nat->Nat) (vn vd:Value),v = .agg #[.bool neg,vn,vd]/\uu w lo vn kn fn/\uu w lo vd kd fd/\kn<=K/\kd<=K/\q=mkRat (sg neg (vs fn kn)) (vs fd kd)
theorem ufi.below{w w':World}{lo:Nat}{v:Value}{K:Nat}{q:Rat}(h:ufi w lo v K q)(hb:Below w.heap.size w w'):ufi w' lo v K q:=by
 obtain⟨neg,kn,kd,fn,fd,vn,vd,rfl,h1,h2,h3,h4,h5⟩:=h;exact⟨neg,kn,kd,fn,fd,vn,vd,rfl,h1.below hb,h2.below hb,h3,h4,h5⟩
theorem us8(q:Rat):sg (decide (q.num<0)) q.num.natAbs=q.num:=by
 unfold sg;by_cases h:q.num<0
 ·simp[h];omega
 ·simp[h];omega
theorem uy7(q:Rat):mkRat (sg (decide (q.num<0)) q.num.natAbs) q.den=q:=by rw[us8];exact Rat.mkRat_self q
theorem ud5.toV{w:World}{lo:Nat}{v:Value}{q:Rat}(h:ud5 w lo v q){K:Nat}(hK:sz q<=K):ufi w lo v K q:=by
 obtain⟨vn,vd,rfl,h1,h2⟩:=h;refine⟨_,_,_,_,_,vn,vd,rfl,h1,h2,?_,?_,?_⟩
 ·exact ag (Nat.le_max_left _ _) hK
 ·exact ag (Nat.le_max_right _ _) hK
 ·rw[uF1,uF1,uy7]
theorem uhq{f:Nat->Nat}{k:Nat}(h:∀i,i<k->f i<4294967296):dl (vs f k)<=k+1:=by
 apply ue4;have h1:=uib f k h k ab;rw[Nat.pow_succ,Nat.mul_comm,<-Nat.div_lt_iff_lt_mul (uH k)];exact Nat.lt_of_le_of_lt h1 (by decide)
theorem ufi.size{w:World}{lo:Nat}{v:Value}{K:Nat}{q:Rat}(h:ufi w lo v K q):sz q<=K+1:=by
 obtain⟨neg,kn,kd,fn,fd,vn,vd,rfl,h1,h2,h3,h4,h5⟩:=h;rw[h5];refine uy6 _ _ _ ?_ ?_ (by omega)
 ·rw[ub9];have:=uhq h1.1;omega
 ·have:=uhq h2.1;omega
def uu2(w:World)(K:Nat)(q:Rat)(v2:Value)(w':World):Prop:=
 ∃neg n d,uaj w' w.heap.size v2 neg n d/\d≠0/\dl n<=K+1/\dl d<=K+1/\q=mkRat (sg neg n) d/\Below w.heap.size w w'
set_option maxHeartbeats 16000000
theorem uck(w:World)(lo:Nat)(v:Value)(K:Nat)(q:Rat)(hv:ufi w lo v K q)(hK:K<=4294967290) :
 Calls Tryz.prog 75 #[v] w (Ret (uu2 w K q)):=by
 obtain⟨neg,kn,kd,fn,fd,vn,vd,rfl,h1,h2,h3,h4,h5⟩:=hv;have H1:=hid h1;have H2:=hid h2;have H5:=hid h5;obtain⟨A,c,rfl⟩:=h1.len;obtain⟨A',c',rfl⟩:=h2.len;clear h1 h2 h5;go_enter Tryz.func75,Tryz.ntmps75
 go_wp2;go_region_held3 (fun w'=>w'.cell? ⟨w.heap.size,1,none⟩=some (.slice A kn c)/\w'.cell? ⟨w.heap.size,2,none⟩=some (.slice A' kd c')) (go_keep)
  (first
   | (go_at_call_of 133 (Value.slice A kn c);refine(ujy _ lo _ kn fn (by exact(H1.out.alloc _).alloc _) (by omega)).mono ?_;rintro e w1 ⟨v1,rfl,a2,a1⟩;have b4:=(uy5 w _ _).drew.trans (a1.mono (by simp;omega));have d0:w.heap.size+1<w1.heap.size:=(by have:=a1.size;simp at this;omega);have d1:w.heap.size<w1.heap.size:=(by omega);obtain⟨a5,c8⟩:=uDi a1;have b8:w1.cell? ⟨w.heap.size,1,none⟩=some (.slice A kn c):=(a1.cell (p:=⟨w.heap.size,1,none⟩) (by simp;omega)).trans (by simp[go_sem]);have b9:w1.cell? ⟨w.heap.size,2,none⟩=some (.slice A' kd c'):=(a1.cell (p:=⟨w.heap.size,2,none⟩) (by simp;omega)).trans (by simp[go_sem]))
   | (go_at_call_of 133 (Value.slice A' kd c');refine(ujy _ lo _ kd fd (by exact H2.out.below b4) (by omega)).mono ?_;rintro e w2 ⟨v2,rfl,a3,a0⟩;have c6:w2.cell? ⟨w.heap.size,1,none⟩=some (.slice A kn c):=(a0.cell (p:=⟨w.heap.size,1,none⟩) (by simp;omega)).trans b8;have c7:w2.cell? ⟨w.heap.size,2,none⟩=some (.slice A' kd c'):=(a0.cell (p:=⟨w.heap.size,2,none⟩) (by simp;omega)).trans b9))
 have b0:w.heap.size+1<w2.heap.size:=by have:=a0.size;omega
 have d2:w.heap.size<w2.heap.size:=by omega
 have b7:=b4.trans (a0.mono (by omega))
 have a6:∀b o,b<w.heap.size+2->w2.cell? ⟨b,o,none⟩=w1.cell? ⟨b,o,none⟩:=fun b o h=>a0.cell (p:=⟨b,o,none⟩) (by simp;omega)
 have c9:∀b o,b<w.heap.size+2->w2.frozen? ⟨b,o,none⟩=w1.frozen? ⟨b,o,none⟩:=fun b o h=>a0.frozen (p:=⟨b,o,none⟩) (by simp;omega)
 have b1:=hid (a2.below a0);have b2:=hid a3;obtain⟨N,hN⟩:∃N,Hid (N=vs fn kn):=⟨_,rfl⟩;obtain⟨D,hD⟩:∃D,Hid (D=vs fd kd):=⟨_,rfl⟩;rw[<-hN.out]at b1 a2;rw[<-hD.out]at b2 a3;have c5:Hid (dl N<=K+1):=by show dl N<=K+1;rw[hN.out];have:=uhq H1.out.1;omega
 have c4:Hid (dl D<=K+1):=by show dl D<=K+1;rw[hD.out];have:=uhq H2.out.1;omega
 obtain⟨A1,c1,rfl⟩:=uu.len a2;obtain⟨A2,c2,rfl⟩:=uu.len a3;clear a2 a3 a1 a0;have a9:Hid (q=mkRat (sg neg N) D):=by rw[hN.out,hD.out];exact H5
 have b5:=fun(a b c:Value)=>((b7.setCell (p:=⟨w.heap.size+1,0,none⟩) (by simp) a).setCell (p:=⟨w.heap.size+1,1,none⟩) (by simp) b).setCell (p:=⟨w.heap.size+1,2,none⟩) (by simp) c
 have a4:=hid b5;have a7:=fun(a b c:Value)=>uL.vCp (((w2.setCell ⟨w.heap.size+1,0,none⟩ a).setCell ⟨w.heap.size+1,1,none⟩ b).setCell ⟨w.heap.size+1,2,none⟩ c) w.heap.size 102 (by simp[World.setCell];omega)
 have b6:∀a b c:Value,(((w2.setCell ⟨w.heap.size+1,0,none⟩ a).setCell ⟨w.heap.size+1,1,none⟩ b).setCell ⟨w.heap.size+1,2,none⟩ c).heap.size=w2.heap.size:=fun a b c=>by simp[World.setCell]
 simp only[b6]at a7;have b3:=hid a7;clear a7 b6 b5;by_cases h0:N=0
 ·have a8:Hid (q=mkRat (sg false 0) 1):=by
   show _=_
   rw[a9.out,h0,ugd,ugd,Rat.zero_mkRat,Rat.zero_mkRat]
  have c0:(((dl N:Nat):Int)==0)=true:=by rw[h0,uV];rfl
  clear h0;go_wp2;exact bodyPost_ret (v:= .agg #[.bool false,.slice none 0 0,.slice (some ⟨w2.heap.size,0,none⟩) 1 1]) (by simp[results,Tryz.results75,go_sem,a6,a5,b0]) rfl
   ⟨_,rfl,false,0,1,⟨_,_,rfl,uL.zero _ _,b3.out _ _ _⟩,by omega,by rw[uV];omega,by rw[umt];omega,a8.out,(a4.out _ _ _).alloc (by simp[World.setCell];omega) _⟩
 ·have c0:(((dl N:Nat):Int)==0)=false:=by
   rw[aw];have:=mt uR.1 h0;omega
  by_cases h1:D=0
  ·have a8:Hid (q=mkRat (sg false 0) 1):=by
    show _=_
    rw[a9.out,h1,ugd,Rat.mkRat_zero,Rat.zero_mkRat]
   have c3:(((dl D:Nat):Int)==0)=true:=by rw[h1,uV];rfl
   clear h0 h1;go_wp2;exact bodyPost_ret (v:= .agg #[.bool false,.slice none 0 0,.slice (some ⟨w2.heap.size,0,none⟩) 1 1]) (by simp[results,Tryz.results75,go_sem,a6,a5,b0]) rfl
    ⟨_,rfl,false,0,1,⟨_,_,rfl,uL.zero _ _,b3.out _ _ _⟩,by omega,by rw[uV];omega,by rw[umt];omega,a8.out,(a4.out _ _ _).alloc (by simp[World.setCell];omega) _⟩
  ·have c3:(((dl D:Nat):Int)==0)=false:=by
    rw[aw];have:=mt uR.1 h1;omega
   clear h0;go_wp2;refine bodyPost_ret (v:= .agg #[.bool neg,.slice A1 (dl N) c1,.slice A2 (dl D) c2]) (by simp[results,Tryz.results75,go_sem,a6,a5,b0]) rfl
    ⟨_,rfl,neg,N,D,⟨_,_,rfl,?_,?_⟩,h1,c5.out,c4.out,a9.out,a4.out _ _ _⟩
   ·exact(((uu.setCell b1.out (by simp) _).setCell (by simp) _).setCell (by simp) _).lower (by simp;omega)
   ·exact(((uu.setCell b2.out (by simp;omega) _).setCell (by simp;omega) _).setCell (by simp;omega) _).lower (by omega)
set_option maxHeartbeats 200000
def ub0(neg:Bool)(n:Nat):Int:=if n=0 then 0 else if neg then -1 else 1
set_option maxHeartbeats 16000000
theorem uid(w:World)(lo:Nat)(v:Value)(neg:Bool)(n d:Nat)(hv:uaj w lo v neg n d) :
 Calls Tryz.prog 76 #[v] w (fun e w'=>e = .returned (.int .i64 (ub0 neg n))/\Below w.heap.size w w'):=by
 obtain⟨A,c,A',c',rfl,h1,h2⟩:=hv.form;clear h1 h2 hv;by_cases h0:n=0
 ·have hs:Hid (ub0 neg n=0):=by unfold ub0;rw[if_pos h0];rfl
  have a0:(((dl n:Nat):Int)==0)=true:=by rw[h0,uV];rfl
  clear h0;go_enter Tryz.func76,Tryz.ntmps76
  go_wp2;go_ret
  exact⟨by rw[hs.out];rfl,aa.alloc ab _⟩
 ·have a0:(((dl n:Nat):Int)==0)=false:=by
   rw[aw];have:=mt uR.1 h0;omega
  cases neg
  ·have hs:Hid (ub0 false n=1):=by unfold ub0;rw[if_neg h0];rfl
   clear h0;go_enter Tryz.func76,Tryz.ntmps76
   go_wp2;go_ret
   exact⟨by rw[hs.out];rfl,aa.alloc ab _⟩
  ·have hs:Hid (ub0 true n = -1):=by unfold ub0;rw[if_neg h0];rfl
   clear h0;go_enter Tryz.func76,Tryz.ntmps76
   go_wp2;go_ret
   exact⟨by rw[hs.out];rfl,aa.alloc ab _⟩
theorem uk2(w:World)(x:Int)(h1 : -9223372036854775808<=x)(h2:x<=9223372036854775807) :
 Calls Tryz.prog 47 #[.int .i64 x] w (Ret fun v2 w'=>uL w' w.heap.size v2 x.natAbs/\Below w.heap.size w w'):=by
 by_cases h0:x<0
 ·go_enter Tryz.func47,Tryz.ntmps47
  go_wp2_with fail
  rw[show IntKind.u64.wrap (-IntKind.u64.wrap x)=((x.natAbs:Nat):Int) by rw[IntKind.wrap_u64,IntKind.wrap_u64];omega]
  refine(ucj _ x.natAbs (by omega)).mono ?_
  rintro e w1⟨v1,rfl,a1,a0⟩;go_wp2;go_ret
  exact⟨v1,rfl,a1,a0⟩
 ·obtain⟨n,rfl⟩:∃n:Nat,x=n:=⟨x.toNat,by omega⟩
  go_enter Tryz.func47,Tryz.ntmps47
  go_wp2_with fail
  refine(ucj _ n (by omega)).mono ?_
  rintro e w1⟨v1,rfl,a1,a0⟩;go_wp2;go_ret
  exact⟨v1,rfl,by rw[Int.natAbs_natCast];exact a1,a0⟩
end Go.Proofs.YtnbbpmagijpmpaaGreatDoor
namespace AC
open Go Go.RowKit
def Bk(w:World)(b:Nat)(t:TypeId)(cs:Array Value):Prop:=w.heap[b]? = some (.cells cs t (0,0))
section
variable {w w':World} {b:Nat} {t:TypeId} {cs:Array Value}
theorem Bk.lt(h:Bk w b t cs):b<w.heap.size:=by
 unfold Bk at h;rcases ah b w.heap.size with h1|h1
 ·exact h1
 ·rw[Array.getElem?_eq_none h1]at h;cases h
theorem Bk.cell(h:Bk w b t cs)(o:Nat):w.cell? ⟨b,o,none⟩=cs[o]? :=by
 unfold Bk at h;simp[World.cell?,h]
theorem Bk.frozen(h:Bk w b t cs)(o:Nat):w.frozen? ⟨b,o,none⟩=false:=by
 unfold Bk at h;simp[World.frozen?,h]
theorem Bk.facts(h:Bk w b t cs):(∀o,w.cell? ⟨b,o,none⟩=cs[o]?)/\(∀o,w.frozen? ⟨b,o,none⟩=false)/\b<w.heap.size:=⟨h.cell,h.frozen,h.lt⟩
theorem Bk.new(w:World)(t:TypeId)(cs:Array Value):Bk (w.alloc (.cells cs t)) w.heap.size t cs:=heap_alloc_new w _
theorem Bk.drew(h:Bk w b t cs):Bk w.drew b t cs:=h
theorem Bk.drewN(h:Bk w b t cs)(n:Nat):Bk (w.drewN n) b t cs:=h
theorem Bk.alloc(h:Bk w b t cs)(o:Obj):Bk (w.alloc o) b t cs:=(Below.heap_alloc w o b h.lt).trans h
theorem Bk.below(h:Bk w b t cs){n:Nat}(hb:Below n w w')(hn:b<n):Bk w' b t cs:=(hb.block b hn).trans h
theorem Bk.grown(h:Bk w b t cs){r:Option Nat}(hg:w.grownBy w' r)(hr:some b≠r):Bk w' b t cs:=(hg.block b h.lt hr).trans h
theorem Bk.far(h:Bk w b t cs){p:Addr}(hp:b≠p.block)(u:Value):Bk (w.setCell p u) b t cs:=(Below.heap_setCell w p u b hp).trans h
theorem Bk.set(h:Bk w b t cs)(i:Nat)(u:Value):Bk (w.setCell ⟨b,i,none⟩ u) b t (cs.setIfInBounds i u):=by
 unfold Bk at h ⊢;simp[World.setCell,Array.getElem?_modify,h]
end
theorem uo{n:Nat}{a w:World}(h:Below n a w){g:Nat}(hg:n<=g)(x y z:Value) :
 Below n a (((w.setCell ⟨g,0,none⟩ x).setCell ⟨g,1,none⟩ y).setCell ⟨g,2,none⟩ z):=
 ((h.setCell (p:=⟨g,0,none⟩) hg x).setCell (p:=⟨g,1,none⟩) hg y).setCell (p:=⟨g,2,none⟩) hg z
theorem ueq{w:World}{lo k:Nat}{v:Value}{f:Nat->Nat}(h:uu w lo v k f){g:Nat}(hg:g<lo)(x y z:Value) :
 uu (((w.setCell ⟨g,0,none⟩ x).setCell ⟨g,1,none⟩ y).setCell ⟨g,2,none⟩ z) lo v k f:=
 ((h.setCell (p:=⟨g,0,none⟩) hg x).setCell (p:=⟨g,1,none⟩) hg y).setCell (p:=⟨g,2,none⟩) hg z
end AC
namespace Go.Proofs.YtnbbpmagijpmpaaGreatDoor
open Go.Lib (hid)
open Go.RowKit AC
theorem uDj:(Tryz.prog.info? 5).map (fun i=>(i.zero,i.size,i.bytes))=some (some (.int .u8 0),1,1):=by kernel_rfl
theorem uy8:(Tryz.prog.info? 154).map (fun i=>i.size)=some 2:=by kernel_rfl
def Wfr(bw:Nat)(w w':World):Prop:=
 Below bw w w'/\∀(b:Nat) (cs:Array Value) (T:TypeId),b≠bw->T≠5->Bk w b T cs->Bk w' b T cs
theorem Wfr.refl(bw:Nat)(w:World):Wfr bw w w:=⟨aa,fun _ _ _ _ _ h=>h⟩
theorem Wfr.trans{bw:Nat}{a b c:World}(h:Wfr bw a b)(k:Wfr bw b c):Wfr bw a c:=
 ⟨h.1.trans k.1,fun b cs T hb hT h'=>k.2 b cs T hb hT (h.2 b cs T hb hT h')⟩
theorem Wfr.alloc{bw:Nat}{a b:World}(h:Wfr bw a b)(hb:bw<=b.heap.size)(o:Obj):Wfr bw a (b.alloc o):=by
 refine⟨h.1.alloc hb o,fun k cs T hk hT h'=>?_⟩
 have h1:=h.2 k cs T hk hT h';exact(Below.heap_alloc b o k h1.lt).trans h1
theorem Wfr.below{bw:Nat}{a b c:World}(h:Wfr bw a b)(k:Below b.heap.size b c)(hb:bw<=b.heap.size):Wfr bw a c:=
 ⟨h.1.trans (k.mono hb),fun b' cs T a0 hT h'=>by
  have h1:=h.2 b' cs T a0 hT h';exact(k.block b' h1.lt).trans h1⟩
theorem Wfr.setCell{bw:Nat}{a b:World}(h:Wfr bw a b)(i:Nat)(u:Value):Wfr bw a (b.setCell ⟨bw,i,none⟩ u):=by
 refine⟨h.1.setCell ab u,fun k cs T hk hT h'=>?_⟩
 exact(Below.heap_setCell b ⟨bw,i,none⟩ u k hk).trans (h.2 k cs T hk hT h')
theorem Wfr.grown{bw:Nat}{a b c:World}(h:Wfr bw a b)(hb:bw<=b.heap.size){v:Value}{n:Nat}{xs:List Value}(a0:b.ownsRow (bw+1) 5 1 v n xs)(hg:b.grownBy c v.ownBlock):Wfr bw a c:=by
 refine⟨h.1.grown hg hb fun g a1=>?_,fun k cs T hk hT h'=>?_⟩
 ·have:=(a0.lt g a1).1;omega
 ·have h1:=h.2 k cs T hk hT h'
  exact(hg.block k h1.lt (fun e=>Lib.ownBlock_ne a0 h1 hT e.symm)).trans h1
theorem Bk.set{w:World}{b:Nat}{t:TypeId}{cs:Array Value}(h:Bk w b t cs)(i:Nat)(u:Value):Bk (w.setCell ⟨b,i,none⟩ u) b t (cs.setIfInBounds i u):=by
 unfold Bk at *;simp[World.setCell,Array.getElem?_modify,h]
theorem ue5{w:World}{base n b i:Nat}{v u:Value}{xs:List Value}{T:TypeId}{cs:Array Value}(h:w.ownsRow base 5 1 v n xs)(hb:Bk w b T cs)(hT:T≠5):(w.setCell ⟨b,i,none⟩ u).ownsRow base 5 1 v n xs:=
 h.kept (row:=some b) ⟨rfl,rfl,rfl,by simp[World.setCell],fun k _ hk=>Below.heap_setCell _ _ _ _ (fun e=>hk (by simp[e]))⟩ (Or.inr (Lib.ownBlock_ne h hb hT))
theorem uy9{w:World}{base:Nat}{e:TypeId}{v:Value}{n:Nat}{xs:List Value}(a0:w.ownsRow base e 1 v n xs):∃ao cap,v = .slice ao n cap:=by
 rcases a0.2 with⟨hv,h0⟩|⟨g,cap,cur,hv,_⟩
 ·exact⟨none,0,by rw[hv,h0]⟩
 ·exact⟨_,_,hv⟩
end Go.Proofs.YtnbbpmagijpmpaaGreatDoor
namespace AC
inductive Tr where
 | n (k m:Int) (kids:List Tr)
def Tr.k:Tr->Int | .n k _ _=>k
def Tr.m:Tr->Int | .n _ m _=>m
def Tr.kids:Tr->List Tr | .n _ _ l=>l
mutual
def Tr.size:Tr->Nat | .n _ _ l=>1+vAk l
def vAk:List Tr->Nat|[]=>0|t::l=>t.size+vAk l
end
theorem Tr.size_pos(t:Tr):0<t.size:=by cases t;rw[Tr.size];omega
structure CoD where
 name:List UInt8
 args:List Tr
structure DaD where
 name:List UInt8
 vars:Int
 cons:List CoD
mutual
def subst(asx:List Tr):Tr->Tr
 | .n k m l=>if(k==4&&decide (0<=m)&&decide (m<asx.length))then asx.getD m.toNat (.n 0 0 [])else .n k m (vAj asx l)
def vAj(asx:List Tr):List Tr->List Tr
 | []=>[]
 | t::l=>subst asx t::vAj asx l
end
mutual
def vAe(ss:List Nat):Tr->Nat
 | .n k m l=>if(k==4&&decide (0<=m)&&decide (m<ss.length))then ss.getD m.toNat 0 else vAf ss 1 l
def vAf(ss:List Nat)(n:Nat):List Tr->Nat
 | []=>n
 | t::l=>if 200<n+vAe ss t then n+vAe ss t else vAf ss (n+vAe ss t) l
end
def uae(D:List DaD)(t:Tr)(c:Int):Option (List Tr):=
 if t.k=5/\0<=t.m/\t.m<D.length then
  match D[t.m.toNat]? with
  | none=>none
  | some d=>
   if(t.kids.length:Int)=d.vars/\0<=c/\c<d.cons.length then
    match d.cons[c.toNat]? with
    | none=>none
    | some e=>if e.args.all (fun a=>decide (vAe (t.kids.map Tr.size) a<=200))then some (e.args.map (subst t.kids))else none
   else none
 else none
def uza(D:List DaD)(vars k m:Int):Option (Int×Int):=
 if k=1\/k=2\/k=3 then(if m=0 then some (0,0)else none)
 else if k=4 then(if 0<=m/\m<vars then some (0,0)else none)
 else if k=5 then(if 0<=m/\m<D.length then(D[m.toNat]?).map fun d=>(d.vars,d.vars)else none)
 else if k=6 then(if m=0 then some (2,6)else none)
 else if k=7\/k=8 then(if m=0 then some (1,1)else none)
 else if k=9 then(if m=0 then some (1,7)else none)
 else none
mutual
def uA(D:List DaD)(vars:Int)(left:Nat):Tr->Option Nat
 | .n k m l=>
  match left with
  | 0=>none
  | left+1=>
   match uza D vars k m with
   | none=>none
   | some (lo,hi)=>if lo<=l.length/\(l.length:Int)<=hi then vAm D vars left l else none
def vAm(D:List DaD)(vars:Int)(left:Nat):List Tr->Option Nat
 | []=>some left
 | t::l=>match uA D vars left t with
  | none=>none
  | some r=>vAm D vars r l
end
def ufj:Int->List Tr->Bool
 | _,[]=>true
 | i,a::l=>a.k==4&&a.m==i&&a.kids.isEmpty&&ufj (i+1) l
def uqv(d vars:Int)(a:Tr):Bool:=a.k==5&&a.m==d&&decide ((a.kids.length:Int)=vars)&&ufj 0 a.kids
end AC
namespace Go.Proofs.YtnbbpmagijpmpaaGreatDoor
open Go.Lib (hid)
open Go.RowKit AC
structure Fw (S:Nat->Prop) (w w':World):Prop where
 os:w'.os=w.os
 tape:w'.tape=w.tape
 output:w'.output=w.output
 size:w.heap.size<=w'.heap.size
 block:∀k,k<w.heap.size->¬S k->w'.heap[k]? = w.heap[k]?
section
variable {S S':Nat->Prop} {a b c w w':World}
theorem Fw.refl(S:Nat->Prop)(w:World):Fw S w w:=⟨rfl,rfl,rfl,ab,fun _ _ _=>rfl⟩
theorem Fw.then(h:Fw S a b)(k:Fw S' b c)(hS:∀x,S' x->S x\/a.heap.size<=x):Fw S a c:=
 ⟨k.os.trans h.os,k.tape.trans h.tape,k.output.trans h.output,ag h.size k.size,fun i hi hn=>
  (k.block i (af hi h.size) (fun e=>by rcases hS i e with h1|h1;exact hn h1;omega)).trans (h.block i hi hn)⟩
theorem Fw.trans(h:Fw S a b)(k:Fw S b c):Fw S a c:=h.then k fun _ h=> .inl h
theorem Fw.alloc(h:Fw S a b)(o:Obj):Fw S a (b.alloc o):=
 h.then (S':=fun _=>False) ⟨rfl,rfl,rfl,by simp,fun k hk _=>Below.heap_alloc _ _ _ hk⟩ (fun _ h=>h.elim)
theorem Fw.setCell(h:Fw S a b){p:Addr}(hp:S p.block\/a.heap.size<=p.block)(u:Value):Fw S a (b.setCell p u):=
 h.then (S':=fun x=>x=p.block) ⟨rfl,rfl,rfl,by simp[World.setCell],fun k _ hk=>Below.heap_setCell _ _ _ _ hk⟩ (fun x hx=>by rw[hx];exact hp)
theorem Fw.below(h:Fw S a b)(k:Below b.heap.size b c):Fw S a c:=
 h.then (S':=fun _=>False) ⟨k.os,k.tape,k.output,k.size,fun i hi _=>k.block i hi⟩ (fun _ h=>h.elim)
theorem Fw.toBelow(h:Fw S a b){n:Nat}(hS:∀x,S x->n<=x)(hn:n<=a.heap.size):Below n a b:=
 ⟨h.os,h.tape,h.output,h.size,fun i hi=>h.block i (by omega) fun e=>by have:=hS i e;omega⟩
theorem Bk.fw{i:Nat}{t:TypeId}{cs:Array Value}(h:Bk w i t cs)(f:Fw S w w')(hi:¬S i):Bk w' i t cs:=(f.block i h.lt hi).trans h
end
theorem uax(w:World)(t:TypeId)(cs:Array Value)(x:Obj):Bk ((w.alloc x).alloc (.cells cs t)) (w.heap.size+1) t cs:=by
 have:=Bk.new (w.alloc x) t cs;simpa using this
def rng(n:Int):Prop:= -9223372036854775808<=n/\n<=9223372036854775807
def um(w:World)(b off:Nat)(u:List Value):Prop:=∀(j:Nat) (x:Value),u[j]? = some x->w.cell? ⟨b,off+j,none⟩=some x
mutual
def TrR(w:World)(D:Nat->Prop):Tr->List Value->Prop
 | .n k m l,v=>rng k/\rng m/\∃(A:Option Addr) (len cap:Nat),v=[.int .i64 k,.int .i64 m,.slice A len cap]/\len=l.length/\len<=cap/\cap<=maxLen /\
  (0<len->∃b off,A=some ⟨b,off,none⟩/\D b/\b<w.heap.size/\TrL w D b l off)
def TrL(w:World)(D:Nat->Prop)(b:Nat):List Tr->Nat->Prop
 | [],_=>True
 | t::l,off=>(∃v,um w b off v/\TrR w D t v)/\TrL w D b l (off+3)
end
def TrS(w:World)(D:Nat->Prop)(l:List Tr)(A:Option Addr)(len cap:Nat):Prop:=
 len=l.length/\len<=cap/\cap<=maxLen/\(0<len->∃b off,A=some ⟨b,off,none⟩/\D b/\b<w.heap.size/\TrL w D b l off)
theorem TrR.form{w:World}{D:Nat->Prop}{t:Tr}{v:List Value}(h:TrR w D t v):∃A len cap,v=[.int .i64 t.k,.int .i64 t.m,.slice A len cap]/\TrS w D t.kids A len cap/\rng t.k/\rng t.m:=by
 cases t with
 | n k m l=>
  rw[TrR]at h;obtain⟨h1,h2,A,len,cap,rfl,h3⟩:=h;exact⟨A,len,cap,rfl,h3,h1,h2⟩
theorem TrL.get{w:World}{D:Nat->Prop}{b:Nat}:∀ {l:List Tr} {off i:Nat} (hi:i<l.length),TrL w D b l off->∃v,um w b (off+i*3) v/\TrR w D l[i] v
 | t::l,off,0,hi,h=>by
  rw[TrL]at h;simpa using h.1
 | t::l,off,i+1,hi,h=>by
  rw[TrL]at h;obtain⟨v,h1,h2⟩:=TrL.get (l:=l) (off:=off+3) (i:=i) (by simpa using hi) h.2
  exact⟨v,by rw[show off+(i+1)*3=off+3+i*3 from by omega];exact h1,by simpa using h2⟩
theorem TrS.get{w:World}{D:Nat->Prop}{l:List Tr}{A:Option Addr}{len cap i:Nat}(h:TrS w D l A len cap)(hi:i<l.length) :
 ∃b off A' a1 a0,A=some ⟨b,off,none⟩/\b<w.heap.size/\w.cell? ⟨b,off+i*3,none⟩=some (.int .i64 l[i].k)/\w.cell? ⟨b,off+i*3+1,none⟩=some (.int .i64 l[i].m)/\w.cell? ⟨b,off+i*3+2,none⟩=some (.slice A' a1 a0) /\
  TrR w D l[i] [.int .i64 l[i].k,.int .i64 l[i].m,.slice A' a1 a0]:=by
 obtain⟨a2,_,_,h4⟩:=h;obtain⟨b,off,rfl,hD,hb,hL⟩:=h4 (by omega)
 obtain⟨v,hc,hr⟩:=hL.get hi;obtain⟨A',a1,a0,rfl,_⟩:=hr.form;exact⟨b,off,A',a1,a0,rfl,hb,hc 0 _ rfl,hc 1 _ rfl,hc 2 _ rfl,hr⟩
def uc(D:Nat->Prop)(w w':World):Prop:=w.heap.size<=w'.heap.size/\∀b,b<w.heap.size->D b->w'.heap[b]? = w.heap[b]?
mutual
theorem TrR.vAb{w w':World}{D:Nat->Prop}(hk:uc D w w'):∀ {t:Tr} {v:List Value},TrR w D t v->TrR w' D t v
 | .n k m l,v,h=>by
  rw[TrR]at h ⊢;obtain⟨h1,h2,A,len,cap,h3,h4,h5,h6,h7⟩:=h;refine⟨h1,h2,A,len,cap,h3,h4,h5,h6,fun hp=>?_⟩
  obtain⟨b,off,hA,hD,hb,hL⟩:=h7 hp;exact⟨b,off,hA,hD,af hb hk.1,TrL.vAb hk hb hD hL⟩
theorem TrL.vAb{w w':World}{D:Nat->Prop}(hk:uc D w w'){b:Nat}(hb:b<w.heap.size)(hD:D b):∀ {l:List Tr} {off:Nat},TrL w D b l off->TrL w' D b l off
 | [],_,_=>by rw[TrL];trivial
 | t::l,off,h=>by
  rw[TrL]at h ⊢;obtain⟨⟨v,h1,h2⟩,h3⟩:=h;exact⟨⟨v,fun j x hx=>(World.cell?_of_block (w:=w) (hk.2 b hb hD)).trans (h1 j x hx),TrR.vAb hk h2⟩,TrL.vAb hk hb hD h3⟩
end
theorem TrS.vAb{w w':World}{D:Nat->Prop}(hk:uc D w w'){l:List Tr}{A:Option Addr}{len cap:Nat}(h:TrS w D l A len cap):TrS w' D l A len cap:=by
 obtain⟨h1,h2,h3,h4⟩:=h;refine⟨h1,h2,h3,fun hp=>?_⟩
 obtain⟨b,off,hA,hD,hb,hL⟩:=h4 hp;exact⟨b,off,hA,hD,af hb hk.1,TrL.vAb hk hb hD hL⟩
mutual
theorem TrR.sub{w:World}{D D':Nat->Prop}(hd:∀b,b<w.heap.size->D b->D' b):∀ {t:Tr} {v:List Value},TrR w D t v->TrR w D' t v
 | .n k m l,v,h=>by
  rw[TrR]at h ⊢;obtain⟨h1,h2,A,len,cap,h3,h4,h5,h6,h7⟩:=h;refine⟨h1,h2,A,len,cap,h3,h4,h5,h6,fun hp=>?_⟩
  obtain⟨b,off,hA,hD,hb,hL⟩:=h7 hp;exact⟨b,off,hA,hd b hb hD,hb,TrL.sub hd hL⟩
theorem TrL.sub{w:World}{D D':Nat->Prop}(hd:∀b,b<w.heap.size->D b->D' b){b:Nat}:∀ {l:List Tr} {off:Nat},TrL w D b l off->TrL w D' b l off
 | [],_,_=>by rw[TrL];trivial
 | t::l,off,h=>by
  rw[TrL]at h ⊢;obtain⟨⟨v,h1,h2⟩,h3⟩:=h;exact⟨⟨v,h1,TrR.sub hd h2⟩,TrL.sub hd h3⟩
end
theorem TrS.sub{w:World}{D D':Nat->Prop}(hd:∀b,b<w.heap.size->D b->D' b){l:List Tr}{A:Option Addr}{len cap:Nat}(h:TrS w D l A len cap):TrS w D' l A len cap:=by
 obtain⟨h1,h2,h3,h4⟩:=h;refine⟨h1,h2,h3,fun hp=>?_⟩
 obtain⟨b,off,hA,hD,hb,hL⟩:=h4 hp;exact⟨b,off,hA,hd b hb hD,hb,TrL.sub hd hL⟩
theorem uc.of{w w':World}(h:Below w.heap.size w w'){D:Nat->Prop}:uc D w w':=⟨h.size,fun b hb _=>h.block b hb⟩
theorem uc.fw{S:Nat->Prop}{w w':World}{D:Nat->Prop}(h:Fw S w w')(hd:∀b,D b->¬S b):uc D w w':=⟨h.size,fun b hb hD=>h.block b hb (hd b hD)⟩
theorem TrR.below{w w':World}{D:Nat->Prop}{t:Tr}{v:List Value}(h:TrR w D t v)(hb:Below w.heap.size w w'):TrR w' D t v:=h.vAb (uc.of hb)
theorem TrS.below{w w':World}{D:Nat->Prop}{l:List Tr}{A:Option Addr}{len cap:Nat}(h:TrS w D l A len cap)(hb:Below w.heap.size w w'):TrS w' D l A len cap:=h.vAb (uc.of hb)
theorem ubo:∀ {l:List Tr} {i:Nat} (hi:i<l.length),l[i].size<=vAk l
 | t::l,0,_=>by rw[vAk];simp
 | t::l,i+1,hi=>by
  have:=ubo (l:=l) (i:=i) (by simpa using hi)
  rw[vAk];simp;omega
theorem uj0:∀ {l:List Tr} {i:Nat} (hi:i<l.length),vAk (l.take (i+1))=vAk (l.take i)+l[i].size
 | t::l,0,_=>by simp[vAk]
 | t::l,i+1,hi=>by
  have:=uj0 (l:=l) (i:=i) (by simpa using hi)
  rw[List.take_succ_cons,List.take_succ_cons,vAk,vAk,this];simp;omega
theorem udd:∀(l:List Tr) (i:Nat),vAk (l.take i)<=vAk l
 | [],i=>by simp
 | t::l,0=>by simp[vAk]
 | t::l,i+1=>by
  have:=udd l i;rw[List.take_succ_cons,vAk,vAk];omega
theorem Tr.size_eq(t:Tr):t.size=1+vAk t.kids:=by cases t;rw[Tr.size];rfl
theorem ud6:∀(l:List Tr),l.length<=vAk l
 | []=>by simp
 | t::l=>by
  have:=ud6 l;have:=t.size_pos;rw[vAk,aB];omega
def ucr(us:Nat->List Value)(n:Nat):List Value:=(List.range n).flatMap us
theorem uay(us:Nat->List Value)(n:Nat):ucr us (n+1)=ucr us n++us n:=by simp[ucr,List.range_succ,List.flatMap_append]
theorem ucu{us us':Nat->List Value}:∀ {n:Nat},(∀i,i<n->us i=us' i)->ucr us n=ucr us' n
 | 0,_=>rfl
 | n+1,h=>by rw[uay,uay,ucu fun i hi=>h i (by omega),h n (by omega)]
theorem uqw{us:Nat->List Value}:∀ {n:Nat},(∀i,i<n->(us i).length=3)->(ucr us n).length=n*3
 | 0,_=>by simp[ucr]
 | n+1,h=>by rw[uay,ay,uqw fun i hi=>h i (by omega),h n (by omega)];omega
theorem uu3{us:Nat->List Value}:∀ {n i j:Nat} {x:Value},(∀i,i<n->(us i).length=3)->i<n->(us i)[j]? = some x->(ucr us n)[i*3+j]? = some x
 | 0,i,j,x,h,hi,_=>absurd hi (by omega)
 | n+1,i,j,x,h,hi,hx=>by
  have hj:j<3:=by rw[<-h i hi];exact(aI.1 hx).1
  have hl:=uqw (n:=n) fun i hi=>h i (by omega)
  rw[uay];rcases ah i n with h1|h1
  ·rw[List.getElem?_append_left (by rw[hl];omega)]
   exact uu3 (fun i hi=>h i (by omega)) h1 hx
  ·obtain rfl:i=n:=by omega
   rw[List.getElem?_append_right (by rw[hl];omega),hl,show i*3+j-i*3=j from by omega]
   exact hx
def uhr(base:Nat)(e:TypeId)(w:World)(lv:Value)(l:List Tr)(us:Nat->List Value):Prop:=
 w.ownsRow base e 3 lv l.length (ucr us l.length)/\∀(i:Nat) (h:i<l.length),(us i).length=3/\TrR w (fun b=>base<=b/\some b≠lv.ownBlock) l[i] (us i)
section
variable {base:Nat} {e:TypeId} {w w' w3:World} {lv:Value} {l:List Tr} {us:Nat->List Value}
theorem uhr.nil(base:Nat)(e:TypeId)(w:World):uhr base e w (.slice none 0 0) [] fun _=>[]:=⟨World.ownsRow_nil _ _ _ _,fun i hi=>absurd hi (by simp)⟩
theorem uhr.below(h:uhr base e w lv l us)(hb:Below w.heap.size w w'):uhr base e w' lv l us:=by
 refine⟨h.1.kept (row:=none) ⟨hb.os,hb.tape,hb.output,hb.size,fun k hk _=>hb.block k hk⟩ ?_,fun i hi=>⟨(h.2 i hi).1,(h.2 i hi).2.below hb⟩⟩
 cases lv.ownBlock with
 | none=>exact .inl rfl
 | some g=>exact .inr (fun e=>by cases e)
theorem uhr.next(h:uhr base e w lv l us){t:Tr}{v:List Value}(hv:TrR w (fun b=>base<=b/\some b≠lv.ownBlock) t v)(a6:v.length=3){g cap:Nat}
 (a4:w3.ownsRow base e 3 (.slice (some ⟨g,0,none⟩) (l.length+1) cap) (l.length+1) (ucr us l.length++v)) (hg:(w.alloc (.cells v.toArray e)).grownBy w3 lv.ownBlock) (a1:lv.ownBlock=some g\/g=w.heap.size+1) :
 uhr base e w3 (.slice (some ⟨g,0,none⟩) (l.length+1) cap) (l++[t]) fun i=>if i=l.length then v else us i:=by
 have a3:∀b,b<w.heap.size->some b≠lv.ownBlock->w3.heap[b]? = w.heap[b]? :=fun b hb a0=>(hg.block b (by simp;omega) a0).trans (Below.heap_alloc w _ b hb)
 have a2:∀b,b<w.heap.size->some b≠lv.ownBlock->some b≠(Value.slice (some ⟨g,0,none⟩) (l.length+1) cap).ownBlock:=by
  intro b hb a0 e;have e':b=g:=by simpa[Value.ownBlock]using e
  subst e';rcases a1 with h|h
  ·exact a0 h.symm
  ·omega
 have a5:w.heap.size<=w3.heap.size:=by have:=hg.size;simp at this;omega
 have vAb:∀ {t:Tr} {v:List Value},TrR w (fun b=>base<=b/\some b≠lv.ownBlock) t v->TrR w3 (fun b=>base<=b/\some b≠(Value.slice (some ⟨g,0,none⟩) (l.length+1) cap).ownBlock) t v:=fun h=>
  TrR.vAb ⟨a5,fun b hb hD=>a3 b hb (hD.2.2)⟩ (D:=fun b=>b<w.heap.size/\base<=b/\some b≠lv.ownBlock) (h.sub fun b hb hD=>⟨hb,hD⟩) |>.sub fun b _ hD=>⟨hD.2.1,a2 b hD.1 hD.2.2⟩
 refine⟨?_,fun i hi=>?_⟩
 ·have e1:ucr (fun i=>if i=l.length then v else us i) (l++[t]).length=ucr us l.length++v:=by
   rw[ay,List.length_singleton,uay,ucu (us':=us) fun i hi=>if_neg (by omega),if_pos rfl]
  rw[e1];simpa using a4
 ·rw[ay,List.length_singleton]at hi
  rcases ah i l.length with h1|h1
  ·simp only[if_neg (show ¬i=l.length from by omega)]
   rw[List.getElem_append_left h1];exact⟨(h.2 i h1).1,vAb (h.2 i h1).2⟩
  ·obtain rfl:i=l.length:=by omega
   simp only[if_true];rw[List.getElem_append_right ab];simp only[Nat.sub_self,List.getElem_cons_zero];exact⟨a6,vAb hv⟩
theorem TrL.of{b:Nat}{D:Nat->Prop}:∀ {l:List Tr} {off:Nat},(∀(i:Nat) (h:i<l.length),∃v,um w b (off+i*3) v/\TrR w D l[i] v)->TrL w D b l off
 | [],_,_=>by rw[TrL];trivial
 | t::l,off,h=>by
  rw[TrL];refine⟨by obtain⟨v,h1,h2⟩:=h 0 (by simp);exact⟨v,by simpa using h1,h2⟩,TrL.of fun i hi=>?_⟩
  obtain⟨v,h1,h2⟩:=h (i+1) (by simpa using hi)
  exact⟨v,by rw[show off+3+i*3=off+(i+1)*3 from by omega];exact h1,h2⟩
theorem uhr.done(h:uhr base e w lv l us):∃A len cap,lv = .slice A len cap/\TrS w (base <= ·) l A len cap:=by
 have hc:=h.1;have a1:=fun g (hg:lv.ownBlock=some g)=>hc.cells hg
 have a2:=hc.lt;rcases hc.2 with⟨hv,hn0⟩|⟨g,cap,cur,hv,hb,hgg,hnc,hcm,_⟩
 ·exact⟨none,0,0,hv,hn0.symm,ab,by unfold maxLen;omega,fun h=>absurd h (by omega)⟩
 ·have a0:lv.ownBlock=some g:=by rw[hv];rfl
  refine⟨_,_,_,hv,rfl,hnc,hcm,fun _=>⟨g,0,rfl,hb,(a2 g a0).2,TrL.of fun i hi=>⟨us i,fun j x hx=>?_,(h.2 i hi).2.sub fun b _ hD=>hD.1⟩⟩⟩
  have:=a1 g a0 (i*3+j) x (uu3 (fun i hi=>(h.2 i hi).1) hi hx)
  rw[Addr.add_lit]at this;simpa using this
end
theorem ua3{ops:Array Oper}{rest:List Oper}{op:Oper}{a:Act}{w:World}{Q:Exit->Act->World->Prop}(hg:op.guard=none)(t e:TypeId)(x:Operand)(ho:op.op = .buildSlice t 1 #[(0,x)])
 (ht:Tryz.prog.underlying t=some (.slice e)) (sz a2:Nat) (a3:(Tryz.prog.info? e).map (fun i=>(i.size,i.bytes,i.zero.map fun z=>z.cells.size))=some (sz,a2,some sz)) (hz:0<sz) (a6:sz<=4096)
 (v:List Value) (u:Value) (hx:a.eval x=u) (hu:u.cells.toList=v) (hv:v.length=sz)
 (h:wpList Tryz.prog ops Q rest (a.put op.dst (.slice (some ⟨w.heap.size,0,none⟩) 1 1)) (w.alloc (.cells v.toArray e))):wpList Tryz.prog ops Q (op::rest) a w:=by
 obtain⟨i,hi,a1⟩:=aL.1 a3;simp only[Prod.mk.injEq]at a1;obtain⟨a0,_,a5⟩:=a1;obtain⟨z,a4,a7⟩:=aL.1 a5;refine wpList_buildSlice hg t e 1 _ ho v.toArray i z ht hi a4 (by rw[a0];omega) (by rw[a0];omega) ?_ h
 rw[a0];have hc:u.cells.size=sz:=by rw[<-hv,<-hu];rfl
 have:=Great.fill_whole (s:=sz) hz [u] ((Array.range (1*sz)).map (z.cells[· % z.cells.size]!)) (by intro v hv;simp at hv;subst hv;exact hc) (by simp)
 simpa[hx,hu]using this
theorem uaf(w2:World){ops:Array Oper}{rest:List Oper}{op:Oper}{a:Act}{Q:Exit->Act->World->Prop}(a4:op.guard=none)(sl x:Operand)(t e:TypeId)
 (ho:op.op = .call { callee:= .builtin .append,args:=#[sl,x],argTypes:=#[t,t] })
 (ht:Tryz.prog.underlying t=some (.slice e)) (sz a0:Nat) (a5:(Tryz.prog.info? e).map (fun i=>(i.size,i.bytes,i.zero.map fun z=>z.cells.size))=some (sz,a0,some sz)) (a8:0<sz) (a2:a0<=4096)
 (base:Nat) (lv:Value) (n:Nat) (xs v:List Value) (hs:a.eval sl=lv) (a6:w2.ownsRow base e sz lv n xs) (hx:a.eval x = .slice (some ⟨w2.heap.size,0,none⟩) 1 1) (hv:v.length=sz) (h1:∀u∈v,u.oneCell'=true)
 (hn:n<=100000000) (b2:base<=w2.heap.size)
 (h:∀g cap w3,w3.ownsRow base e sz (.slice (some ⟨g,0,none⟩) (n+1) cap) (n+1) (xs++v)->(w2.alloc (.cells v.toArray e)).grownBy w3 lv.ownBlock->(lv.ownBlock=some g\/g=w2.heap.size+1)->g<w3.heap.size->wpList Tryz.prog ops Q rest (a.put op.dst (.slice (some ⟨g,0,none⟩) (n+1) cap)) w3) :
 wpList Tryz.prog ops Q (op::rest) a (w2.alloc (.cells v.toArray e)):=by
 obtain⟨i,hi,a1⟩:=aL.1 a5;simp only[Prod.mk.injEq]at a1;obtain⟨a7,a3,b1⟩:=a1;obtain⟨z,a9,b0⟩:=aL.1 b1;refine wpList_append_lies _ a4 sl x t ho base e i z sz a0 ht hi a9 a7 a3 b0 a8 lv n xs hs (a6.alloc _) ⟨w2.heap.size,0,none⟩ 1 1 v hx (by omega) ?_ h1 (by omega) (by unfold maxLen;omega) ?_ (by simp;omega) (w2.heap.size+1) (by simp) ?_
 ·intro j u hu
  rw[Addr.add_lit,World.cell?_alloc_at _ _ _ _ rfl,Nat.zero_add];simpa using hu
 ·have:(n+1)*a0<=100000001*4096:=Nat.mul_le_mul (by omega) a2
  omega
 ·intro g cap w3 h2 h3 h4 h5
  exact h g cap w3 h2 h3 h4 h5
theorem udy{w:World}{g:Nat}{T:TypeId}{a b c x y z:Value}(h:Bk w g T #[a,b,c]):Bk (((w.setCell ⟨g,0,none⟩ x).setCell ⟨g,1,none⟩ y).setCell ⟨g,2,none⟩ z) g T #[x,y,z]:=by
 have:=((h.set 0 x).set 1 y).set 2 z;simpa using this
theorem uhr.form{base:Nat}{e:TypeId}{w:World}{lv:Value}{l:List Tr}{us:Nat->List Value}(h:uhr base e w lv l us):∃A c,lv = .slice A l.length c/\l.length<=c/\c<=maxLen:=by
 rcases h.1.2 with⟨hv,hn0⟩|⟨g,cap,cur,hv,_,_,hnc,hcm,_⟩
 ·exact⟨none,0,by rw[hv,hn0],by omega,by unfold maxLen;omega⟩
 ·exact⟨_,_,hv,hnc,hcm⟩
def uIa(t:Tr)(w:World)(e:Ending)(w':World):Prop:=∃v,e = .returned (.agg v.toArray)/\TrR w' (w.heap.size <= ·) t v/\Below w.heap.size w w'
end Go.Proofs.YtnbbpmagijpmpaaGreatDoor
namespace Go.Proofs
open Go.Shelf
def Tryz.vB2:Go.Shelf.Ren:=⟨fun|171=>91|243=>151|246=>206|283=>257|284=>258|285=>259|286=>260|129=>223|317=>299|318=>300|319=>301|320=>302|337=>325|338=>326|n=>n,fun|3=>3|9=>9|2=>2|4=>4|171=>314|0=>0|53=>134|37=>152|5=>5|173=>316|212=>351|51=>102|20=>20|213=>352|46=>227|232=>403|233=>404|n=>n,fun|17=>0|18=>1|19=>2|n=>n⟩
theorem Tryz.vCs:Go.Proofs.LaysM.n171 Tryz.prog Tryz.vB2:= {
 mixed:=by kernel_rfl
 f129:=Tryz.func223.trans (congrArg some (by kernel_rfl))
 f171:=Tryz.func91.trans (congrArg some (by kernel_rfl))
 f243:=Tryz.func151.trans (congrArg some (by kernel_rfl))
 f246:=Tryz.func206.trans (congrArg some (by kernel_rfl))
 f283:=Tryz.func257.trans (congrArg some (by kernel_rfl))
 f284:=Tryz.func258.trans (congrArg some (by kernel_rfl))
 f285:=Tryz.func259.trans (congrArg some (by kernel_rfl))
 f286:=Tryz.func260.trans (congrArg some (by kernel_rfl))
 f317:=Tryz.func299.trans (congrArg some (by kernel_rfl))
 f318:=Tryz.func300.trans (congrArg some (by kernel_rfl))
 f319:=Tryz.func301.trans (congrArg some (by kernel_rfl))
 f320:=Tryz.func302.trans (congrArg some (by kernel_rfl))
 f337:=Tryz.func325.trans (congrArg some (by kernel_rfl))
 f338:=Tryz.func326.trans (congrArg some (by kernel_rfl))
 t0:=Tryz.underlying0
 a0:=Tryz.isAgg0
 z0:=Tryz.sizeOf0
 v0:=Tryz.zeroValue0
 t2:=Tryz.underlying2
 a2:=Tryz.isAgg2
 z2:=Tryz.sizeOf2
 v2:=Tryz.zeroValue2
 t3:=Tryz.underlying3
 a3:=Tryz.isAgg3
 z3:=Tryz.sizeOf3
 v3:=Tryz.zeroValue3
 t4:=Tryz.underlying4
 a4:=Tryz.isAgg4
 z4:=Tryz.sizeOf4
 v4:=Tryz.zeroValue4
 t5:=Tryz.underlying5
 a5:=Tryz.isAgg5
 z5:=Tryz.sizeOf5
 v5:=Tryz.zeroValue5
 t9:=Tryz.underlying9
 a9:=Tryz.isAgg9
 z9:=Tryz.sizeOf9
 v9:=Tryz.zeroValue9
 t20:=Tryz.underlying20
 a20:=Tryz.isAgg20
 z20:=Tryz.sizeOf20
 v20:=Tryz.zeroValue20
 t37:=Tryz.underlying152
 a37:=Tryz.isAgg152
 z37:=Tryz.sizeOf152
 v37:=Tryz.zeroValue152
 t46:=Tryz.underlying227
 a46:=Tryz.isAgg227
 z46:=Tryz.sizeOf227
 v46:=Tryz.zeroValue227
 t51:=Tryz.underlying102
 a51:=Tryz.isAgg102
 z51:=Tryz.sizeOf102
 v51:=Tryz.zeroValue102
 t53:=Tryz.underlying134
 a53:=Tryz.isAgg134
 z53:=Tryz.sizeOf134
 v53:=Tryz.zeroValue134
 t171:=Tryz.underlying314
 a171:=Tryz.isAgg314
 z171:=Tryz.sizeOf314
 v171:=Tryz.zeroValue314
 t173:=Tryz.underlying316
 a173:=Tryz.isAgg316
 z173:=Tryz.sizeOf316
 v173:=Tryz.zeroValue316
 t212:=Tryz.underlying351
 a212:=Tryz.isAgg351
 z212:=Tryz.sizeOf351
 v212:=Tryz.zeroValue351
 t213:=Tryz.underlying352
 a213:=Tryz.isAgg352
 z213:=Tryz.sizeOf352
 t232:=Tryz.underlying403
 a232:=Tryz.isAgg403
 z232:=Tryz.sizeOf403
 v232:=Tryz.zeroValue403
 t233:=Tryz.underlying404
 a233:=Tryz.isAgg404
 z233:=Tryz.sizeOf404
 v233:=Tryz.zeroValue404
 g17:=by kernel_rfl
 g18:=by kernel_rfl
 g19:=by kernel_rfl
 i0:=by kernel_rfl
 i2:=by kernel_rfl
 i3:=by kernel_rfl
 i4:=by kernel_rfl
 i5:=by kernel_rfl
 i9:=by kernel_rfl
 i20:=by kernel_rfl
 i37:=by kernel_rfl
 i46:=by kernel_rfl
 i51:=by kernel_rfl
 i53:=by kernel_rfl
 i171:=by kernel_rfl
 i173:=by kernel_rfl
 i212:=by kernel_rfl
 i232:=by kernel_rfl
 i233:=by kernel_rfl
 m17:=by kernel_rfl
 m18:=by kernel_rfl
 m19:=by kernel_rfl }
open Go.RowKit Go.Sort Go.Lib in
theorem Tryz.strconv_Itoa(n:Int)(h0 : -9223372036854775808<=n)(h1:n<=9223372036854775807)(w:World)(a0:Lib.TabIs Tryz.prog w "internal/strconv.uint64pow10" .u64 Lib.pow10Tab) :
 Calls Tryz.prog 91 #[.int .i64 n] w fun e w'=>e = .returned (.string ⟨(Lib.itoa n).toArray⟩)/\∃k os,w'=grow (w.drewN k) os:=Any.strconv_Itoa Tryz.vCs n h0 h1 w a0
def Tryz.vB6:Go.Shelf.Ren:=⟨fun|173=>153|246=>206|283=>257|284=>258|285=>259|286=>260|129=>223|317=>299|318=>300|319=>301|320=>302|337=>325|338=>326|n=>n,fun|2=>2|3=>3|9=>9|4=>4|171=>314|0=>0|53=>134|37=>152|5=>5|173=>316|212=>351|51=>102|20=>20|213=>352|46=>227|232=>403|233=>404|n=>n,fun|17=>0|18=>1|19=>2|n=>n⟩
theorem Tryz.vCv:Go.Proofs.LaysM.n173 Tryz.prog Tryz.vB6:= {
 mixed:=by kernel_rfl
 f129:=Tryz.func223.trans (congrArg some (by kernel_rfl))
 f173:=Tryz.func153.trans (congrArg some (by kernel_rfl))
 f246:=Tryz.func206.trans (congrArg some (by kernel_rfl))
 f283:=Tryz.func257.trans (congrArg some (by kernel_rfl))
 f284:=Tryz.func258.trans (congrArg some (by kernel_rfl))
 f285:=Tryz.func259.trans (congrArg some (by kernel_rfl))
 f286:=Tryz.func260.trans (congrArg some (by kernel_rfl))
 f317:=Tryz.func299.trans (congrArg some (by kernel_rfl))
 f318:=Tryz.func300.trans (congrArg some (by kernel_rfl))
 f319:=Tryz.func301.trans (congrArg some (by kernel_rfl))
 f320:=Tryz.func302.trans (congrArg some (by kernel_rfl))
 f337:=Tryz.func325.trans (congrArg some (by kernel_rfl))
 f338:=Tryz.func326.trans (congrArg some (by kernel_rfl))
 t0:=Tryz.underlying0
 a0:=Tryz.isAgg0
 z0:=Tryz.sizeOf0
 v0:=Tryz.zeroValue0
 t2:=Tryz.underlying2
 a2:=Tryz.isAgg2
 z2:=Tryz.sizeOf2
 v2:=Tryz.zeroValue2
 t3:=Tryz.underlying3
 a3:=Tryz.isAgg3
 z3:=Tryz.sizeOf3
 v3:=Tryz.zeroValue3
 t4:=Tryz.underlying4
 a4:=Tryz.isAgg4
 z4:=Tryz.sizeOf4
 v4:=Tryz.zeroValue4
 t5:=Tryz.underlying5
 a5:=Tryz.isAgg5
 z5:=Tryz.sizeOf5
 v5:=Tryz.zeroValue5
 t9:=Tryz.underlying9
 a9:=Tryz.isAgg9
 z9:=Tryz.sizeOf9
 v9:=Tryz.zeroValue9
 t20:=Tryz.underlying20
 a20:=Tryz.isAgg20
 z20:=Tryz.sizeOf20
 v20:=Tryz.zeroValue20
 t37:=Tryz.underlying152
 a37:=Tryz.isAgg152
 z37:=Tryz.sizeOf152
 v37:=Tryz.zeroValue152
 t46:=Tryz.underlying227
 a46:=Tryz.isAgg227
 z46:=Tryz.sizeOf227
 v46:=Tryz.zeroValue227
 t51:=Tryz.underlying102
 a51:=Tryz.isAgg102
 z51:=Tryz.sizeOf102
 v51:=Tryz.zeroValue102
 t53:=Tryz.underlying134
 a53:=Tryz.isAgg134
 z53:=Tryz.sizeOf134
 v53:=Tryz.zeroValue134
 t171:=Tryz.underlying314
 a171:=Tryz.isAgg314
 z171:=Tryz.sizeOf314
 v171:=Tryz.zeroValue314
 t173:=Tryz.underlying316
 a173:=Tryz.isAgg316
 z173:=Tryz.sizeOf316
 v173:=Tryz.zeroValue316
 t212:=Tryz.underlying351
 a212:=Tryz.isAgg351
 z212:=Tryz.sizeOf351
 v212:=Tryz.zeroValue351
 t213:=Tryz.underlying352
 a213:=Tryz.isAgg352
 z213:=Tryz.sizeOf352
 t232:=Tryz.underlying403
 a232:=Tryz.isAgg403
 z232:=Tryz.sizeOf403
 v232:=Tryz.zeroValue403
 t233:=Tryz.underlying404
 a233:=Tryz.isAgg404
 z233:=Tryz.sizeOf404
 v233:=Tryz.zeroValue404
 g17:=by kernel_rfl
 g18:=by kernel_rfl
 g19:=by kernel_rfl
 i0:=by kernel_rfl
 i2:=by kernel_rfl
 i3:=by kernel_rfl
 i4:=by kernel_rfl
 i5:=by kernel_rfl
 i9:=by kernel_rfl
 i20:=by kernel_rfl
 i37:=by kernel_rfl
 i46:=by kernel_rfl
 i51:=by kernel_rfl
 i53:=by kernel_rfl
 i171:=by kernel_rfl
 i173:=by kernel_rfl
 i212:=by kernel_rfl
 i232:=by kernel_rfl
 i233:=by kernel_rfl
 m17:=by kernel_rfl
 m18:=by kernel_rfl
 m19:=by kernel_rfl }
open Go.RowKit Go.Sort Go.Lib in
theorem Tryz.strconv_FormatInt_10(n:Int)(h0 : -9223372036854775808<=n)(h1:n<=9223372036854775807)(w:World)(a0:Lib.TabIs Tryz.prog w "internal/strconv.uint64pow10" .u64 Lib.pow10Tab) :
 Calls Tryz.prog 153 #[.int .i64 n,.int .i64 10] w fun e w'=>e = .returned (.string ⟨(Lib.itoa n).toArray⟩)/\∃k os,w'=grow (w.drewN k) os:=Any.strconv_FormatInt_10 Tryz.vCv n h0 h1 w a0
end Go.Proofs
namespace Go.Proofs.YtnbbpmagijpmpaaGreatDoor
open Go.Lib (hid)
open Go.RowKit AC
theorem uzb:Tryz.prog.cellsOf 5=1:=by kernel_rfl
theorem uzc:liesAt Tryz.prog Tryz.prog.depth 154 (2/Tryz.prog.cellsOf 154) 0 154 1=true:=by kernel_rfl
def Dst(w:World)(bw:Nat)(l:List UInt8):Prop:=
 ∃p v,Bk w bw 154 #[p,v]/\(p = .pointer none\/p = .pointer (some ⟨bw,0,none⟩))/\w.ownsRow (bw+1) 5 1 v l.length (Lib.byteCells l)
theorem Dst.lt{w:World}{bw:Nat}{l:List UInt8}(h:Dst w bw l):bw<w.heap.size:=by
 obtain⟨p,v,h1,_⟩:=h;exact h1.lt
theorem Dst.below{w w':World}{bw:Nat}{l:List UInt8}(h:Dst w bw l)(hb:Below w.heap.size w w'):Dst w' bw l:=by
 obtain⟨p,v,hk,hp,a0⟩:=h;exact⟨p,v,hk.below hb hk.lt,hp,a0.kept (row:=none) (World.grownBy.vC5 hb none) (by cases v.ownBlock<;>simp)⟩
set_option maxHeartbeats 16000000
set_option maxRecDepth 100000
theorem umx(w:World)(bw:Nat)(l:List UInt8)(h:Dst w bw l) :
 Calls Tryz.prog 149 #[.pointer (some ⟨bw,0,none⟩)] w fun e w'=>e = .returned (.tuple #[])/\Wfr bw w w'/\∃v,Bk w' bw 154 #[.pointer (some ⟨bw,0,none⟩),v]/\w'.ownsRow (bw+1) 5 1 v l.length (Lib.byteCells l):=by
 obtain⟨p,v,hk,hp,a0⟩:=h;obtain⟨j,hj,a2⟩:=aL.1 uy8;have c0:=hk.cell 0;have f0:=hk.frozen 0;have a1:w.shape? bw=some (154,2):=by unfold Bk at hk;simp[World.shape?,hk]
 simp only[List.getElem?_toArray,List.getElem?_cons_zero]at c0;rcases hp with rfl|rfl
 ·have HK:=hid hk
  have HO:=hid a0;clear hk a0;go_enter Tryz.func149,Tryz.ntmps149
  go_wp2;rw[Lib.run_to_unsafe w ⟨bw,0,none⟩ Tryz.underlying151 Tryz.underlying261 hj (by rw[a2];decide) a1 (Nat.zero_lt_succ 1)]
  simp only[Result.andThen];rw[Oper.upon_value];go_wp2;rw[run_callFunc_extern Tryz.func204 (by kernel_rfl) (by kernel_rfl) (by kernel_rfl) (e:=Extern.AbiNoEscape.same) (by kernel_rfl)]
  rw[Lib.run_noEscape];simp only[Result.andThen];rw[Oper.upon_value];go_wp2;rw[Lib.run_from_unsafe w ⟨bw,0,none⟩ Tryz.underlying261 Tryz.underlying151 hj a1 uzc];simp only[Result.andThen];rw[Oper.upon_value];go_wp2;go_end0
  exact⟨rfl,(Wfr.refl _ _).setCell _ _,v,HK.out.set 0 _,ue5 HO.out HK.out (by decide)⟩
 ·have HK:=hid hk
  have HO:=hid a0;clear hk a0;go_enter Tryz.func149,Tryz.ntmps149
  go_wp2;rw[Lib.run_neq_ptr_same w _ Tryz.underlying151 hj];go_wp2;go_end0
  exact⟨rfl,Wfr.refl _ _,v,HK.out,HO.out⟩
set_option maxRecDepth 512
theorem uS(w:World)(bw:Nat)(l:List UInt8)(s:ByteArray)(h:Dst w bw l)(b0:l.length+s.size<=262144) :
 Calls Tryz.prog 89 #[.pointer (some ⟨bw,0,none⟩),.string s] w fun e w'=>e = .returned (.tuple #[.int .i64 s.size,.nilIface])/\Wfr bw w w'/\Dst w' bw (l++s.data.toList):=by
 obtain⟨i0,hi,a7,a8,a9⟩:=info_parts uDj;have b1:=h.lt;have H:=hid h;clear h;go_enter Tryz.func89,Tryz.ntmps89
 go_wp2_with fail
 refine(umx _ bw l H.out).mono ?_;rintro e w1⟨rfl,a5,v,hk,a1⟩;have c1:=hk.cell 1;simp only[ae]at c1;have a6:=hk.lt;have HF:=hid a5;have HK:=hid hk;clear a5 hk;go_wp2_with (at_builtin;refine Lib.wpList_append_own_string _ rfl _ _ 152 9 rfl (bw+1) 5 i0 Tryz.underlying152 Tryz.underlying9 hi a7 a8 a9 _ _ _ rfl a1 s rfl ?c3 ?c4 ?c5 ?_)
 case c3=>unfold maxLen;omega
 case c4=>omega
 case c5=>omega
 intro v' w2 a3 a2 _;have a0:Bk w2 bw 154 #[.pointer (some ⟨bw,0,none⟩),v]:=(a2.block bw a6 (fun e=>Lib.ownBlock_ne a1 HK.out (by decide) e.symm)).trans HK.out
 have d1:=a0.cell 1;simp only[ae]at d1;have f1:=a0.frozen 1;obtain⟨ao,cap,rfl⟩:=uy9 a3;have a4:=hid a0;have HO:=hid a3;have HG:=hid (HF.out.grown (by omega) a1 a2)
 clear a0 a3 a2 a1 c1;go_wp2;go_ret2
 refine⟨rfl,HG.out.setCell _ _,_,_,a4.out.set 1 _,.inr rfl,?_⟩;have h3:=ue5 (i:=1) (u:= .slice ao (l.length+s.size) cap) HO.out a4.out (by decide)
 rw[Lib.strCells_eq,<-Lib.byteCells_append]at h3;have h4:(l++s.data.toList).length=l.length+s.size:=by simp
 rw[h4];exact h3
set_option maxRecDepth 100000
theorem ude(w:World)(bw:Nat)(l:List UInt8)(h:Dst w bw l)(h0:l≠[])(hl:l.length<=262144) :
 Calls Tryz.prog 93 #[.pointer (some ⟨bw,0,none⟩)] w fun e w'=>e = .returned (.string ⟨l.toArray⟩)/\Below bw w w':=by
 obtain⟨p,v,hk,hp,a1⟩:=h;have a4:l.length≠0:=by simpa using h0
 obtain⟨g,cap,a0,rfl,a2,hg,b0,a8,a9,a5⟩:∃g cap a0,v = .slice (some ⟨g,0,none⟩) l.length cap/\bw+1<=g/\w.heap[g]? = some (.cells a0 5 (0,0))/\l.length<=cap/\cap<=maxLen/\a0.size=cap*1/\a0.toList.take (l.length*1)=Lib.byteCells l:=by
  rcases a1.2 with⟨_,hz⟩|⟨g,cap,a0,hv,r⟩
  ·exact absurd hz a4
  ·exact⟨g,cap,a0,hv,r⟩
 have c1:=hk.drew.cell 1;simp only[ae]at c1;have a6:(Builtin.unsafeSliceData_ #[152] 218 #[.slice (some ⟨g,0,none⟩) l.length cap]).run Tryz.prog w.drew = .ok (.pointer (some ⟨g,0,none⟩)) w.drew:=
  Lib.run_unsafeSliceData_row _ _ _ _ _ _ (by omega)
 have a7:(Builtin.unsafeString_ #[218,3] 9 #[.pointer (some ⟨g,0,none⟩),.int .i64 l.length]).run Tryz.prog w.drew = .ok (.string ⟨l.toArray⟩) (w.drew.freeze ⟨g,0,none⟩ l.length):=by
  refine Lib.run_unsafeString_row w.drew 218 3 9 5 Tryz.underlying218 uzb g a0.size (by have a3:w.drew.heap[g]? = some (.cells a0 5 (0,0)):=hg;simp[World.shape?,a3]) l h0 (by omega) (by omega) ?_
  intro j x hx;have:=a1.cells (g:=g) rfl j (.int .u8 x.toNat) (by simp[Lib.byteCells,hx])
  exact this
 clear hk a1 hg a5 hp;go_enter Tryz.func93,Tryz.ntmps93
 go_wp2;go_region
 all_goals (go_wp2;go_ret;exact⟨rfl,Lib.below_freeze (Below.drew (Below.refl bw w)) (p:=⟨g,0,none⟩) (Nat.le_of_succ_le a2) _⟩)
set_option maxHeartbeats 200000
set_option maxRecDepth 512
theorem umy:(Tryz.prog.info? 5).map (fun i=>(i.size,i.bytes,i.zero.map fun z=>z.cells.size))=some (1,1,some 1):=by kernel_rfl
set_option maxHeartbeats 16000000
theorem uie(w:World)(bw:Nat)(l:List UInt8)(c:UInt8)(k:Int)(hk:k=(c.toNat:Int))(h:Dst w bw l)(b1:l.length<=262144) :
 Calls Tryz.prog 205 #[.pointer (some ⟨bw,0,none⟩),.int .u8 k] w fun e w'=>e = .returned .nilIface/\Wfr bw w w'/\Dst w' bw (l++[c]):=by
 have b2:=h.lt;have H:=hid h;have a7:=hid hk;clear h hk;go_enter Tryz.func205,Tryz.ntmps205
 go_wp2_with fail
 refine(umx _ bw l H.out).mono ?_;rintro e w1⟨rfl,a4,v,hk,a5⟩;have c1:=hk.cell 1;simp only[ae]at c1;have a9:=hk.lt;have HF:=hid a4;have HK:=hid hk;have HO:=hid a5;clear a4 hk a5;go_wp2_with (first|refine ua3 rfl 152 5 (.tmp 12) rfl Tryz.underlying152 1 1 umy (by decide) (by decide) [.int .u8 k] (.int .u8 k) rfl rfl rfl ?_|(at_builtin;refine uaf w1 rfl _ _ 152 5 rfl Tryz.underlying152 1 1 umy (by decide) (by decide) (bw+1) _ l.length (Lib.byteCells l) [.int .u8 k] (by rfl) HO.out (by rfl) rfl (by intro u hu;simp at hu;subst hu;rfl) (by omega) a9 ?_))
 intro g cap w2 a6 a1 b0 hg;have a2:Bk (w1.alloc (.cells (#[.int .u8 k]:Array Value) 5)) bw 154 #[.pointer (some ⟨bw,0,none⟩),v]:=HK.out.alloc _;have a0:Bk w2 bw 154 #[.pointer (some ⟨bw,0,none⟩),v]:=(a1.block bw a2.lt (fun e=>Lib.ownBlock_ne HO.out HK.out (by decide) e.symm)).trans a2
 have d1:=a0.cell 1;simp only[ae]at d1;have f1:=a0.frozen 1;have a3:=hid a0;have a8:=hid a6;have HG:=hid ((HF.out.alloc (by omega) (.cells (#[.int .u8 k]:Array Value) 5)).grown (by simp;omega) (HO.out.alloc _) a1)
 clear a0 a2 a6 a1 c1;go_wp2;go_ret
 refine⟨rfl,HG.out.setCell _ _,_,_,a3.out.set 1 _,.inr rfl,?_⟩;have h3:=ue5 (i:=1) (u:= .slice (some ⟨g,0,none⟩) (l.length+1) cap) a8.out a3.out (by decide)
 have h5:Lib.byteCells l++[Value.int .u8 k]=Lib.byteCells (l++[c]):=by rw[Lib.byteCells_append,a7.out];rfl
 rw[h5]at h3;have h4:(l++[c]).length=l.length+1:=by simp
 rw[h4];exact h3
set_option maxHeartbeats 200000
theorem Dst.new(w:World):Dst (w.alloc (.cells #[.pointer none,.slice none 0 0] 154)) w.heap.size []:=
 ⟨_,_,Bk.new _ _ _,.inl rfl,World.ownsRow_nil _ _ _ _⟩
def GP:Nat:=3
theorem uF8:Tryz.prog.globals.size=GP:=by kernel_rfl
def Gp(w:World):Prop:=Lib.TabIs Tryz.prog w "internal/strconv.uint64pow10" .u64 Lib.pow10Tab/\GP<=w.heap.size
theorem uif{P:Program}{a0:String}{g:Nat}(h:P.globalNamed a0=some g):g<P.globals.size:=by
 unfold Program.globalNamed at h;split at h
 ·rename_i g' hg
  injection h with h;subst h;have:g'∈(List.range P.globals.size).filter fun g=>(P.globals[g]?).any (·.name==a0):=by rw[hg];exact List.mem_cons_self
  exact aX.1 (List.mem_filter.1 this).1
 ·cases h
theorem uu4{w w':World}(h:∀k,k<GP->w'.heap[k]? = w.heap[k]?)(a0:String):w'.var? Tryz.prog a0=w.var? Tryz.prog a0:=by
 unfold World.var?;cases hg:Tryz.prog.globalNamed a0 with
 | none=>rfl
 | some g=>simp only[Option.bind_some];rw[h g (by have:=uif hg;rw[uF8]at this;exact this)]
theorem Gp.below{w w':World}{n:Nat}(h:Gp w)(hb:Below n w w')(hn:GP<=n):Gp w':=by
 refine⟨?_,ag h.2 hb.size⟩;unfold Lib.TabIs;exact(uu4 (fun k hk=>hb.block k (by omega)) _).trans h.1
def ud7(l:List UInt8)(w:World)(e:Ending)(w':World):Prop:=e = .returned (.string ⟨l.toArray⟩)/\Below w.heap.size w w'
theorem ue1(w:World)(n:Int)(h:rng n)(hg:Gp w):Calls Tryz.prog 153 #[.int .i64 n,.int .i64 10] w (ud7 (Lib.itoa n) w):=by
 unfold rng at h;exact(Tryz.strconv_FormatInt_10 n (by omega) (by omega) w hg.1).mono fun e w' ⟨he,k,os,hw⟩=>⟨he,by rw[hw];exact Lib.below_grow _ _ ab k os⟩
theorem ud8(w:World)(n:Int)(h:rng n)(hg:Gp w):Calls Tryz.prog 91 #[.int .i64 n] w (ud7 (Lib.itoa n) w):=by
 unfold rng at h;exact(Tryz.strconv_Itoa n (by omega) (by omega) w hg.1).mono fun e w' ⟨he,k,os,hw⟩=>⟨he,by rw[hw];exact Lib.below_grow _ _ ab k os⟩
theorem uak{n:Int}(h:rng n):(Lib.itoa n).length<=21:=by
 unfold rng at h;exact Lib.itoa_length_le n (by omega) (by omega)
end Go.Proofs.YtnbbpmagijpmpaaGreatDoor
