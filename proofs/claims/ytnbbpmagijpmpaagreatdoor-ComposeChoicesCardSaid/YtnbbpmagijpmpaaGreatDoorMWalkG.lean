/-
  The walks of rational's multiplySmall and divideSmall.
-/
import Derived.Test.YtnbbpmagijpmpaaGreatDoorMCText
import Derived.Deep.DeepCutAuto
import Derived.Deep.CutBlock
set_option linter.unusedVariables false
set_option linter.unusedSimpArgs false
namespace Go.Proofs.YtnbbpmagijpmpaaGreatDoor
open Go.Lib (hid)
open Go.RowKit AC
theorem uqu(n m k:Nat):vs (fun i=>dg n i*m) k=n%B^k*m:=by
 induction k with
 | zero=>simp[vs,Nat.mod_one]
 | succ k ih=>
  rw[vs,ih,uF,Nat.add_mul];congr 1
  simp only[Nat.mul_comm,Nat.mul_assoc]
theorem uo3(n m j:Nat)(hm:m<B):vs (fun i=>dg n i*m) j/B^j<1000000000:=by
 rw[uqu];have h1:=Nat.mod_lt n (uH j);have h2:n%B^j*m/B^j<=m:=by
  apply Nat.div_le_of_le_mul;exact aF m (Nat.le_of_lt h1)
 rw[uhn]at hm;omega
theorem prod_bound{a b:Nat}(ha:a<1000000000)(hb:b<1000000000):a*b<=999999998000000001:=
 ag (Nat.mul_le_mul (show a<=999999999 by omega) (show b<=999999999 by omega)) (by decide)
set_option maxHeartbeats 16000000
theorem uct(w:World)(lo:Nat)(v:Value)(n m:Nat)(hv:uL w lo v n)(hk:dl n<=4294967296)(hm:m<1000000000) :
 Calls Tryz.prog 209 #[v,.int .u64 m] w (Ret fun v2 w'=>∃b,v2 = .slice (some ⟨b,0,none⟩) (dl n+1) (dl n+1)/\w.heap.size<=b/\uaw w' b 102 (dl n+1) (dg (n*m))/\Below w.heap.size w w'):=by
 obtain⟨_,A,c,rfl,b9,b3,hb⟩:=hv;unfold maxLen at b3;have HB:=hid hb;have HN:Hid (vs (fun i=>dg n i*m) (dl n)=n*m):=by show _=_;rw[uqu,aV (ua2 n)]
 clear hb;go_enter Tryz.func209,Tryz.ntmps209
 go_wp2_with (at_make;refine uen _ rfl _ _ 100 rfl w.heap.size 102 Tryz.underlying100 uG _ _ _ _ (dl n+1) (by rfl) (by rfl) (by omega) (by omega) (by omega) w aa ab ?_;intro b w1 a4 _ b6 b0 _)
 go_loopw [6,15] (fun cv i wr=>∃j c:Nat,j<=dl n/\c<1000000000/\i = .int .i64 j/\cv = .int .u64 c/\Hid (c=vs (fun i=>dg n i*m) j/B^j)/\uaw wr b 102 (dl n+1) (fun t=>if t<j then dg (n*m) t else 0)/\Below w.heap.size w wr) (fun _ i _=>dl n-(intOf i).toNat)
 case atStart=>exact⟨0,0,by omega,by omega,rfl,rfl,by simp[vs,Hid],b6.congr fun t _=>by simp,b0⟩
 case round=>
  obtain⟨j,c,hj,hc,rfl,rfl,a3,a0,a1⟩:=hrel;have hd:dg n j<1000000000:=uZ n j;by_cases a7:j<dl n
  ·obtain⟨ba,off,rfl,c0,a9,a5⟩:=HB.out (by omega)
   have b2:=(a1.cell (p:=⟨ba,off+j,none⟩) a9).trans (a5 j a7);have b4:=a0.frozen j;have b1:=a0.cell (i:=j) (by omega)
   have a6:Hid ((dg n j*m+c)%1000000000=dg (n*m) j):=by
    have h1:=ufe (fun i=>dg n i*m) a7
    rw[<-a3.out,HN.out,uhn]at h1;exact h1.symm
   have a2:Hid ((dg n j*m+c)/1000000000=vs (fun i=>dg n i*m) (j+1)/B^(j+1)):=by
    have h1:=uda (fun i=>dg n i*m) j
    rw[<-a3.out]at h1;exact h1.symm
   have a8:Hid ((dg n j*m+c)/1000000000<1000000000):=by
    have:=uo3 n m (j+1) hm;rw[<-a2.out]at this;exact this
   obtain⟨x,b8⟩:∃x,Hid (x=dg n j):=⟨_,rfl⟩;rw[<-b8.out]at b2 hd a6 a2 a8;have b5:=prod_bound hd hm;have c2:((x:Int)*m)<=999999998000000001:=by omega
   have c1:0<=((x:Int)*m):=by omega
   clear a5 b5;go_wp2;go_roundw
   case rel=>
    refine⟨j+1,(x*m+c)/1000000000,by omega,a8.out,by go_num,by go_num,a2,uaw.congr (uaw.set a0 j (z:=(x*m+c)%1000000000) (by go_num)) fun t ht=>?_,Below.setCell a1 a4 _⟩
    by_cases e:t=j
    ·subst e;rw[uad,if_pos (by omega)];exact a6.out
    ·rw[uD _ _ e]
     by_cases h2:t<j
     ·rw[if_pos h2,if_pos (by omega)]
     ·rw[if_neg h2,if_neg (by omega)]
   case measure=>simp[intOf];omega
  ·obtain rfl:j=dl n:=by omega
   have b4:=a0.frozen (dl n);have b1:=a0.cell (i:=dl n) (by omega)
   have b7:Hid (c=dg (n*m) (dl n)):=by
    show c=n*m/B^dl n%B
    rw[<-HN.out,<-a3.out,aV (show c<B from hc)]
   go_wp2;go_ret
   refine⟨_,rfl,b,rfl,a4,uaw.congr (uaw.set a0 (dl n) (z:=c) rfl) fun t ht=>?_,Below.setCell a1 a4 _⟩
   by_cases e:t=dl n
   ·subst e;rw[uad];exact b7.out
   ·rw[uD _ _ e,if_pos (by omega)]
set_option maxHeartbeats 200000
theorem umv{n m j:Nat}(hm:0<m) :
 (n/B^(j+1)%m*1000000000+dg n j)/m=dg (n/m) j/\(n/B^(j+1)%m*1000000000+dg n j)%m=n/B^j%m:=by
 have h1:n/B^j=n/B^(j+1)*B+dg n j:=by
  have h:=ubm n j;unfold dg;rw[h,Nat.mul_comm];exact(Nat.div_add_mod _ _).symm
 have h2:n/m/B^j=n/B^j/m:=by rw[Nat.div_div_eq_div_mul,Nat.div_div_eq_div_mul,Nat.mul_comm]
 generalize n/B^(j+1)=X at *;have hd:dg n j<B:=uZ n j;generalize dg n j=d at *;have h3:X*B+d=m*(X/m*B)+(X%m*1000000000+d):=by
  have h:=Nat.div_add_mod X m;calc X*B+d=(m*(X/m)+X%m)*B+d:=by rw[h]
   _=m*(X/m*B)+(X%m*1000000000+d):=by rw[Nat.add_mul,uhn,Nat.mul_assoc,Nat.add_assoc]
 have h4:(X%m*1000000000+d)/m<B:=by
  rw[Nat.div_lt_iff_lt_mul hm];have h:=Nat.mod_lt X hm;have h5:(X%m+1)*B<=m*B:=aF _ h;rw[Nat.mul_comm B m];rw[uhn]at *;omega
 constructor
 ·unfold dg
  rw[h2,h1,h3,Nat.mul_add_div hm,Nat.mul_add_mod_self_right,aV h4]
 ·rw[h1,h3,Nat.mul_add_mod]
set_option maxHeartbeats 16000000
theorem ud4(w:World)(lo:Nat)(v:Value)(n m:Nat)(hv:uL w lo v n)(hk:dl n<=8589934592)(hm:m<1000000000)(a3:0<m) :
 Calls Tryz.prog 208 #[v,.int .u64 m] w (fun e w'=>∃v2,e = .returned (.tuple #[v2,.int .u64 (n%m:Nat)])/\uL w' w.heap.size v2 (n/m)/\Below w.heap.size w w'):=by
 obtain⟨_,A,c,rfl,c3,b5,hb⟩:=hv;unfold maxLen at b5;have HB:=hid hb;have c5:((m:Int)==0)=false:=by rw[aw];omega
 clear hb;go_enter Tryz.func208,Tryz.ntmps208
 go_wp2_with (at_make;refine uen _ rfl _ _ 100 rfl w.heap.size 102 Tryz.underlying100 uG _ _ _ _ (dl n) (by rfl) (by rfl) (by omega) (by omega) (by omega) w aa ab ?_;intro b w1 a9 _ b9 b3 _)
 go_loopw [7,8] (fun rv i wr=>∃j r:Nat,j<=dl n/\r<m/\i = .int .i64 (↑j-1)/\rv = .int .u64 r/\Hid (r=n/B^j%m)/\uaw wr b 102 (dl n) (fun t=>if j<=t then dg (n/m) t else 0)/\Below w.heap.size w wr) (fun _ i _=>(intOf i+1).toNat)
 case atStart=>
  refine⟨dl n,0,by omega,a3,rfl,rfl,?_,b9.congr fun t ht=>by rw[if_neg (by omega)],b3⟩
  show 0=n/B^dl n%m
  rw[Nat.div_eq_of_lt (ua2 n),Nat.zero_mod]
 case round=>
  obtain⟨j,r,hj,hr,rfl,rfl,b1,a0,a2⟩:=hrel;rcases j with _|j
  ·have b8:uaw wr b 102 (dl n) (dg (n/m)):=a0.congr fun t _=>by rw[if_pos (by omega)]
   have hq:Hid (n/m<B^dl n):=Nat.lt_of_le_of_lt (Nat.div_le_self _ _) (ua2 n);have b7:Hid (r=n%m):=by have:=b1.out;rw[Nat.pow_zero,Nat.div_one]at this;exact this
   clear a0;go_wp2_with fail
   refine(udb _ _ _ _ _ (b8.vAs a9 (by omega) fun i _=>Nat.lt_trans (uZ _ i) (by decide)) hq.out).mono ?_
   rintro e w'⟨v',rfl,b6,rfl⟩;go_wp2;go_ret2
   exact⟨v',by rw[<-b7.out];rfl,b6,a2⟩
  ·have hd:dg n j<1000000000:=uZ n j
   obtain⟨ba,off,rfl,c4,b2,a8⟩:=HB.out (by omega)
   have b4:=(a2.cell (p:=⟨ba,off+j,none⟩) b2).trans (a8 j (by omega))
   have c2:=a0.frozen j;have c1:=a0.cell (i:=j) (by omega)
   obtain⟨a1,a4⟩:=umv (n:=n) (j:=j) a3;rw[<-b1.out]at a1 a4;have a6:=hid a1;have a7:=hid a4;have a5:(r*1000000000+dg n j)/m<1000000000:=by rw[a1];exact uZ _ _
   have b0:(r*1000000000+dg n j)%m<m:=Nat.mod_lt _ a3;obtain⟨x,c0⟩:∃x,Hid (x=dg n j):=⟨_,rfl⟩;rw[<-c0.out]at b4 hd a6 a7 a5 b0;have c6:((r:Int)*1000000000+x)/m<1000000000:=by have h:=Int.ofNat_lt.2 a5;simpa using h
   have c7:0<=((r:Int)*1000000000+x)/m:=Int.ediv_nonneg (by omega) (by omega)
   clear a8 a1 a4 a5;go_wp2;go_roundw
   case rel=>
    refine⟨j,(r*1000000000+x)%m,by omega,b0,by go_num,by go_num,a7,uaw.congr (uaw.set a0 j (z:=(r*1000000000+x)/m) (by go_num)) fun t ht=>?_,Below.setCell a2 a9 _⟩
    by_cases e:t=j
    ·subst e;rw[uad,if_pos (by omega)];exact a6.out
    ·rw[uD _ _ e]
     by_cases h2:j+1<=t
     ·rw[if_pos h2,if_pos (by omega)]
     ·rw[if_neg h2,if_neg (by omega)]
   case measure=>simp[intOf]
end Go.Proofs.YtnbbpmagijpmpaaGreatDoor
namespace AC
theorem uo4{U V a0 top next u2 vl ul P q:Nat}(hV:V=(top*B+next)*P+vl)(hU:U=(a0*B+u2)*P+ul)(a2:ul<P)(a1:u2<B)(hq:q*V<=U):q*top<=a0:=by
 rcases ah a0 (q*top)with h|h
 ·exfalso
  have h1:q*(top*B*P)<=q*V:=Nat.mul_le_mul_left q (by rw[hV,Nat.add_mul];omega)
  have h2:(a0+1)*(B*P)<=q*top*(B*P):=aF _ h;have h3:q*(top*B*P)=q*top*(B*P):=by simp only[Nat.mul_assoc]
  have h4:(u2+1)*P<=B*P:=aF _ a1;have h5:(a0*B+u2)*P=a0*(B*P)+u2*P:=by rw[Nat.add_mul,Nat.mul_assoc]
  rw[Nat.add_mul,Nat.one_mul]at h2 h4;omega
 ·exact h
theorem usy{U V a0 top next u2 vl ul P q g r:Nat}(hV:V=(top*B+next)*P+vl)(hU:U=(a0*B+u2)*P+ul)(a1:ul<P)(hh:a0=g*top+r)
 (hg:r*B+u2<g*next) (hq:q*V<=U):q<g:=by
 rcases ah q g with h|h
 ·exact h
 ·exfalso
  have h1:g*((top*B+next)*P)<=q*V:=Nat.mul_le_mul h (by rw[hV];omega)
  have h2:g*((top*B+next)*P)=(g*top*B+g*next)*P:=by rw[<-Nat.mul_assoc,Nat.mul_add,Nat.mul_assoc]
  have h3:a0*B+u2+1<=g*top*B+g*next:=by
   have:a0*B=g*top*B+r*B:=by rw[hh,Nat.add_mul]
   omega
  have h4:(a0*B+u2+1)*P<=(g*top*B+g*next)*P:=aF _ h3;rw[Nat.add_mul,Nat.one_mul]at h4;omega
theorem ujz{U V a0 top next u2 vl ul P g r:Nat}(hV:V=(top*B+next)*P+vl)(a5:vl<P)(a2:next<B)(hU:U=(a0*B+u2)*P+ul)(hh:a0=g*top+r)
 (a3:0<top) (a4:g<B) (a1:B<=r\/g*next<=r*B+u2):(g-1)*V<=U:=by
 rcases aK g with h0|h0
 ·subst h0;simp
 obtain⟨k,rfl⟩:∃k,g=k+1:=⟨g-1,by omega⟩
 simp only[Nat.add_sub_cancel];rcases a1 with h|h
 ·have h1:V<=(top+1)*(B*P):=by
   have h2:(next+1)*P<=B*P:=aF _ a2;rw[Nat.add_mul,Nat.one_mul]at h2;have h3:(top*B+next)*P=top*(B*P)+next*P:=by rw[Nat.add_mul,Nat.mul_assoc]
   rw[Nat.add_mul,Nat.one_mul];omega
  have h2:k*V<=k*((top+1)*(B*P)):=Nat.mul_le_mul_left _ h1;have h3:k*((top+1)*(B*P))=(k*top+k)*(B*P):=by rw[<-Nat.mul_assoc,Nat.mul_add,Nat.mul_one]
  have h4:(k*top+k)*(B*P)<=a0*(B*P):=by
   apply aF;rw[hh,Nat.add_mul];omega
  have h5:(a0*B+u2)*P=a0*(B*P)+u2*P:=by rw[Nat.add_mul,Nat.mul_assoc]
  omega
 ·have h1:V<=(top*B+next+1)*P:=by rw[Nat.add_mul (top*B+next),Nat.one_mul];omega
  have h2:k*V<=k*((top*B+next+1)*P):=Nat.mul_le_mul_left _ h1;have h3:k*((top*B+next+1)*P)=(k*(top*B+next)+k)*P:=by rw[<-Nat.mul_assoc,Nat.mul_add k (top*B+next),Nat.mul_one]
  have h4:k*(top*B+next)+k<=a0*B+u2:=by
   have e1:a0*B=(k+1)*top*B+r*B:=by rw[hh,Nat.add_mul]
   have e2:(k+1)*(top*B+next)=(k+1)*top*B+(k+1)*next:=by rw[Nat.mul_add,Nat.mul_assoc]
   have e3:(k+1)*(top*B+next)=k*(top*B+next)+(top*B+next):=by rw[Nat.add_mul,Nat.one_mul]
   have e4:1*B<=top*B:=aF _ a3;omega
  have h5:(k*(top*B+next)+k)*P<=(a0*B+u2)*P:=aF _ h4;omega
theorem usz{U V a0 top next u2 vl ul P g r:Nat}(hV:V=(top*B+next)*P+vl)(a3:vl<P)(a1:next<B)(hU:U=(a0*B+u2)*P+ul)(hh:a0=g*top+r)
 (a2:U<V*B) (hr:B<=r):g<B:=by
 rcases ah g B with h|h
 ·exact h
 ·exfalso
  have h1:B*top<=g*top:=aF _ h;have h2:(B*top+B)*(B*P)<=a0*(B*P):=aF _ (by omega)
  have h3:V*B<=(top+1)*(B*P)*B:=by
   apply aF;have h2:(next+1)*P<=B*P:=aF _ a1;rw[Nat.add_mul,Nat.one_mul]at h2;have h3:(top*B+next)*P=top*(B*P)+next*P:=by rw[Nat.add_mul,Nat.mul_assoc]
   rw[Nat.add_mul,Nat.one_mul];omega
  have h4:(top+1)*(B*P)*B=(B*top+B)*(B*P):=by
   have:B*top+B=(top+1)*B:=by rw[Nat.add_mul,Nat.one_mul,Nat.mul_comm]
   rw[this];simp only[Nat.mul_comm,Nat.mul_left_comm,Nat.mul_assoc]
  have h5:(a0*B+u2)*P=a0*(B*P)+u2*P:=by rw[Nat.add_mul,Nat.mul_assoc]
  omega
theorem uDe(V m:Nat)(h:V<B^(m+2)):V=(dg V (m+1)*B+dg V m)*B^m+V%B^m:=by
 have h1:=uF V (m+1);have h2:=uF V m;rw[aV h]at h1;have h3:dg V (m+1)*B^(m+1)=dg V (m+1)*B*B^m:=by rw[Nat.pow_succ,Nat.mul_comm (B^m) B,Nat.mul_assoc]
 rw[Nat.add_mul];omega
theorem umw(f:Nat->Nat)(m:Nat):vs f (m+3)=((f (m+2)*B+f (m+1))*B+f m)*B^m+vs f m:=by
 simp only[vs];have e1:f (m+1)*B^(m+1)=f (m+1)*B*B^m:=by rw[Nat.pow_succ,Nat.mul_comm (B^m) B,Nat.mul_assoc]
 have e2:f (m+2)*B^(m+2)=f (m+2)*B*B*B^m:=by
  rw[Nat.pow_succ,Nat.pow_succ];simp only[Nat.mul_comm,Nat.mul_left_comm,Nat.mul_assoc]
 rw[e1,e2];simp only[Nat.add_mul];omega
end AC
namespace Go.Proofs.YtnbbpmagijpmpaaGreatDoor
open Go.Lib (hid)
open Go.RowKit AC
def uJu(x0 x1 top q0:Nat)(gv rv:Value):Prop:=
 ∃g r:Nat,g<=999999999999999999/\r<2000000000/\gv = .int .u64 g/\rv = .int .u64 r/\Hid (x0*B+x1=g*top+r)/\Hid (q0<=g)
def uJv(w:World)(q0:Nat)(gv rv:Value)(wx:World):Prop:=
 ∃g r q:Nat,g<1000000000/\gv = .int .u64 g/\rv = .int .u64 r/\Hid (q0<=g/\g<=q0+1)/\wx=w.drewN q
def uJw(w:World)(b:Nat)(e:TypeId)(j Lu n:Nat)(f:Nat->Nat)(V g:Nat)(bv iv:Value)(wr:World):Prop:=
 ∃(i β:Nat) (h:Nat->Nat),i<=n/\β<=1000000000/\iv = .int .i64 i/\bv = .int .i64 β/\Hid (uaw wr b e Lu h)/\Hid (∀t,t<Lu->h t<B)/\Hid (∀t,t<j\/j+i<=t->h t=f t) /\
  Hid (vs (fun t=>h (j+t)) i+g*(V%B^i)=vs (fun t=>f (j+t)) i+β*B^i)/\Hid (w.grownBy wr (some b))
def S3(s0 b0:Int)(bv sv:Value):Prop:=∃k:Nat,s0+k*1000000000<1000000000/\k<=3/\bv = .int .i64 (b0+k)/\sv = .int .i64 (s0+k*1000000000)
theorem uy3{h f:Nat->Nat}{j i g V β s' b':Nat}(a1:vs (fun t=>h (j+t)) i+g*(V%B^i)=vs (fun t=>f (j+t)) i+β*B^i)
 (a0:s'+g*dg V i+β=f (j+i)+b'*1000000000) :
 vs (fun t=>upd h (j+i) s' (j+t)) (i+1)+g*(V%B^(i+1))=vs (fun t=>f (j+t)) (i+1)+b'*B^(i+1):=by
 rw[vs,ukz (f:=fun t=>upd h (j+i) s' (j+t)) (g:=fun t=>h (j+t)) (fun t ht=>uD h _ (by omega))]
 simp only[uad,vs];rw[uF,Nat.mul_add];have e1:b'*B^(i+1)=b'*1000000000*B^i:=by rw[Nat.pow_succ,Nat.mul_comm (B^i),<-Nat.mul_assoc];rfl
 have e2:g*(dg V i*B^i)=g*dg V i*B^i:=by rw[Nat.mul_assoc]
 have e3:(s'+g*dg V i+β)*B^i=(f (j+i)+b'*1000000000)*B^i:=by rw[a0]
 simp only[Nat.add_mul]at e3;omega
theorem uDf{h f:Nat->Nat}{j n g V β U q0 x0 Lu:Nat}(hV:V<B^n)(a1:vs (fun t=>h (j+t)) n+g*(V%B^n)=vs (fun t=>f (j+t)) n+β*B^n)
 (hh:∀t,t<Lu->h t<B) (hL:j+n<=Lu) (hU:U=vs (fun t=>f (j+t)) (n+1)) (hx:x0=f (j+n)) (hq:q0=U/V) (hg:q0<=g/\g<=q0+1) (a3:0<V) :
 (β<=x0->x0=β/\g=q0/\vs (fun t=>h (j+t)) n=U%V)/\(x0<β->β=x0+1/\g=q0+1/\vs (fun t=>h (j+t)) n+V=U%V+B^n):=by
 have hW:vs (fun t=>h (j+t)) n<B^n:=usw fun t ht=>hh _ (by omega)
 rw[aV hV]at a1;rw[vs,<-hx]at hU;have a4:=Nat.div_add_mod U V;rw[<-hq]at a4;generalize vs (fun t=>h (j+t)) n=W at *
 generalize vs (fun t=>f (j+t)) n=Ul at *
 have hR:=Nat.mod_lt U a3;generalize U%V=R at *;generalize B^n=P at *;have hm:V*q0=q0*V:=Nat.mul_comm _ _;have a2:g=q0\/g=q0+1:=by omega
 have key:g=q0->W+x0*P=R+β*P:=by rintro rfl;omega
 have a0:g=q0+1->W+x0*P+V=R+β*P:=by rintro rfl;rw[Nat.add_mul,Nat.one_mul]at a1;omega
 constructor
 ·intro a5
  obtain⟨d,rfl⟩:∃d,x0=β+d:=⟨x0-β,by omega⟩
  rw[Nat.add_mul]at key a0;rcases a2 with e|e
  ·have h1:=key e
   rcases aK d with h0|h0
   ·subst h0
    rw[Nat.zero_mul]at h1;exact⟨rfl,e,by omega⟩
   ·exfalso
    have:1*P<=d*P:=aF _ h0;omega
  ·exfalso
   have h1:=a0 e;omega
 ·intro a6
  obtain⟨d,rfl⟩:∃d,β=x0+d:=⟨β-x0,by omega⟩
  rw[Nat.add_mul]at key a0;have h0:1<=d:=by omega
  have h1:1*P<=d*P:=aF _ h0;rcases a2 with e|e
  ·exfalso
   have h2:=key e;omega
  ·have h2:=a0 e
   rcases ah d 2 with h3|h3
   ·obtain rfl:d=1:=by omega
    exact⟨rfl,e,by omega⟩
   ·exfalso
    have:2*P<=d*P:=aF _ h3;omega
def uJx(w:World)(b:Nat)(e:TypeId)(j Lu n:Nat)(h:Nat->Nat)(W V:Nat)(cv iv:Value)(wr:World):Prop:=
 ∃i c:Nat,i<=n/\c<=1/\iv = .int .i64 i/\cv = .int .u32 c/\uaw wr b e Lu (fun t=>if j<=t/\t<j+i then dg (W+V) (t-j)else h t)/\Hid (c=vs (fun t=>dg W t+dg V t) i/B^i)/\Hid (w.grownBy wr (some b))
set_option maxHeartbeats 16000000
set_option maxRecDepth 100000
theorem uhj(w:World)(lo b j Lu cap n:Nat)(f:Nat->Nat)(v:Value)(V U:Nat)(b6:uaw w b 102 Lu f)(hf:∀t,t<Lu->f t<B)(hj:j+n+1<=Lu)(h8:n+1<=cap)(h9:cap<=4294967296000)(hL:Lu<=4294967296000)
 (hv:uu w lo v n (dg V)) (h0:b<lo) (hn:2<=n) (hV:V<B^n) (c8:B^(n-1)<=V) (hU:U=vs (fun t=>f (j+t)) (n+1)) (d1:U<V*B) :
 Calls Tryz.prog 210 #[.slice (some ⟨b,j,none⟩) (n+1) cap,v] w (fun e w'=>e = .returned (.int .u32 ((U/V:Nat):Int))/\∃f',uaw w' b 102 Lu f'/\(∀t,t<Lu->f' t<B) /\
  (∀t,t<j\/j+n<t->f' t=f t)/\(∀t,t<=n->f' (j+t)=dg (U%V) t)/\w.grownBy w' (some b)):=by
 obtain⟨_,A,c,rfl,j6,f0,hb⟩:=hv;unfold maxLen at f0;obtain⟨bv,off,rfl,j7,g9,b3⟩:=hb (by omega)
 have h6:bv≠b:=by omega
 have d2:=b3 (n-1) (by omega)
 have d3:=b3 (n-2) (by omega)
 have e3:=b6.cell (i:=j+n) (by omega)
 have e4:=b6.cell (i:=j+(n-1)) (by omega)
 have e5:=b6.cell (i:=j+(n-2)) (by omega)
 have e1:dg V (n-1)<1000000000:=uZ _ _;have a4:dg V (n-2)<1000000000:=uZ _ _;have g3:f (j+n)<1000000000:=hf _ (by omega)
 have e6:f (j+(n-1))<1000000000:=hf _ (by omega)
 have c9:f (j+(n-2))<1000000000:=hf _ (by omega)
 have b7:1<=dg V (n-1):=by
  have h1:=uCd (n:=V) (by have:=uH (n-1);omega)
  have h2:dl V=n:=Nat.le_antisymm (ue4 hV) (by have:=uDc c8;omega)
  rw[h2]at h1;omega
 obtain⟨top,c0⟩:∃x,Hid (x=dg V (n-1)):=⟨_,rfl⟩;obtain⟨next,b9⟩:∃x,Hid (x=dg V (n-2)):=⟨_,rfl⟩;obtain⟨x0,b2⟩:∃x,Hid (x=f (j+n)):=⟨_,rfl⟩;obtain⟨x1,c1⟩:∃x,Hid (x=f (j+(n-1))):=⟨_,rfl⟩;obtain⟨x2,c2⟩:∃x,Hid (x=f (j+(n-2))):=⟨_,rfl⟩;rw[<-c0.out]at d2 e1 b7;rw[<-b9.out]at d3 a4;rw[<-b2.out]at e3 g3;rw[<-c1.out]at e4 e6;rw[<-c2.out]at e5 c9;have a6:Hid (V=(top*B+next)*B^(n-2)+V%B^(n-2)):=by
  have h:=uDe V (n-2) (by rw[show n-2+2=n by omega];exact hV)
  rw[show n-2+1=n-1 by omega,<-c0.out,<-b9.out]at h
  exact h
 have a5:Hid (U=((x0*B+x1)*B+x2)*B^(n-2)+vs (fun t=>f (j+t)) (n-2)):=by
  have h:=umw (fun t=>f (j+t)) (n-2)
  rw[show n-2+3=n+1 by omega,<-hU,show n-2+2=n by omega,show n-2+1=n-1 by omega,<-b2.out,<-c1.out,<-c2.out]at h
  exact h
 have HC:=hid b3;have HU:=hid hU;have HF:=hid hf;have HV:=hid hV;have HT:=hid c8;have d0:=hid d1;clear hb b3 hU hf hV c8 d1;have hz:((top:Int)==0)=false:=by rw[aw];omega
 go_enter Tryz.func210,Tryz.ntmps210
 go_wp2;go_quiet (fail)
 go_wp2;go_quiet (fail)
 go_wp2;go_quiet (fail)
 go_upto_block 0 with(fail)
 obtain⟨q0,a1⟩:∃x,Hid (x=U/V):=⟨_,rfl⟩;have Hqm:Hid (q0*V<=U):=by show _<=_;rw[a1.out];exact Nat.div_mul_le_self U V
 have g8:q0<1000000000:=by
  rw[a1.out];have h:=d0.out;exact(Nat.div_lt_iff_lt_mul (by have:=uH (n-1);have:=HT.out;omega)).2 (by rw[Nat.mul_comm];exact h)
 have Hul:Hid (vs (fun t=>f (j+t)) (n-2)<B^(n-2)):=usw fun t ht=>HF.out _ (by omega)
 have Hvl:Hid (V%B^(n-2)<B^(n-2)):=Nat.mod_lt _ (uH _);go_cut [9,10] (fun gv rv wx=>uJv w q0 gv rv wx)
 case first=>
  go_wp2;go_loop [9,10] (fun gv rv=>uJu x0 x1 top q0 gv rv) (fun gv _=>(intOf gv).toNat)
  case atStart=>
   have f2:=Nat.div_add_mod (x0*1000000000+x1) top;have j8:=Nat.mod_lt (x0*1000000000+x1) (show 0<top by omega)
   have j0:=Nat.div_le_self (x0*1000000000+x1) top;refine⟨(x0*1000000000+x1)/top,(x0*1000000000+x1)%top,by omega,by omega,by go_num,by go_num,?_,?_⟩
   ·show x0*1000000000+x1=_
    rw[Nat.mul_comm _ top];exact f2.symm
   ·show q0<=_
    rw[Nat.le_div_iff_mul_le (by omega)]
    exact uo4 a6.out a5.out Hul.out c9 Hqm.out
  case round=>
   obtain⟨g,r,j2,j9,rfl,rfl,a0,e0⟩:=hrel;by_cases hr:r<1000000000
   ·have f9:decide ((r:Int)<1000000000)=true:=by simp;omega
    by_cases hg:1000000000<=g
    ·have f5:decide ((1000000000:Int)<=(g:Int))=true:=by simp;omega
     go_wp2;go_round
     case rel=>
      refine⟨g-1,r+top,by omega,by omega,by go_num,by go_num,?_,?_⟩
      ·show _=_
       rw[a0.out];obtain⟨k,rfl⟩:∃k,g=k+1:=⟨g-1,by omega⟩
       rw[Nat.add_mul,Nat.one_mul,Nat.add_sub_cancel];omega
      ·show q0<=g-1
       omega
     case measure=>simp[intOf];omega
    ·have f5:decide ((1000000000:Int)<=(g:Int))=false:=by simp;omega
     have d9:=prod_bound (show g<1000000000 by omega) a4
     have f7:((g:Int)*next)<=999999998000000001:=by omega
     have f8:0<=((g:Int)*next):=by omega
     by_cases hx:r*1000000000+x2<g*next
     ·have g5:(r:Int)*1000000000+x2<(g:Int)*next:=by omega
      have g4:decide ((r:Int)*1000000000+x2<(g:Int)*next)=true:=by simp;omega
      have d6:=usy (q:=q0) a6.out a5.out Hul.out a0.out hx Hqm.out;go_wp2;go_round
      case rel=>
       refine⟨g-1,r+top,by omega,by omega,by go_num,by go_num,?_,?_⟩
       ·show _=_
        rw[a0.out];obtain⟨k,rfl⟩:∃k,g=k+1:=⟨g-1,by omega⟩
        rw[Nat.add_mul,Nat.one_mul,Nat.add_sub_cancel];omega
       ·show q0<=g-1
        omega
      case measure=>simp[intOf];omega
     ·have g5:¬(r:Int)*1000000000+x2<(g:Int)*next:=by omega
      have g4:decide ((r:Int)*1000000000+x2<(g:Int)*next)=false:=by simp;omega
      go_wp2;go_meet
      refine⟨g,r,_,by omega,rfl,rfl,⟨e0.out,?_⟩,by first|rfl|(simp only[World.drewN_drewN];rfl)⟩
      have h:=ujz a6.out Hvl.out a4 a5.out a0.out b7 (show g<B by rw[uhn];omega) (.inr (by rw[uhn];omega))
      have a7:0<V:=by have:=uH (n-1);have:=HT.out;omega
      have h2:=(Nat.le_div_iff_mul_le a7).2 h;rw[<-a1.out]at h2;omega
   ·have f9:decide ((r:Int)<1000000000)=false:=by simp;omega
    go_wp2;go_meet
    have d5:=usz a6.out Hvl.out a4 a5.out a0.out d0.out (show B<=r by rw[uhn];omega)
    refine⟨g,r,_,d5,rfl,rfl,⟨e0.out,?_⟩,by first|rfl|(simp only[World.drewN_drewN];rfl)⟩
    have h:=ujz a6.out Hvl.out a4 a5.out a0.out b7 d5 (.inl (by rw[uhn];omega))
    have a7:0<V:=by have:=uH (n-1);have:=HT.out;omega
    have h2:=(Nat.le_div_iff_mul_le a7).2 h;rw[<-a1.out]at h2;omega
 case rest=>
  obtain⟨g,r,q,hg,rfl,rfl,f6,rfl⟩:=hcut;clear d2 d3 e3 e4 e5 c0 b9 e1 a4 b7 hz e6 c9 c1 c2;go_wp2;go_loopw [11,78] (fun b8 iv wr=>uJw w b 102 j Lu n f V g b8 iv wr) (fun _ iv _=>n-(intOf iv).toNat)
  case atStart=>
   exact⟨0,0,f,by omega,by omega,rfl,rfl,b6.drewN _,HF.out,fun _ _=>rfl,by simp[vs,Hid,Nat.mod_one],(World.grownBy.refl w _).drewN _⟩
  case round=>
   obtain⟨i,β,h,hi,hβ,rfl,rfl,a2,hh,a9,d4,a0⟩:=hrel;by_cases d6:i<n
   ·have a8:=World.grownBy.cell a0.out (HC.out i d6) (by simp;omega)
    have b4:=a2.out.cell (i:=j+i) (by omega)
    rw[a9.out (j+i) (.inr ab)]at b4;have hx:f (j+i)<1000000000:=HF.out _ (by omega)
    have hy:dg V i<1000000000:=uZ _ _;have f3:=a2.out.frozen (j+i);obtain⟨x,ex⟩:∃x,Hid (x=f (j+i)):=⟨_,rfl⟩;obtain⟨y,ey⟩:∃x,Hid (x=dg V i):=⟨_,rfl⟩;rw[<-ex.out]at b4 hx;rw[<-ey.out]at a8 hy;have d9:=prod_bound hg hy;have f7:((g:Int)*y)<=999999998000000001:=by omega
    have f8:0<=((g:Int)*y):=by omega
    clear d9;go_wp2;go_quiet (fail)
    go_wp2;go_loop [11,13] (fun b8 sv=>S3 ((x:Int)-β-(g:Int)*y%1000000000) ((g:Int)*y/1000000000) b8 sv) (fun _ sv=>(-(intOf sv)).toNat)
    case atStart=>exact⟨0,by omega,by omega,by simp,by simp⟩
    case round=>
     obtain⟨k,j4,j5,rfl,rfl⟩:=hrel;by_cases d8:(x:Int)-β-(g:Int)*y%1000000000+k*1000000000<0
     ·go_wp2
      go_round
      case rel=>exact⟨k+1,by omega,by omega,by go_num,by go_num⟩
      case measure=>simp[intOf];omega
     ·go_wp2
      go_roundw
      case rel=>
       obtain⟨s',g0⟩:∃s':Nat,(s':Int)=(x:Int)-β-(g:Int)*y%1000000000+k*1000000000:=⟨((x:Int)-β-(g:Int)*y%1000000000+k*1000000000).toNat,by omega⟩
       have g2:s'+g*y+β=x+(g*y/1000000000+k)*1000000000:=by omega
       have g1:s'<1000000000:=by omega
       refine⟨i+1,g*y/1000000000+k,upd h (j+i) s',by omega,by omega,by go_num,by go_num,uaw.set (uaw.drewN a2.out _) (j+i) g0.symm,?_,?_,?_,(a0.out.drewN _).setAt _ _⟩
       ·intro t ht
        by_cases e:t=j+i
        ·subst e;rw[uad];exact g1
        ·rw[uD h _ e];exact hh.out t ht
       ·intro t ht
        rw[uD h _ (by omega)];exact a9.out t (by omega)
       ·exact uy3 d4.out (by rw[<-ex.out,<-ey.out];exact g2)
      case measure=>simp[intOf];omega
   ·obtain rfl:i=n:=by omega
    have b4:=a2.out.cell (i:=j+i) (by omega)
    rw[a9.out (j+i) (.inr ab),<-b2.out]at b4;have f3:=a2.out.frozen (j+i);have b5:=uDf (q0:=q0) (x0:=x0) HV.out d4.out hh.out (by omega) HU.out b2.out a1.out f6.out (by have:=uH (i-1);have:=HT.out;omega)
    by_cases d8:β<=x0
    ·obtain⟨h1,h2,h3⟩:=b5.1 d8
     have H3:=hid h3;have H2:=hid h2;clear h3 h2 b5;go_wp2;go_ret
     refine⟨?_,upd h (j+i) 0,uaw.set a2.out (j+i) (by omega),?_,?_,?_,a0.out.setAt _ _⟩
     ·rw[<-a1.out,<-H2.out];rfl
     ·intro t ht
      by_cases e:t=j+i
      ·subst e;rw[uad];exact ucs
      ·rw[uD h _ e];exact hh.out t ht
     ·intro t ht
      rw[uD h _ (by omega)];exact a9.out t (by omega)
     ·intro t ht
      by_cases e:t=i
      ·subst e;rw[uad,uh9]
       rw[<-H3.out];exact usw fun t ht=>hh.out _ (by omega)
      ·rw[uD h _ (by omega),<-H3.out,uDb (fun t ht=>hh.out _ (by omega)) (by omega)]
    ·obtain⟨h1,h2,h3⟩:=b5.2 (by omega)
     have H3:=hid h3;have H2:=hid h2;clear h3 h2 b5;go_wp2;go_loopw [15,136] (fun cv iv g6=>uJx wr b 102 j Lu i h (vs (fun t=>h (j+t)) i) V cv iv g6) (fun _ iv _=>i-(intOf iv).toNat)
     case atStart=>
      exact⟨0,0,by omega,by omega,rfl,rfl,a2.out.congr fun t _=>by rw[if_neg (by omega)],by simp[vs,Hid],World.grownBy.refl _ _⟩
     case round=>
      obtain⟨i',c',j3,h7,rfl,rfl,a3,a8,c6⟩:=hrel;by_cases d7:i'<i
      ·have f1:=World.grownBy.cell (a0.out.then c6.out) (HC.out i' d7) (by simp;omega)
       have c5:=a3.cell (i:=j+i') (by omega)
       rw[if_neg (by omega)]at c5
       have f4:=a3.frozen (j+i');have c7:h (j+i')=dg (vs (fun t=>h (j+t)) i) i':=(uDb (f:=fun t=>h (j+t)) (fun t ht=>hh.out _ (by omega)) d7).symm
       have b0:=ufg (vs (fun t=>h (j+t)) i) V i'
       have b1:=uhp (vs (fun t=>h (j+t)) i) V i'
       have hx:h (j+i')<1000000000:=hh.out _ (by omega)
       have hy:dg V i'<1000000000:=uZ _ _;rw[<-a8.out,<-c7,uhn]at b0;rw[<-a8.out,<-c7]at b1;obtain⟨x,ex⟩:∃x,Hid (x=h (j+i')):=⟨_,rfl⟩;obtain⟨y,ey⟩:∃x,Hid (x=dg V i'):=⟨_,rfl⟩;rw[<-ex.out]at c5 hx b0 b1;rw[<-ey.out]at f1 hy b0 b1;have e8:=hid b0;have e9:=hid b1;clear b0 b1 c7;go_wp2;go_quiet (fail)
       go_wp2;go_roundw
       case rel=>
        refine⟨i'+1,(x+y+c')/1000000000,by omega,by omega,by go_num,by go_num,uaw.congr (uaw.set (uaw.drewN a3 _) (j+i') (z:=(x+y+c')%1000000000) (by go_num)) fun t ht=>?_,e9.out.symm,(c6.out.drewN _).setAt _ _⟩
        by_cases e:t=j+i'
        ·subst e;rw[uad,if_pos (by omega),Nat.add_sub_cancel_left];exact e8.out.symm
        ·rw[uD _ _ e]
         by_cases h4:j<=t/\t<j+i'
         ·rw[if_pos h4,if_pos (by omega)]
         ·rw[if_neg h4,if_neg (by omega)]
       case measure=>simp[intOf];omega
      ·obtain rfl:i'=i:=by omega
       have c4:vs (fun t=>h (j+t)) i'<B^i':=usw fun t ht=>hh.out _ (by omega)
       have a7:0<V:=by have:=uH (i'-1);have:=HT.out;omega
       have c3:U%V<B^i':=Nat.lt_trans (Nat.mod_lt U a7) HV.out;obtain rfl:c'=1:=by
        have h4:=a8.out;rw[ums,aV c4,aV HV.out,H3.out]at h4;rw[h4,Nat.add_div_right _ (uH i'),Nat.div_eq_of_lt c3]
       have f4:=a3.frozen (j+i');have c5:=a3.cell (i:=j+i') (by omega)
       have g7:=hid c4;have e7:=hid c3;have j1:1<=g:=by have:=H2.out;omega
       clear c4 c3;go_wp2;go_ret
       refine⟨?_,upd (fun t=>if j<=t/\t<j+i' then dg (vs (fun t=>h (j+t)) i'+V) (t-j)else h t) (j+i') 0,uaw.set a3 (j+i') (by omega),?_,?_,?_,(a0.out.then c6.out).setAt _ _⟩
       ·rw[<-a1.out]
        have h4:=H2.out;have h5:(g:Int)-1=(q0:Int):=by omega
        rw[<-h5];rfl
       ·intro t ht
        by_cases e:t=j+i'
        ·subst e;rw[uad];exact ucs
        ·rw[uD _ _ e]
         by_cases h4:j<=t/\t<j+i'
         ·rw[if_pos h4];exact uZ _ _
         ·rw[if_neg h4];exact hh.out t ht
       ·intro t ht
        rw[uD _ _ (by omega),if_neg (by omega)];exact a9.out t (by omega)
       ·intro t ht
        by_cases e:t=i'
        ·subst e;rw[uad,uh9 e7.out]
        ·rw[uD _ _ (by omega),if_pos (by omega),Nat.add_sub_cancel_left,H3.out]
         obtain⟨d,hd⟩:∃d,i'=t+1+d:=⟨i'-(t+1),by omega⟩
         unfold dg;have e2:U%V+B^i'=U%V+B^d*B*B^t:=by
          congr 1
          rw[hd,Nat.pow_add,Nat.pow_succ];simp only[Nat.mul_comm,Nat.mul_left_comm,Nat.mul_assoc]
         rw[e2,Nat.add_mul_div_right _ _ (uH t),Nat.add_mul_mod_self_right]
set_option maxHeartbeats 200000
set_option maxRecDepth 512
def uHp(w:World)(a b:Nat)(e:Ending)(w':World):Prop:=
 ∃vq vr,e = .returned (.tuple #[vq,vr])/\uL w' w.heap.size vq (a/b)/\uL w' w.heap.size vr (a%b)/\Below w.heap.size w w'
set_option maxHeartbeats 16000000
theorem uuw(w:World)(lo lo':Nat)(v v':Value)(a b:Nat)(hv:uL w lo v a)(a0:uL w lo' v' b)(hk:dl a<=4294967296)(h:a<b) :
 Calls Tryz.prog 158 #[v,v'] w (uHp w a b):=by
 have hq:Hid (a/b=0):=Nat.div_eq_of_lt h;have hr:Hid (a%b=a):=aV h;have HC:=hid (uk0 h);have H1:=hid hv;have H2:=hid a0;obtain⟨A,c,rfl⟩:=uu.len hv;obtain⟨A',c',rfl⟩:=uu.len a0;clear hv a0 h;go_enter Tryz.func158,Tryz.ntmps158
 go_wp2_with fail
 refine(ubn _ _ _ _ _ _ _ H1.out H2.out).mono ?_;rintro e w'⟨rfl,q,rfl⟩;rw[HC.out];go_wp2_with (at_builtin;refine ujm _ rfl _ _ 100 rfl w.heap.size 102 Tryz.underlying100 uG rfl A (dl a) c (dg a) (by rfl) _ (uu.drewN H1.out q) w ((Below.refl _ w).drewN q) ab (by omega) ?_;intro v1 w1 a2 a1)
 go_ret2
 exact⟨_,v1,rfl,by rw[hq.out];exact uL.zero _ _,by rw[hr.out];exact uL.of (a2.vAs fun i _=>Nat.lt_trans (uZ _ i) (by decide)) rfl,a1⟩
theorem us3(w:World)(lo lo':Nat)(v v':Value)(a b:Nat)(hv:uL w lo v a)(a8:uL w lo' v' b)(hk:dl a<=4294967296)(h:b<=a)(h0:0<b)(h1:dl b=1) :
 Calls Tryz.prog 158 #[v,v'] w (uHp w a b):=by
 have a1:Hid (0<=uho a b):=by
  rcases ah b a with h2|h2
  ·show 0<=uho a b;rw[uic h2];decide
  ·show 0<=uho a b;rw[uk1 (by omega)];decide
 have a4:b<1000000000:=by have:=ua2 b;rw[h1]at this;simpa[uhn]using this
 have H1:=hid hv;have H2:=hid a8;obtain⟨A,c,rfl⟩:=uu.len hv;obtain⟨_,A',c',rfl,b2,b1,a2⟩:=a8;obtain⟨bb,off,rfl,b7,b5,a5⟩:=a2 (by omega)
 have b0:=a5 0 (by omega)
 rw[ueo (by rw[uhn];exact a4),Nat.add_zero]at b0
 have b8:=Nat.mod_lt a h0;obtain⟨ci,a6⟩:∃ci,Hid (uho a b=ci):=⟨_,rfl⟩;rw[a6.out]at a1;have b6:0<=ci:=a1.out;rw[h1]at H2 ⊢;have HH:=hid h1;clear hv a2 a5 h a1 b1 b2 h1;go_enter Tryz.func158,Tryz.ntmps158
 go_wp2_with fail
 refine(ubn _ _ _ _ _ _ _ H1.out H2.out).mono ?_;rintro e w'⟨rfl,q,rfl⟩;rw[a6.out];go_wp2_with fail
 refine(ud4 _ _ _ a b (uL.drewN H1.out q) (by omega) a4 h0).mono ?_
 rintro e w1⟨v2,rfl,b3,a0⟩;go_wp2_with fail
 refine(ucj _ (a%b) (by omega)).mono ?_
 rintro e w2⟨v3,rfl,b4,a3⟩;go_wp2;go_ret2
 have a7:w.heap.size<=w1.heap.size:=a0.size;have a9:Below w.heap.size w w1:=⟨a0.os,a0.tape,a0.output,a0.size,a0.block⟩;exact⟨v2,v3,rfl,b3.below a3,b4.lower a7,a9.trans (a3.mono a7)⟩
set_option maxHeartbeats 200000
theorem uy4(f:Nat->Nat)(k:Nat):vs f (k+1)=f 0+vs (fun t=>f (t+1)) k*B:=by
 induction k with
 | zero=>simp[vs]
 | succ k ih=>
  rw[vs,ih];simp only[vs];rw[Nat.add_mul,Nat.pow_succ,Nat.mul_assoc (f (k+1))];omega
def uf(A V J t:Nat):Nat:=if t<J then dg A t else dg (A/B^J%V) (t-J)
theorem uux{A V n j:Nat}(hV:V<B^n)(a0:0<V):vs (fun t=>uf A V (j+1) (j+t)) (n+1)=A/B^(j+1)%V*1000000000+dg A j:=by
 have hR:A/B^(j+1)%V<B^n:=Nat.lt_trans (Nat.mod_lt _ a0) hV;rw[uy4,ukz (g:=dg (A/B^(j+1)%V)) (fun t _=>by unfold uf;rw[if_neg (by omega),show j+(t+1)-(j+1)=t by omega]),uDa,aV hR]
 unfold uf;rw[if_pos (by omega),Nat.add_zero,uhn]
 omega
theorem uDg{A V n j U:Nat}{f':Nat->Nat}(hV:V<B^n)(a0:0<V)(hU:U%V=A/B^j%V)(h1:∀t,t<j\/j+n<t->f' t=uf A V (j+1) t)(h2:∀t,t<=n->f' (j+t)=dg (U%V) t) :
 ∀t,f' t=uf A V j t:=by
 intro t;have hb:∀x,x%V<B^n:=fun x=>Nat.lt_trans (Nat.mod_lt _ a0) hV
 rcases ah t j with h|h
 ·rw[h1 t (.inl h)];unfold uf;rw[if_pos (by omega),if_pos h]
 ·rcases ah (j+n) t with h3|h3
  ·rw[h1 t (.inr h3)]
   unfold uf;rw[if_neg (by omega),if_neg (by omega),uh9 (af (hb _) (Nat.pow_le_pow_right ucs (by omega))),uh9 (af (hb _) (Nat.pow_le_pow_right ucs (by omega)))]
  ·obtain⟨d,rfl⟩:∃d,t=j+d:=⟨t-j,by omega⟩
   rw[h2 d (by omega),hU]
   unfold uf;rw[if_neg (by omega),Nat.add_sub_cancel_left]
theorem uo5{b n:Nat}(hn:dl b=n)(h2:2<=n):0<1000000000/(dg b (n-1)+1)/\1000000000/(dg b (n-1)+1)<1000000000/\b*(1000000000/(dg b (n-1)+1))<B^n:=by
 have a0:b≠0:=fun e=>by subst e;rw[uV]at hn;omega
 have ht:dg b (n-1)<1000000000:=uZ _ _;have a2:dg b (n-1)≠0:=by rw[<-hn];exact uCd a0
 have a1:b<(dg b (n-1)+1)*B^(n-1):=by
  have h:=uF b (n-1);rw[show n-1+1=n by omega,aV (by rw[<-hn];exact ua2 b)]at h
  have:=Nat.mod_lt b (uH (n-1));rw[Nat.add_mul,Nat.one_mul];omega
 generalize dg b (n-1)=t at *;have hp:0<1000000000/(t+1):=Nat.div_pos (by omega) (by omega)
 have hd:1000000000/(t+1)*(t+1)<=1000000000:=Nat.div_mul_le_self _ _;refine⟨hp,Nat.div_lt_self (by omega) (by omega),?_⟩
 generalize 1000000000/(t+1)=s at *;have h3:b*s<(t+1)*B^(n-1)*s:=Nat.mul_lt_mul_of_pos_right a1 hp;have h4:(t+1)*B^(n-1)*s=s*(t+1)*B^(n-1):=by rw[Nat.mul_comm,Nat.mul_assoc]
 have h5:s*(t+1)*B^(n-1)<=B*B^(n-1):=aF _ hd;have h6:B*B^(n-1)=B^n:=by rw[Nat.mul_comm,<-Nat.pow_succ,show(n-1).succ=n by omega]
 omega
def uJy(w:World)(bu bv bq e la n A V Q:Nat)(iv:Value)(wr:World):Prop:=
 ∃J:Nat,J<=la-n+1/\iv = .int .i64 (↑J-1)/\uaw wr bu e (la+1) (uf A V J)/\uaw wr bv e (n+1) (dg V)/\uaw wr bq e (la-n+1) (fun t=>if J<=t then dg Q t else 0)/\Below w.heap.size w wr
set_option maxHeartbeats 16000000
set_option maxRecDepth 100000
theorem us4(w:World)(lo lo':Nat)(v v':Value)(a b:Nat)(hv:uL w lo v a)(e5:uL w lo' v' b)(hk:dl a<=4294967296)(h:b<=a)(h2:2<=dl b) :
 Calls Tryz.prog 158 #[v,v'] w (uHp w a b):=by
 have f3:0<=uho a b:=by
  rcases ah b a with h2|h2
  ·rw[uic h2];decide
  ·rw[uk1 (by omega)];decide
 have c8:dl b<=dl a:=ub8 h;have c0:=uo5 rfl h2;have H1:=hid hv;have H2:=hid e5;obtain⟨A,c,rfl⟩:=uu.len hv;obtain⟨_,A',c',rfl,f9,f4,c5⟩:=e5;obtain⟨bb,off,rfl,j2,h3,d1⟩:=c5 (by omega)
 have d3:=d1 (dl b-1) (by omega)
 obtain⟨ci,d2⟩:∃ci,Hid (uho a b=ci):=⟨_,rfl⟩;rw[d2.out]at f3;obtain⟨t,et⟩:∃t,Hid (t=dg b (dl b-1)):=⟨_,rfl⟩;have ht:t<1000000000:=by rw[et.out];exact uZ _ _
 rw[<-et.out]at d3 c0;obtain⟨s,es⟩:∃s,Hid (s=1000000000/(t+1)):=⟨_,rfl⟩;rw[<-es.out]at c0;obtain⟨a3,b9,c4⟩:=c0;have a6:=hid c4;have j8:((t:Int)+1==0)=false:=by rw[aw];omega
 obtain⟨n,hn⟩:∃n,Hid (n=dl b):=⟨_,rfl⟩;obtain⟨la,a5⟩:∃n,Hid (n=dl a):=⟨_,rfl⟩;have c1:Hid (uL w lo (.slice A la c) a):=by rw[a5.out];exact H1
 have c2:Hid (uL w lo' (.slice (some ⟨bb,off,none⟩) n c') b):=by rw[hn.out];exact H2
 rw[<-hn.out]at h2 c8 f9 a6 d3 ⊢;rw[<-a5.out]at hk c8 ⊢;have HH:=hid h;unfold maxLen at f4;clear H1 H2 c5 d1 c4 hv h;go_enter Tryz.func158,Tryz.ntmps158
 go_wp2_with fail
 refine(ubn _ _ _ _ _ _ _ c1.out c2.out).mono ?_;rintro e w'⟨rfl,q,rfl⟩;rw[d2.out];have c3:(1000000000:Int)/(↑t+1) = ↑s:=by rw[es.out];rfl
 have e7:=hid c3;clear c3;go_wp2_with fail
 rw[e7.out];refine(uct _ _ _ a s (uL.drewN c1.out q) (by rw[<-a5.out];omega) b9).mono ?_
 rintro e w1⟨v1,rfl,bu,rfl,c9,b0,a0⟩;rw[<-a5.out]at b0 ⊢;have f0:Below w.heap.size w w1:=⟨a0.os,a0.tape,a0.output,a0.size,a0.block⟩;have g9:w.heap.size<=w1.heap.size:=a0.size;have d0:w.heap.size<=bu:=c9;go_wp2_with fail
 refine(uct _ _ _ b s (uL.below (uL.drewN c2.out q) a0) (by rw[<-hn.out];omega) b9).mono ?_
 rintro e w2⟨v2,rfl,bv,rfl,h4,b1,a7⟩;rw[<-hn.out]at b1 ⊢;have e0:=b0.below a7;have c6:=f0.trans (a7.mono g9);have j7:=a7.size;have j4:=b0.lt;clear b0 a0 a7 c9;go_wp2_with (at_make;refine uen _ rfl _ _ 100 rfl w.heap.size 102 Tryz.underlying100 uG _ _ _ _ (la-n+1) (by rfl) (by rfl) (by omega) (by omega) (by omega) w c6 (by omega) ?_;intro bq w3 d4 j3 g5 f1 b3)
 have j5:=b1.lt;have g3:=e0.below b3;have g4:=b1.below b3;clear e0 b1 c6 b3;have a1:Hid (0<b*s):=Nat.mul_pos (by
  have:=h2;have:=hn.out;rcases aK b with h0|h0;· subst h0;rw[uV]at this;omega
  ·exact h0) a3
 have b4:=a5.out;have b5:=hn.out;have HA:Hid (a*s<B^(la+1)):=by
  show a*s<B^(la+1)
  rw[Nat.pow_succ];exact Nat.mul_lt_mul_of_lt_of_le (by rw[b4];exact ua2 a) (by rw[uhn];omega) (Nat.pos_of_ne_zero (by decide))
 have Hstart:Hid (a*s/B^(la-n+1)<b*s):=by
  show a*s/B^(la-n+1)<b*s
  rw[Nat.div_lt_iff_lt_mul (uH _)];have a4:B^(n-1)<=b:=by rw[b5];exact ud2 (fun e=>by subst e;rw[uV]at b5;omega)
  have h5:a<b*B^(la-n+1):=by
   have h6:B^la=B^(n-1)*B^(la-n+1):=by rw[<-Nat.pow_add];congr 1;omega
   have h7:a<B^la:=by rw[b4];exact ua2 a
   have h8:B^(n-1)*B^(la-n+1)<=b*B^(la-n+1):=aF _ a4;omega
  have h9:a*s<b*B^(la-n+1)*s:=Nat.mul_lt_mul_of_pos_right h5 a3;have h1:b*B^(la-n+1)*s=b*s*B^(la-n+1):=by rw[Nat.mul_right_comm]
  omega
 clear b4 b5;go_wp2;go_loopw [13] (fun iv wr=>uJy w bu bv bq 102 la n (a*s) (b*s) (a/b) iv wr) (fun iv _=>(intOf iv+1).toNat)
 case atStart=>
  refine⟨la-n+1,by omega,by go_num,g3.congr fun t ht=>?_,g4,g5.congr fun t ht=>?_,f1⟩
  ·unfold uf
   by_cases h5:t<la-n+1
   ·rw[if_pos h5]
   ·rw[if_neg h5,aV Hstart.out]
    unfold dg;rw[Nat.div_div_eq_div_mul,<-Nat.pow_add,show la-n+1+(t-(la-n+1))=t by omega]
  ·rw[if_neg (by omega)]
 case round=>
  obtain⟨J,hJ,rfl,b2,b8,a2,a8⟩:=hrel;rcases J with _|j
  ·have e2:uaw wr bu 102 (la+1) (dg (a*s%(b*s))):=b2.congr fun t _=>by unfold uf;rw[if_neg (by omega),Nat.pow_zero,Nat.div_one,Nat.sub_zero]
   have e1:uaw wr bq 102 (la-n+1) (dg (a/b)):=a2.congr fun t _=>by rw[if_pos (by omega)]
   have g0:Hid (a*s%(b*s)/s=a%b):=by show _=_;rw[Nat.mul_mod_mul_right,Nat.mul_div_cancel _ a3]
   have d5:Hid (a*s%(b*s)<B^(la+1)):=Nat.lt_of_le_of_lt (Nat.mod_le _ _) HA.out;have f6:Hid (a/b<B^(la-n+1)):=by
    show a/b<B^(la-n+1)
    have h5:=Hstart.out;rw[Nat.div_lt_iff_lt_mul (uH _)]at h5;have a4:0<b:=Nat.pos_of_ne_zero (fun e=>by subst e;have:=a1.out;simp at this)
    rw[Nat.div_lt_iff_lt_mul a4,Nat.mul_comm];have h6:b*s*B^(la-n+1)=b*B^(la-n+1)*s:=by rw[Nat.mul_right_comm]
    rw[h6]at h5;exact Nat.lt_of_mul_lt_mul_right h5
   have j6:dl (a*s%(b*s))<=la+1:=ue4 d5.out;clear b2 a2;go_wp2_with fail
   refine(udb _ _ _ _ _ (e2.vAs d0 (by omega) fun i _=>Nat.lt_trans (uZ _ i) (by decide)) d5.out).mono ?_
   rintro e w4⟨v4,rfl,g1,rfl⟩;go_wp2_with fail
   refine(ud4 _ _ _ _ s g1 (by omega) b9 a3).mono ?_
   rintro e w5⟨v5,rfl,d6,c7⟩;rw[g0.out]at d6;have g6:=e1.below c7;have e4:w.heap.size<=wr.heap.size:=a8.size;clear e1 e2;go_wp2_with fail
   refine(udb _ _ _ _ _ (g6.vAs d4 (by omega) fun i _=>Nat.lt_trans (uZ _ i) (by decide)) f6.out).mono ?_
   rintro e w6⟨v6,rfl,g2,rfl⟩;go_wp2;go_ret2
   exact⟨v6,v5,rfl,g2,d6.lower e4,a8.trans (c7.mono e4)⟩
  ·obtain⟨b6,d8⟩:=umv (n:=a*s) (j:=j) a1.out
   rw[Nat.mul_div_mul_right _ _ a3]at b6;have e8:=hid b6;have e9:=hid d8;have f8:=a2.frozen j;have f5:=a2.cell (i:=j) (by omega)
   clear b6 d8;go_wp2_with fail
   rw[show j+n+1-j=n+1 by omega]
   refine(uhj wr (bu+1) bu j (la+1) (la+1-j) n (uf (a*s) (b*s) (j+1)) _ (b*s) (a*s/B^(j+1)%(b*s)*1000000000+dg (a*s) j) b2 ?_ (by omega) (by omega) (by omega) (by omega)
    (b8.part (by omega) (by omega) (by omega) fun i _=>Nat.lt_trans (uZ _ i) (by decide)) (by omega) h2 a6.out ?_ (uux a6.out a1.out).symm ?_).mono ?_
   ·intro t _;unfold uf;split<;>exact uZ _ _
   ·have a4:B^(n-1)<=b:=by
     rw[hn.out];exact ud2 (fun e=>by subst e;have:=a1.out;simp at this)
    exact ag a4 (Nat.le_mul_of_pos_right b a3)
   ·have h5:=Nat.mod_lt (a*s/B^(j+1)) a1.out
    have h6:(a*s/B^(j+1)%(b*s)+1)*B<=b*s*B:=aF _ h5;have h7:=uZ (a*s) j;rw[uhn]at *;omega
   ·rintro e w4 ⟨rfl,f',d9,f7,e3,e6,a9⟩
    rw[e8.out];have d7:=uDg a6.out a1.out e9.out e3 e6;have g7:uaw w4 bu 102 (la+1) (uf (a*s) (b*s) j):=d9.congr fun t _=>d7 t
    have g8:=b8.grown a9 (by omega)
    have b7:=a2.grown a9 (by omega)
    have f2:=a8.trans (a9.vC3 d0 a8.size);have j1:=b7.frozen j;have j0:=b7.cell (i:=j) (by omega)
    clear d7 d9 f7 e3 e6 a9 b2 b8 a2 f8 f5;go_wp2;go_roundw
    case rel=>
     refine⟨j,by omega,by go_num,g7.setOther (by simp;omega) _,g8.setOther (by simp;omega) _,uaw.congr (uaw.set b7 j (z:=dg (a/b) j) rfl) fun t ht=>?_,f2.setCell d4 _⟩
     by_cases e:t=j
     ·subst e;rw[uad,if_pos ab]
     ·rw[uD _ _ e]
      by_cases h5:j+1<=t
      ·rw[if_pos h5,if_pos (by omega)]
      ·rw[if_neg h5,if_neg (by omega)]
    case measure=>simp[intOf]
set_option maxHeartbeats 200000
set_option maxRecDepth 512
theorem uep(w:World)(lo lo':Nat)(v v':Value)(a b:Nat)(hv:uL w lo v a)(a0:uL w lo' v' b)(hk:dl a<=4294967296)(h0:0<b) :
 Calls Tryz.prog 158 #[v,v'] w (uHp w a b):=by
 rcases ah a b with h|h
 ·exact uuw w lo lo' v v' a b hv a0 hk h
 ·have hd:dl b≠0:=fun e=>by have:=uR.1 e;omega
  by_cases h1:dl b=1
  ·exact us3 w lo lo' v v' a b hv a0 hk h h0 h1
  ·exact us4 w lo lo' v v' a b hv a0 hk h (by omega)
theorem uCg{x:Nat}(h:dl x<=2):x<1000000000000000000:=by
 have h1:=af (ua2 x) (Nat.pow_le_pow_right ucs h);have h2:B^2=1000000000000000000:=by decide
 omega
set_option maxHeartbeats 16000000
theorem uDh(w:World)(lo:Nat)(v v':Value)(a b:Nat)(a5:lo<=w.heap.size)(hv:uL w lo v a)(a7:uL w lo v' b)(hk:dl a<=4294967296)(b5:dl b<=4294967296) :
 Calls Tryz.prog 157 #[v,v'] w (Ret fun v2 w'=>uL w' lo v2 (Nat.gcd a b)/\Below w.heap.size w w'):=by
 have H1:=hid hv;have H2:=hid a7;obtain⟨A,c,rfl⟩:=uu.len hv;obtain⟨A',c',rfl⟩:=uu.len a7;clear hv a7;go_enter Tryz.func157,Tryz.ntmps157
 go_wp2;go_loopg [0,1] b (fun m av bv wr=>∃x y:Nat,y<=m/\dl x<=4294967296/\dl y<=4294967296/\uL wr lo av x/\uL wr lo bv y/\Hid (Nat.gcd x y=Nat.gcd a b)/\Below w.heap.size w wr)
 case atStart=>exact⟨a,b,ab,hk,b5,H1.out,H2.out,rfl,aa⟩
 case round=>
  obtain⟨x,y,c8,a9,a3,hx,hy,hg,a0⟩:=hrel;obtain⟨A1,c1,rfl⟩:=uu.len hx;obtain⟨A2,c2,rfl⟩:=uu.len hy;have HX:=hid hx;have HY:=hid hy;clear hx hy;by_cases b2:y=0
  ·subst b2
   rw[uV]at *;go_wp2;go_ret
   refine⟨_,rfl,?_,a0⟩;have:=hg.out;rw[Nat.gcd_zero_right]at this;rw[<-this];exact HX.out
  ·have c9:0<dl y:=Nat.pos_of_ne_zero (mt uR.1 b2)
   by_cases b3:dl x<=2/\dl y<=2
   ·obtain⟨b1,c0⟩:=b3
    have e1:decide (((dl x:Nat):Int)<=2)=true:=by simp;omega
    have e2:decide (((dl y:Nat):Int)<=2)=true:=by simp;omega
    have b8:=uCg b1;have c3:=uCg c0;go_wp2_with fail
    refine(uqs _ _ _ _ HX.out (by omega)).mono ?_
    rintro e w1⟨rfl,rfl⟩;go_wp2_with fail
    refine(uqs _ _ _ _ HY.out (by omega)).mono ?_
    rintro e w2⟨rfl,rfl⟩;go_wp2;obtain⟨wo,rfl⟩:∃wo:World,wo=wr:=⟨_,rfl⟩;go_loopg [5,7] y (fun m xv yv wr=>∃x' y':Nat,y'<=m/\x'<1000000000000000000/\y'<1000000000000000000/\xv = .int .u64 x'/\yv = .int .u64 y'/\Hid (Nat.gcd x' y'=Nat.gcd x y)/\Hid (Qt wo wr))
    case atStart=>exact⟨x,y,ab,b8,c3,rfl,rfl,rfl,Qt.refl _⟩
    case round=>
     obtain⟨x',y',c5,c7,b9,rfl,rfl,a8,b0⟩:=hrel;by_cases hz:y'=0
     ·subst hz
      go_wp2_with fail
      refine(ucj _ x' (by omega)).mono ?_
      rintro e w3⟨v3,rfl,b6,b4⟩;go_wp2;go_ret
      have a4:=a0.trans (b0.out.below _);refine⟨v3,rfl,?_,a4.trans (b4.mono a4.size)⟩;have e3:x'=Nat.gcd a b:=by
       have:=a8.out;rw[Nat.gcd_zero_right]at this;rw[this];exact hg.out
      rw[<-e3];exact b6.lower (ag a5 a4.size)
     ·have d0:((y':Int)==0)=false:=by rw[aw];omega
      have c4:0<y':=by omega
      have c6:=Nat.mod_lt x' c4;go_wp2;go_quiet (fail)
      go_wp2;go_roundg (x'%y')
      case measure=>omega
      case rel=>exact⟨y',x'%y',ab,b9,by omega,rfl,by go_num,by show _=_;rw[<-a8.out,Nat.gcd_comm x' y',Nat.gcd_rec y' x',Nat.gcd_comm],b0.out.drewN _⟩
   ·have a1:0<y:=by omega
    by_cases b1:dl x<=2
    ·have e1:decide (((dl x:Nat):Int)<=2)=true:=by simp;omega
     have e2:decide (((dl y:Nat):Int)<=2)=false:=by simp;omega
     go_wp2_with fail
     refine(uep _ _ _ _ _ _ _ HX.out HY.out a9 a1).mono ?_;rintro e w1⟨vq,vr,rfl,b7,a6,a2⟩;go_wp2;go_roundg (x%y)
     case measure=>have:=Nat.mod_lt x a1;omega
     case rel=>exact⟨y,x%y,ab,a3,ag (ub8 (Nat.le_of_lt (Nat.mod_lt x a1))) a3,HY.out.below a2,a6.lower (ag a5 a0.size),by show _=_;rw[<-hg.out,Nat.gcd_comm x y,Nat.gcd_rec y x,Nat.gcd_comm],a0.trans (a2.mono a0.size)⟩
    ·have e1:decide (((dl x:Nat):Int)<=2)=false:=by simp;omega
     go_wp2_with fail
     refine(uep _ _ _ _ _ _ _ HX.out HY.out a9 a1).mono ?_;rintro e w1⟨vq,vr,rfl,b7,a6,a2⟩;go_wp2;go_roundg (x%y)
     case measure=>have:=Nat.mod_lt x a1;omega
     case rel=>exact⟨y,x%y,ab,a3,ag (ub8 (Nat.le_of_lt (Nat.mod_lt x a1))) a3,HY.out.below a2,a6.lower (ag a5 a0.size),by show _=_;rw[<-hg.out,Nat.gcd_comm x y,Nat.gcd_rec y x,Nat.gcd_comm],a0.trans (a2.mono a0.size)⟩
set_option maxHeartbeats 200000
def uaj(w:World)(lo:Nat)(v:Value)(neg:Bool)(n d:Nat):Prop:=
 ∃vn vd,v = .agg #[.bool neg,vn,vd]/\uL w lo vn n/\uL w lo vd d
theorem uaj.below{w w':World}{lo:Nat}{v:Value}{neg:Bool}{n d:Nat}(h:uaj w lo v neg n d)(hb:Below w.heap.size w w'):uaj w' lo v neg n d:=by
 obtain⟨vn,vd,rfl,h1,h2⟩:=h;exact⟨vn,vd,rfl,h1.below hb,h2.below hb⟩
theorem uaj.lower{w:World}{lo lo':Nat}{v:Value}{neg:Bool}{n d:Nat}(h:uaj w lo v neg n d)(hl:lo'<=lo):uaj w lo' v neg n d:=by
 obtain⟨vn,vd,rfl,h1,h2⟩:=h;exact⟨vn,vd,rfl,h1.lower hl,h2.lower hl⟩
theorem uDi{W w1:World}(hb:Below W.heap.size W w1) :
 (∀b o,b<W.heap.size->w1.cell? ⟨b,o,none⟩=W.cell? ⟨b,o,none⟩)/\(∀b o,b<W.heap.size->w1.frozen? ⟨b,o,none⟩=W.frozen? ⟨b,o,none⟩):=
 ⟨fun b o h=>hb.cell (p:=⟨b,o,none⟩) h,fun b o h=>hb.frozen (p:=⟨b,o,none⟩) h⟩
theorem uL.vCp(w:World)(lo:Nat)(e:TypeId)(h:lo<=w.heap.size):uL (w.alloc (.cells #[.int .u32 1] e)) lo (.slice (some ⟨w.heap.size,0,none⟩) 1 1) 1:=by
 refine uL.of (k:=1) ⟨fun i _=>Nat.lt_trans (uZ _ i) (by decide),_,1,rfl,ab,by unfold maxLen;omega,fun _=>⟨w.heap.size,0,rfl,h,by simp,fun i hi=>?_⟩⟩ umt
 obtain rfl:i=0:=by omega
 rw[World.cell?_alloc_at _ _ _ _ rfl,ueo (by decide)]
 rfl
theorem uy5(w:World)(o o':Obj):Below w.heap.size w ((w.alloc o).alloc o'):=(aa.alloc ab o).alloc (by simp) o'
theorem uF4(w:World)(o o' o2:Obj):Below w.heap.size w (((w.alloc o).alloc o').alloc o2):=(uy5 w o o').alloc (by simp;omega) o2
set_option maxHeartbeats 16000000
theorem uo6(w:World)(lo:Nat)(v:Value)(neg:Bool)(d:Nat)(hv:uaj w lo v neg 0 d) :
 Calls Tryz.prog 96 #[v] w (Ret fun v2 w'=>uaj w' w.heap.size v2 false 0 1/\Below w.heap.size w w'):=by
 obtain⟨vn,vd,rfl,h1,h2⟩:=hv;obtain⟨A,c,rfl⟩:=uu.len h1;obtain⟨A',c',rfl⟩:=uu.len h2;rw[uV];clear h1 h2;go_enter Tryz.func96,Tryz.ntmps96
 go_wp2;refine bodyPost_ret (v:= .agg #[.bool false,.slice none 0 0,.slice (some ⟨w.heap.size+1+1,0,none⟩) 1 1]) (by simp[results,Tryz.results96,go_sem]) rfl ⟨_,rfl,⟨_,_,rfl,uL.zero _ _,?_⟩,uF4 _ _ _ _⟩
 have:=uL.vCp ((w.alloc (.cells #[.bool neg,.slice A 0 c,.slice A' (dl d) c'] 104)).alloc (.cells #[.bool false,.slice none 0 0,.slice (some ⟨w.heap.size+1+1,0,none⟩) 1 1] 104)) w.heap.size 102 (by simp;omega)
 simpa using this
theorem us5(w:World)(lo:Nat)(v:Value)(neg:Bool)(n:Nat)(hv:uaj w lo v neg n 1)(hn:n≠0) :
 Calls Tryz.prog 96 #[v] w (Ret fun v2 w'=>v2=v/\Below w.heap.size w w'):=by
 obtain⟨vn,vd,rfl,h1,h2⟩:=hv;have H2:=hid h2;obtain⟨A,c,rfl⟩:=uu.len h1;obtain⟨A',c',rfl⟩:=uu.len h2;have hp:(((dl n:Nat):Int)==0)=false:=by
  rw[aw];have:=mt uR.1 hn;omega
 clear h1 h2;go_enter Tryz.func96,Tryz.ntmps96
 go_wp2_with fail
 refine(umu _ lo _ ((H2.out.alloc _).alloc _)).mono ?_;rintro e w1⟨rfl,rfl⟩;go_wp2;exact bodyPost_ret (v:= .agg #[.bool neg,.slice A (dl n) c,.slice A' (dl 1) c']) (by simp[results,Tryz.results96,go_sem]) rfl ⟨_,rfl,rfl,uy5 _ _ _⟩
theorem uo7(w:World)(lo:Nat)(v:Value)(neg:Bool)(n d:Nat)(c4:lo<=w.heap.size)(hv:uaj w lo v neg n d)(hn:n≠0)(hd:d≠1)(hk:dl n<=4294967296)(b2:dl d<=4294967296) :
 Calls Tryz.prog 96 #[v] w (Ret fun v2 w'=>(v2=v/\Nat.gcd n d=1\/uaj w' w.heap.size v2 neg (n/Nat.gcd n d) (d/Nat.gcd n d))/\Below w.heap.size w w'):=by
 obtain⟨vn,vd,rfl,h1,h2⟩:=hv;have H1:=hid h1;have H2:=hid h2;obtain⟨A,c,rfl⟩:=uu.len h1;obtain⟨A',c',rfl⟩:=uu.len h2;have hp:(((dl n:Nat):Int)==0)=false:=by
  rw[aw];have:=mt uR.1 hn;omega
 have HG:0<Nat.gcd n d:=Nat.gcd_pos_of_pos_left d (Nat.pos_of_ne_zero hn);clear h1 h2;go_enter Tryz.func96,Tryz.ntmps96
 go_wp2_with fail
 refine(uqt _ lo _ d ((H2.out.alloc _).alloc _) hd).mono ?_;rintro e w1⟨rfl,rfl⟩;go_wp2_with fail
 refine(uDh _ lo _ _ n d (by simp;omega) ((H1.out.alloc _).alloc _) ((H2.out.alloc _).alloc _) hk b2).mono ?_
 rintro e w2⟨vg,rfl,a2,a3⟩;obtain⟨b0,b1⟩:=uDi a3;have c5:w.heap.size+1+1<=w2.heap.size:=by have:=a3.size;simpa using this
 have a4:=(uy5 w _ _).trans (a3.mono (by simp;omega))
 by_cases a6:Nat.gcd n d=1
 ·rw[a6]at a2
  go_wp2_with fail
  refine(umu _ lo _ a2).mono ?_;rintro e w3⟨rfl,rfl⟩;go_wp2;have a5:=fun(a b c:Value)=>((a4.setCell (p:=⟨w.heap.size+1,0,none⟩) (by simp) a).setCell (p:=⟨w.heap.size+1,1,none⟩) (by simp) b).setCell (p:=⟨w.heap.size+1,2,none⟩) (by simp) c
  refine bodyPost_ret (v:= .agg #[.bool neg,.slice A (dl n) c,.slice A' (dl d) c']) (by simp[results,Tryz.results96,go_sem,b0,b1]) rfl ⟨_,rfl,.inl ⟨rfl,a6⟩,a5 _ _ _⟩
 ·go_wp2_with fail
  refine(uqt _ lo _ _ a2 a6).mono ?_;rintro e w3⟨rfl,rfl⟩;go_wp2_with fail
  refine(uep _ _ _ _ _ n (Nat.gcd n d) (H1.out.below a4) a2 hk HG).mono ?_;rintro e w3⟨vq,vr,rfl,a7,c2,a0⟩;have c6:=a0.size;have a9:=a4.trans (a0.mono (by omega))
  have b8:∀b o,b<w.heap.size+2->w3.cell? ⟨b,o,none⟩=w2.cell? ⟨b,o,none⟩:=fun b o h=>a0.cell (p:=⟨b,o,none⟩) (by simp;omega)
  have c0:∀b o,b<w.heap.size+2->w3.frozen? ⟨b,o,none⟩=w2.frozen? ⟨b,o,none⟩:=fun b o h=>a0.frozen (p:=⟨b,o,none⟩) (by simp;omega)
  clear a3;go_wp2_with fail
  refine(uep _ _ _ _ _ d (Nat.gcd n d) (H2.out.below a9) (a2.below a0) b2 HG).mono ?_;rintro e w4⟨c8,c9,rfl,a8,c3,a1⟩;have c7:=a1.size;have b7:=a9.trans (a1.mono (by omega))
  have b9:∀b o,b<w.heap.size+2->w4.cell? ⟨b,o,none⟩=w3.cell? ⟨b,o,none⟩:=fun b o h=>a1.cell (p:=⟨b,o,none⟩) (by simp;omega)
  have c1:∀b o,b<w.heap.size+2->w4.frozen? ⟨b,o,none⟩=w3.frozen? ⟨b,o,none⟩:=fun b o h=>a1.frozen (p:=⟨b,o,none⟩) (by simp;omega)
  obtain⟨Aq,cq,rfl⟩:=uu.len a7;obtain⟨b3,b6,rfl⟩:=uu.len a8;have b4:=hid (a7.below a1);have b5:=hid a8;clear a7 a8 c2 c3 a0 a1;go_wp2;have a5:=fun(a b c:Value)=>((b7.setCell (p:=⟨w.heap.size+1,0,none⟩) (by simp) a).setCell (p:=⟨w.heap.size+1,1,none⟩) (by simp) b).setCell (p:=⟨w.heap.size+1,2,none⟩) (by simp) c
  refine bodyPost_ret (v:= .agg #[.bool neg,.slice Aq (dl (n/Nat.gcd n d)) cq,.slice b3 (dl (d/Nat.gcd n d)) b6]) (by simp[results,Tryz.results96,go_sem,b9,c1,b8,c0,b0,b1]) rfl ⟨_,rfl,.inr ⟨_,_,rfl,?_,?_⟩,a5 _ _ _⟩
  ·exact(((uu.setCell b4.out (by simp;omega) _).setCell (by simp;omega) _).setCell (by simp;omega) _).lower (by omega)
  ·exact(((uu.setCell b5.out (by simp;omega) _).setCell (by simp;omega) _).setCell (by simp;omega) _).lower (by omega)
end Go.Proofs.YtnbbpmagijpmpaaGreatDoor
