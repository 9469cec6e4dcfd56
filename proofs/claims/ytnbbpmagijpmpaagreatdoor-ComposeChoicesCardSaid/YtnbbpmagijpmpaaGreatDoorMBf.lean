/-
  Polynomials: slices.CompareFunc.
-/
import Derived.Test.YtnbbpmagijpmpaaGreatDoorMBt
set_option linter.unusedVariables false
set_option linter.unusedSimpArgs false
namespace Go.Proofs.YtnbbpmagijpmpaaGreatDoor
open Go.Lib (hid)
open Go.RowKit AC
theorem ubu{α:Type}{p:α->α->Int}{l m:List α}{i:Nat}(h1:i<l.length)(h2:i<m.length):cmpL p (l.drop i) (m.drop i)=orC (p l[i] m[i]) (cmpL p (l.drop (i+1)) (m.drop (i+1))):=by
 rw[aN h1,aN h2,cmpL]
theorem ugb{α:Type}{p:α->α->Int}{l m:List α}{i:Nat}(h1:i<l.length)(h2:m.length=i):cmpL p (l.drop i) (m.drop i)=1:=by
 rw[aN h1,show m.drop i=[] from List.drop_eq_nil_of_le (by omega),cmpL]
theorem uex{α:Type}{p:α->α->Int}{l m:List α}{i:Nat}(h1:i<m.length)(h2:l.length=i):cmpL p (l.drop i) (m.drop i) = -1:=by
 rw[aN h1,show l.drop i=[] from List.drop_eq_nil_of_le (by omega),cmpL]
theorem uh5{α:Type}{p:α->α->Int}{l m:List α}{i:Nat}(h1:l.length=i)(h2:m.length=i):cmpL p (l.drop i) (m.drop i)=0:=by
 rw[List.drop_eq_nil_of_le (by omega),List.drop_eq_nil_of_le (by omega),cmpL]
theorem uoj{x y:Int}(h:x≠0):orC x y=x:=by unfold orC;rw[if_pos h]
theorem uh6{y:Int}:orC 0 y=y:=rfl
set_option maxHeartbeats 16000000
set_option maxRecDepth 100000
theorem uBo{α:Type}{D D':Nat->Prop}(R R':α->List Value->Prop)(b5:∀a v,R a v->∃x0 x1,v=[.int .i64 x0,.int .i64 x1])(b6:∀a v,R' a v->∃x0 x1,v=[.int .i64 x0,.int .i64 x1])(p:α->α->Int)(l m:List α)(A A':Option Addr)(len cap a0 a6:Nat)(g:FuncId)(fi ca:Array Value)(w:World)(hs:Sl 2 R w D l A len cap)(a2:Sl 2 R' w D' m A' a0 a6)(he:Enters Tryz.prog g)
 (c2:∀(i:Nat) (h1:i<l.length) (h2:i<m.length) (W:World) (v v':List Value),Below w.heap.size w W->R l[i] v->R' m[i] v'->Calls Tryz.prog g (fi ++ #[.agg v.toArray,.agg v'.toArray]++ca) W (uY (.int .i64 (p l[i] m[i])) W)) :
 Calls Tryz.prog 185 #[.slice A len cap,.slice A' a0 a6,.func (.func g) fi ca] w (uY (.int .i64 (cmpL p l m)) w):=by
 have b7:len=l.length:=hs.1;have b8:a0=m.length:=a2.1;have c9:cap<=maxLen:=hs.2.2.1;have d2:a6<=maxLen:=a2.2.2.1;have d5:=hs.2.1;have d6:=a2.2.1;obtain⟨q,hq⟩:∃q,cmpL p l m=q:=⟨_,rfl⟩;rw[hq];have HQ:=hid hq;have a5:=hid b7;have a3:=hid b8;have HS:=hid hs;have c5:=hid a2;have c6:=hid c2;have HF:=hid b5;have c3:=hid b6;unfold maxLen at c9 d2;unfold Enters at he;clear hs a2 b7 b8 c2 hq b5 b6;go_enter Tryz.func185,Tryz.ntmps185
 go_wp2;go_loopw [13] (fun iv wr=>∃i:Nat,i<=len/\i<=a0/\iv = .int .i64 i/\Hid (Below w.heap.size w wr)/\Hid (cmpL p l m=cmpL p (l.drop i) (m.drop i))) (fun iv _=>len-(intOf iv).toNat)
 case atStart=>exact⟨0,by omega,by omega,rfl,aa,rfl⟩
 case round=>
  obtain⟨i,hi,hi2,rfl,HB,HP⟩:=hrel;by_cases d7:i<len
  ·have a1:i<l.length:=by have:=a5.out;omega
   obtain⟨b,off,v,rfl,hD,hb,hc,hr⟩:=HS.out.get a1;obtain⟨x0,x1,rfl⟩:=HF.out _ _ hr;have HR:=hid hr;have d4:b<wr.heap.size:=af hb HB.out.size;have a8:=hc.sure HB.out hb;have c0:=a8 0 _ rfl;rw[Nat.add_zero]at c0;have c1:=a8 1 _ rfl;clear hr hc a8 hD;by_cases d3:i<a0
   ·have a4:i<m.length:=by have:=a3.out;omega
    obtain⟨b',d8,v',rfl,c8,b3,b4,b0⟩:=c5.out.get a4;obtain⟨y0,y1,rfl⟩:=c3.out _ _ b0;have c4:=hid b0;have a7:b'<wr.heap.size:=af b3 HB.out.size;have a9:=b4.sure HB.out b3;have d0:=a9 0 _ rfl;rw[Nat.add_zero]at d0;have d1:=a9 1 _ rfl;clear b0 b4 a9 c8;obtain⟨r,hr⟩:∃r,p l[i] m[i]=r:=⟨_,rfl⟩;have key:=fun W (hW:Below wr.heap.size wr W)=>c6.out i a1 a4 W _ _ (HB.out.trans (hW.mono HB.out.size)) HR.out c4.out
    rw[hr]at key;have c7:Hid (∀W,Below wr.heap.size wr W->Calls Tryz.prog g (fi++(#[.agg #[.int .i64 x0,.int .i64 x1],.agg #[.int .i64 y0,.int .i64 y1]]++ca)) W (uY (.int .i64 r) W)):=fun W hW=>by
     have:=key W hW;rw[Array.append_assoc]at this;exact this
    have b2:=hid hr;clear key hr;go_wp2_with fail
    refine(c7.out _ ?_).mono ?_
    ·repeat first|exact aa|refine Below.alloc ?_ (by first|(simp;done)|(simp;omega)) _
    rintro e w2⟨rfl,a7⟩;have b1:Hid (Below w.heap.size w w2):=by
     refine HB.out.trans (Below.mono ?_ HB.out.size);refine Below.trans ?_ (a7.mono (by first|(simp;done)|(simp;omega)))
     repeat first|exact aa|refine Below.alloc ?_ (by first|(simp;done)|(simp;omega)) _
    clear a7;by_cases b9:r=0
    ·subst b9
     go_wp2;refine⟨⟨i+1,by omega,by omega,rfl,b1,?_⟩,?_⟩
     ·show _=_
      rw[HP.out,ubu a1 a4,b2.out,uh6]
     ·simp only[intOf]
      omega
    ·have e:q=r:=by
      rw[<-HQ.out,HP.out,ubu a1 a4,b2.out,uoj b9]
     go_wp2;go_ret
     exact⟨by rw[e];rfl,b1.out⟩
   ·have e:q=1:=by rw[<-HQ.out,HP.out,ugb a1 (by have:=a3.out;omega)]
    go_wp2;go_ret
    refine⟨by rw[e];rfl,?_⟩
    refine HB.out.trans (Below.mono ?_ HB.out.size);repeat first|exact aa|refine Below.alloc ?_ (by first|(simp;done)|(simp;omega)) _
  ·obtain rfl:i=len:=by omega
   by_cases d3:i<a0
   ·have e:q = -1:=by rw[<-HQ.out,HP.out,uex (by have:=a3.out;omega) a5.out.symm]
    go_wp2;go_ret
    exact⟨by rw[e];rfl,HB.out⟩
   ·have e:q=0:=by rw[<-HQ.out,HP.out,uh5 a5.out.symm (by have:=a3.out;omega)]
    go_wp2;go_ret
    exact⟨by rw[e];rfl,HB.out⟩
theorem uBp{α:Type}{D D':Nat->Prop}(R R':α->List Value->Prop)(b8:∀a v,R a v->∃x0 a3 a5 a4,v=[.int .i64 x0,.slice a3 a5 a4])(b9:∀a v,R' a v->∃x0 a3 a5 a4,v=[.int .i64 x0,.slice a3 a5 a4])(p:α->α->Int)(l m:List α)(A A':Option Addr)(len cap a0 a9:Nat)(g:FuncId)(fi ca:Array Value)(w:World)(hs:Sl 2 R w D l A len cap)(a2:Sl 2 R' w D' m A' a0 a9)(he:Enters Tryz.prog g)
 (c5:∀(i:Nat) (h1:i<l.length) (h2:i<m.length) (W:World) (v v':List Value),Below w.heap.size w W->R l[i] v->R' m[i] v'->Calls Tryz.prog g (fi ++ #[.agg v.toArray,.agg v'.toArray]++ca) W (uY (.int .i64 (p l[i] m[i])) W)) :
 Calls Tryz.prog 184 #[.slice A len cap,.slice A' a0 a9,.func (.func g) fi ca] w (uY (.int .i64 (cmpL p l m)) w):=by
 have c2:len=l.length:=hs.1;have c3:a0=m.length:=a2.1;have d4:cap<=maxLen:=hs.2.2.1;have d5:a9<=maxLen:=a2.2.2.1;have e1:=hs.2.1;have e2:=a2.2.1;obtain⟨q,hq⟩:∃q,cmpL p l m=q:=⟨_,rfl⟩;rw[hq];have HQ:=hid hq;have a8:=hid c2;have a6:=hid c3;have HS:=hid hs;have c8:=hid a2;have c9:=hid c5;have HF:=hid b8;have c6:=hid b9;unfold maxLen at d4 d5;unfold Enters at he;clear hs a2 c2 c3 c5 hq b8 b9;go_enter Tryz.func184,Tryz.ntmps184
 go_wp2;go_loopw [13] (fun iv wr=>∃i:Nat,i<=len/\i<=a0/\iv = .int .i64 i/\Hid (Below w.heap.size w wr)/\Hid (cmpL p l m=cmpL p (l.drop i) (m.drop i))) (fun iv _=>len-(intOf iv).toNat)
 case atStart=>exact⟨0,by omega,by omega,rfl,aa,rfl⟩
 case round=>
  obtain⟨i,hi,hi2,rfl,HB,HP⟩:=hrel;by_cases e3:i<len
  ·have a1:i<l.length:=by have:=a8.out;omega
   obtain⟨b,off,v,rfl,hD,hb,hc,hr⟩:=HS.out.get a1;obtain⟨x0,a3,a5,a4,rfl⟩:=HF.out _ _ hr;have HR:=hid hr;have e0:b<wr.heap.size:=af hb HB.out.size;have b1:=hc.sure HB.out hb;have c0:=b1 0 _ rfl;rw[Nat.add_zero]at c0;have c1:=b1 1 _ rfl;clear hr hc b1 hD;by_cases d6:i<a0
   ·have a7:i<m.length:=by have:=a6.out;omega
    obtain⟨b',e4,v',rfl,d3,b6,b7,b3⟩:=c8.out.get a7;obtain⟨y0,d7,d9,d8,rfl⟩:=c6.out _ _ b3;have c7:=hid b3;have b0:b'<wr.heap.size:=af b6 HB.out.size;have b2:=b7.sure HB.out b6;have d0:=b2 0 _ rfl;rw[Nat.add_zero]at d0;have d1:=b2 1 _ rfl;clear b3 b7 b2 d3;obtain⟨r,hr⟩:∃r,p l[i] m[i]=r:=⟨_,rfl⟩;have key:=fun W (hW:Below wr.heap.size wr W)=>c9.out i a1 a7 W _ _ (HB.out.trans (hW.mono HB.out.size)) HR.out c7.out
    rw[hr]at key;have d2:Hid (∀W,Below wr.heap.size wr W->Calls Tryz.prog g (fi++(#[.agg #[.int .i64 x0,.slice a3 a5 a4],.agg #[.int .i64 y0,.slice d7 d9 d8]]++ca)) W (uY (.int .i64 r) W)):=fun W hW=>by
     have:=key W hW;rw[Array.append_assoc]at this;exact this
    have b5:=hid hr;clear key hr;go_wp2_with fail
    refine(d2.out _ ?_).mono ?_
    ·repeat first|exact aa|refine Below.alloc ?_ (by first|(simp;done)|(simp;omega)) _
    rintro e w2⟨rfl,b0⟩;have b4:Hid (Below w.heap.size w w2):=by
     refine HB.out.trans (Below.mono ?_ HB.out.size);refine Below.trans ?_ (b0.mono (by first|(simp;done)|(simp;omega)))
     repeat first|exact aa|refine Below.alloc ?_ (by first|(simp;done)|(simp;omega)) _
    clear b0;by_cases c4:r=0
    ·subst c4
     go_wp2;refine⟨⟨i+1,by omega,by omega,rfl,b4,?_⟩,?_⟩
     ·show _=_
      rw[HP.out,ubu a1 a7,b5.out,uh6]
     ·simp only[intOf]
      omega
    ·have e:q=r:=by
      rw[<-HQ.out,HP.out,ubu a1 a7,b5.out,uoj c4]
     go_wp2;go_ret
     exact⟨by rw[e];rfl,b4.out⟩
   ·have e:q=1:=by rw[<-HQ.out,HP.out,ugb a1 (by have:=a6.out;omega)]
    go_wp2;go_ret
    refine⟨by rw[e];rfl,?_⟩
    refine HB.out.trans (Below.mono ?_ HB.out.size);repeat first|exact aa|refine Below.alloc ?_ (by first|(simp;done)|(simp;omega)) _
  ·obtain rfl:i=len:=by omega
   by_cases d6:i<a0
   ·have e:q = -1:=by rw[<-HQ.out,HP.out,uex (by have:=a6.out;omega) a8.out.symm]
    go_wp2;go_ret
    exact⟨by rw[e];rfl,HB.out⟩
   ·have e:q=0:=by rw[<-HQ.out,HP.out,uh5 a8.out.symm (by have:=a6.out;omega)]
    go_wp2;go_ret
    exact⟨by rw[e];rfl,HB.out⟩
theorem uxv{α:Type}{D D':Nat->Prop}(R R':α->List Value->Prop)(b8:∀a v,R a v->∃x0 x1 a3 a5 a4,v=[.int .i64 x0,.int .i64 x1,.slice a3 a5 a4])(b9:∀a v,R' a v->∃x0 x1 a3 a5 a4,v=[.int .i64 x0,.int .i64 x1,.slice a3 a5 a4])(p:α->α->Int)(l m:List α)(A A':Option Addr)(len cap a0 b1:Nat)(g:FuncId)(fi ca:Array Value)(w:World)(hs:Sl 3 R w D l A len cap)(a2:Sl 3 R' w D' m A' a0 b1)(he:Enters Tryz.prog g)
 (c6:∀(i:Nat) (h1:i<l.length) (h2:i<m.length) (W:World) (v v':List Value),Below w.heap.size w W->R l[i] v->R' m[i] v'->Calls Tryz.prog g (fi ++ #[.agg v.toArray,.agg v'.toArray]++ca) W (uY (.int .i64 (p l[i] m[i])) W)) :
 Calls Tryz.prog 125 #[.slice A len cap,.slice A' a0 b1,.func (.func g) fi ca] w (uY (.int .i64 (cmpL p l m)) w):=by
 have c3:len=l.length:=hs.1;have c4:a0=m.length:=a2.1;have d6:cap<=maxLen:=hs.2.2.1;have d7:b1<=maxLen:=a2.2.2.1;have e3:=hs.2.1;have e4:=a2.2.1;obtain⟨q,hq⟩:∃q,cmpL p l m=q:=⟨_,rfl⟩;rw[hq];have HQ:=hid hq;have b0:=hid c3;have a6:=hid c4;have HS:=hid hs;have c9:=hid a2;have d3:=hid c6;have HF:=hid b8;have c7:=hid b9;unfold maxLen at d6 d7;unfold Enters at he;clear hs a2 c3 c4 c6 hq b8 b9;go_enter Tryz.func125,Tryz.ntmps125
 go_wp2;go_loopw [13] (fun iv wr=>∃i:Nat,i<=len/\i<=a0/\iv = .int .i64 i/\Hid (Below w.heap.size w wr)/\Hid (cmpL p l m=cmpL p (l.drop i) (m.drop i))) (fun iv _=>len-(intOf iv).toNat)
 case atStart=>exact⟨0,by omega,by omega,rfl,aa,rfl⟩
 case round=>
  obtain⟨i,hi,hi2,rfl,HB,HP⟩:=hrel;by_cases e5:i<len
  ·have a1:i<l.length:=by have:=b0.out;omega
   obtain⟨b,off,v,rfl,hD,hb,hc,hr⟩:=HS.out.get a1;obtain⟨x0,x1,a3,a5,a4,rfl⟩:=HF.out _ _ hr;have HR:=hid hr;have e2:b<wr.heap.size:=af hb HB.out.size;have a7:=hc.sure HB.out hb;have c0:=a7 0 _ rfl;rw[Nat.add_zero]at c0;have c1:=a7 1 _ rfl;have c2:=a7 2 _ rfl;clear hr hc a7 hD;by_cases d8:i<a0
   ·have a9:i<m.length:=by have:=a6.out;omega
    obtain⟨b',e6,v',rfl,d5,b6,b7,b3⟩:=c9.out.get a9;obtain⟨y0,y1,d9,e1,e0,rfl⟩:=c7.out _ _ b3;have c8:=hid b3;have b2:b'<wr.heap.size:=af b6 HB.out.size;have a8:=b7.sure HB.out b6;have d0:=a8 0 _ rfl;rw[Nat.add_zero]at d0;have d1:=a8 1 _ rfl;have d2:=a8 2 _ rfl;clear b3 b7 a8 d5;obtain⟨r,hr⟩:∃r,p l[i] m[i]=r:=⟨_,rfl⟩;have key:=fun W (hW:Below wr.heap.size wr W)=>d3.out i a1 a9 W _ _ (HB.out.trans (hW.mono HB.out.size)) HR.out c8.out
    rw[hr]at key;have d4:Hid (∀W,Below wr.heap.size wr W->Calls Tryz.prog g (fi++(#[.agg #[.int .i64 x0,.int .i64 x1,.slice a3 a5 a4],.agg #[.int .i64 y0,.int .i64 y1,.slice d9 e1 e0]]++ca)) W (uY (.int .i64 r) W)):=fun W hW=>by
     have:=key W hW;rw[Array.append_assoc]at this;exact this
    have b5:=hid hr;clear key hr;go_wp2_with fail
    refine(d4.out _ ?_).mono ?_
    ·repeat first|exact aa|refine Below.alloc ?_ (by first|(simp;done)|(simp;omega)) _
    rintro e w2⟨rfl,b2⟩;have b4:Hid (Below w.heap.size w w2):=by
     refine HB.out.trans (Below.mono ?_ HB.out.size);refine Below.trans ?_ (b2.mono (by first|(simp;done)|(simp;omega)))
     repeat first|exact aa|refine Below.alloc ?_ (by first|(simp;done)|(simp;omega)) _
    clear b2;by_cases c5:r=0
    ·subst c5
     go_wp2;refine⟨⟨i+1,by omega,by omega,rfl,b4,?_⟩,?_⟩
     ·show _=_
      rw[HP.out,ubu a1 a9,b5.out,uh6]
     ·simp only[intOf]
      omega
    ·have e:q=r:=by
      rw[<-HQ.out,HP.out,ubu a1 a9,b5.out,uoj c5]
     go_wp2;go_ret
     exact⟨by rw[e];rfl,b4.out⟩
   ·have e:q=1:=by rw[<-HQ.out,HP.out,ugb a1 (by have:=a6.out;omega)]
    go_wp2;go_ret
    refine⟨by rw[e];rfl,?_⟩
    refine HB.out.trans (Below.mono ?_ HB.out.size);repeat first|exact aa|refine Below.alloc ?_ (by first|(simp;done)|(simp;omega)) _
  ·obtain rfl:i=len:=by omega
   by_cases d8:i<a0
   ·have e:q = -1:=by rw[<-HQ.out,HP.out,uex (by have:=a6.out;omega) b0.out.symm]
    go_wp2;go_ret
    exact⟨by rw[e];rfl,HB.out⟩
   ·have e:q=0:=by rw[<-HQ.out,HP.out,uh5 b0.out.symm (by have:=a6.out;omega)]
    go_wp2;go_ret
    exact⟨by rw[e];rfl,HB.out⟩
theorem uxw{α:Type}{D D':Nat->Prop}(R R':α->List Value->Prop)(b8:∀a v,R a v->∃x0 a3 a5 a4 x2,v=[.int .i64 x0,.slice a3 a5 a4,.int .i64 x2])(b9:∀a v,R' a v->∃x0 a3 a5 a4 x2,v=[.int .i64 x0,.slice a3 a5 a4,.int .i64 x2])(p:α->α->Int)(l m:List α)(A A':Option Addr)(len cap a0 b1:Nat)(g:FuncId)(fi ca:Array Value)(w:World)(hs:Sl 3 R w D l A len cap)(a2:Sl 3 R' w D' m A' a0 b1)(he:Enters Tryz.prog g)
 (c6:∀(i:Nat) (h1:i<l.length) (h2:i<m.length) (W:World) (v v':List Value),Below w.heap.size w W->R l[i] v->R' m[i] v'->Calls Tryz.prog g (fi ++ #[.agg v.toArray,.agg v'.toArray]++ca) W (uY (.int .i64 (p l[i] m[i])) W)) :
 Calls Tryz.prog 129 #[.slice A len cap,.slice A' a0 b1,.func (.func g) fi ca] w (uY (.int .i64 (cmpL p l m)) w):=by
 have c3:len=l.length:=hs.1;have c4:a0=m.length:=a2.1;have d6:cap<=maxLen:=hs.2.2.1;have d7:b1<=maxLen:=a2.2.2.1;have e3:=hs.2.1;have e4:=a2.2.1;obtain⟨q,hq⟩:∃q,cmpL p l m=q:=⟨_,rfl⟩;rw[hq];have HQ:=hid hq;have b0:=hid c3;have a6:=hid c4;have HS:=hid hs;have c9:=hid a2;have d3:=hid c6;have HF:=hid b8;have c7:=hid b9;unfold maxLen at d6 d7;unfold Enters at he;clear hs a2 c3 c4 c6 hq b8 b9;go_enter Tryz.func129,Tryz.ntmps129
 go_wp2;go_loopw [13] (fun iv wr=>∃i:Nat,i<=len/\i<=a0/\iv = .int .i64 i/\Hid (Below w.heap.size w wr)/\Hid (cmpL p l m=cmpL p (l.drop i) (m.drop i))) (fun iv _=>len-(intOf iv).toNat)
 case atStart=>exact⟨0,by omega,by omega,rfl,aa,rfl⟩
 case round=>
  obtain⟨i,hi,hi2,rfl,HB,HP⟩:=hrel;by_cases e5:i<len
  ·have a1:i<l.length:=by have:=b0.out;omega
   obtain⟨b,off,v,rfl,hD,hb,hc,hr⟩:=HS.out.get a1;obtain⟨x0,a3,a5,a4,x2,rfl⟩:=HF.out _ _ hr;have HR:=hid hr;have e2:b<wr.heap.size:=af hb HB.out.size;have a7:=hc.sure HB.out hb;have c0:=a7 0 _ rfl;rw[Nat.add_zero]at c0;have c1:=a7 1 _ rfl;have c2:=a7 2 _ rfl;clear hr hc a7 hD;by_cases d8:i<a0
   ·have a9:i<m.length:=by have:=a6.out;omega
    obtain⟨b',e6,v',rfl,d5,b6,b7,b3⟩:=c9.out.get a9;obtain⟨y0,d9,e1,e0,y2,rfl⟩:=c7.out _ _ b3;have c8:=hid b3;have b2:b'<wr.heap.size:=af b6 HB.out.size;have a8:=b7.sure HB.out b6;have d0:=a8 0 _ rfl;rw[Nat.add_zero]at d0;have d1:=a8 1 _ rfl;have d2:=a8 2 _ rfl;clear b3 b7 a8 d5;obtain⟨r,hr⟩:∃r,p l[i] m[i]=r:=⟨_,rfl⟩;have key:=fun W (hW:Below wr.heap.size wr W)=>d3.out i a1 a9 W _ _ (HB.out.trans (hW.mono HB.out.size)) HR.out c8.out
    rw[hr]at key;have d4:Hid (∀W,Below wr.heap.size wr W->Calls Tryz.prog g (fi++(#[.agg #[.int .i64 x0,.slice a3 a5 a4,.int .i64 x2],.agg #[.int .i64 y0,.slice d9 e1 e0,.int .i64 y2]]++ca)) W (uY (.int .i64 r) W)):=fun W hW=>by
     have:=key W hW;rw[Array.append_assoc]at this;exact this
    have b5:=hid hr;clear key hr;go_wp2_with fail
    refine(d4.out _ ?_).mono ?_
    ·repeat first|exact aa|refine Below.alloc ?_ (by first|(simp;done)|(simp;omega)) _
    rintro e w2⟨rfl,b2⟩;have b4:Hid (Below w.heap.size w w2):=by
     refine HB.out.trans (Below.mono ?_ HB.out.size);refine Below.trans ?_ (b2.mono (by first|(simp;done)|(simp;omega)))
     repeat first|exact aa|refine Below.alloc ?_ (by first|(simp;done)|(simp;omega)) _
    clear b2;by_cases c5:r=0
    ·subst c5
     go_wp2;refine⟨⟨i+1,by omega,by omega,rfl,b4,?_⟩,?_⟩
     ·show _=_
      rw[HP.out,ubu a1 a9,b5.out,uh6]
     ·simp only[intOf]
      omega
    ·have e:q=r:=by
      rw[<-HQ.out,HP.out,ubu a1 a9,b5.out,uoj c5]
     go_wp2;go_ret
     exact⟨by rw[e];rfl,b4.out⟩
   ·have e:q=1:=by rw[<-HQ.out,HP.out,ugb a1 (by have:=a6.out;omega)]
    go_wp2;go_ret
    refine⟨by rw[e];rfl,?_⟩
    refine HB.out.trans (Below.mono ?_ HB.out.size);repeat first|exact aa|refine Below.alloc ?_ (by first|(simp;done)|(simp;omega)) _
  ·obtain rfl:i=len:=by omega
   by_cases d8:i<a0
   ·have e:q = -1:=by rw[<-HQ.out,HP.out,uex (by have:=a6.out;omega) b0.out.symm]
    go_wp2;go_ret
    exact⟨by rw[e];rfl,HB.out⟩
   ·have e:q=0:=by rw[<-HQ.out,HP.out,uh5 b0.out.symm (by have:=a6.out;omega)]
    go_wp2;go_ret
    exact⟨by rw[e];rfl,HB.out⟩
theorem uxx(a b c d:Int)(w:World):Calls Tryz.prog 186 #[.agg #[.int .i64 a,.int .i64 b],.agg #[.int .i64 c,.int .i64 d]] w (uY (.int .i64 (orC (uai a c) (uai b d))) w):=by
 go_enter Tryz.func186,Tryz.ntmps186
 go_upto_region 1 with(fail)
 obtain⟨W,hW⟩:∃W,W=((w.alloc (.cells #[.int .i64 a,.int .i64 b] 131)).alloc (.cells #[.int .i64 c,.int .i64 d] 131)):=⟨_,rfl⟩;have a1:Hid (Below w.heap.size w W):=by rw[hW];exact(aa.alloc ab _).alloc (by simp) _
 have HP:Hid (Bk W w.heap.size 131 #[.int .i64 a,.int .i64 b]):=by rw[hW];exact(Bk.new _ _ _).alloc _
 have HR:Hid (Bk W (w.heap.size+1) 131 #[.int .i64 c,.int .i64 d]):=by
  rw[hW];have:=Bk.new (w.alloc (.cells #[.int .i64 a,.int .i64 b] 131)) 131 #[.int .i64 c,.int .i64 d];exact hid (by simpa using this)
 rw[<-hW];clear hW;refine ue (⟨[(w.heap.size,0,[.int .i64 a,.int .i64 b]),(w.heap.size+1,0,[.int .i64 c,.int .i64 d])],[],[fun v x=>∃b0,v = .slice (some ⟨b0,0,none⟩) 2 2/\W.heap.size<=b0/\Bk x b0 3 #[.int .i64 (uai a c),.int .i64 (uai b d)]],[(2,.p 0 0),(3,.p 1 0)],[(4,.v (.int .i64 ((uai a c)))),(9,.v (.int .i64 ((uai b d)))),(10,.f 0),(11,.v (.int .i64 ((orC (uai a c) (uai b d)))))]⟩:Sp) [5,6,7,8,9,10,11,12,13,14,15,16,4] W (aa.drew) (by kernel_rfl) (by kernel_rfl) (by kernel_rfl) (sI (fun v x x' h hb=>by obtain⟨b,h1,h3,h2⟩:=h;exact⟨b,h1,h3,h2.below hb h2.lt⟩) sN) (by kernel_rfl)
  (fun x hx=>(mI (ud (HP.out.below hx HP.out.lt)) (mI (ud (HR.out.below hx HR.out.lt)) mN))) (dI (ug [.v (.int .i64 a),.v (.int .i64 c)] rfl rfl (by kernel_rfl) (by kernel_rfl) fun x vs hx hC hv=>by
   obtain⟨v1,v2,rfl,h1,h2⟩:=uec hv;obtain rfl:v1 = .int .i64 a:=h1;obtain rfl:v2 = .int .i64 c:=h2;refine(ubt a c x).mono ?_;rintro en w2⟨rfl,hb⟩;exact⟨_,rfl,rfl,hb⟩) (
  dI (ug [.v (.int .i64 b),.v (.int .i64 d)] rfl rfl (by kernel_rfl) (by kernel_rfl) fun x vs hx hC hv=>by
   obtain⟨v1,v2,rfl,h1,h2⟩:=uec hv;obtain rfl:v1 = .int .i64 b:=h1;obtain rfl:v2 = .int .i64 d:=h2;refine(uoi b d x).mono ?_;rintro en w2⟨rfl,hb⟩;exact⟨_,rfl,rfl,hb⟩) (
  dI (ueu rfl rfl [(0,.int .i64 ((uai a c))),(1,.int .i64 ((uai b d)))] (by kernel_rfl) rfl 3 [.int .i64 ((uai a c)),.int .i64 ((uai b d))] (by kernel_rfl) (fun x hx hC=>⟨_,rfl,hx.size,Bk.new _ _ _⟩)) (
  dI (ug [.f 0] rfl rfl (by kernel_rfl) (by kernel_rfl) fun x vs hx hC hv=>by
   obtain⟨v1,rfl,h1⟩:=ubg hv;obtain⟨bz,a3,a5,a4⟩:=(h1:∃b0,v1 = .slice (some ⟨b0,0,none⟩) 2 2/\W.heap.size<=b0/\Bk x b0 3 #[.int .i64 (uai a c),.int .i64 (uai b d)]);subst a3;refine(ug2 bz _ (uai a c) (uai b d) x a4).mono ?_;rintro en w2⟨rfl,hb⟩;exact⟨_,rfl,rfl,hb⟩) (dN))))) ?_
 intro S x1 a2 hS;obtain⟨a0,_⟩:S 12 = .int .i64 ((orC (uai a c) (uai b d)))/\True:=hS (l:=[(12,.v (.int .i64 ((orC (uai a c) (uai b d)))))]) (by kernel_rfl)
 clear hS;simp only[nv,Nat.reduceAdd,aB,aE,aC,List.drop_zero,a0];clear a0;have HX:=hid (a1.out.trans (a2.mono a1.out.size));clear a2;go_wp2;go_ret
 exact⟨rfl,HX.out⟩
set_option maxHeartbeats 200000
set_option maxRecDepth 512
theorem uxy{t:Int×Int}{v:List Value}(h:LtR t v):∃x0 x1,v=[.int .i64 x0,.int .i64 x1]:=⟨_,_,h.2.2⟩
theorem uxz{w:World}{D:Nat->Prop}{t:Ix}{v:List Value}(h:IxR w D t v):∃x0 a0 a2 a1,v=[.int .i64 x0,.slice a0 a2 a1]:=by
 obtain⟨A,n,c,rfl,_⟩:=h.form;exact⟨_,_,_,_,rfl⟩
theorem usk{w:World}{D:Nat->Prop}{t:Fac}{v:List Value}(h:ujk w D t v):∃x0 x1 a0 a2 a1,v=[.int .i64 x0,.int .i64 x1,.slice a0 a2 a1]:=by
 obtain⟨_,A,n,c,rfl,_⟩:=h;exact⟨_,_,_,_,_,rfl⟩
theorem usl{w:World}{D:Nat->Prop}{t:Ato}{v:List Value}(h:ujl w D t v):∃x0 a0 a2 a1 x2,v=[.int .i64 x0,.slice a0 a2 a1,.int .i64 x2]:=by
 obtain⟨_,A,n,c,rfl,_⟩:=h;exact⟨_,_,_,_,_,rfl⟩
def uH5(a b:Int×Int):Int:=orC (uai a.1 b.1) (uai a.2 b.2)
theorem ux0{l m:Lin}(h:uai l.ts.length m.ts.length≠0):ubp l m=uai l.ts.length m.ts.length:=by unfold ubp;rw[if_pos h]
theorem ux1{l m:Lin}(h:uai l.ts.length m.ts.length=0):ubp l m=orC (cmpL uH5 l.ts m.ts) (uai l.c m.c):=by unfold ubp;rw[if_neg (by omega)];rfl
set_option maxHeartbeats 16000000
set_option maxRecDepth 100000
theorem usm{D D':Nat->Prop}(l m:Lin)(v v':List Value)(w:World)(h:uoz w D l v)(h':uoz w D' m v'):Calls Tryz.prog 131 #[.agg v.toArray,.agg v'.toArray] w (uY (.int .i64 (ubp l m)) w):=by
 obtain⟨_,A,n,c,rfl,hs⟩:=h;obtain⟨_,A',n',c',rfl,a1⟩:=h';have hn:n=l.ts.length:=hs.1;have a9:n'=m.ts.length:=a1.1;have E0:= @ux0 l m;have E1:= @ux1 l m;generalize ubp l m=q at *;rw[<-hn,<-a9]at E0 E1;generalize l.c=x0 at *;generalize m.c=y0 at *;have a6:=hid E0;have a7:=hid E1;have HS:=hid hs;have b3:=hid a1;have b4:c<=maxLen:=hs.2.2.1;have b5:c'<=maxLen:=a1.2.2.1;have c2:=hs.2.1;have c3:=a1.2.1;unfold maxLen at b4 b5;clear hs a1 E0 E1 hn a9;show Calls Tryz.prog 131 #[.agg #[.int .i64 x0,.slice A n c],.agg #[.int .i64 y0,.slice A' n' c']] w _
 go_enter Tryz.func131,Tryz.ntmps131
 go_upto_region 1 with(fail)
 obtain⟨W,hW⟩:∃W,W=((w.alloc (.cells #[.int .i64 x0,.slice A n c] 126)).alloc (.cells #[.int .i64 y0,.slice A' n' c'] 126)):=⟨_,rfl⟩;have a8:Hid (Below w.heap.size w W):=by rw[hW];exact(aa.alloc ab _).alloc (by simp) _
 have HP:Hid (Bk W w.heap.size 126 #[.int .i64 x0,.slice A n c]):=by rw[hW];exact(Bk.new _ _ _).alloc _
 have HR:Hid (Bk W (w.heap.size+1) 126 #[.int .i64 y0,.slice A' n' c']):=by
  rw[hW];have:=Bk.new (w.alloc (.cells #[.int .i64 x0,.slice A n c] 126)) 126 #[.int .i64 y0,.slice A' n' c'];exact hid (by simpa using this)
 rw[<-hW];clear hW;obtain⟨b6,_,_⟩:=HP.out.facts;obtain⟨b9,_,_⟩:=HR.out.facts;go_wp2_with fail
 refine(ubt _ _ _).mono ?_;rintro e w1⟨rfl,hb⟩;have a0:=hid (a8.out.trans (hb.mono a8.out.size));have a2:=hid (HP.out.below hb HP.out.lt);have a3:=hid (HR.out.below hb HR.out.lt);clear hb b6 b9;obtain⟨z,hz⟩:∃z,uai (n:Int) n'=z:=⟨_,rfl⟩;rw[hz];rw[hz]at a6 a7;by_cases h0:z=0
 ·subst h0
  have e:=a7.out rfl;obtain⟨b7,_,_⟩:=a2.out.facts;obtain⟨c0,_,_⟩:=a3.out.facts;go_wp2_with fail
  refine(uBo (D:=D) (D':=D') LtR LtR (fun _ _=>uxy) (fun _ _=>uxy) uH5 l.ts m.ts A A' n c n' c' 186 #[] #[] w1 (LtS.vAb (uc.of a0.out) HS.out) (LtS.vAb (uc.of a0.out) b3.out) (enters_of Tryz.func186 (by kernel_rfl) rfl) ?_).mono ?_
  ·rintro i h1 h2 W v v' hb ⟨_,_,rfl⟩ ⟨_,_,rfl⟩
   simpa[uH5]using uxx _ _ _ _ W
  rintro e w2⟨rfl,hb⟩;have a4:=hid (a0.out.trans (hb.mono a0.out.size));have b1:=hid (a2.out.below hb a2.out.lt);have b2:=hid (a3.out.below hb a3.out.lt);clear hb b7 c0;obtain⟨b8,_,_⟩:=b1.out.facts;obtain⟨c1,_,_⟩:=b2.out.facts;generalize cmpL uH5 l.ts m.ts=z1 at *;go_wp2_with fail
  refine(uoi _ _ _).mono ?_;rintro e w3⟨rfl,hb⟩;have a5:=hid (a4.out.trans (hb.mono a4.out.size));clear hb b8 c1;generalize uai x0 y0=z2 at *;go_wp2_with fail
  refine(ug2 _ _ z1 z2 _ (Bk.new _ _ _)).mono ?_;rintro e w4⟨rfl,hb⟩;have b0:Hid (Below w.heap.size w w4):=a5.out.trans ((Below.alloc aa ab _).trans (hb.mono (by simp)) |>.mono a5.out.size)
  clear hb;go_wp2;go_ret
  exact⟨by rw[e];rfl,b0.out⟩
 ·have e:=a6.out h0
  go_wp2;go_ret
  exact⟨by rw[e];rfl,a0.out⟩
set_option maxHeartbeats 200000
set_option maxRecDepth 512
theorem uFg{i j:Ix}(h:orC (uai i.k j.k) (uai i.l.length j.l.length)≠0):uk5 i j=orC (uai i.k j.k) (uai i.l.length j.l.length):=by
 obtain⟨k,l⟩:=i;obtain⟨k',l'⟩:=j;rw[uk5];exact uoj h
theorem uFh{i j:Ix}(h:orC (uai i.k j.k) (uai i.l.length j.l.length)=0):uk5 i j=cmpL uk5 i.l j.l:=by
 obtain⟨k,l⟩:=i;obtain⟨k',l'⟩:=j;rw[uk5,<-uer];show orC (orC (uai k k') (uai l.length l'.length)) _=_
 rw[show orC (uai k k') (uai l.length l'.length)=0 from h]
 rfl
set_option maxHeartbeats 16000000
set_option maxRecDepth 100000
theorem usn{D D':Nat->Prop}:∀(N:Nat) (i j:Ix) (hN:i.sz<=N) (v v':List Value) (w:World) (h:IxR w D i v) (h':IxR w D' j v'),Calls Tryz.prog 128 #[.agg v.toArray,.agg v'.toArray] w (uY (.int .i64 (uk5 i j)) w)
 | 0,i,j,hN,_,_,_,_,_=>by have:=Ix.vBj i;omega
 | N+1,i,j,hN,v,v',w,h,h'=>by
  have IH:=hid (usn (D:=D) (D':=D') N);obtain⟨A,n,c,rfl,hs,hk⟩:=h.form;obtain⟨A',n',c',rfl,a0,b8⟩:=h'.form;have hn:n=i.l.length:=hs.1;have a8:n'=j.l.length:=a0.1;have a9:∀x∈i.l,x.sz<=N:=fun x hx=>by have:=Ix.vBj i;have:=uge hx;omega
  have E0:= @uFg i j;have E1:= @uFh i j;generalize uk5 i j=q at *;rw[<-hn,<-a8]at E0 E1;generalize i.k=x0 at *;generalize j.k=y0 at *;have a3:=hid E0;have a4:=hid E1;have HS:=hid hs;have b4:=hid a0;have b5:=hid a9;have b6:c<=maxLen:=hs.2.2.1;have b7:c'<=maxLen:=a0.2.2.1;have c1:=hs.2.1;have c2:=a0.2.1;unfold maxLen at b6 b7;clear hs a0 E0 E1 hn a8 h h' a9 hN hk b8;show Calls Tryz.prog 128 #[.agg #[.int .i64 x0,.slice A n c],.agg #[.int .i64 y0,.slice A' n' c']] w _
  go_enter Tryz.func128,Tryz.ntmps128
  go_upto_region 1 with(fail)
  obtain⟨W,hW⟩:∃W,W=((w.alloc (.cells #[.int .i64 x0,.slice A n c] 120)).alloc (.cells #[.int .i64 y0,.slice A' n' c'] 120)):=⟨_,rfl⟩;have a7:Hid (Below w.heap.size w W):=by rw[hW];exact(aa.alloc ab _).alloc (by simp) _
  have HP:Hid (Bk W w.heap.size 120 #[.int .i64 x0,.slice A n c]):=by rw[hW];exact(Bk.new _ _ _).alloc _
  have HR:Hid (Bk W (w.heap.size+1) 120 #[.int .i64 y0,.slice A' n' c']):=by
   rw[hW];have:=Bk.new (w.alloc (.cells #[.int .i64 x0,.slice A n c] 120)) 120 #[.int .i64 y0,.slice A' n' c'];exact hid (by simpa using this)
  rw[<-hW];clear hW;obtain⟨z1,a5⟩:∃z,Hid (uai x0 y0=z):=⟨_,rfl⟩;obtain⟨z2,a2⟩:∃z,Hid (uai (n:Int) n'=z):=⟨_,rfl⟩;rw[a5.out,a2.out]at a3 a4;obtain⟨z,hz⟩:∃z,Hid (orC z1 z2=z):=⟨_,rfl⟩;rw[hz.out]at a3 a4;refine ue (⟨[(w.heap.size,0,[.int .i64 x0,.slice A n c]),(w.heap.size+1,0,[.int .i64 y0,.slice A' n' c'])],[],[fun v x=>∃b0,v = .slice (some ⟨b0,0,none⟩) 2 2/\W.heap.size<=b0/\Bk x b0 3 #[.int .i64 z1,.int .i64 z2]],[(2,.p 0 0),(3,.p 1 0)],[(4,.v (.int .i64 z1)),(11,.v (.int .i64 z2)),(12,.f 0),(13,.v (.int .i64 z))]⟩:Sp) [6,7,8,9,10,11,12,13,14,15,16,17,18,19,5] W (aa.drew) (by kernel_rfl) (by kernel_rfl) (by kernel_rfl) (sI (fun v x x' h hb=>by obtain⟨b,h1,h3,h2⟩:=h;exact⟨b,h1,h3,h2.below hb h2.lt⟩) sN) (by kernel_rfl)
   (fun x hx=>(mI (ud (HP.out.below hx HP.out.lt)) (mI (ud (HR.out.below hx HR.out.lt)) mN))) (dI (ug [.v (.int .i64 x0),.v (.int .i64 y0)] rfl rfl (by kernel_rfl) (by kernel_rfl) fun x vs hx hC hv=>by
    obtain⟨v1,v2,rfl,h1,h2⟩:=uec hv;obtain rfl:v1 = .int .i64 x0:=h1;obtain rfl:v2 = .int .i64 y0:=h2;refine(ubt x0 y0 x).mono ?_;rintro en w2⟨rfl,hb⟩;rw[a5.out];exact⟨_,rfl,rfl,hb⟩) (
   dI (ug [.v (.int .i64 n),.v (.int .i64 (n'))] rfl rfl (by kernel_rfl) (by kernel_rfl) fun x vs hx hC hv=>by
    obtain⟨v1,v2,rfl,h1,h2⟩:=uec hv;obtain rfl:v1 = .int .i64 n:=h1;obtain rfl:v2 = .int .i64 (n'):=h2;refine(ubt n n' x).mono ?_;rintro en w2⟨rfl,hb⟩;rw[a2.out];exact⟨_,rfl,rfl,hb⟩) (
   dI (ueu rfl rfl [(0,.int .i64 z1),(1,.int .i64 z2)] (by kernel_rfl) rfl 3 [.int .i64 z1,.int .i64 z2] (by kernel_rfl) (fun x hx hC=>⟨_,rfl,hx.size,Bk.new _ _ _⟩)) (
   dI (ug [.f 0] rfl rfl (by kernel_rfl) (by kernel_rfl) fun x vs hx hC hv=>by
    obtain⟨v1,rfl,h1⟩:=ubg hv;obtain⟨bz,c0,a5,a2⟩:=(h1:∃b0,v1 = .slice (some ⟨b0,0,none⟩) 2 2/\W.heap.size<=b0/\Bk x b0 3 #[.int .i64 z1,.int .i64 z2]);subst c0;refine(ug2 bz _ z1 z2 x a2).mono ?_;rintro en w2⟨rfl,hb⟩;rw[hz.out];exact⟨_,rfl,rfl,hb⟩) (dN))))) ?_
  intro S x1 a1 hS;obtain⟨a6,_⟩:S 14 = .int .i64 z/\True:=hS (l:=[(14,.v (.int .i64 z))]) (by kernel_rfl)
  clear hS;simp only[nv,Nat.reduceAdd,aB,aE,aC,List.drop_zero,a6];clear a6;have HX:=hid (a7.out.trans (a1.mono a7.out.size));have b2:=hid (HP.out.below a1 HP.out.lt);have b3:=hid (HR.out.below a1 HR.out.lt);clear a1;by_cases h0:z=0
  ·subst h0
   have e:=a4.out rfl;obtain⟨c3,_,_⟩:=b2.out.facts;obtain⟨c4,_,_⟩:=b3.out.facts;go_wp2_with fail
   refine(uBp (D:=D) (D':=D') (IxR w D) (IxR w D') (fun _ _=>uxz) (fun _ _=>uxz) uk5 i.l j.l A A' n c n' c' 128 #[] #[] x1 (Sl.vAb (uc.of HX.out) (fun _ _ h=>h) HS.out) (Sl.vAb (uc.of HX.out) (fun _ _ h=>h) b4.out) (enters_of Tryz.func128 (by kernel_rfl) rfl) ?_).mono ?_
   ·intro i h1 h2 W v v' hb hr b9
    have:=IH.out _ _ (b5.out _ (aq h1)) v v' W (hr.vAb (uc.of (HX.out.trans (hb.mono HX.out.size)))) (b9.vAb (uc.of (HX.out.trans (hb.mono HX.out.size))));simpa using this
   rintro en w2⟨rfl,hb⟩;have b1:=hid (HX.out.trans (hb.mono HX.out.size));clear hb;go_wp2;go_ret
   exact⟨by rw[e];rfl,b1.out⟩
  ·have e:=a3.out h0
   go_wp2;go_ret
   exact⟨by rw[e];rfl,HX.out⟩
theorem ux2{D D':Nat->Prop}(f g:Fac)(v v':List Value)(w:World)(h:ujk w D f v)(h':ujk w D' g v'):Calls Tryz.prog 126 #[.agg v.toArray,.agg v'.toArray] w (uY (.int .i64 (uyt f g)) w):=by
 obtain⟨_,A,n,c,rfl,hs⟩:=h;obtain⟨_,A',n',c',rfl,a4⟩:=h';have a5:Hid (∀x,Below w.heap.size w x->Calls Tryz.prog 128 #[.agg #[.int .i64 f.i.k,.slice A n c],.agg #[.int .i64 g.i.k,.slice A' n' c']] x (uY (.int .i64 (uk5 f.i g.i)) x)):=fun x hx=>usn (D:=D) (D':=D') f.i.sz f.i g.i ab _ _ x (hs.vAb (uc.of hx)) (a4.vAb (uc.of hx))
 unfold uyt;generalize uk5 f.i g.i=z2 at *;generalize f.v=x0 at *;generalize g.v=y0 at *;generalize f.i.k=x1 at *;generalize g.i.k=y1 at *;clear hs a4;show Calls Tryz.prog 126 #[.agg #[.int .i64 x0,.int .i64 x1,.slice A n c],.agg #[.int .i64 y0,.int .i64 y1,.slice A' n' c']] w _
 obtain⟨z1,a1⟩:∃z,Hid (uai x0 y0=z):=⟨_,rfl⟩;rw[a1.out];go_enter Tryz.func126,Tryz.ntmps126
 go_upto_region 1 with(fail)
 obtain⟨W,hW⟩:∃W,W=((w.alloc (.cells #[.int .i64 x0,.int .i64 x1,.slice A n c] 122)).alloc (.cells #[.int .i64 y0,.int .i64 y1,.slice A' n' c'] 122)):=⟨_,rfl⟩;have a0:Hid (Below w.heap.size w W):=by rw[hW];exact(aa.alloc ab _).alloc (by simp) _
 have HP:Hid (Bk W w.heap.size 122 #[.int .i64 x0,.int .i64 x1,.slice A n c]):=by rw[hW];exact(Bk.new _ _ _).alloc _
 have HR:Hid (Bk W (w.heap.size+1) 122 #[.int .i64 y0,.int .i64 y1,.slice A' n' c']):=by
  rw[hW];have:=Bk.new (w.alloc (.cells #[.int .i64 x0,.int .i64 x1,.slice A n c] 122)) 122 #[.int .i64 y0,.int .i64 y1,.slice A' n' c'];exact hid (by simpa using this)
 rw[<-hW];clear hW;refine ue (⟨[(w.heap.size,0,[.int .i64 x0,.int .i64 x1,.slice A n c]),(w.heap.size+1,0,[.int .i64 y0,.int .i64 y1,.slice A' n' c'])],[],[fun v x=>∃b0,v = .slice (some ⟨b0,0,none⟩) 2 2/\W.heap.size<=b0/\Bk x b0 3 #[.int .i64 z1,.int .i64 z2]],[(2,.p 0 0),(3,.p 1 0)],[(4,.v (.int .i64 z1)),(9,.v (.int .i64 z2)),(10,.f 0),(11,.v (.int .i64 ((orC z1 z2))))]⟩:Sp) [5,6,7,8,9,10,11,12,13,14,15,16,4] W (aa.drew) (by kernel_rfl) (by kernel_rfl) (by kernel_rfl) (sI (fun v x x' h hb=>by obtain⟨b,h1,h3,h2⟩:=h;exact⟨b,h1,h3,h2.below hb h2.lt⟩) sN) (by kernel_rfl)
  (fun x hx=>(mI (ud (HP.out.below hx HP.out.lt)) (mI (ud (HR.out.below hx HR.out.lt)) mN))) (dI (ug [.v (.int .i64 x0),.v (.int .i64 y0)] rfl rfl (by kernel_rfl) (by kernel_rfl) fun x vs hx hC hv=>by
   obtain⟨v1,v2,rfl,h1,h2⟩:=uec hv;obtain rfl:v1 = .int .i64 x0:=h1;obtain rfl:v2 = .int .i64 y0:=h2;refine(ubt x0 y0 x).mono ?_;rintro en w2⟨rfl,hb⟩;rw[a1.out];exact⟨_,rfl,rfl,hb⟩) (
  dI (ug [.v (.agg #[.int .i64 x1,.slice A n c]),.v (.agg #[.int .i64 y1,.slice A' n' c'])] rfl rfl (by kernel_rfl) (by kernel_rfl) fun x vs hx hC hv=>by
   obtain⟨v1,v2,rfl,h1,h2⟩:=uec hv;obtain rfl:v1 = .agg #[.int .i64 x1,.slice A n c]:=h1;obtain rfl:v2 = .agg #[.int .i64 y1,.slice A' n' c']:=h2;refine(a5.out x (a0.out.trans (hx.mono a0.out.size))).mono ?_;rintro en w2⟨rfl,hb⟩;exact⟨_,rfl,rfl,hb⟩) (
  dI (ueu rfl rfl [(0,.int .i64 z1),(1,.int .i64 z2)] (by kernel_rfl) rfl 3 [.int .i64 z1,.int .i64 z2] (by kernel_rfl) (fun x hx hC=>⟨_,rfl,hx.size,Bk.new _ _ _⟩)) (
  dI (ug [.f 0] rfl rfl (by kernel_rfl) (by kernel_rfl) fun x vs hx hC hv=>by
   obtain⟨v1,rfl,h1⟩:=ubg hv;obtain⟨bz,a6,a1,a7⟩:=(h1:∃b0,v1 = .slice (some ⟨b0,0,none⟩) 2 2/\W.heap.size<=b0/\Bk x b0 3 #[.int .i64 z1,.int .i64 z2]);subst a6;refine(ug2 bz _ z1 z2 x a7).mono ?_;rintro en w2⟨rfl,hb⟩;exact⟨_,rfl,rfl,hb⟩) (dN))))) ?_
 intro S x1 a3 hS;obtain⟨a2,_⟩:S 12 = .int .i64 ((orC z1 z2))/\True:=hS (l:=[(12,.v (.int .i64 ((orC z1 z2))))]) (by kernel_rfl)
 clear hS;simp only[nv,Nat.reduceAdd,aB,aE,aC,List.drop_zero,a2];clear a2;have HX:=hid (a0.out.trans (a3.mono a0.out.size));clear a3;go_wp2;go_ret
 exact⟨rfl,HX.out⟩
theorem ux3{D D':Nat->Prop}(f g:Ato)(v v':List Value)(w:World)(h:ujl w D f v)(h':ujl w D' g v'):Calls Tryz.prog 130 #[.agg v.toArray,.agg v'.toArray] w (uY (.int .i64 (uFt f g)) w):=by
 obtain⟨_,A,n,c,rfl,hs⟩:=h;obtain⟨_,A',n',c',rfl,a4⟩:=h';have a5:Hid (∀x,Below w.heap.size w x->Calls Tryz.prog 131 #[.agg #[.int .i64 f.l.c,.slice A n c],.agg #[.int .i64 g.l.c,.slice A' n' c']] x (uY (.int .i64 (ubp f.l g.l)) x)):=fun x hx=>usm (D:=D) (D':=D') f.l g.l _ _ x (hs.vAb (uc.of hx)) (a4.vAb (uc.of hx))
 unfold uFt;generalize ubp f.l g.l=z1 at *;generalize f.d=x2 at *;generalize g.d=y2 at *;generalize f.l.c=x0 at *;generalize g.l.c=y0 at *;clear hs a4;show Calls Tryz.prog 130 #[.agg #[.int .i64 x0,.slice A n c,.int .i64 x2],.agg #[.int .i64 y0,.slice A' n' c',.int .i64 y2]] w _
 obtain⟨z2,a1⟩:∃z,Hid (uai x2 y2=z):=⟨_,rfl⟩;rw[a1.out];go_enter Tryz.func130,Tryz.ntmps130
 go_upto_region 1 with(fail)
 obtain⟨W,hW⟩:∃W,W=((w.alloc (.cells #[.int .i64 x0,.slice A n c,.int .i64 x2] 128)).alloc (.cells #[.int .i64 y0,.slice A' n' c',.int .i64 y2] 128)):=⟨_,rfl⟩;have a0:Hid (Below w.heap.size w W):=by rw[hW];exact(aa.alloc ab _).alloc (by simp) _
 have HP:Hid (Bk W w.heap.size 128 #[.int .i64 x0,.slice A n c,.int .i64 x2]):=by rw[hW];exact(Bk.new _ _ _).alloc _
 have HR:Hid (Bk W (w.heap.size+1) 128 #[.int .i64 y0,.slice A' n' c',.int .i64 y2]):=by
  rw[hW];have:=Bk.new (w.alloc (.cells #[.int .i64 x0,.slice A n c,.int .i64 x2] 128)) 128 #[.int .i64 y0,.slice A' n' c',.int .i64 y2];exact hid (by simpa using this)
 rw[<-hW];clear hW;refine ue (⟨[(w.heap.size,0,[.int .i64 x0,.slice A n c,.int .i64 x2]),(w.heap.size+1,0,[.int .i64 y0,.slice A' n' c',.int .i64 y2])],[],[fun v x=>∃b0,v = .slice (some ⟨b0,0,none⟩) 2 2/\W.heap.size<=b0/\Bk x b0 3 #[.int .i64 z1,.int .i64 z2]],[(2,.p 0 0),(3,.p 1 0)],[(4,.v (.int .i64 z1)),(9,.v (.int .i64 z2)),(10,.f 0),(11,.v (.int .i64 ((orC z1 z2))))]⟩:Sp) [5,6,7,8,9,10,11,12,13,14,15,16,4] W (aa.drew) (by kernel_rfl) (by kernel_rfl) (by kernel_rfl) (sI (fun v x x' h hb=>by obtain⟨b,h1,h3,h2⟩:=h;exact⟨b,h1,h3,h2.below hb h2.lt⟩) sN) (by kernel_rfl)
  (fun x hx=>(mI (ud (HP.out.below hx HP.out.lt)) (mI (ud (HR.out.below hx HR.out.lt)) mN))) (dI (ug [.v (.agg #[.int .i64 x0,.slice A n c]),.v (.agg #[.int .i64 y0,.slice A' n' c'])] rfl rfl (by kernel_rfl) (by kernel_rfl) fun x vs hx hC hv=>by
   obtain⟨v1,v2,rfl,h1,h2⟩:=uec hv;obtain rfl:v1 = .agg #[.int .i64 x0,.slice A n c]:=h1;obtain rfl:v2 = .agg #[.int .i64 y0,.slice A' n' c']:=h2;refine(a5.out x (a0.out.trans (hx.mono a0.out.size))).mono ?_;rintro en w2⟨rfl,hb⟩;exact⟨_,rfl,rfl,hb⟩) (
  dI (ug [.v (.int .i64 x2),.v (.int .i64 y2)] rfl rfl (by kernel_rfl) (by kernel_rfl) fun x vs hx hC hv=>by
   obtain⟨v1,v2,rfl,h1,h2⟩:=uec hv;obtain rfl:v1 = .int .i64 x2:=h1;obtain rfl:v2 = .int .i64 y2:=h2;refine(ubt x2 y2 x).mono ?_;rintro en w2⟨rfl,hb⟩;rw[a1.out];exact⟨_,rfl,rfl,hb⟩) (
  dI (ueu rfl rfl [(0,.int .i64 z1),(1,.int .i64 z2)] (by kernel_rfl) rfl 3 [.int .i64 z1,.int .i64 z2] (by kernel_rfl) (fun x hx hC=>⟨_,rfl,hx.size,Bk.new _ _ _⟩)) (
  dI (ug [.f 0] rfl rfl (by kernel_rfl) (by kernel_rfl) fun x vs hx hC hv=>by
   obtain⟨v1,rfl,h1⟩:=ubg hv;obtain⟨bz,a6,a7,a1⟩:=(h1:∃b0,v1 = .slice (some ⟨b0,0,none⟩) 2 2/\W.heap.size<=b0/\Bk x b0 3 #[.int .i64 z1,.int .i64 z2]);subst a6;refine(ug2 bz _ z1 z2 x a1).mono ?_;rintro en w2⟨rfl,hb⟩;exact⟨_,rfl,rfl,hb⟩) (dN))))) ?_
 intro S x1 a3 hS;obtain⟨a2,_⟩:S 12 = .int .i64 ((orC z1 z2))/\True:=hS (l:=[(12,.v (.int .i64 ((orC z1 z2))))]) (by kernel_rfl)
 clear hS;simp only[nv,Nat.reduceAdd,aB,aE,aC,List.drop_zero,a2];clear a2;have HX:=hid (a0.out.trans (a3.mono a0.out.size));clear a3;go_wp2;go_ret
 exact⟨rfl,HX.out⟩
set_option maxHeartbeats 200000
set_option maxRecDepth 512
theorem uHa{m n:Mon}(h:uai m.fs.length n.fs.length≠0):uc9 m n=uai m.fs.length n.fs.length:=by unfold uc9;rw[if_pos h]
theorem uHb{m n:Mon}(h:uai m.fs.length n.fs.length=0)(h2:orC (cmpL uyt m.fs n.fs) (uai m.ats.length n.ats.length)≠0):uc9 m n=orC (cmpL uyt m.fs n.fs) (uai m.ats.length n.ats.length):=by
 unfold uc9;rw[if_neg (by omega),if_pos h2]
theorem uHc{m n:Mon}(h:uai m.fs.length n.fs.length=0)(h2:orC (cmpL uyt m.fs n.fs) (uai m.ats.length n.ats.length)=0):uc9 m n=cmpL uFt m.ats n.ats:=by
 unfold uc9;rw[if_neg (by omega),if_neg (by omega)]
set_option maxHeartbeats 16000000
set_option maxRecDepth 100000
theorem uso{D D':Nat->Prop}(l m:Mon)(v v':List Value)(w:World)(h:uU w D l v)(h':uU w D' m v'):Calls Tryz.prog 72 #[.agg v.toArray,.agg v'.toArray] w (uY (.int .i64 (uc9 l m)) w):=by
 obtain⟨A,n,c,B,k,d,rfl,hs,ht⟩:=h;obtain⟨A',n',c',B',k',d',rfl,a2,a3⟩:=h';have hn:n=l.fs.length:=hs.1;have b9:n'=m.fs.length:=a2.1;have hk:k=l.ats.length:=ht.1;have b8:k'=m.ats.length:=a3.1;have E0:= @uHa l m;have E1:= @uHb l m;have E2:= @uHc l m;generalize uc9 l m=q at *;rw[<-hn,<-b9]at E0 E1 E2;rw[<-hk,<-b8]at E1 E2;have b2:=hid E0;have b3:=hid E1;have b4:=hid E2;have HS:=hid hs;have c3:=hid a2;have HT:=hid ht;have c4:=hid a3;have c5:c<=maxLen:=hs.2.2.1;have c6:c'<=maxLen:=a2.2.2.1;have c7:d<=maxLen:=ht.2.2.1;have c8:d'<=maxLen:=a3.2.2.1;have d7:=hs.2.1;have d8:=a2.2.1;have d9:=ht.2.1;have e0:=a3.2.1;unfold maxLen at c5 c6 c7 c8;clear hs a2 ht a3 E0 E1 E2 hn b9 hk b8;show Calls Tryz.prog 72 #[.agg #[.slice A n c,.slice B k d],.agg #[.slice A' n' c',.slice B' k' d']] w _
 go_enter Tryz.func72,Tryz.ntmps72
 go_upto_region 1 with(fail)
 obtain⟨W,hW⟩:∃W,W=((w.alloc (.cells #[.slice A n c,.slice B k d] 83)).alloc (.cells #[.slice A' n' c',.slice B' k' d'] 83)):=⟨_,rfl⟩;have b7:Hid (Below w.heap.size w W):=by rw[hW];exact(aa.alloc ab _).alloc (by simp) _
 have HP:Hid (Bk W w.heap.size 83 #[.slice A n c,.slice B k d]):=by rw[hW];exact(Bk.new _ _ _).alloc _
 have HR:Hid (Bk W (w.heap.size+1) 83 #[.slice A' n' c',.slice B' k' d']):=by
  rw[hW];have:=Bk.new (w.alloc (.cells #[.slice A n c,.slice B k d] 83)) 83 #[.slice A' n' c',.slice B' k' d'];exact hid (by simpa using this)
 rw[<-hW];clear hW;obtain⟨c9,_,_⟩:=HP.out.facts;obtain⟨d3,_,_⟩:=HR.out.facts;go_wp2_with fail
 refine(ubt _ _ _).mono ?_;rintro e w1⟨rfl,hb⟩;have a0:=hid (b7.out.trans (hb.mono b7.out.size));have a5:=hid (HP.out.below hb HP.out.lt);have a7:=hid (HR.out.below hb HR.out.lt);clear hb c9 d3;obtain⟨z,hz⟩:∃z,uai (n:Int) n'=z:=⟨_,rfl⟩;rw[hz];rw[hz]at b2 b3 b4;by_cases h0:z=0
 ·subst h0
  obtain⟨d0,_,_⟩:=a5.out.facts;obtain⟨d4,_,_⟩:=a7.out.facts;go_wp2_with fail
  refine(uxv (D:=D) (D':=D') (ujk w D) (ujk w D') (fun _ _=>usk) (fun _ _=>usk) uyt l.fs m.fs A A' n c n' c' 126 #[] #[] w1 (Sl.vAb (uc.of a0.out) (fun _ _ h=>h) HS.out) (Sl.vAb (uc.of a0.out) (fun _ _ h=>h) c3.out) (enters_of Tryz.func126 (by kernel_rfl) rfl) ?_).mono ?_
  ·intro i h1 h2 W v v' hb hr a9
   have:=ux2 _ _ v v' W (ujk.vAb (uc.of (a0.out.trans (hb.mono a0.out.size))) hr) (ujk.vAb (uc.of (a0.out.trans (hb.mono a0.out.size))) a9);simpa using this
  rintro e w2⟨rfl,hb⟩;have b0:=hid (a0.out.trans (hb.mono a0.out.size));have a6:=hid (a5.out.below hb a5.out.lt);have a8:=hid (a7.out.below hb a7.out.lt);clear hb d0 d4;obtain⟨d1,_,_⟩:=a6.out.facts;obtain⟨d5,_,_⟩:=a8.out.facts;generalize cmpL uyt l.fs m.fs=z1 at *;go_wp2_with fail
  refine(ubt _ _ _).mono ?_;rintro e w3⟨rfl,hb⟩;have b1:=hid (b0.out.trans (hb.mono b0.out.size));have b5:=hid (a6.out.below hb a6.out.lt);have b6:=hid (a8.out.below hb a8.out.lt);clear hb d1 d5;generalize uai (k:Int) k'=z2 at *;go_wp2_with fail
  refine(ug2 _ _ z1 z2 _ (Bk.new _ _ _)).mono ?_;rintro e w4⟨rfl,hb⟩;have a4:Below w3.heap.size w3 w4:=(Below.alloc aa ab _).trans (hb.mono (by simp))
  have a1:=hid (b1.out.trans (a4.mono b1.out.size));have c1:=hid (b5.out.below a4 b5.out.lt);have c2:=hid (b6.out.below a4 b6.out.lt);clear hb a4;generalize orC z1 z2=z3 at *;by_cases h3:z3=0
  ·subst h3
   have e:=b4.out (by first|rfl|trivial) (by first|rfl|trivial)
   obtain⟨d2,_,_⟩:=c1.out.facts;obtain⟨d6,_,_⟩:=c2.out.facts;go_wp2_with fail
   refine(uxw (D:=D) (D':=D') (ujl w D) (ujl w D') (fun _ _=>usl) (fun _ _=>usl) uFt l.ats m.ats B B' k d k' d' 130 #[] #[] w4 (Sl.vAb (uc.of a1.out) (fun _ _ h=>h) HT.out) (Sl.vAb (uc.of a1.out) (fun _ _ h=>h) c4.out) (enters_of Tryz.func130 (by kernel_rfl) rfl) ?_).mono ?_
   ·intro i h1 h2 W v v' hb hr a9
    have:=ux3 _ _ v v' W (ujl.vAb (uc.of (a1.out.trans (hb.mono a1.out.size))) hr) (ujl.vAb (uc.of (a1.out.trans (hb.mono a1.out.size))) a9);simpa using this
   rintro e w5⟨rfl,hb⟩;have c0:=hid (a1.out.trans (hb.mono a1.out.size));clear hb d2 d6;go_wp2;go_ret
   exact⟨by rw[e];rfl,c0.out⟩
  ·have e:=b3.out (by first|rfl|trivial) h3
   go_wp2;go_ret
   exact⟨by rw[e];rfl,a1.out⟩
 ·have e:=b2.out h0
  go_wp2;go_ret
  exact⟨by rw[e];rfl,a0.out⟩
theorem uBq{D:Nat->Prop}{lo sb mb pb:Nat}{X:Ctx}(m:Mon)(mv:List Value)(w:World)(h:uU w D m mv)(d6:m.small)(hD:∀b,D b->b≠mb)(hs:SpI w lo sb mb pb X) :
 Calls Tryz.prog 88 #[.pointer (some ⟨sb,0,none⟩),.agg mv.toArray] w (fun e w'=>e = .returned (.bool (bP (X.vBx m)))/\SpP w lo sb mb pb X w'):=by
 have KP:=hid (fun(x:World) (hg:SpP w lo sb mb pb X x)=>uug m mv x (show uU x D m mv from uU.vAb (ug1 hg.1 hD) h) d6 hD hg.2)
 have KD:=hid (fun(x:World) (hp:X.prop m) (hg:SpP w lo sb mb pb X x)=>uuh m mv x (show uU x D m mv from uU.vAb (ug1 hg.1 hD) h) d6 hD hp hg.2)
 obtain⟨A,n,c,A',n',c',rfl,c8,c6⟩:=h;have hn:n=m.fs.length:=c8.1;have f2:n'=m.ats.length:=c6.1;have k1:=c8.2.1;have k2:=c6.2.1;have g8:c<=maxLen:=c8.2.2.1;have g9:c'<=maxLen:=c6.2.2.1;unfold maxLen at g8 g9;have QP:Hid (¬X.prop m->bP (X.vBx m)=false):=fun h=>uej fun hc=>h hc.1
 have QD:Hid (6<X.vC4 m->bP (X.vBx m)=false):=fun h=>uej fun hc=>by have:=hc.2.1;omega
 have g5:Hid (∀i (h:i<m.fs.length),¬(X.deg m.fs[i].v m.fs[i].i≠0/\(0<i->(m.fs.getD (i-1) ⟨0,.n 0 []⟩).v<m.fs[i].v))->bP (X.vBx m)=false):=fun i h hn=>uej fun hp=>hn (hp.2.2.1 i h)
 have g6:Hid (∀i (h:i<m.ats.length),¬(m.ats[i].d≠0/\uof m.ats[i].l/\m.ats[i].l.ts.length≠0/\(0<i->ubp (m.ats.getD (i-1) ⟨⟨0,[]⟩,0⟩).l m.ats[i].l<0))->bP (X.vBx m)=false):=fun i h hn=>uej fun hp=>hn (hp.2.2.2 i h)
 have QT:Hid (X.prop m->¬6<X.vC4 m->(∀i (h:i<m.fs.length),X.deg m.fs[i].v m.fs[i].i≠0/\(0<i->(m.fs.getD (i-1) ⟨0,.n 0 []⟩).v<m.fs[i].v))->(∀i (h:i<m.ats.length),m.ats[i].d≠0/\uof m.ats[i].l/\m.ats[i].l.ts.length≠0/\(0<i->ubp (m.ats.getD (i-1) ⟨⟨0,[]⟩,0⟩).l m.ats[i].l<0))->bP (X.vBx m)=true):=fun h1 h2 h3 h4=>ue0 ⟨h1,by omega,h3,h4⟩
 have f9:Hid (X.prop m->∀i (h:i<m.fs.length),X.vr m.fs[i].v):=fun hp i h=>(hp.1 _ (aq h)).1
 generalize bP (X.vBx m)=q at *;generalize X.vC4 m=dm at *;have HN:=hid hn;have e4:=hid f2;have HF:=hid c8;have HA:=hid c6;have g3:Hid (∀i (h:i<m.fs.length),m.fs[i].i.sz<=50):=fun i h=>d6.2.2 _ (aq h)
 have HD:=hid hD;have HS:=hid hs;have j9:=hs.mlt;clear hn f2 c8 c6 d6 hD hs;show Calls Tryz.prog 88 #[.pointer (some ⟨sb,0,none⟩),.agg #[.slice A n c,.slice A' n' c']] w _
 go_enter Tryz.func88,Tryz.ntmps88
 go_upto_region 1 with(fail)
 obtain⟨W,hW⟩:∃W,W=w.alloc (.cells #[.slice A n c,.slice A' n' c'] 83):=⟨_,rfl⟩;have g7:Hid (Below w.heap.size w W):=by rw[hW];exact aa.alloc ab _
 have HP:Hid (Bk W w.heap.size 83 #[.slice A n c,.slice A' n' c']):=by rw[hW];exact Bk.new _ _ _
 rw[<-hW];clear hW;have e2:=hid (SpP.of HS.out g7.out);obtain⟨h8,_,_⟩:=HP.out.facts;go_wp2_with fail
 refine(KP.out W e2.out).mono ?_;rintro e w1⟨rfl,hg⟩;have a2:=hid (e2.out.trans hg);have a4:=hid (Bk.fw HP.out hg.1 (by show ¬w.heap.size=mb;omega))
 clear hg h8;by_cases b5:X.prop m
 ·rw[ue0 b5]
  have g4:=hid (KD.out w1 b5 a2.out);have f8:=hid b5;have g0:=hid (f9.out b5);clear b5;obtain⟨e0,_,_⟩:=a4.out.facts;go_wp2_with fail
  refine g4.out.mono ?_;rintro e w2⟨rfl,hg⟩;have a9:=hid (a2.out.trans hg);have a1:=hid (Bk.fw a4.out hg.1 (by show ¬w.heap.size=mb;omega))
  clear hg e0;by_cases h6:6<dm
  ·have e:q=false:=QD.out h6
   have j6:dm>6:=h6;go_wp2;go_ret
   exact⟨by first|rfl|(rw[e];rfl),a9.out⟩
  have f7:=hid h6;obtain⟨h9,_,_⟩:=a1.out.facts;go_wp2;clear h9 HP a4;go_loopw [22] (fun iv wr=>∃(i:Nat),i<=n/\iv = .int .i64 i/\Hid (SpP w lo sb mb pb X wr)/\Hid (Bk wr w.heap.size 83 #[.slice A n c,.slice A' n' c'])/\Hid (∀j (h:j<m.fs.length),j<i->X.deg m.fs[j].v m.fs[j].i≠0/\(0<j->(m.fs.getD (j-1) ⟨0,.n 0 []⟩).v<m.fs[j].v))) (fun iv _=>n-(intOf iv).toNat)
  case atStart=>exact⟨0,by omega,rfl,a9,a1,fun j _ h=>absurd h (by omega)⟩
  case round=>
   obtain⟨i,hi,rfl,HG,a4,HI⟩:=hrel;by_cases h7:i<n
   ·have b4:i<m.fs.length:=by have:=HN.out;omega
    have hF:uhl wr D m.fs A n c:=uhl.vAb (ug1 HG.out.1 HD.out) HF.out;obtain⟨b,off,v,rfl,c5,hb,hc,hr⟩:=hF.get b4;obtain⟨j0,A2,n2,c2,rfl,b7⟩:=hr;have c0:=hc 0 _ rfl;rw[Nat.add_zero]at c0;have c1:=hc 1 _ rfl;have d9:=hc 2 _ rfl;have QF:=hid (g5.out i b4);have j2:=g3.out i b4;have HV:=hid (g0.out i b4);have a8:Hid (X.deg m.fs[i].v m.fs[i].i≠0/\(0<i->(m.fs.getD (i-1) ⟨0,.n 0 []⟩).v<m.fs[i].v)->∀j (h:j<m.fs.length),j<i+1->X.deg m.fs[j].v m.fs[j].i≠0/\(0<j->(m.fs.getD (j-1) ⟨0,.n 0 []⟩).v<m.fs[j].v)):=fun hx j h hj=>by
     rcases ah j i with h5|h5
     ·exact HI.out j h h5
     ·obtain rfl:j=i:=by omega
      exact hx
    obtain⟨pv,d4⟩:∃pv,(m.fs.getD (i-1) ⟨0,.n 0 []⟩).v=pv:=⟨_,rfl⟩;have d7:Hid (0<i->um wr b (off+(i-1)*3) [.int .i64 pv]):=fun h0=>by
     have hi1:i-1<m.fs.length:=by omega
     obtain⟨b',j5,v,e,_,_,d1,_,A3,n3,c3,rfl,_⟩:=hF.get hi1;injection e with e;injection e with ea eb;subst ea;subst eb;rw[aj,ai hi1]at d4;intro j x hx;rcases j with _|j
     ·simp at hx
      subst hx;rw[<-d4];exact d1 0 _ rfl
     ·simp at hx
    rw[d4]at QF a8;generalize m.fs[i]=f0 at *;have d0:=hid b7;generalize hv0:f0.v=y0 at *;generalize hx0:f0.i=x0 at *;generalize hk0:x0.k=y1 at *;generalize hdd:X.deg y0 x0=dd at *;have f6:=hid hdd;have e1:Hid (¬b=mb):=HD.out b c5;clear b7 c5 hc hdd d4 hF;obtain⟨C,hC⟩:∃C,C=wr.alloc (.cells #[.int .i64 y0,.int .i64 y1,.slice A2 n2 c2] 122):=⟨_,rfl⟩;have a5:Hid (Below wr.heap.size wr C):=by rw[hC];exact aa.alloc ab _
    have HX:Hid (Bk C wr.heap.size 122 #[.int .i64 y0,.int .i64 y1,.slice A2 n2 c2]):=by rw[hC];exact Bk.new _ _ _
    have a7:=hid (HG.out.below a5.out);have a1:=hid (a4.out.below a5.out a4.out.lt);have k0:mb<wr.heap.size:=HG.out.2.mlt;have e7:Hid (¬wr.heap.size=mb):=by exact hid (by omega)
    have e5:Hid (¬w.heap.size=mb):=by exact hid (by omega)
    have KI:Hid (∀x,GSp lo sb mb pb X C x->Calls Tryz.prog 147 #[.pointer (some ⟨sb,0,none⟩),.int .i64 y0,.agg #[.int .i64 y1,.slice A2 n2 c2]] x (fun e w'=>e = .returned (.int .i64 dd)/\SpP x lo sb mb pb X w')):=fun x hx=>by
     have h1:IxR x D x0 [.int .i64 x0.k,.slice A2 n2 c2]:=by
      rw[hk0];exact((d0.out.vAb (uc.of a5.out)).vAb (ug1 hx.1 HD.out))
     have:=ume y0 x0 _ x HV.out h1 j2 (hx.2 a7.out.2);rw[f6.out,hk0]at this;exact this
    go_upto_region 6 with(fail)
    rw[<-hC];clear hC c0 c1 d9;rcases aK i with hi0|hi0
    ·subst hi0
     refine uQ (G:=GSp lo sb mb pb X) (⟨[(w.heap.size,0,[.slice (some ⟨b,off,none⟩) n c,.slice A' n' c']),(wr.heap.size,0,[.int .i64 y0,.int .i64 y1,.slice A2 n2 c2])],[(dd==0)],[],[(0,.v (.pointer (some ⟨sb,0,none⟩))),(5,.v (.int .i64 (((0:Nat):Int)))),(6,.p 1 0)],[(5,.v (.int .i64 dd)),(6,.b (.x 0)),(9,.b .f)]⟩:Sp) [27,28,29,30,31,32,33,34,35,36,37,38,39,40,41,42,43,44,45,46,47,48,49] C (vAi.of (aa.drew)) (by kernel_rfl) (by kernel_rfl) (by kernel_rfl) sNG (by kernel_rfl)
      (fun x hx=>(mI (ud (Bk.fw a1.out hx.1 e5.out)) (mI (ud (Bk.fw HX.out hx.1 e7.out)) mN))) (dIG (ua9 [.v (.pointer (some ⟨sb,0,none⟩)),.v (.int .i64 y0),.v (.agg #[.int .i64 y1,.slice A2 n2 c2])] rfl rfl (by kernel_rfl) (by kernel_rfl) fun x vs hx hC hv=>by
       obtain⟨v1,v2,v3,rfl,h1,h2,h3⟩:=um8 hv;obtain rfl:v1 = .pointer (some ⟨sb,0,none⟩):=h1;obtain rfl:v2 = .int .i64 y0:=h2;obtain rfl:v3 = .agg #[.int .i64 y1,.slice A2 n2 c2]:=h3;refine(KI.out x hx).mono ?_;rintro en w2⟨rfl,hb⟩;exact⟨_,rfl,rfl,hb.toG⟩) (
      dIG (uaz (op:= .eql) rfl rfl .i64 dd 0 (.x 0) (by kernel_rfl) rfl) (
      dIG (uaz (op:= .gtr) rfl rfl .i64 (((0:Nat):Int)) 0 .f (by kernel_rfl) (utg (show ¬((((0:Nat):Int)):Int)>0 by omega))) (dNG)))) ?_
     intro S x1 a3 hS;obtain⟨c4,_⟩:S 22 = .bool ((dd==0))/\True:=hS (l:=[(22,.b (.x 0))]) (by kernel_rfl)
     clear hS;simp only[nv,Nat.reduceAdd,aB,aE,aC,List.drop_zero,c4];clear c4;have a2:=hid (a7.out.trans (a3.toP a7.out.2));have b1:=hid (Bk.fw a1.out a3.1 (by show ¬w.heap.size=mb;omega))
     clear a3;by_cases a6:dd=0
     ·have b2:(dd==0)=true:=by simp[a6]
      have e:q=false:=QF.out (fun h=>h.1 a6)
      simp only[b2,Bool.true_or,Bool.or_true];go_wp2;go_ret
      exact⟨by first|rfl|(rw[e];rfl),a2.out⟩
     ·have b2:(dd==0)=false:=by simp[a6]
      simp only[b2,Bool.false_or,Bool.not_false,Bool.true_and,Bool.and_true];have b0:=hid (a8.out ⟨a6,fun h=>absurd h (by omega)⟩)
      go_wp2;go_roundw
      case rel=>exact⟨0+1,by omega,by go_num,a2,b1,b0⟩
      case measure=>simp[intOf];omega
    ·have HQ:Hid (um C b (off+(i-1)*3) [.int .i64 pv]):=(d7.out hi0).sure a5.out hb
     have d8:Hid (b<C.heap.size):=af hb a5.out.size;have g1:Hid (¬b=mb):=e1.out;refine uQ (G:=GSp lo sb mb pb X) (⟨[(w.heap.size,0,[.slice (some ⟨b,off,none⟩) n c,.slice A' n' c']),(wr.heap.size,0,[.int .i64 y0,.int .i64 y1,.slice A2 n2 c2]),(b,(off+(i-1)*3),[.int .i64 pv])],[(dd==0),decide (pv≥y0)],[],[(0,.v (.pointer (some ⟨sb,0,none⟩))),(3,.p 0 0),(5,.v (.int .i64 ((i:Int)))),(6,.p 1 0)],[(5,.v (.int .i64 dd)),(6,.b (.x 0)),(9,.b .t),(14,.v (.int .i64 (((i-1:Nat):Int)))),(15,.p 2 0),(20,.b (.x 1))]⟩:Sp) [27,28,29,30,31,32,33,34,35,36,37,38,39,40,41,42,43,44,45,46,47,48,49] C (vAi.of (aa.drew)) (by kernel_rfl) (by kernel_rfl) (by kernel_rfl) sNG (by kernel_rfl)
      (fun x hx=>(mI (ud (Bk.fw a1.out hx.1 e5.out)) (mI (ud (Bk.fw HX.out hx.1 e7.out)) (mI (HQ.out.vAz hx.1 d8.out g1.out) mN)))) (dIG (ua9 [.v (.pointer (some ⟨sb,0,none⟩)),.v (.int .i64 y0),.v (.agg #[.int .i64 y1,.slice A2 n2 c2])] rfl rfl (by kernel_rfl) (by kernel_rfl) fun x vs hx hC hv=>by
       obtain⟨v1,v2,v3,rfl,h1,h2,h3⟩:=um8 hv;obtain rfl:v1 = .pointer (some ⟨sb,0,none⟩):=h1;obtain rfl:v2 = .int .i64 y0:=h2;obtain rfl:v3 = .agg #[.int .i64 y1,.slice A2 n2 c2]:=h3;refine(KI.out x hx).mono ?_;rintro en w2⟨rfl,hb⟩;exact⟨_,rfl,rfl,hb.toG⟩) (
      dIG (uaz (op:= .eql) rfl rfl .i64 dd 0 (.x 0) (by kernel_rfl) rfl) (
      dIG (uaz (op:= .gtr) rfl rfl .i64 ((i:Int)) 0 .t (by kernel_rfl) (uzy (show(((i:Int)):Int)>0 by omega))) (
      dIG (ujf (op:= .sub) rfl rfl ((i:Int)) 1 (((i-1:Nat):Int)) (by kernel_rfl) (.inr ⟨rfl,(by omega)⟩) (fun _=>by omega)) (
      dIG (uE rfl rfl b (off) n c .i64 (i-1) 3 2 (by kernel_rfl) (by kernel_rfl) (fun _=>by omega) rfl) (
      dIG (uaz (op:= .geq) rfl rfl .i64 pv y0 (.x 1) (by kernel_rfl) rfl) (dNG))))))) ?_
     intro S x1 a3 hS;obtain⟨c4,_⟩:S 22 = .bool (((dd==0)||(!(dd==0)&&decide (pv≥y0))))/\True:=hS (l:=[(22,.b (.o (.x 0) (.a (.n (.x 0)) (.x 1))))]) (by kernel_rfl)
     clear hS;simp only[nv,Nat.reduceAdd,aB,aE,aC,List.drop_zero,c4];clear c4;have a2:=hid (a7.out.trans (a3.toP a7.out.2));have b1:=hid (Bk.fw a1.out a3.1 (by show ¬w.heap.size=mb;omega))
     clear a3;by_cases a6:dd=0
     ·have b2:(dd==0)=true:=by simp[a6]
      have e:q=false:=QF.out (fun h=>h.1 a6)
      simp only[b2,Bool.true_or,Bool.or_true];go_wp2;go_ret
      exact⟨by first|rfl|(rw[e];rfl),a2.out⟩
     ·have b2:(dd==0)=false:=by simp[a6]
      simp only[b2,Bool.false_or,Bool.not_false,Bool.true_and,Bool.and_true];by_cases f3:pv≥y0
      ·have b3:decide (pv≥y0)=true:=decide_eq_true f3
       have e:q=false:=QF.out (fun h=>by have:=h.2 hi0;omega)
       simp only[b3];go_wp2;go_ret
       exact⟨by first|rfl|(rw[e];rfl),a2.out⟩
      ·have b3:decide (pv≥y0)=false:=aQ f3
       have b0:=hid (a8.out ⟨a6,fun h=>by omega⟩)
       simp only[b3];go_wp2;go_roundw
       case rel=>exact⟨i+1,by omega,by go_num,a2,b1,b0⟩
       case measure=>simp[intOf];omega
   ·obtain rfl:n=i:=by omega
    have f5:Hid (∀j (h:j<m.fs.length),X.deg m.fs[j].v m.fs[j].i≠0/\(0<j->(m.fs.getD (j-1) ⟨0,.n 0 []⟩).v<m.fs[j].v)):=fun j h=>HI.out j h (by have:=HN.out;omega)
    obtain⟨e0,_,_⟩:=a4.out.facts;clear HI;go_wp2;clear e0;go_loopw [54] (fun iv wr=>∃(i:Nat),i<=n'/\iv = .int .i64 i/\Hid (SpP w lo sb mb pb X wr)/\Hid (Bk wr w.heap.size 83 #[.slice A n c,.slice A' n' c'])/\Hid (∀j (h:j<m.ats.length),j<i->m.ats[j].d≠0/\uof m.ats[j].l/\m.ats[j].l.ts.length≠0/\(0<j->ubp (m.ats.getD (j-1) ⟨⟨0,[]⟩,0⟩).l m.ats[j].l<0))) (fun iv _=>n'-(intOf iv).toNat)
    case atStart=>exact⟨0,by omega,rfl,HG,a4,fun j _ h=>absurd h (by omega)⟩
    case round=>
     obtain⟨i,hi,rfl,HG,a4,HI⟩:=hrel;by_cases h7:i<n'
     ·have b4:i<m.ats.length:=by have:=e4.out;omega
      have hF:uht wr D m.ats A' n' c':=uht.vAb (ug1 HG.out.1 HD.out) HA.out;obtain⟨b,off,v,rfl,c5,hb,hc,hr⟩:=hF.get b4;obtain⟨j0,A2,n2,c2,rfl,b7⟩:=hr;have c0:=hc 0 _ rfl;rw[Nat.add_zero]at c0;have c1:=hc 1 _ rfl;have d9:=hc 2 _ rfl;have QF:=hid (g6.out i b4);have a8:Hid (m.ats[i].d≠0/\uof m.ats[i].l/\m.ats[i].l.ts.length≠0/\(0<i->ubp (m.ats.getD (i-1) ⟨⟨0,[]⟩,0⟩).l m.ats[i].l<0)->∀j (h:j<m.ats.length),j<i+1->m.ats[j].d≠0/\uof m.ats[j].l/\m.ats[j].l.ts.length≠0/\(0<j->ubp (m.ats.getD (j-1) ⟨⟨0,[]⟩,0⟩).l m.ats[j].l<0)):=fun hx j h hj=>by
       rcases ah j i with h5|h5
       ·exact HI.out j h h5
       ·obtain rfl:j=i:=by omega
        exact hx
      obtain⟨pl,d3⟩:∃pl,(m.ats.getD (i-1) ⟨⟨0,[]⟩,0⟩).l=pl:=⟨_,rfl⟩;have d7:Hid (0<i->∃A3 n3 c3,um wr b (off+(i-1)*3) [.int .i64 pl.c,.slice A3 n3 c3]/\uoz wr D pl [.int .i64 pl.c,.slice A3 n3 c3]):=fun h0=>by
       have hi1:i-1<m.ats.length:=by omega
       obtain⟨b',j5,v,e,_,_,d1,_,A3,n3,c3,rfl,d5⟩:=hF.get hi1;injection e with e;injection e with ea eb;subst ea;subst eb;rw[aj,ai hi1]at d3;subst d3;refine⟨A3,n3,c3,fun j x hx=>?_,d5⟩
       rcases j with _|_|j
       ·simp at hx
        subst hx;exact d1 0 _ rfl
       ·simp at hx
        subst hx;exact d1 1 _ rfl
       ·simp at hx
      have f1:n2=m.ats[i].l.ts.length:=by
       obtain⟨_,A3,n3,c3,e,j1⟩:=b7;simp only[List.cons.injEq,Value.slice.injEq,true_and,and_true]at e;obtain⟨rfl,rfl,rfl⟩:=e;exact j1.1
      rw[<-f1]at QF a8;rw[d3]at QF a8;generalize m.ats[i]=a0 at *;have d0:=hid b7;generalize hv0:a0.d=y2 at *;generalize hl0:a0.l=l0 at *;generalize hk0:l0.c=y0 at *;have e1:Hid (¬b=mb):=HD.out b c5;clear b7 c5 hc d3 hF f1;obtain⟨C,hC⟩:∃C,C=wr.alloc (.cells #[.int .i64 y0,.slice A2 n2 c2,.int .i64 y2] 128):=⟨_,rfl⟩;have a5:Hid (Below wr.heap.size wr C):=by rw[hC];exact aa.alloc ab _
      have HX:Hid (Bk C wr.heap.size 128 #[.int .i64 y0,.slice A2 n2 c2,.int .i64 y2]):=by rw[hC];exact Bk.new _ _ _
      have a7:=hid (HG.out.below a5.out);have g2:=hid (d0.out.vAb (uc.of a5.out));have e6:=hid (a4.out.below a5.out a4.out.lt);go_upto_region 12 with(fail)
      rw[<-hC];clear hC c0 c1 d9;obtain⟨j3,_,_⟩:=HX.out.facts;by_cases d2:y2=0
      ·have e:q=false:=QF.out (fun h=>h.1 d2)
       subst d2;go_wp2;go_ret
       exact⟨by first|rfl|(rw[e];rfl),a7.out⟩
      have KI:=hid (ukr l0 _ C g2.out);go_wp2_with fail
      refine KI.out.mono ?_;rintro e w1⟨rfl,c7⟩;have a2:=hid (a7.out.below c7);have b8:=hid (HX.out.below c7 HX.out.lt);have a1:=hid (e6.out.below c7 e6.out.lt);have b6:=hid (a5.out.trans (c7.mono a5.out.size));clear c7 j3;by_cases c9:uof l0
      ·rw[ue0 c9]
       have e3:=hid c9;clear c9;obtain⟨j4,_,_⟩:=b8.out.facts;by_cases e9:n2=0
       ·have e:q=false:=QF.out (fun h=>h.2.2.1 e9)
        subst e9;go_wp2;go_ret
        exact⟨by first|rfl|(rw[e];rfl),a2.out⟩
       have j7:¬(n2:Int)=0:=by omega
       have j8:((n2:Int)==0)=false:=by simp;omega
       go_upto_region 14 with(fail)
       clear j4;rcases aK i with hi0|hi0
       ·subst hi0
        refine ue (⟨[(w.heap.size,0,[.slice A n c,.slice (some ⟨b,off,none⟩) n' c']),(wr.heap.size,0,[.int .i64 y0,.slice A2 n2 c2,.int .i64 y2])],[],[],[(7,.v (.int .i64 (((0:Nat):Int))))],[(1,.b .f)]⟩:Sp) [75,76,77,78,79,80,81,82,83,84,85,86,87,88,89] w1 (aa.drew) (by kernel_rfl) (by kernel_rfl) (by kernel_rfl) sN (by kernel_rfl)
         (fun x hx=>(mI (ud (a1.out.below hx a1.out.lt)) (mI (ud (b8.out.below hx b8.out.lt)) mN))) (dI (ub3 (op:= .gtr) rfl rfl .i64 (((0:Nat):Int)) 0 .f (by kernel_rfl) (utg (show ¬((((0:Nat):Int)):Int)>0 by omega))) (dN)) ?_
        intro S x1 a3 hS;obtain⟨b9,_⟩:S 14 = .bool false/\True:=hS (l:=[(14,.v (.bool false))]) (by kernel_rfl)
        clear hS;simp only[nv,Nat.reduceAdd,aB,aE,aC,List.drop_zero,b9];clear b9;have a9:=hid (a2.out.below a3);have b1:=hid (a1.out.below a3 a1.out.lt);clear a3;have b0:=hid (a8.out ⟨d2,e3.out,by omega,fun h=>absurd h (by omega)⟩)
        go_wp2;go_roundw
        case rel=>exact⟨0+1,by omega,by go_num,a9,b1,b0⟩
        case measure=>simp[intOf];omega
       ·obtain⟨A3,n3,c3,e8,d5⟩:=d7.out hi0
        have HQ:Hid (um w1 b (off+(i-1)*3) [.int .i64 pl.c,.slice A3 n3 c3]):=e8.sure b6.out hb;have d8:Hid (b<w1.heap.size):=af hb b6.out.size;obtain⟨z,hz⟩:∃z,Hid (ubp pl l0=z):=⟨_,hid rfl⟩;have KC:Hid (∀x,Below w1.heap.size w1 x->Calls Tryz.prog 131 #[.agg #[.int .i64 pl.c,.slice A3 n3 c3],.agg #[.int .i64 y0,.slice A2 n2 c2]] x (uY (.int .i64 z) x)):=fun x hx=>by
         have:=usm (D:=D) (D':=D) pl l0 _ _ x (d5.vAb (uc.of (b6.out.trans (hx.mono b6.out.size)))) (d0.out.vAb (uc.of (b6.out.trans (hx.mono b6.out.size))));rw[hz.out]at this;exact this
        generalize pl.c=pc at *;clear e8 d5;refine ue (⟨[(w.heap.size,0,[.slice A n c,.slice (some ⟨b,off,none⟩) n' c']),(wr.heap.size,0,[.int .i64 y0,.slice A2 n2 c2,.int .i64 y2]),(b,(off+(i-1)*3),[.int .i64 pc,.slice A3 n3 c3])],[decide (z≥0)],[],[(3,.p 0 0),(7,.v (.int .i64 ((i:Int)))),(8,.p 1 0)],[(1,.b .t),(6,.v (.int .i64 (((i-1:Nat):Int)))),(7,.p 2 0),(12,.v (.int .i64 z)),(13,.b (.x 0))]⟩:Sp) [75,76,77,78,79,80,81,82,83,84,85,86,87,88,89] w1 (aa.drew) (by kernel_rfl) (by kernel_rfl) (by kernel_rfl) sN (by kernel_rfl)
         (fun x hx=>(mI (ud (a1.out.below hx a1.out.lt)) (mI (ud (b8.out.below hx b8.out.lt)) (mI (HQ.out.sure hx d8.out) mN)))) (dI (ub3 (op:= .gtr) rfl rfl .i64 ((i:Int)) 0 .t (by kernel_rfl) (uzy (show(((i:Int)):Int)>0 by omega))) (
         dI (uj8 (op:= .sub) rfl rfl ((i:Int)) 1 (((i-1:Nat):Int)) (by kernel_rfl) (.inr ⟨rfl,(by omega)⟩) (fun _=>by omega)) (
         dI (uas rfl rfl b (off) n' c' .i64 (i-1) 3 2 (by kernel_rfl) (by kernel_rfl) (fun _=>by omega) rfl) (
         dI (ug [.v (.agg #[.int .i64 pc,.slice A3 n3 c3]),.v (.agg #[.int .i64 y0,.slice A2 n2 c2])] rfl rfl (by kernel_rfl) (by kernel_rfl) fun x vs hx hC hv=>by
          obtain⟨v1,v2,rfl,h1,h2⟩:=uec hv;obtain rfl:v1 = .agg #[.int .i64 pc,.slice A3 n3 c3]:=h1;obtain rfl:v2 = .agg #[.int .i64 y0,.slice A2 n2 c2]:=h2;refine(KC.out x hx).mono ?_;rintro en w2⟨rfl,hb⟩;exact⟨_,rfl,rfl,hb⟩) (
         dI (ub3 (op:= .geq) rfl rfl .i64 z 0 (.x 0) (by kernel_rfl) rfl) (dN)))))) ?_
        intro S x1 a3 hS;obtain⟨b9,_⟩:S 14 = .bool (decide (z≥0))/\True:=hS (l:=[(14,.b (.x 0))]) (by kernel_rfl)
        clear hS;simp only[nv,Nat.reduceAdd,aB,aE,aC,List.drop_zero,b9];clear b9;have a9:=hid (a2.out.below a3);have b1:=hid (a1.out.below a3 a1.out.lt);clear a3;by_cases f4:z≥0
        ·have b3:decide (z≥0)=true:=decide_eq_true f4
         have e:q=false:=QF.out (fun h=>by have:=h.2.2.2 hi0;rw[hz.out]at this;omega)
         simp only[b3];go_wp2;go_ret
         exact⟨by first|rfl|(rw[e];rfl),a9.out⟩
        ·have b3:decide (z≥0)=false:=aQ f4
         have b0:=hid (a8.out ⟨d2,e3.out,by omega,fun h=>by rw[hz.out];omega⟩)
         simp only[b3];go_wp2;go_roundw
         case rel=>exact⟨i+1,by omega,by go_num,a9,b1,b0⟩
         case measure=>simp[intOf];omega
      ·have e:q=false:=QF.out (fun h=>c9 h.2.1)
       rw[uej c9];go_wp2;go_ret
       exact⟨by first|rfl|(rw[e];rfl),a2.out⟩
     ·obtain rfl:i=n':=by omega
      have e:q=true:=QT.out f8.out f7.out f5.out (fun j h=>HI.out j h (by have:=e4.out;omega))
      go_wp2;go_ret
      exact⟨by first|rfl|(rw[e];rfl),HG.out⟩
 ·have e:q=false:=QP.out b5
  rw[uej b5];go_wp2;go_ret
  exact⟨by first|rfl|(rw[e];rfl),a2.out⟩
end Go.Proofs.YtnbbpmagijpmpaaGreatDoor
