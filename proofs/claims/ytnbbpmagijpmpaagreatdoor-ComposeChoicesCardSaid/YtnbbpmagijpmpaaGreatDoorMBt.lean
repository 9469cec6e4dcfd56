/-
  Polynomials: equal limbs; variables of a context.
-/
import Derived.Test.YtnbbpmagijpmpaaGreatDoorMBo
set_option linter.unusedVariables false
set_option linter.unusedSimpArgs false
namespace Go.Proofs.YtnbbpmagijpmpaaGreatDoor
open Go.Lib (hid)
open Go.RowKit AC
def eqL(k k':Nat)(f g:Nat->Nat):Prop:=k=k'/\∀i,i<k->f i=g i
set_option maxHeartbeats 16000000
set_option maxRecDepth 100000
theorem ujc{D D':Nat->Prop}{k k':Nat}{f g:Nat->Nat}(v v':Value)(w:World)(h:ubz w D v k f)(h':ubz w D' v' k' g):Calls Tryz.prog 87 #[v,v'] w (uY (.bool (bP (eqL k k' f g))) w):=by
 obtain⟨_,A,c,rfl,b8,b5,a6⟩:=h;obtain⟨_,A',c',rfl,b9,b6,a7⟩:=h';unfold maxLen at b5 b6;obtain⟨q,hq⟩:∃q,Hid (bP (eqL k k' f g)=q):=⟨_,rfl⟩;rw[hq.out];have QF:Hid (¬eqL k k' f g->q=false):=fun h=>by rw[<-hq.out];exact uej h
 have QT:Hid (eqL k k' f g->q=true):=fun h=>by rw[<-hq.out];exact ue0 h
 have HA:=hid a6;have b1:=hid a7;clear hq a6 a7;go_enter Tryz.func87,Tryz.ntmps87
 by_cases hk:k=k'
 ·subst hk
  go_wp2;go_loopw [13] (fun iv wr=>∃(i:Nat),i<=k/\iv = .int .i64 i/\Hid (Below w.heap.size w wr)/\Hid (∀j,j<i->f j=g j)) (fun iv _=>k-(intOf iv).toNat)
  case atStart=>exact⟨0,by omega,rfl,aa,fun j h=>absurd h (by omega)⟩
  case round=>
   obtain⟨i,hi,rfl,HB,HG⟩:=hrel;by_cases a2:i<k
   ·obtain⟨b,off,rfl,hD,hb,hc⟩:=HA.out (by omega)
    obtain⟨b',a0,rfl,b4,a8,b0⟩:=b1.out (by omega)
    have HC:Hid (um wr b (off+i*1) [.int .u32 (f i:Nat)]):=fun j x hx=>by
     rcases j with _|j
     ·simp at hx
      subst hx;have:=ux (hc i a2) HB.out hb;simpa using this
     ·simp at hx
    have b3:Hid (b<wr.heap.size):=af hb HB.out.size;have a5:Hid (um wr b' (a0+i*1) [.int .u32 (g i:Nat)]):=fun j x hx=>by
     rcases j with _|j
     ·simp at hx
      subst hx;have:=ux (b0 i a2) HB.out a8;simpa using this
     ·simp at hx
    have b2:Hid (b'<wr.heap.size):=af a8 HB.out.size;obtain⟨y,hy⟩:∃y,Hid (f i=y):=⟨_,rfl⟩;obtain⟨z,hz⟩:∃y,Hid (g i=y):=⟨_,rfl⟩;rw[hy.out]at HC;rw[hz.out]at a5;clear hc b0 hD b4;go_upto_region 6 with(fail)
    refine ue (⟨[(b,(off+i*1),[.int .u32 (((y:Nat):Int))]),(b',(a0+i*1),[.int .u32 (((z:Nat):Int))])],[((y:Int) != (z:Int))],[],[(0,.v (.slice (some ⟨b,off,none⟩) k c)),(1,.v (.slice (some ⟨b',a0,none⟩) k c')),(5,.v (.int .i64 ((i:Int))))],[(2,.p 0 0),(6,.p 1 0),(8,.b (.x 0))]⟩:Sp) [16,17,18,19,20,21,22,23,24] wr (aa.drew) (by kernel_rfl) (by kernel_rfl) (by kernel_rfl) sN (by kernel_rfl)
     (fun x hx=>(mI (HC.out.sure hx b3.out) (mI (a5.out.sure hx b2.out) mN))) (dI (uas rfl rfl b (off) k c .i64 i 1 0 (by kernel_rfl) (by kernel_rfl) (fun _=>by omega) rfl) (
     dI (uas rfl rfl b' (a0) k c' .i64 i 1 1 (by kernel_rfl) (by kernel_rfl) (fun _=>by omega) rfl) (
     dI (ub3 (op:= .neq) rfl rfl .u32 (((y:Nat):Int)) (((z:Nat):Int)) (.x 0) (by kernel_rfl) rfl) (dN)))) ?_
    intro S x1 a9 hS;obtain⟨g8,_⟩:S 8 = .bool (((y:Int) != (z:Int)))/\True:=hS (l:=[(8,.b (.x 0))]) (by kernel_rfl)
    clear hS;simp only[nv,Nat.reduceAdd,aB,aE,aC,List.drop_zero,g8];clear g8;have a4:=hid (HB.out.trans (a9.mono HB.out.size));clear a9;by_cases a3:y=z
    ·have a1:((y:Int) != (z:Int))=false:=by subst a3;simp
     rw[a1];go_wp2;go_roundw
     case rel=>exact⟨i+1,by omega,by go_num,a4,fun j hj=>by
      rcases ah j i with h|h
      ·exact HG.out j h
      ·obtain rfl:j=i:=by omega
       rw[hy.out,hz.out,a3]⟩
     case measure=>simp[intOf];omega
    ·have a1:((y:Int) != (z:Int))=true:=by simp;omega
     have e:q=false:=QF.out (fun h=>a3 (by rw[<-hy.out,<-hz.out];exact h.2 i a2))
     rw[a1];go_wp2;go_ret
     exact⟨by first|rfl|(rw[e];rfl),a4.out⟩
   ·obtain rfl:i=k:=by omega
    have e:q=true:=QT.out ⟨rfl,HG.out⟩;go_wp2;go_ret
    exact⟨by first|rfl|(rw[e];rfl),HB.out⟩
 ·have e:q=false:=QF.out (fun h=>hk h.1)
  have b7:¬(k:Int)=k':=by omega
  go_wp2;go_ret
  exact⟨by first|rfl|(rw[e];rfl),aa⟩
theorem uhh{lo sb mb pb:Nat}{X:Ctx}(v:Int)(w:World)(h:Spc w lo sb mb pb X):Calls Tryz.prog 105 #[.pointer (some ⟨sb,0,none⟩),.int .i64 v] w (uY (.bool (bP (X.vr v))) w):=by
 obtain⟨dA,dn,dc,vA,vn,vc,rk,rm,rA,rn,rc,hb,hd,hv,hr⟩:=h;have hn:vn=X.vars.length:=hv.1;have QF:Hid (¬(-1<=v/\v<vn)->bP (X.vr v)=false):=fun h=>uej (by unfold Ctx.vr;rw[<-hn];exact h)
 have QT:Hid ((-1<=v/\v<vn)->bP (X.vr v)=true):=fun h=>ue0 (by unfold Ctx.vr;rw[<-hn];exact h)
 generalize bP (X.vr v)=q at *;obtain⟨hc,_,_⟩:=Bk.facts hb;clear hb hd hv hr hn;go_enter Tryz.func105,Tryz.ntmps105
 by_cases h1 : -1<=v
 ·by_cases h2:v<vn
  ·have e:q=true:=QT.out ⟨h1,h2⟩
   go_wp2;go_ret
   exact⟨by first|rfl|(rw[e];rfl),aa⟩
  ·have e:q=false:=QF.out (fun h=>h2 h.2)
   go_wp2;go_ret
   exact⟨by first|rfl|(rw[e];rfl),aa⟩
 ·have e:q=false:=QF.out (fun h=>h1 h.1)
  go_wp2;go_ret
  exact⟨by first|rfl|(rw[e];rfl),aa⟩
set_option maxHeartbeats 200000
set_option maxRecDepth 512
def uG9(lo:Nat)(t:Tr)(w:World)(e:Ending)(w':World):Prop:=∃A n c,e = .returned (.agg #[.int .i64 t.k,.int .i64 t.m,.slice A n c])/\TrR w' (· < lo) t [.int .i64 t.k,.int .i64 t.m,.slice A n c]/\Below w.heap.size w w'
set_option maxHeartbeats 16000000
set_option maxRecDepth 100000
theorem uks{lo sb mb pb:Nat}{X:Ctx}(v:Int)(a4:X.vr v)(w:World)(h:Spc w lo sb mb pb X):Calls Tryz.prog 106 #[.pointer (some ⟨sb,0,none⟩),.int .i64 v] w (uG9 lo (X.ty v) w):=by
 obtain⟨dA,dn,dc,vA,vn,vc,rk,rm,rA,rn,rc,hb,hd,hv,hr⟩:=h;have hn:vn=X.vars.length:=hv.1;have b1:=hv.2.1;have a5:vc<=maxLen:=hv.2.2.1;unfold maxLen at a5;obtain⟨hc,hf,a9⟩:=Bk.facts hb;by_cases h1:v = -1
 ·subst h1
  obtain⟨A,n,c,e,_,hk,hm⟩:=hr.form;simp only[List.cons.injEq,Value.int.injEq,true_and,and_true,Value.slice.injEq]at e;obtain⟨rfl,rfl,rfl,rfl,rfl⟩:=e;have ht:X.ty (-1)=X.res:=rfl;rw[ht];have HR:=hid hr;have HW:=hid (Bk.new w 25 #[.int .i64 X.res.k,.int .i64 X.res.m,.slice rA rn rc]);clear hr hb hd hv hn;generalize hzk:X.res.k=x0 at *;generalize hzm:X.res.m=x1 at *;go_enter Tryz.func106,Tryz.ntmps106
  go_wp2;refine bodyPost_ret (results_cell_row rfl _ _ w.heap.size 25 #[.int .i64 x0,.int .i64 x1,.slice rA rn rc] (0,0) _ rfl HW.out Tryz.underlying25 rfl (by kernel_rfl)) rfl ?_
  refine⟨rA,rn,rc,by first|(rw[hzk,hzm];done)|(rw[hzk,hzm];rfl),?_,aa.alloc ab _⟩
  rw[hzk,hzm];exact HR.out.below (aa.alloc ab _)
 ·have b0:0<=v/\v<vn:=by unfold Ctx.vr at a4;omega
  obtain⟨i,hi⟩:∃i:Nat,v=i:=⟨v.toNat,by omega⟩
  subst hi;have a2:i<X.vars.length:=by omega
  have a8:i<vn:=by omega
  have ht:X.ty (i:Int)=X.vars[i]:=by
   unfold Ctx.ty;rw[if_neg h1,Int.toNat_natCast,aj,ai a2];rfl
  rw[ht];obtain⟨b,off,A',a1,a0,rfl,a6,e0,e1,e2,a3⟩:=hv.get (i:=i) a2;have HR:=hid a3;have HW:=hid (Bk.new w 25 #[.int .i64 X.vars[i].k,.int .i64 X.vars[i].m,.slice A' a1 a0]);clear hr hb hd hv hn a3 ht a4;generalize hzk:X.vars[i].k=x0 at *;generalize hzm:X.vars[i].m=x1 at *;have a7:(0:Int)<=i:=by omega
  go_enter Tryz.func106,Tryz.ntmps106
  go_wp2;refine bodyPost_ret (results_cell_row rfl _ _ w.heap.size 25 #[.int .i64 x0,.int .i64 x1,.slice A' a1 a0] (0,0) _ rfl HW.out Tryz.underlying25 rfl (by kernel_rfl)) rfl ?_
  refine⟨A',a1,a0,by first|(rw[hzk,hzm];done)|(rw[hzk,hzm];rfl),?_,aa.alloc ab _⟩
  rw[hzk,hzm];exact HR.out.below (aa.alloc ab _)
theorem uqg{D:Nat->Prop}(l:List (Int×Int))(A:Option Addr)(len cap:Nat)(g:FuncId)(fi ca:Array Value)(p:Int×Int->Prop)(w:World)(hs:LtS w D l A len cap)(he:Enters Tryz.prog g)
 (a7:∀(i:Nat) (h:i<l.length) (x:World),Below w.heap.size w x->Calls Tryz.prog g (fi ++ #[.agg #[.int .i64 l[i].1,.int .i64 l[i].2]]++ca) x (uY (.bool (bP (p l[i]))) x)) :
 Calls Tryz.prog 298 #[.slice A len cap,.func (.func g) fi ca] w (fun e w'=>((∃i:Nat,e = .returned (.int .i64 (i:Int))/\∃t∈l,p t)\/(e = .returned (.int .i64 (-1))/\∀t∈l,¬p t))/\Below w.heap.size w w'):=by
 unfold Enters at he;have a6:len=l.length:=hs.1;have b0:cap<=maxLen:=hs.2.2.1;have b2:=hs.2.1;have a3:=hid a6;have HS:=hid hs;have a8:=hid a7;unfold maxLen at b0;clear hs a6 a7;go_enter Tryz.func298,Tryz.ntmps298
 go_wp2;go_loopw [8] (fun iv wr=>∃i:Nat,i<=len/\iv = .int .i64 i/\Hid (Below w.heap.size w wr)/\Hid (∀(j:Nat) (h:j<l.length),j<i->¬p l[j])) (fun iv _=>len-(intOf iv).toNat)
 case atStart=>exact⟨0,by omega,rfl,aa,fun j _ h=>absurd h (by omega)⟩
 case round=>
  obtain⟨i,hi,rfl,HB,HG⟩:=hrel;by_cases b3:i<len
  ·have a1:i<l.length:=by have:=a3.out;omega
   obtain⟨b,off,v,rfl,hD,hb,hc,_,_,rfl⟩:=HS.out.get a1;have a0:=hc.sure HB.out hb;have b1:b<wr.heap.size:=af hb HB.out.size;have c0:=a0 0 _ rfl;rw[Nat.add_zero]at c0;have c1:=a0 1 _ rfl;have key:=a8.out i a1 wr HB.out;obtain⟨q,hq⟩:∃q,Hid (bP (p l[i])=q):=⟨_,hid rfl⟩;rw[hq.out]at key;have a4:Hid (q=true↔p l[i]):=by rw[<-hq.out];exact hid uhg
   generalize l[i].1=x0 at *;generalize l[i].2=x1 at *;have a9:=hid key;clear key a0 hc hD hq;go_wp2_with fail
   refine a9.out.mono ?_;rintro e w2⟨rfl,a5⟩;have a2:=hid (HB.out.trans (a5.mono HB.out.size));clear a5;cases q with
   | true=>
    go_wp2;go_ret
    exact⟨.inl ⟨i,rfl,l[i],aq a1,a4.out.1 (by first|rfl|trivial)⟩,a2.out⟩
   | false=>
    go_wp2;go_roundw
    case rel=>exact⟨i+1,by omega,by go_num,a2,fun j h hj=>by
     rcases ah j i with h5|h5
     ·exact HG.out j h h5
     ·obtain rfl:j=i:=by omega
      intro hp;have:=a4.out.2 hp;simp at this⟩
    case measure=>simp[intOf];omega
  ·obtain rfl:i=len:=by omega
   go_wp2;go_ret
   exact⟨.inr ⟨rfl,fun t ht=>by
    obtain⟨j,hj,rfl⟩:=aW ht;exact HG.out j hj (by have:=a3.out;omega)⟩,HB.out⟩
theorem ujt{D:Nat->Prop}(l:List (Int×Int))(A:Option Addr)(len cap:Nat)(g:FuncId)(fi ca:Array Value)(p:Int×Int->Prop)(w:World)(hs:LtS w D l A len cap)(he:Enters Tryz.prog g)
 (a0:∀(i:Nat) (h:i<l.length) (x:World),Below w.heap.size w x->Calls Tryz.prog g (fi ++ #[.agg #[.int .i64 l[i].1,.int .i64 l[i].2]]++ca) x (uY (.bool (bP (p l[i]))) x)) :
 Calls Tryz.prog 253 #[.slice A len cap,.func (.func g) fi ca] w (uY (.bool (bP (∃t∈l,p t))) w):=by
 have a1:=hid (uqg l A len cap g fi ca p w hs he a0);have QF:Hid ((∀t∈l,¬p t)->bP (∃t∈l,p t)=false):=fun h=>uej fun⟨t,h1,h2⟩=>h t h1 h2
 have QT:Hid ((∃t∈l,p t)->bP (∃t∈l,p t)=true):=fun h=>ue0 h
 generalize bP (∃t∈l,p t)=q at *;clear hs a0;go_enter Tryz.func253,Tryz.ntmps253
 go_wp2_with fail
 refine a1.out.mono ?_;rintro e w2⟨⟨i,rfl,hf⟩|⟨rfl,hf⟩,hb⟩
 ·have e:q=true:=QT.out hf
  have HB:=hid hb;have hi:(0:Int)<=(i:Int):=by omega
  clear hf hb;go_wp2;go_ret
  exact⟨by first|rfl|(rw[e];rfl),HB.out⟩
 ·have e:q=false:=QF.out hf
  have HB:=hid hb;clear hf hb;go_wp2;go_ret
  exact⟨by first|rfl|(rw[e];rfl),HB.out⟩
set_option maxHeartbeats 200000
set_option maxRecDepth 512
theorem uC5(k m:Int)(A:Option Addr)(n c:Nat)(x:World):(Instr.field 25 (.agg #[.int .i64 k,.int .i64 m,.slice A n c]) 0).run Tryz.prog x = .ok (.int .i64 k) x:=by kernel_rfl
set_option maxHeartbeats 16000000
set_option maxRecDepth 100000
theorem uxn{lo sb mb pb:Nat}{X:Ctx}(v c:Int)(g:Nat)(w:World)(h:Spc w lo sb mb pb X)(hg:Bk w g 53 #[.pointer (some ⟨sb,0,none⟩)]):Calls Tryz.prog 254 #[.agg #[.int .i64 v,.int .i64 c],.pointer (some ⟨g,0,none⟩)] w (uY (.bool (bP (¬(X.vr v/\(X.ty v).k=1)))) w):=by
 have QF:Hid ((X.vr v/\(X.ty v).k=1)->bP (¬(X.vr v/\(X.ty v).k=1))=false):=fun h=>uej fun hn=>hn h
 have QT:Hid (¬(X.vr v/\(X.ty v).k=1)->bP (¬(X.vr v/\(X.ty v).k=1))=true):=fun h=>ue0 h
 generalize bP (¬(X.vr v/\(X.ty v).k=1))=q at *;have HG:=hid hg;have HS:=hid h;clear h hg;go_enter Tryz.func254,Tryz.ntmps254
 go_upto_region 1 with(fail)
 obtain⟨W,hW⟩:∃W,W=w.alloc (.cells #[.int .i64 v,.int .i64 c] 131):=⟨_,rfl⟩;have a2:Hid (Below w.heap.size w W):=by rw[hW];exact aa.alloc ab _
 have HP:Hid (Bk W w.heap.size 131 #[.int .i64 v,.int .i64 c]):=by rw[hW];exact Bk.new _ _ _
 have a3:Hid (Bk W g 53 #[.pointer (some ⟨sb,0,none⟩)]):=HG.out.below a2.out HG.out.lt;rw[<-hW];clear hW HG;obtain⟨b0,_,_⟩:=HP.out.facts;obtain⟨a8,_,_⟩:=a3.out.facts;go_wp2_with fail
 refine(uhh v W (HS.out.below a2.out)).mono ?_;rintro e w1⟨rfl,hb⟩;have a1:=hid (a2.out.trans (hb.mono a2.out.size));have a6:=hid (HP.out.below hb HP.out.lt);have a5:=hid (a3.out.below hb a3.out.lt);clear hb b0 a8;by_cases a0:X.vr v
 ·rw[ue0 a0]
  obtain⟨b1,_,_⟩:=a6.out.facts;obtain⟨a9,_,_⟩:=a5.out.facts;have HV:=hid a0;clear a0;go_wp2_with fail
  refine(uks v HV.out w1 (HS.out.below a1.out)).mono ?_;rintro e w2⟨A,n,c',rfl,_,hb⟩;have a4:=hid (a1.out.trans (hb.mono a1.out.size));clear hb b1 a9;generalize (X.ty v).m=mm at *;by_cases hk:(X.ty v).k=1
  ·have e:q=false:=QF.out ⟨HV.out,hk⟩
   rw[hk];clear hk;have a7:=uC5 1 mm A n c' w2;go_wp2;go_ret
   exact⟨by first|rfl|(rw[e];rfl),a4.out⟩
  ·have e:q=true:=QT.out (fun h=>hk h.2)
   generalize (X.ty v).k=kk at *;have a7:=uC5 kk mm A n c' w2;go_wp2;go_ret
   exact⟨by first|rfl|(rw[e];rfl)|(rw[e];simp[hk]),a4.out⟩
 ·have e:q=true:=QT.out (fun h=>a0 h.1)
  rw[uej a0];go_wp2;go_ret
  exact⟨by first|rfl|(rw[e];rfl),a1.out⟩
set_option maxHeartbeats 200000
set_option maxRecDepth 512
theorem usi(X:Ctx)(l:Lin):X.ints l↔¬∃t∈l.ts,¬(X.vr t.1/\(X.ty t.1).k=1):=by
 unfold Ctx.ints;constructor
 ·rintro h ⟨t,h1,h2⟩
  exact h2 (h t h1)
 ·intro h t ht
  exact Classical.byContradiction fun hn=>h ⟨t,ht,hn⟩
set_option maxHeartbeats 16000000
set_option maxRecDepth 100000
theorem uBl{lo sb mb pb:Nat}{X:Ctx}{D:Nat->Prop}(l:Lin)(v:List Value)(w:World)(h:Spc w lo sb mb pb X)(hl:uoz w D l v):Calls Tryz.prog 201 #[.pointer (some ⟨sb,0,none⟩),.agg v.toArray] w (uY (.bool (bP (X.ints l))) w):=by
 obtain⟨_,A,n,c,rfl,hs⟩:=hl;have QF:Hid (bP (∃t∈l.ts,¬(X.vr t.1/\(X.ty t.1).k=1))=true->bP (X.ints l)=false):=fun h=>uej fun hn=>(usi X l).1 hn (uhg.1 h)
 have QT:Hid (bP (∃t∈l.ts,¬(X.vr t.1/\(X.ty t.1).k=1))=false->bP (X.ints l)=true):=fun h=>ue0 ((usi X l).2 fun hn=>by rw[ue0 hn]at h;cases h)
 have HS:=hid h;have HL:=hid hs;have a2:Hid (∀(g:Nat) (x:World),Below w.heap.size w x->Bk x g 53 #[.pointer (some ⟨sb,0,none⟩)]->Calls Tryz.prog 253 #[.slice A n c,.func (.func 254) #[] #[.pointer (some ⟨g,0,none⟩)]] x (uY (.bool (bP (∃t∈l.ts,¬(X.vr t.1/\(X.ty t.1).k=1)))) x)):=fun g x hx hg=>
  ujt (D:=D) l.ts A n c 254 #[] #[.pointer (some ⟨g,0,none⟩)] (fun t=>¬(X.vr t.1/\(X.ty t.1).k=1)) x (LtS.vAb (uc.of hx) hs) (enters_of Tryz.func254 (by kernel_rfl) rfl) fun i hi y hy=>by
   have:=uxn l.ts[i].1 l.ts[i].2 g y (h.below (hx.trans (hy.mono hx.size))) (hg.below hy hg.lt);simpa using this
 generalize bP (∃t∈l.ts,¬(X.vr t.1/\(X.ty t.1).k=1))=z at *;generalize bP (X.ints l)=q at *;generalize l.c=x0 at *;clear h hs HS HL;show Calls Tryz.prog 201 #[.pointer (some ⟨sb,0,none⟩),.agg #[.int .i64 x0,.slice A n c]] w _
 go_enter Tryz.func201,Tryz.ntmps201
 go_upto_region 1 with(fail)
 obtain⟨W,hW⟩:∃W,W=(w.alloc (.cells #[.pointer (some ⟨sb,0,none⟩)] 53)).alloc (.cells #[.int .i64 x0,.slice A n c] 126):=⟨_,rfl⟩;have a0:Hid (Below w.heap.size w W):=by rw[hW];exact(aa.alloc ab _).alloc (by simp) _
 have HP:Hid (Bk W w.heap.size 53 #[.pointer (some ⟨sb,0,none⟩)]):=by rw[hW];exact(Bk.new _ _ _).alloc _
 have HR:Hid (Bk W (w.heap.size+1) 126 #[.int .i64 x0,.slice A n c]):=by
  rw[hW];have:=Bk.new (w.alloc (.cells #[.pointer (some ⟨sb,0,none⟩)] 53)) 126 #[.int .i64 x0,.slice A n c];exact hid (by simpa using this)
 rw[<-hW];clear hW;obtain⟨a3,_,_⟩:=HR.out.facts;go_wp2_with fail
 refine(a2.out w.heap.size W a0.out HP.out).mono ?_;rintro e w1⟨rfl,hb⟩;have a1:=hid (a0.out.trans (hb.mono a0.out.size));clear hb a3;cases z with
 | true=>
  have e:q=false:=QF.out rfl;go_wp2;go_ret
  exact⟨by first|rfl|(rw[e];rfl),a1.out⟩
 | false=>
  have e:q=true:=QT.out rfl;go_wp2;go_ret
  exact⟨by first|rfl|(rw[e];rfl),a1.out⟩
set_option maxHeartbeats 200000
set_option maxRecDepth 512
theorem uxo{v v':Int}{i i':Ix}(h:(⟨(ugg v i).toArray⟩:ByteArray)=⟨(ugg v' i').toArray⟩):v=v'/\i=i':=by
 have h1:(ugg v i).toArray=(ugg v' i').toArray:=congrArg ByteArray.data h;exact uzh (List.toArray_inj h1)
structure SpI (w:World) (lo sb mb pb:Nat) (X:Ctx):Prop where
 spc:Spc w lo sb mb pb X
 map:∃l,umn w mb l/\∀v i d,ubx l ⟨(ugg v i).toArray⟩=some d->d=X.deg v i
 ok:X.ok
 gp:Gp w
 lb:GP<=lo/\lo<=sb/\lo<=mb/\mb≠sb
theorem SpI.below{w w':World}{lo sb mb pb:Nat}{X:Ctx}(h:SpI w lo sb mb pb X)(hb:Below w.heap.size w w'):SpI w' lo sb mb pb X:=by
 obtain⟨l,h1,h2⟩:=h.map;exact⟨h.spc.below hb,⟨l,h1.below hb,h2⟩,h.ok,h.gp.below hb h.gp.2,h.lb⟩
def SpP(w:World)(lo sb mb pb:Nat)(X:Ctx)(w':World):Prop:=Fw (fun b=>b=mb) w w'/\SpI w' lo sb mb pb X
theorem SpP.below{w w1 w2:World}{lo sb mb pb:Nat}{X:Ctx}(h:SpP w lo sb mb pb X w1)(hb:Below w1.heap.size w1 w2):SpP w lo sb mb pb X w2:=⟨h.1.below hb,h.2.below hb⟩
theorem SpP.trans{w w1 w2:World}{lo sb mb pb:Nat}{X:Ctx}(h:SpP w lo sb mb pb X w1)(k:SpP w1 lo sb mb pb X w2):SpP w lo sb mb pb X w2:=⟨h.1.trans k.1,k.2⟩
theorem SpP.of{w w1:World}{lo sb mb pb:Nat}{X:Ctx}(h:SpI w lo sb mb pb X)(hb:Below w.heap.size w w1):SpP w lo sb mb pb X w1:=⟨(Fw.refl _ _).below hb,h.below hb⟩
theorem uxp{X:Ctx}{v:Int}{i:Ix}(h:¬6<msr X.dat i (X.ty v)):X.deg v i=msr X.dat i (X.ty v):=by unfold Ctx.deg;rw[if_neg h]
theorem uFf{X:Ctx}{v:Int}{i:Ix}(h:6<msr X.dat i (X.ty v)):X.deg v i = -1:=by unfold Ctx.deg;rw[if_pos h]
theorem usj(w:World):(zeroValue 3).run Tryz.prog w = .ok (.int .i64 0) w:=by kernel_rfl
def TyF(lo:Nat)(t:Tr)(v:Value)(x:World):Prop:=∃A n c,v = .agg #[.int .i64 t.k,.int .i64 t.m,.slice A n c]/\TrR x (· < lo) t [.int .i64 t.k,.int .i64 t.m,.slice A n c]
theorem TyF.stays{lo:Nat}{t:Tr}:∀v x x',TyF lo t v x->Below x.heap.size x x'->TyF lo t v x':=fun v x x' h hb=>by
 obtain⟨A,n,c,h1,h2⟩:=h;exact⟨A,n,c,h1,h2.below hb⟩
theorem uI9{X:Ctx}(h:X.ok){v:Int}(hv:X.vr v):TOk (X.ty v):=by
 unfold Ctx.ty;split
 ·exact h.2.2.1
 ·rename_i h1
  unfold Ctx.vr at hv;have hl:v.toNat<X.vars.length:=by omega
  rw[aj,ai hl];exact h.2.1 _ (aq hl)
set_option maxHeartbeats 16000000
set_option maxRecDepth 100000
theorem ume{D:Nat->Prop}{lo sb mb pb:Nat}{X:Ctx}(v:Int)(i:Ix)(iv:List Value)(w:World)(a2:X.vr v)(h:IxR w D i iv)(c4:i.sz<=50)(hs:SpI w lo sb mb pb X) :
 Calls Tryz.prog 147 #[.pointer (some ⟨sb,0,none⟩),.int .i64 v,.agg iv.toArray] w (fun e w'=>e = .returned (.int .i64 (X.deg v i))/\SpP w lo sb mb pb X w'):=by
 have b9:rng v:=by
  have h1:=hs.ok.2.2.2;unfold Ctx.vr at a2;unfold rng;omega
 obtain⟨l,hm,a6⟩:=hs.map;have KK:=hid fun(x:World) (hx:Below w.heap.size w x)=>use v i iv x b9 (h.vAb (uc.of hx)) c4 (hs.gp.below hx hs.gp.2)
 have KM:Hid (∀x tv,Below w.heap.size w x->TrR x (· < lo) (X.ty v) tv->Calls Tryz.prog 202 #[.pointer (some ⟨sb,0,none⟩),.agg tv.toArray,.agg iv.toArray] x (uY (.int .i64 (msr X.dat i (X.ty v))) x)):=fun x tv hx ht=>
  (ujb hs.ok i.sz).1 (· < lo) D i (X.ty v) tv iv x ab (by omega) (uI9 hs.ok a2) (hs.spc.below hx) ht (h.vAb (uc.of hx))
 have KT:Hid (∀x,Below w.heap.size w x->Calls Tryz.prog 106 #[.pointer (some ⟨sb,0,none⟩),.int .i64 v] x (uG9 lo (X.ty v) x)):=fun x hx=>uks v a2 x (hs.spc.below hx)
 have c5:=uxk X.dat i (X.ty v);have d3:msr X.dat i (X.ty v)<=350:=by omega
 have ES:Hid (¬6<msr X.dat i (X.ty v)->X.deg v i=msr X.dat i (X.ty v)):=uxp;have EB:Hid (6<msr X.dat i (X.ty v)->X.deg v i = -1):=uFf;have a8:Hid (∀d,ubx l ⟨(ugg v i).toArray⟩=some d->d=X.deg v i):=fun d hd=>a6 v i d hd
 have c3:=hid hs;have a9:Hid (∀w2,ubx l ⟨(ugg v i).toArray⟩=none->Below w.heap.size w w2->∃w3,(Instr.mapUpdate 65 (.map (some mb)) (.string ⟨(ugg v i).toArray⟩) (.int .i64 (X.deg v i))).run Tryz.prog w2 = .ok () w3/\SpP w lo sb mb pb X w3):=fun w2 hn hb=>by
  obtain⟨w3,h1,h2,h3,h4⟩:=usd (P:=Tryz.prog) (T:=65) (kt:=9) (e:=3) Tryz.underlying65 Tryz.underlying9 (hm.below hb) ⟨(ugg v i).toArray⟩ (X.deg v i) hn;obtain⟨b1,b2,b3,b4⟩:=hs.lb;refine⟨w3,h1,((Fw.refl _ _).below hb).trans h3,(hs.spc.below hb).vAb h3 (fun e=>b4 e.symm) (fun b hb e=>by omega),⟨_,h2,fun v' i' d hd=>?_⟩,hs.ok,?_,hs.lb⟩
  ·by_cases he:(⟨(ugg v' i').toArray⟩:ByteArray)=⟨(ugg v i).toArray⟩
   ·obtain⟨rfl,rfl⟩:=uxo he
    rw[uhf hn]at hd;injection hd with hd;exact hd.symm
   ·rw[uhe he]at hd
    exact a6 v' i' d hd
  ·refine(hs.gp.below hb hs.gp.2).below (n:=GP) ?_ ab
   exact h3.toBelow (fun x hx=>by omega) (hs.gp.below hb hs.gp.2).2
 have HM:=hid hm;have c8:=hs.spc;obtain⟨dA,dn,dc,vA,vn,vc,rk,rm,rA,rn,rc,c0,_,_,_⟩:=c8;have b6:=hid c0;obtain⟨A,n,c,rfl,_,_⟩:=h.form;generalize msr X.dat i (X.ty v)=z at *;generalize X.deg v i=dd at *;obtain⟨kt,b7⟩:∃kt,(⟨(ugg v i).toArray⟩:ByteArray)=kt:=⟨_,rfl⟩;unfold ud7 at KK;rw[b7]at KK a8 a9;generalize i.k=x0 at *;clear hs hm a6 c5 h c0 b9 a2 b7;show Calls Tryz.prog 147 #[.pointer (some ⟨sb,0,none⟩),.int .i64 v,.agg #[.int .i64 x0,.slice A n c]] w _
 go_enter Tryz.func147,Tryz.ntmps147
 go_upto_region 1 with(fail)
 obtain⟨W,hW⟩:∃W,W=w.alloc (.cells #[.int .i64 x0,.slice A n c] 120):=⟨_,rfl⟩;have a4:Hid (Below w.heap.size w W):=by rw[hW];exact aa.alloc ab _
 have HP:Hid (Bk W w.heap.size 120 #[.int .i64 x0,.slice A n c]):=by rw[hW];exact Bk.new _ _ _
 rw[<-hW];clear hW;obtain⟨c6,_,_⟩:=HP.out.facts;go_wp2_with fail
 refine(KK.out W a4.out).mono ?_;rintro e w1⟨rfl,hb⟩;have a0:=hid (a4.out.trans (hb.mono a4.out.size));have b0:=hid (HP.out.below hb HP.out.lt);have a3:Hid (Bk w1 sb 97 #[.slice dA dn dc,.slice vA vn vc,.int .i64 rk,.int .i64 rm,.slice rA rn rc,.map (some mb),.map (some pb)]):=b6.out.below a0.out (Bk.lt b6.out);have a1:=uoe (P:=Tryz.prog) (T:=65) (kt:=9) (e:=3) Tryz.underlying65 Tryz.underlying9 usj (HM.out.below a0.out) kt;clear hb c6;obtain⟨c7,_,_⟩:=Bk.facts a3.out;cases hf:ubx l kt with
 | some d=>
  have e:=a8.out d hf;subst e;rw[hf]at a1;simp only[Option.getD_some,Option.isSome_some]at a1;go_wp2;go_ret
  exact⟨rfl,SpP.of c3.out a0.out⟩
 | none=>
  rw[hf]at a1;simp only[Option.getD_none,Option.isSome_none]at a1;have HF:=hid hf;clear hf;go_upto_region 4 with(fail)
  clear a1 c7;refine ue (⟨[(w.heap.size,0,[.int .i64 x0,.slice A n c])],[],[TyF lo (X.ty v)],[(0,.v (.pointer (some ⟨sb,0,none⟩))),(1,.v (.int .i64 v)),(5,.p 0 0)],[(3,.f 0),(5,.v (.int .i64 z))]⟩:Sp) [24,25,26,27,28,29,8] w1 (aa.drew) (by kernel_rfl) (by kernel_rfl) (by kernel_rfl) (sI (TyF.stays) sN) (by kernel_rfl)
   (fun x hx=>(mI (ud (b0.out.below hx b0.out.lt)) mN)) (dI (ug [.v (.pointer (some ⟨sb,0,none⟩)),.v (.int .i64 v)] rfl rfl (by kernel_rfl) (by kernel_rfl) fun x vs hx hC hv=>by
    obtain⟨v1,v2,rfl,h1,h2⟩:=uec hv;obtain rfl:v1 = .pointer (some ⟨sb,0,none⟩):=h1;obtain rfl:v2 = .int .i64 v:=h2;refine((KT.out x (a0.out.trans (hx.mono a0.out.size)))).mono ?_;rintro en w2⟨A2,n2,c2,rfl,a7,hb⟩;exact⟨_,rfl,⟨A2,n2,c2,rfl,a7⟩,hb⟩) (
   dI (ug [.v (.pointer (some ⟨sb,0,none⟩)),.f 0,.v (.agg #[.int .i64 x0,.slice A n c])] rfl rfl (by kernel_rfl) (by kernel_rfl) fun x vs hx hC hv=>by
    obtain⟨v1,v2,v3,rfl,rfl,h2,rfl⟩:=um8 hv;obtain⟨A2,n2,c2,c9,a7⟩:=(h2:TyF lo (X.ty v) v2 x);subst c9;refine(KM.out x _ (a0.out.trans (hx.mono a0.out.size)) a7).mono ?_;rintro en w2⟨rfl,hb⟩;exact⟨_,rfl,rfl,hb⟩) (dN))) ?_
  intro S x1 a5 hS;obtain⟨g6,_⟩:S 6 = .int .i64 z/\True:=hS (l:=[(6,.v (.int .i64 z))]) (by kernel_rfl)
  clear hS;simp only[nv,Nat.reduceAdd,aB,aE,aC,List.drop_zero,g6];clear g6;have HX:=hid (a0.out.trans (a5.mono a0.out.size));have c1:Hid (Bk x1 sb 97 #[.slice dA dn dc,.slice vA vn vc,.int .i64 rk,.int .i64 rm,.slice rA rn rc,.map (some mb),.map (some pb)]):=a3.out.below a5 (Bk.lt a3.out);clear a5;obtain⟨d1,_,_⟩:=Bk.facts c1.out;obtain⟨w3,d2,b8⟩:=a9.out x1 HF.out HX.out;have b5:=hid b8;clear b8;by_cases h6:6<z
  ·have e:dd = -1:=EB.out h6
   have d0:z>6:=h6;subst e;go_wp2;go_ret
   exact⟨rfl,b5.out⟩
  ·have e:dd=z:=ES.out (by omega)
   subst e;go_wp2;go_ret
   exact⟨rfl,b5.out⟩
open Go Go.RowKit AC
set_option maxHeartbeats 200000
set_option maxRecDepth 512
class vAi (G:World->World->Prop):Prop where
 refl:∀x,G x x
 trans:∀ {x y z},G x y->G y z->G x z
class vCf (G:World->World->Prop):Prop extends vAi G where
 ofB:∀ {x y},Below x.heap.size x y->G x y
theorem vAi.of{G:World->World->Prop}[vCf G]{x y:World}(h:Below x.heap.size x y):G x y:=vCf.ofB h
instance (S:Nat->Prop):vCf (Fw S):= { refl:=fun x=>Fw.refl S x,trans:=fun h k=>h.trans k,ofB:=fun h=>(Fw.refl S _).below h }
instance:vAi (fun x y:World=>x=y):= { refl:=fun _=>rfl,trans:=fun h k=>h.trans k }
theorem um.vAz{S:Nat->Prop}{w w':World}{b o:Nat}{u:List Value}(h:um w b o u)(hb:Fw S w w')(hl:b<w.heap.size)(hS:¬S b):um w' b o u:=fun j x hx=>(World.cell?_of_block (w:=w) (hb.block b hl hS)).trans (h j x hx)
variable {G:World->World->Prop} [vAi G]
def ukt(G:World->World->Prop):List (Value->World->Prop)->Prop
 | []=>True
 | R::l=>(∀v x x',R v x->G x x'->R v x')/\ukt G l
theorem uku{G:World->World->Prop}:∀ {l:List (Value->World->Prop)} {k:Nat} {R:Value->World->Prop},ukt G l->nth l k=some R->∀v x x',R v x->G x x'->R v x'
 | [],_,_,_,h=>by cases h
 | _::_,0,_,hm,h=>by injection h with h;subst h;exact hm.1
 | _::l,k+1,R,hm,h=>uku (l:=l) hm.2 h
theorem uqh{G:World->World->Prop}{E:Sp}(hs:ukt G E.fs){z:BE×Sy}{v:Value}{x x':World}(h:E.vBi z v x)(hb:G x x'):E.vBi z v x':=by
 unfold Sp.vBi at h ⊢;split at h
 ·next hc=>
  rw[if_pos hc];obtain⟨c,s⟩:=z;cases s with
  | f k=>
   show(match nth E.fs k with|some R=>R v x'|none=>True)
   have h:(match nth E.fs k with|some R=>R v x|none=>True):=h
   split
   ·next R hR=>rw[hR]at h;exact uku hs hR v x x' h hb
   ·trivial
  | _=>exact h
 ·next hc=>rw[if_neg hc];exact h
section
variable {P:Program} {ops:Array Oper} {Q:Exit->Act->World->Prop}
def Sp.vB7(E:Sp)(P:Program)(ops:Array Oper)(Q:Exit->Act->World->Prop)(vAa:List Nat)(G:World->World->Prop)(W:World)(i:Nat)(s:Sy):Prop:=
 ∀(o:Oper) (x:World) (a:Act),ops[i]? = some o->G W x->(E.cnd P ops vAa i).ev E.bs=true->Region.wanted o (yielded ops a.tmps)=true ->
  (∀y u,E.opC P ops vAa i y=some u->E.sat u (a.eval y) x) ->
  ua5 P ops Q i (fun a' x'=>∃v,a'=a.put o.dst v/\E.sat s v x'/\G x x') a x
def Sp.vA7(E:Sp)(P:Program)(ops:Array Oper)(Q:Exit->Act->World->Prop)(vAa:List Nat)(G:World->World->Prop)(W:World):List (Nat×Sy)->Prop
 | []=>True
 | z::l=>E.vB7 P ops Q vAa G W z.1 z.2/\E.vA7 P ops Q vAa G W l
theorem ujd{G:World->World->Prop}{E:Sp}{vAa:List Nat}{W:World}:∀ {l:List (Nat×Sy)} {i:Nat} {s:Sy},E.vA7 P ops Q vAa G W l->ud0 l i=some s->E.vB7 P ops Q vAa G W i s
 | [],_,_,_,h=>by cases h
 | (j,s')::l,i,s,h1,h=>by
  rw[ud0]at h;split at h
  ·next hi=>injection h with h;subst h;subst hi;exact h1.1
  ·exact ujd h1.2 h
theorem uje{E:Sp}{vAa:List Nat}{W:World}{T:List (BE×Sy)}(hT:uj4 P E ops vAa=some T)(c5:vAa.length<=ops.size)(e5:ukt G E.fs){a0:Act}(d4:uzx E a0 E.ext)(d5:uCo E.ext=true)(d8:∀x,G W x->ufq x E.mem)
 (b9:ucw ops vAa=true) (d3:E.vA7 P ops Q vAa G W E.hint)
 (i:Nat) (o:Oper) (s:Nat->Value) (d:Nat->Bool) (x:World) (a:Act) (ho:ops[i]? = some o) (hi:i<vAa.length) (b6:G W x)
 (d2:∀j,uP (ua8 ops) i j=true->j<vAa.length->d j=true/\E.fact P ops vAa j (s j) x)
 (ha:∀j,j<vAa.length->a.tmps[vAa.getD j 0]? = some (s j)) (hz:∀t,t∉vAa->a.tmps[t]? = a0.tmps[t]?) :
 ua5 P ops Q i (fun a' x'=>∃v,a'=a.put (some (vAa.getD i 0)) v/\E.fact P ops vAa i v x'/\G x x') a x:=by
 have b5:(ua8 ops).toList.length=ops.size:=by have:=uli ops.toList #[];simpa[ua8]using this
 have a5:(ops.toList.take vAa.length).length=vAa.length:=by rw[List.length_take];simp;omega
 have b4:T.length=vAa.length:=by
  have:=uiq hT (by rw[a5,b5];exact c5)
  simpa[a5]using this
 obtain⟨z,acc,a3,b3,r,hr⟩:=ulh hT rfl (by rw[a5,b5];exact c5) i (by rw[a5];exact hi)
 rw[Nat.zero_add]at a3 b3;have e1:(ops.toList.take vAa.length)[i]'(by rw[a5];exact hi)=o:=by
  rw[List.getElem_take,Array.getElem_toList];exact(au.1 ho).2
 rw[e1]at a3;have d9:(ua8 ops).toList.getD i 0=(ua8 ops).getD i 0:=by
  rw[aj,ak,aH]
 rw[d9]at a3;have c6:∀j,E.tab P ops vAa j=ent T vAa.length j:=fun j=>by unfold Sp.tab;rw[hT]
 have c2:E.tab P ops vAa i=some z:=by rw[c6];exact uq9 hr b4 b3
 have a8:∀j,j<i->nth acc (i-1-j)=E.tab P ops vAa j:=fun j hj=>by rw[c6];exact uvn hr b4 b3 hj
 have b2:∀v x',E.vBi z v x'->E.fact P ops vAa i v x':=fun v x' h=>by unfold Sp.fact;rw[c2];exact h
 have c4:∀j,vAa[j]? = some (vAa.getD j 0)\/vAa.length<=j:=fun j=>by
  rcases ah j vAa.length with h|h
  ·exact .inl (by rw[aj,ai h];rfl)
  ·exact .inr h
 have b1:o.dst=some (vAa.getD i 0):=by
  have:=aT.1 b9 i (aX.2 hi);rw[ho]at this;have:=of_decide_eq_true this;rw[this];rcases c4 i with h|h
  ·exact h
  ·omega
 have c0:∀j c u,j<i->uP (ua8 ops) i j=true->nth acc (i-1-j)=some (c,u)->E.vBi (c,u) (s j) x:=fun j c u hj d0 hn=>by
  have hf:=(d2 j d0 (by omega)).2
  unfold Sp.fact at hf;rw[<-a8 j hj,hn]at hf;exact hf
 have d6:∀t u,t∉vAa->ud0 E.ext t=some u->E.sat u (a.eval (.tmp t)) x:=fun t u ht hu=>by
  have h1:=upi d4 d5 hu x;have e:a.eval (.tmp t)=a0.eval (.tmp t):=by
   show a.tmps.getD t undef=a0.tmps.getD t undef
   rw[ak,ak,hz t ht]
  rw[e];exact h1
 have c1:∀y c u,E.opT P ops vAa i y=some (c,u)->c.ev E.bs=true->E.sat u (a.eval y) x:=by
  intro y c u hy hc;cases y with
  | const v=>simp only[Sp.opT,Option.some.injEq,Prod.mk.injEq]at hy;obtain⟨rfl,rfl⟩:=hy;rfl
  | global g=>simp only[Sp.opT,Option.some.injEq,Prod.mk.injEq]at hy;obtain⟨rfl,rfl⟩:=hy;rfl
  | func f=>simp only[Sp.opT,Option.some.injEq,Prod.mk.injEq]at hy;obtain⟨rfl,rfl⟩:=hy;rfl
  | tmp t=>
   unfold Sp.opT at hy;simp only at hy;cases hix:idxOf vAa t 0 with
   | some j=>
    rw[hix]at hy;simp only at hy;by_cases a1:(uP (ua8 ops) i j&&decide (j<i))=true
    ·rw[if_pos a1]at hy
     rw[ax,aP]at a1;have c3:=(ugi hix).2;rw[Nat.sub_zero]at c3;have h1:=c0 j c u a1.2 a1.1 (by rw[a8 j a1.2];exact hy)
     unfold Sp.vBi at h1;rw[if_pos hc]at h1;have a6:j<vAa.length:=by omega
     have e:a.eval (.tmp t)=s j:=ev (by have:=ha j a6;rw[aj,c3]at this;exact this)
     rw[e];exact h1
    ·rw[if_neg a1]at hy;cases hy
   | none=>
    rw[hix]at hy;simp only at hy;cases hx:ud0 E.ext t with
    | none=>rw[hx]at hy;cases hy
    | some u'=>
     rw[hx]at hy;simp only[Option.some.injEq,Prod.mk.injEq]at hy;obtain⟨rfl,rfl⟩:=hy;exact d6 t u' (ugj hix) hx
 have e2:∀y c u,uzw E vAa acc i ((ua8 ops).getD i 0) y=some (c,u)->c.ev E.bs=true->E.sat u (a.eval y) x:=by
  intro y c u hy hc;refine c1 y c u ?_ hc;cases y with
  | tmp t=>
   unfold uzw at hy;unfold Sp.opT;simp only at hy ⊢;cases hix:idxOf vAa t 0 with
   | some j=>
    rw[hix]at hy;simp only at hy ⊢;by_cases a1:(((ua8 ops).getD i 0).testBit j&&decide (j<i))=true
    ·rw[if_pos a1]at hy
     have b7:=a1;rw[ax,aP]at b7;have d1:(uP (ua8 ops) i j&&decide (j<i))=true:=a1;rw[if_pos d1,<-a8 j b7.2];exact hy
    ·rw[if_neg a1]at hy;cases hy
   | none=>rw[hix]at hy;simp only at hy ⊢;exact hy
  | _=>exact hy
 unfold uHq at a3;have d7:∀C,ulf acc i ((ua8 ops).getD i 0) o.guard=some C ->
  (C.ev E.bs=true->Region.wanted o (yielded ops a.tmps)=true)/\(C.ev E.bs=false->∀I:Act->World->Prop,I (a.put o.dst undef) x->ua5 P ops Q i I a x):=by
  intro C hC;cases hg:o.guard with
  | none=>
   rw[hg]at hC;simp only[ulf,Option.some.injEq]at hC;subst hC;refine⟨fun _=>by unfold Region.wanted;rw[hg],fun h=>by cases h⟩
  | some jw=>
   obtain⟨j,want⟩:=jw;rw[hg]at hC;simp only[ulf]at hC;by_cases a1:(((ua8 ops).getD i 0).testBit j&&decide (j<i))=true
   ·rw[if_pos a1]at hC
    rw[ax,aP]at a1;cases hn:nth acc (i-1-j)with
    | none=>rw[hn]at hC;cases hC
    | some cu=>
     obtain⟨c,u⟩:=cu;rw[hn]at hC;simp only at hC;have a6:j<vAa.length:=by omega
     have a4:=c0 j c u a1.2 a1.1 hn;have b0:(ops[j]?).bind (·.dst)=some (vAa.getD j 0):=by
      have:=aT.1 b9 j (aX.2 a6);cases hoj:ops[j]? with
      | none=>rw[hoj]at this;cases this
      | some oj=>
       rw[hoj]at this;have:=of_decide_eq_true this;show oj.dst=_
       rw[this];rcases c4 j with h|h
       ·exact h
       ·omega
     have a9:=ha j a6;have c9:s j=undef->∀I:Act->World->Prop,I (a.put o.dst undef) x->ua5 P ops Q i I a x:=fun hu I hI=>uq5 ho hg _ b0 (by rw[a9,hu]) hI
     cases hb:asB u with
     | none=>
      rw[hb]at hC;simp only at hC;cases c with
      | f=>
       simp only[Option.some.injEq]at hC;subst hC;exact⟨fun h=>(by cases h),fun _=>c9 a4⟩
      | _=>cases hC
     | some e=>
      rw[hb]at hC;simp only[Option.some.injEq]at hC;subst hC;have c7:(if want then e else e.not).ev E.bs=(e.ev E.bs==want):=by cases want<;>simp[BE.vB1]
      cases hcv:c.ev E.bs with
      | false=>
       unfold Sp.vBi at a4;rw[if_neg (by simp[hcv])]at a4
       refine⟨fun h=>?_,fun _=>c9 a4⟩
       rw[BE.vBh,hcv]at h;cases h
      | true=>
       unfold Sp.vBi at a4;rw[if_pos hcv]at a4;have hv:=ug8 hb a4;refine⟨fun h=>?_,fun h I hI=>?_⟩
       ·rw[BE.vBh,hcv,c7,Bool.true_and,beq_iff_eq]at h
        exact uq4 hg _ b0 (by rw[a9,hv,h])
       ·rw[BE.vBh,hcv,c7,Bool.true_and]at h
        refine uvi ho hg _ b0 ?_ hI;rw[a9,hv];have:e.ev E.bs = !want:=by cases hq:e.ev E.bs<;>cases want<;>simp_all
        rw[this]
   ·rw[if_neg a1]at hC;cases hC
 cases hC:ulf acc i ((ua8 ops).getD i 0) o.guard with
 | none=>rw[hC]at a3;cases a3
 | some C=>
  rw[hC]at a3;obtain⟨c8,e0⟩:=d7 C hC;have a7:z.1=C->C.ev E.bs=false->ua5 P ops Q i (fun a' x'=>∃v,a'=a.put (some (vAa.getD i 0)) v/\E.fact P ops vAa i v x'/\G x x') a x:=fun e4 a2=>
   e0 a2 _ ⟨undef,by rw[b1],b2 _ _ (by unfold Sp.vBi;rw[e4,if_neg (by simp[a2])]),vAi.refl _⟩
  have main:(match ud0 E.hint i with
   | some s=>some (C,s)
   | none=>match uDr P E E.bs.length (uzw E vAa acc i ((ua8 ops).getD i 0)) C o.op with
    | some s=>some (C,s)
    | none=>none)=some z->ua5 P ops Q i (fun a' x'=>∃v,a'=a.put (some (vAa.getD i 0)) v/\E.fact P ops vAa i v x'/\G x x') a x:=by
   intro hs;cases hh:ud0 E.hint i with
   | some u=>
    rw[hh]at hs;simp only[Option.some.injEq]at hs;subst hs;cases a2:C.ev E.bs with
    | false=>exact a7 rfl a2
    | true=>
     have b8:E.cnd P ops vAa i=C:=by unfold Sp.cnd;rw[c2]
     refine ua5.of (wpOp_mono ?_ (ujd d3 hh o x a ho b6 (by rw[b8];exact a2) (c8 a2) (fun y u hy=>by
      obtain⟨c,h1,h2⟩:=ulg hy;rw[b8]at h2;exact c1 y c u h1 (ule h2 a2))).out)
     rintro a' x'⟨v,rfl,e3,hb⟩;exact⟨v,by rw[b1],b2 _ _ (by unfold Sp.vBi;rw[if_pos a2];exact e3),hb⟩
   | none=>
    rw[hh]at hs;simp only at hs;cases hau:uDr P E E.bs.length (uzw E vAa acc i ((ua8 ops).getD i 0)) C o.op with
    | none=>rw[hau]at hs;cases hs
    | some u=>
     rw[hau]at hs;simp only[Option.some.injEq]at hs;subst hs;cases a2:C.ev E.bs with
     | false=>exact a7 rfl a2
     | true=>
      refine uvm e2 (d8 x b6) ho (c8 a2) a2 rfl hau fun v hv=>?_
      exact⟨v,by rw[b1],b2 _ _ (by unfold Sp.vBi;rw[if_pos a2];exact hv),vAi.refl _⟩
  cases C with
  | f=>
   simp only[Option.some.injEq]at a3;subst a3;exact a7 rfl rfl
  | _=>exact main a3
theorem uQ{id:Nat}{a0:Act}{w0:World}{dr:Bool}(E:Sp)(vAa:List Nat)(W:World)(hW:G W (if dr=true then w0.drew else w0))(hm:P.follows .mixedOrders=true)(a2:ura P E ops vAa=true)(b4:vAa.all (fun t=>decide (t<a0.tmps.size))=true)
 (a5:ukt G E.fs) (a8:(E.ext.map fun z=>a0.eval (.tmp z.1))=E.ext.map fun z=>E.den z.2) (b1:∀x,G W x->ufq x E.mem) (a7:E.vA7 P ops Q vAa G W E.hint)
 (fin:∀(s:Nat->Value) (x:World),G W x->(∀ {l:List (Nat×Sy)},(l.map fun z=>E.tab P ops vAa z.1)=(l.map fun z=>some (.t,z.2))->E.vCy s x l)->wpList P ops Q (ops.toList.drop vAa.length) (uj a0 vAa 0 s) x) :
 (Code.region id ops dr).wp P Q a0 w0:=by
 unfold ura at a2;rw[ax,ax,ax,ax]at a2;obtain⟨⟨⟨⟨a9,b0⟩,b2⟩,b7⟩,_⟩:=a2;obtain⟨T,hT⟩:=Option.isSome_iff_exists.1 b7;have b3:=b2;simp only[ax,aP]at b3;obtain⟨⟨⟨a4,_⟩,b6⟩,a6⟩:=b3;have b5:∀(d:Nat->Bool) i j v x x',i<vAa.length->j<vAa.length->i≠j->d i=true->d j=false->(∀k,uP (ua8 ops) j k=true->d k=true)->E.fact P ops vAa i v x->G x x'->E.fact P ops vAa i v x':=by
  intro d i j v x x' _ _ _ _ _ _ h hb;unfold Sp.fact at h ⊢;split at h
  ·exact uqh a5 h hb
  ·exact h.elim
 cases dr with
 | true=>
  refine ufp hm b0 vAa b2 b4 (fun _ x=>G W x) (fun _ x x'=>G x x') (fun _ i v x=>E.fact P ops vAa i v x) hW (fun d j x x' h _ hg=>vAi.trans h hg) b5 ?_ ?_
  ·intro i o s d x a ho hi hd a1 a3 ha hz
   exact uje hT a6 a5 a8 a9 b1 a4 a7 i o s d x a ho hi a1 a3 ha hz
  ·intro s d x a1 hF
   exact fin s x a1 fun {l} hl=>Sp.vA8 (fun j hj=>(hF j hj).2) hl
 | false=>
  refine ug7 b0 vAa (by simp only[ax,aP];exact⟨⟨a4,b6⟩,a6⟩) b4 (fun _ x=>G W x) (fun _ x x'=>G x x') (fun _ i v x=>E.fact P ops vAa i v x) hW (fun d j x x' h _ hg=>vAi.trans h hg) b5 ?_ ?_
  ·intro i o s d x a ho hi hd a1 a3 ha hz
   exact uje hT a6 a5 a8 a9 b1 a4 a7 i o s d x a ho hi a1 a3 ha hz
  ·intro s d x a1 hF
   exact fin s x a1 fun {l} hl=>Sp.vA8 (fun j hj=>(hF j hj).2) hl
theorem dNG{G:World->World->Prop}{E:Sp}{vAa:List Nat}{W:World}:E.vA7 P ops Q vAa G W []:=trivial
theorem dIG{G:World->World->Prop}{E:Sp}{vAa:List Nat}{W:World}{i:Nat}{s:Sy}{l:List (Nat×Sy)}(h:E.vB7 P ops Q vAa G W i s)(t:E.vA7 P ops Q vAa G W l):E.vA7 P ops Q vAa G W ((i,s)::l):=⟨h,t⟩
theorem sNG{G:World->World->Prop}:ukt G []:=trivial
section
variable {E:Sp} {vAa:List Nat} {W:World} {i:Nat} {s:Sy}
theorem ua9{G:World->World->Prop}(ss:List Sy){o:Oper}(ho:ops[i]? = some o){f:FuncId}{args:List Operand}{a1:Array TypeId}(a3:o.op = .call { callee:= .value (.func f),args:=args.toArray,argTypes:=a1 }) (hf:uim P f=true) (hA:(args.map (E.opC P ops vAa i))=ss.map some)
 (K:∀(x:World) (vs:List Value),G W x->(E.cnd P ops vAa i).ev E.bs=true->E.vC0 x ss vs->Calls P f vs.toArray x (fun e w'=>∃v,e = .returned v/\E.sat s v w'/\G x w')):E.vB7 P ops Q vAa G W i s:=by
 intro o' x a a0 a2 hC hw a4;rw[ho]at a0;injection a0 with a0;subst a0;refine uvl ho hw f args a1 a3 hf _ rfl (K x _ a2 hC (ulk a4 hA)) ?_;rintro e w'⟨v,he,hs,hb⟩;exact⟨v,he,v,rfl,hs,hb⟩
theorem uaz{o:Oper}(ho:ops[i]? = some o){op:BinOp}{T U:TypeId}{x y:Operand}(a2:o.op = .binOp op T x y U)(k:IntKind)(m n:Int)(e:BE)(hA:[E.opC P ops vAa i x,E.opC P ops vAa i y]=[some (.v (.int k m)),some (.v (.int k n))])(hb:ulc op m n=some (e.ev E.bs)):E.vB7 P ops Q vAa G W i (.b e):=by
 intro o' w a a0 a3 hC hw a1;rw[ho]at a0;injection a0 with a0;subst a0;simp only[List.cons.injEq,and_true]at hA;exact uq6 ho hw op T U x y a2 k m n (a1 x _ hA.1) (a1 y _ hA.2) _ hb ⟨_,rfl,rfl,vAi.refl _⟩
theorem uE{o:Oper}(ho:ops[i]? = some o){T:TypeId}{x y:Operand}(a3:o.op = .indexAddr T x y)(b off n c:Nat)(kd:IntKind)(m sz kb:Nat)(hA:[E.opC P ops vAa i x,E.opC P ops vAa i y]=[some (.v (.slice (some ⟨b,off,none⟩) n c)),some (.v (.int kd m))])(hs:uar P T=some sz)(a2:(E.cnd P ops vAa i).ev E.bs=true->m<n)(hp:E.blk kb=(b,off+m*sz)):E.vB7 P ops Q vAa G W i (.p kb 0):=by
 intro o' w a a0 a4 hC hw a1;rw[ho]at a0;injection a0 with a0;subst a0;simp only[List.cons.injEq,and_true]at hA;refine uld ho hw T x y a3 b off n c (a1 x _ hA.1) kd m (a1 y _ hA.2) sz hs (a2 hC) ⟨_,rfl,?_,vAi.refl _⟩;show _=_
 rw[hp];rfl
theorem ujf{o:Oper}(ho:ops[i]? = some o){op:BinOp}{T U:TypeId}{x y:Operand}(a2:o.op = .binOp op T x y U)(m n r:Int)(hA:[E.opC P ops vAa i x,E.opC P ops vAa i y]=[some (.v (.int .i64 m)),some (.v (.int .i64 n))])
 (h:(op = .add/\m+n=r)\/(op = .sub/\m-n=r)) (hr:(E.cnd P ops vAa i).ev E.bs=true -> -9223372036854775808<=r/\r<=9223372036854775807):E.vB7 P ops Q vAa G W i (.v (.int .i64 r)):=by
 intro o' w a a0 a3 hC hw a1;rw[ho]at a0;injection a0 with a0;subst a0;simp only[List.cons.injEq,and_true]at hA;have hx:=a1 x _ hA.1;have hy:=a1 y _ hA.2;have hx:a.eval x = .int .i64 m:=hx;have hy:a.eval y = .int .i64 n:=hy;refine ubr ho hw (v:= .int .i64 r) ?_ ⟨_,rfl,rfl,vAi.refl _⟩;unfold execOp;rw[a2];simp only[hx,hy];rcases h with⟨rfl,rfl⟩|⟨rfl,rfl⟩
 ·simp[eqGuard,binOp,Op.intArith,aD,wrap_i64 (hr hC)]
 ·simp[eqGuard,binOp,Op.intArith,aD,wrap_i64 (hr hC)]
end
end
def GSp(lo sb mb pb:Nat)(X:Ctx)(a b:World):Prop:=Fw (fun i=>i=mb) a b/\(SpI a lo sb mb pb X->SpI b lo sb mb pb X)
instance (lo sb mb pb:Nat) (X:Ctx):vCf (GSp lo sb mb pb X):= { refl:=fun x=>⟨Fw.refl _ x,fun h=>h⟩,trans:=fun h k=>⟨h.1.trans k.1,fun s=>k.2 (h.2 s)⟩,ofB:=fun h=>⟨(Fw.refl _ _).below h,fun s=>s.below h⟩ }
theorem SpP.toG{w w':World}{lo sb mb pb:Nat}{X:Ctx}(h:SpP w lo sb mb pb X w'):GSp lo sb mb pb X w w':=⟨h.1,fun _=>h.2⟩
theorem GSp.toP{w w':World}{lo sb mb pb:Nat}{X:Ctx}(h:GSp lo sb mb pb X w w')(s:SpI w lo sb mb pb X):SpP w lo sb mb pb X w':=⟨h.1,h.2 s⟩
theorem SpI.mlt{w:World}{lo sb mb pb:Nat}{X:Ctx}(h:SpI w lo sb mb pb X):mb<w.heap.size:=by
 obtain⟨l,h1,_⟩:=h.map;exact h1.lt
def Mon.small(m:Mon):Prop:=m.fs.length<=100/\m.ats.length<=100/\∀f∈m.fs,f.i.sz<=50
theorem ug1{mb:Nat}{D:Nat->Prop}{w w':World}(h:Fw (fun b=>b=mb) w w')(hD:∀b,D b->b≠mb):uc D w w':=uc.fw h fun b hb e=>hD b hb e
set_option maxHeartbeats 16000000
set_option maxRecDepth 100000
theorem uug{D:Nat->Prop}{lo sb mb pb:Nat}{X:Ctx}(m:Mon)(mv:List Value)(w:World)(h:uU w D m mv)(c7:m.small)(hD:∀b,D b->b≠mb)(hs:SpI w lo sb mb pb X) :
 Calls Tryz.prog 145 #[.pointer (some ⟨sb,0,none⟩),.agg mv.toArray] w (fun e w'=>e = .returned (.bool (bP (X.prop m)))/\SpP w lo sb mb pb X w'):=by
 obtain⟨A,n,c,A',n',c',rfl,a8,a7⟩:=h;have hn:n=m.fs.length:=a8.1;have c5:n'=m.ats.length:=a7.1;have f1:=a8.2.1;have f2:=a7.2.1;have d9:c<=maxLen:=a8.2.2.1;have e0:c'<=maxLen:=a7.2.2.1;unfold maxLen at d9 e0;have d6:Hid (∀i (h:i<m.fs.length),¬(X.vr m.fs[i].v/\0<=X.deg m.fs[i].v m.fs[i].i)->bP (X.prop m)=false):=fun i h hn=>uej fun hp=>hn (hp.1 _ (aq h))
 have d7:Hid (∀i (h:i<m.ats.length),¬(0<=m.ats[i].d/\X.ints m.ats[i].l)->bP (X.prop m)=false):=fun i h hn=>uej fun hp=>hn (hp.2 _ (aq h))
 have QT:Hid ((∀i (h:i<m.fs.length),X.vr m.fs[i].v/\0<=X.deg m.fs[i].v m.fs[i].i)->(∀i (h:i<m.ats.length),0<=m.ats[i].d/\X.ints m.ats[i].l)->bP (X.prop m)=true):=fun h1 h2=>ue0 ⟨fun f hf=>by
  obtain⟨j,hj,rfl⟩:=aW hf;exact h1 j hj,fun f hf=>by
  obtain⟨j,hj,rfl⟩:=aW hf;exact h2 j hj⟩
 generalize bP (X.prop m)=q at *;have HN:=hid hn;have c3:=hid c5;have HF:=hid a8;have HA:=hid a7;have d4:Hid (∀i (h:i<m.fs.length),m.fs[i].i.sz<=50):=fun i h=>c7.2.2 _ (aq h)
 have HD:=hid hD;have HS:=hid hs;have e9:=hs.mlt;clear hn c5 a8 a7 c7 hD hs;show Calls Tryz.prog 145 #[.pointer (some ⟨sb,0,none⟩),.agg #[.slice A n c,.slice A' n' c']] w _
 go_enter Tryz.func145,Tryz.ntmps145
 go_upto_region 1 with(fail)
 obtain⟨W,hW⟩:∃W,W=w.alloc (.cells #[.slice A n c,.slice A' n' c'] 83):=⟨_,rfl⟩;have d8:Hid (Below w.heap.size w W):=by rw[hW];exact aa.alloc ab _
 have HP:Hid (Bk W w.heap.size 83 #[.slice A n c,.slice A' n' c']):=by rw[hW];exact Bk.new _ _ _
 rw[<-hW];clear hW;have d0:=hid (SpP.of HS.out d8.out);obtain⟨e3,_,_⟩:=HP.out.facts;go_wp2;clear e3;go_loopw [12] (fun iv wr=>∃(i:Nat),i<=n/\iv = .int .i64 i/\Hid (SpP w lo sb mb pb X wr)/\Hid (Bk wr w.heap.size 83 #[.slice A n c,.slice A' n' c'])/\Hid (∀j (h:j<m.fs.length),j<i->X.vr m.fs[j].v/\0<=X.deg m.fs[j].v m.fs[j].i)) (fun iv _=>n-(intOf iv).toNat)
 case atStart=>exact⟨0,by omega,rfl,d0,HP,fun j _ h=>absurd h (by omega)⟩
 case round=>
  obtain⟨i,hi,rfl,HG,b2,HI⟩:=hrel;by_cases e2:i<n
  ·have a5:i<m.fs.length:=by have:=HN.out;omega
   have hF:uhl wr D m.fs A n c:=uhl.vAb (ug1 HG.out.1 HD.out) HF.out;obtain⟨b,off,v,rfl,b7,hb,hc,hr⟩:=hF.get a5;obtain⟨e5,A2,n2,c2,rfl,b0⟩:=hr;have c0:=hc 0 _ rfl;rw[Nat.add_zero]at c0;have c1:=hc 1 _ rfl;have b6:=hc 2 _ rfl;have c6:=d6.out i a5;have e6:=d4.out i a5;have b3:Hid (X.vr m.fs[i].v/\0<=X.deg m.fs[i].v m.fs[i].i->∀j (h:j<m.fs.length),j<i+1->X.vr m.fs[j].v/\0<=X.deg m.fs[j].v m.fs[j].i):=fun hx j h hj=>by
    rcases ah j i with h5|h5
    ·exact HI.out j h h5
    ·obtain rfl:j=i:=by omega
     exact hx
   have a6:=hid c6;generalize m.fs[i]=f0 at *;have b5:=hid b0;generalize hv0:f0.v=y0 at *;generalize hx0:f0.i=x0 at *;generalize hk0:x0.k=y1 at *;have e8:=X.vC9 y0 x0;generalize hdd:X.deg y0 x0=dd at *;have c9:=hid hdd;clear c6 b0 b7 hc hdd;obtain⟨C,hC⟩:∃C,C=wr.alloc (.cells #[.int .i64 y0,.int .i64 y1,.slice A2 n2 c2] 122):=⟨_,rfl⟩;have a2:Hid (Below wr.heap.size wr C):=by rw[hC];exact aa.alloc ab _
   have HX:Hid (Bk C wr.heap.size 122 #[.int .i64 y0,.int .i64 y1,.slice A2 n2 c2]):=by rw[hC];exact Bk.new _ _ _
   have a4:=hid (HG.out.below a2.out);go_upto_region 4 with(fail)
   rw[<-hC];clear hC c0 c1 b6;obtain⟨b8,_,_⟩:=HX.out.facts;go_wp2_with fail
   refine(uhh y0 C a4.out.2.spc).mono ?_;rintro e w1⟨rfl,a1⟩;have a3:=hid (a4.out.below a1);have d5:=hid (HX.out.below a1 HX.out.lt);have d1:=hid ((b2.out.below a2.out b2.out.lt).below a1 (af b2.out.lt a2.out.size));have c4:=hid ((b5.out.vAb (uc.of a2.out)).vAb (uc.of a1));clear a1 b8;by_cases b1:X.vr y0
   ·rw[ue0 b1]
    have HV:=hid b1;clear b1;obtain⟨e7,_,_⟩:=d5.out.facts;rw[<-hk0]at c4;have KI:=hid (ume y0 x0 _ w1 HV.out c4.out e6 a3.out.2);rw[c9.out,hk0]at KI;go_wp2_with fail
    refine KI.out.mono ?_;rintro e w2⟨rfl,hg⟩;have b9:=hid (a3.out.trans hg);have d2:=hid (Bk.fw d1.out hg.1 (by show ¬w.heap.size=mb;omega))
    clear hg e7;by_cases e1:dd<0
    ·have e:q=false:=a6.out (fun h=>by have:=h.2;omega)
     go_wp2;go_ret
     exact⟨by first|rfl|(rw[e];rfl),b9.out⟩
    ·have b4:=hid (b3.out ⟨HV.out,by omega⟩)
     go_wp2;go_roundw
     case rel=>exact⟨i+1,by omega,by go_num,b9,d2,b4⟩
     case measure=>simp[intOf];omega
   ·have e:q=false:=a6.out (fun h=>b1 h.1)
    rw[uej b1];go_wp2;go_ret
    exact⟨by first|rfl|(rw[e];rfl),a3.out⟩
  ·obtain rfl:i=n:=by omega
   have c8:Hid (∀j (h:j<m.fs.length),X.vr m.fs[j].v/\0<=X.deg m.fs[j].v m.fs[j].i):=fun j h=>HI.out j h (by have:=HN.out;omega)
   obtain⟨e4,_,_⟩:=b2.out.facts;clear HI;go_wp2;clear e4;go_loopw [34] (fun iv wr=>∃(i:Nat),i<=n'/\iv = .int .i64 i/\Hid (SpP w lo sb mb pb X wr)/\Hid (∀j (h:j<m.ats.length),j<i->0<=m.ats[j].d/\X.ints m.ats[j].l)) (fun iv _=>n'-(intOf iv).toNat)
   case atStart=>exact⟨0,by omega,rfl,HG,fun j _ h=>absurd h (by omega)⟩
   case round=>
    obtain⟨i,hi,rfl,HG,HI⟩:=hrel;by_cases e2:i<n'
    ·have a5:i<m.ats.length:=by have:=c3.out;omega
     have hF:uht wr D m.ats A' n' c':=uht.vAb (ug1 HG.out.1 HD.out) HA.out;obtain⟨b,off,v,rfl,b7,hb,hc,hr⟩:=hF.get a5;obtain⟨e5,A2,n2,c2,rfl,b0⟩:=hr;have c0:=hc 0 _ rfl;rw[Nat.add_zero]at c0;have c1:=hc 1 _ rfl;have b6:=hc 2 _ rfl;have a6:=hid (d7.out i a5);have b3:Hid (0<=m.ats[i].d/\X.ints m.ats[i].l->∀j (h:j<m.ats.length),j<i+1->0<=m.ats[j].d/\X.ints m.ats[j].l):=fun hx j h hj=>by
      rcases ah j i with h5|h5
      ·exact HI.out j h h5
      ·obtain rfl:j=i:=by omega
       exact hx
     generalize m.ats[i]=a0 at *;have b5:=hid b0;generalize hv0:a0.d=y2 at *;generalize hl0:a0.l=l0 at *;generalize hk0:l0.c=y0 at *;clear b0 b7 hc;obtain⟨C,hC⟩:∃C,C=wr.alloc (.cells #[.int .i64 y0,.slice A2 n2 c2,.int .i64 y2] 128):=⟨_,rfl⟩;have a2:Hid (Below wr.heap.size wr C):=by rw[hC];exact aa.alloc ab _
     have HX:Hid (Bk C wr.heap.size 128 #[.int .i64 y0,.slice A2 n2 c2,.int .i64 y2]):=by rw[hC];exact Bk.new _ _ _
     have a4:=hid (HG.out.below a2.out);have d3:=hid (b5.out.vAb (uc.of a2.out));go_upto_region 10 with(fail)
     rw[<-hC];clear hC c0 c1 b6;obtain⟨b8,_,_⟩:=HX.out.facts;by_cases e1:y2<0
     ·have e:q=false:=a6.out (fun h=>by have:=h.1;omega)
      go_wp2;go_ret
      exact⟨by first|rfl|(rw[e];rfl),a4.out⟩
     ·have KI:=hid (uBl l0 _ C a4.out.2.spc d3.out)
      go_wp2_with fail
      refine KI.out.mono ?_;rintro e w1⟨rfl,a1⟩;have a3:=hid (a4.out.below a1);clear a1 b8;by_cases a9:X.ints l0
      ·rw[ue0 a9]
       have b4:=hid (b3.out ⟨by omega,a9⟩)
       clear a9;go_wp2;go_roundw
       case rel=>exact⟨i+1,by omega,by go_num,a3,b4⟩
       case measure=>simp[intOf];omega
      ·have e:q=false:=a6.out (fun h=>a9 h.2)
       rw[uej a9];go_wp2;go_ret
       exact⟨by first|rfl|(rw[e];rfl),a3.out⟩
    ·obtain rfl:i=n':=by omega
     have e:q=true:=QT.out c8.out (fun j h=>HI.out j h (by have:=c3.out;omega))
     go_wp2;go_ret
     exact⟨by first|rfl|(rw[e];rfl),HG.out⟩
set_option maxHeartbeats 200000
set_option maxRecDepth 512
theorem uxq{X:Ctx}{l:List Fac}{i:Nat}{s:Int}(h:i<l.length):uxl X (l.drop i) s=uxl X (l.drop (i+1)) (if s<=6 then s+X.deg l[i].v l[i].i else s):=by
 rw[aN h,uxl]
theorem uBm{X:Ctx}{l:List Fac}{i:Nat}{s:Int}(h:l.length=i):uxl X (l.drop i) s=s:=by
 rw[List.drop_eq_nil_of_le (by omega),uxl]
theorem uxr{l:List Ato}{i:Nat}{s:Int}(h:i<l.length):uqe (l.drop i) s=uqe (l.drop (i+1)) (if s<=6 then s+min l[i].d 7 else s):=by
 rw[aN h,uqe]
theorem uBn{l:List Ato}{i:Nat}{s:Int}(h:l.length=i):uqe (l.drop i) s=s:=by
 rw[List.drop_eq_nil_of_le (by omega),uqe]
set_option maxHeartbeats 16000000
set_option maxRecDepth 100000
theorem uuh{D:Nat->Prop}{lo sb mb pb:Nat}{X:Ctx}(m:Mon)(mv:List Value)(w:World)(h:uU w D m mv)(b8:m.small)(hD:∀b,D b->b≠mb)(b3:X.prop m)(hs:SpI w lo sb mb pb X) :
 Calls Tryz.prog 146 #[.pointer (some ⟨sb,0,none⟩),.agg mv.toArray] w (fun e w'=>e = .returned (.int .i64 (X.vC4 m))/\SpP w lo sb mb pb X w'):=by
 obtain⟨A,n,c,A',n',c',rfl,a7,a5⟩:=h;have hn:n=m.fs.length:=a7.1;have b7:n'=m.ats.length:=a5.1;have e7:=a7.2.1;have e8:=a5.2.1;have d4:c<=maxLen:=a7.2.2.1;have d5:c'<=maxLen:=a5.2.2.1;unfold maxLen at d4 d5;have d0:Hid (∀i (h:i<m.fs.length),X.vr m.fs[i].v/\0<=X.deg m.fs[i].v m.fs[i].i):=fun i h=>b3.1 _ (aq h)
 have c9:Hid (∀i (h:i<m.ats.length),0<=m.ats[i].d):=fun i h=>(b3.2 _ (aq h)).1
 have HQ:Hid (X.vC4 m=uqe m.ats (uxl X m.fs 0)):=rfl;generalize X.vC4 m=q at *;have HN:=hid hn;have b4:=hid b7;have HF:=hid a7;have HA:=hid a5;have d2:Hid (∀i (h:i<m.fs.length),m.fs[i].i.sz<=50):=fun i h=>b8.2.2 _ (aq h)
 have HD:=hid hD;have HS:=hid hs;have e6:=hs.mlt;clear hn b7 a7 a5 b8 hD hs b3;show Calls Tryz.prog 146 #[.pointer (some ⟨sb,0,none⟩),.agg #[.slice A n c,.slice A' n' c']] w _
 go_enter Tryz.func146,Tryz.ntmps146
 go_upto_region 1 with(fail)
 obtain⟨W,hW⟩:∃W,W=w.alloc (.cells #[.slice A n c,.slice A' n' c'] 83):=⟨_,rfl⟩;have d3:Hid (Below w.heap.size w W):=by rw[hW];exact aa.alloc ab _
 have HP:Hid (Bk W w.heap.size 83 #[.slice A n c,.slice A' n' c']):=by rw[hW];exact Bk.new _ _ _
 rw[<-hW];clear hW;have c5:=hid (SpP.of HS.out d3.out);obtain⟨d8,_,_⟩:=HP.out.facts;go_wp2;clear d8;go_loopw [5,13] (fun sv iv wr=>∃(i:Nat) (s:Int),i<=n/\iv = .int .i64 i/\sv = .int .i64 s/\(0<=s/\s<=20)/\Hid (SpP w lo sb mb pb X wr)/\Hid (Bk wr w.heap.size 83 #[.slice A n c,.slice A' n' c'])/\Hid (q=uqe m.ats (uxl X (m.fs.drop i) s))) (fun _ iv _=>n-(intOf iv).toNat)
 case atStart=>exact⟨0,0,by omega,rfl,rfl,by omega,c5,HP,HQ⟩
 case round=>
  obtain⟨i,s,hi,rfl,rfl,hs,HG,b0,HI⟩:=hrel;by_cases d6:i<n
  ·have a2:i<m.fs.length:=by have:=HN.out;omega
   have hF:uhl wr D m.fs A n c:=uhl.vAb (ug1 HG.out.1 HD.out) HF.out;obtain⟨b,off,v,rfl,b2,hb,hc,hr⟩:=hF.get a2;obtain⟨e1,A2,n2,c2,rfl,a9⟩:=hr;have c0:=hc 0 _ rfl;rw[Nat.add_zero]at c0;have c1:=hc 1 _ rfl;have b1:=hc 2 _ rfl;have e2:=d2.out i a2;have e0:=d0.out i a2;have a8:=uxq (X:=X) (s:=s) a2;generalize m.fs[i]=f0 at *;have d1:=hid a9;generalize hv0:f0.v=y0 at *;generalize hx0:f0.i=x0 at *;generalize hk0:x0.k=y1 at *;have e4:=X.vDc y0 x0;generalize hdd:X.deg y0 x0=dd at *;have c4:=hid hdd;have a4:=hid a8;obtain⟨b9,e3⟩:=e0;have HV:=hid b9;clear a9 b2 hc hdd a8 b9;obtain⟨C,hC⟩:∃C,C=wr.alloc (.cells #[.int .i64 y0,.int .i64 y1,.slice A2 n2 c2] 122):=⟨_,rfl⟩;have a6:Hid (Below wr.heap.size wr C):=by rw[hC];exact aa.alloc ab _
   have HX:Hid (Bk C wr.heap.size 122 #[.int .i64 y0,.int .i64 y1,.slice A2 n2 c2]):=by rw[hC];exact Bk.new _ _ _
   have a3:=hid (HG.out.below a6.out);have b6:=hid (d1.out.vAb (uc.of a6.out));have b5:=hid (b0.out.below a6.out b0.out.lt);go_upto_region 5 with(fail)
   rw[<-hC];clear hC c0 c1 b1;obtain⟨c3,_,_⟩:=HX.out.facts;by_cases h6:s<=6
   ·rw[<-hk0]at b6
    have KI:=hid (ume y0 x0 _ C HV.out b6.out e2 a3.out.2);rw[c4.out,hk0]at KI;have a1:Hid (q=uqe m.ats (uxl X (m.fs.drop (i+1)) (s+dd))):=by
     show q=_
     rw[HI.out,a4.out,if_pos h6]
    go_wp2_with fail
    refine KI.out.mono ?_;rintro e w2⟨rfl,hg⟩;have c6:=hid (a3.out.trans hg);have c8:=hid (Bk.fw b5.out hg.1 (by show ¬w.heap.size=mb;omega))
    clear hg c3;go_wp2;go_roundw
    case rel=>exact⟨i+1,s+dd,by omega,by go_num,rfl,by omega,c6,c8,a1⟩
    case measure=>simp[intOf];omega
   ·have a1:Hid (q=uqe m.ats (uxl X (m.fs.drop (i+1)) s)):=by
     show q=_
     rw[HI.out,a4.out,if_neg (by omega)]
    go_wp2;go_roundw
    case rel=>exact⟨i+1,s,by omega,by go_num,rfl,by omega,a3,b5,a1⟩
    case measure=>simp[intOf];omega
  ·obtain rfl:i=n:=by omega
   have c7:Hid (q=uqe (m.ats.drop 0) s):=by
    show q=_
    rw[HI.out,uBm HN.out.symm];rfl
   obtain⟨d9,_,_⟩:=b0.out.facts;clear HI;go_wp2;clear d9;go_loopw [5,31] (fun sv iv wr=>∃(i:Nat) (s:Int),i<=n'/\iv = .int .i64 i/\sv = .int .i64 s/\(0<=s/\s<=20)/\Hid (SpP w lo sb mb pb X wr)/\Hid (q=uqe (m.ats.drop i) s)) (fun _ iv _=>n'-(intOf iv).toNat)
   case atStart=>exact⟨0,s,by omega,rfl,rfl,by omega,HG,c7⟩
   case round=>
    obtain⟨i,s,hi,rfl,rfl,hs,HG,HI⟩:=hrel;by_cases d6:i<n'
    ·have a2:i<m.ats.length:=by have:=b4.out;omega
     have hF:uht wr D m.ats A' n' c':=uht.vAb (ug1 HG.out.1 HD.out) HA.out;obtain⟨b,off,v,rfl,b2,hb,hc,hr⟩:=hF.get a2;obtain⟨e1,A2,n2,c2,rfl,a9⟩:=hr;have c0:=hc 0 _ rfl;rw[Nat.add_zero]at c0;have c1:=hc 1 _ rfl;have b1:=hc 2 _ rfl;have a8:=uxr (s:=s) a2;have e9:=c9.out i a2;generalize m.ats[i]=a0 at *;generalize hv0:a0.d=y2 at *;generalize hl0:a0.l=l0 at *;generalize hk0:l0.c=y0 at *;have a4:=hid a8;clear a9 b2 hc a8;obtain⟨C,hC⟩:∃C,C=wr.alloc (.cells #[.int .i64 y0,.slice A2 n2 c2,.int .i64 y2] 128):=⟨_,rfl⟩;have a6:Hid (Below wr.heap.size wr C):=by rw[hC];exact aa.alloc ab _
     have HX:Hid (Bk C wr.heap.size 128 #[.int .i64 y0,.slice A2 n2 c2,.int .i64 y2]):=by rw[hC];exact Bk.new _ _ _
     have a3:=hid (HG.out.below a6.out);go_upto_region 11 with(fail)
     rw[<-hC];clear hC c0 c1 b1;obtain⟨c3,_,_⟩:=HX.out.facts;by_cases h6:s<=6
     ·have a1:Hid (q=uqe (m.ats.drop (i+1)) (s+min y2 7)):=by
       show q=_
       rw[HI.out,a4.out,if_pos h6]
      obtain⟨mn,d7⟩:∃mn,min y2 7=mn:=⟨_,rfl⟩;have e5:0<=mn/\mn<=7:=by omega
      rw[d7]at a1;by_cases h7:y2<7
      ·obtain rfl:mn=y2:=by omega
       go_wp2;go_roundw
       case rel=>exact⟨i+1,s+mn,by omega,by go_num,rfl,by omega,a3,a1⟩
       case measure=>simp[intOf];omega
      ·obtain rfl:mn=7:=by omega
       go_wp2;go_roundw
       case rel=>exact⟨i+1,s+7,by omega,by go_num,rfl,by omega,a3,a1⟩
       case measure=>simp[intOf];omega
     ·have a1:Hid (q=uqe (m.ats.drop (i+1)) s):=by
       show q=_
       rw[HI.out,a4.out,if_neg (by omega)]
      go_wp2;go_roundw
      case rel=>exact⟨i+1,s,by omega,by go_num,rfl,by omega,a3,a1⟩
      case measure=>simp[intOf];omega
    ·obtain rfl:i=n':=by omega
     have e:Hid (q=s):=by
      show q=_
      rw[HI.out,uBn b4.out.symm]
     go_wp2;go_ret
     exact⟨by rw[e.out];rfl,HG.out⟩
set_option maxHeartbeats 200000
set_option maxRecDepth 512
theorem uxs{a b:Int}(h:a<b):uai a b = -1:=by unfold uai;rw[if_pos h]
theorem uxt{a b:Int}(h:b<a):uai a b=1:=by unfold uai;rw[if_neg (by omega),if_pos h]
theorem uxu{a b:Int}(h1:¬a<b)(h2:¬b<a):uai a b=0:=by unfold uai;rw[if_neg h1,if_neg h2]
set_option maxHeartbeats 16000000
theorem ubt(a b:Int)(w:World):Calls Tryz.prog 124 #[.int .i64 a,.int .i64 b] w (uY (.int .i64 (uai a b)) w):=by
 obtain⟨q,hq⟩:∃q,Hid (uai a b=q):=⟨_,rfl⟩;rw[hq.out];go_enter Tryz.func124,Tryz.ntmps124
 go_wp2_with fail
 refine(ure a _).mono ?_;rintro e w1⟨rfl,a2⟩;have a1:=hid a2;clear a2;go_wp2_with fail
 refine(ure b _).mono ?_;rintro e w2⟨rfl,a3⟩;have a0:=hid (a1.out.trans (a3.mono a1.out.size));clear a3;by_cases h1:a<b
 ·go_wp2
  go_ret
  exact⟨by rw[<-hq.out,uxs h1];rfl,a0.out⟩
 by_cases h2:b<a
 ·go_wp2
  go_ret
  exact⟨by rw[<-hq.out,uxt h2];rfl,a0.out⟩
 go_wp2;go_ret
 exact⟨by rw[<-hq.out,uxu (by omega) (by omega)];rfl,a0.out⟩
theorem uoi(a b:Int)(w:World):Calls Tryz.prog 187 #[.int .i64 a,.int .i64 b] w (uY (.int .i64 (uai a b)) w):=by
 obtain⟨q,hq⟩:∃q,Hid (uai a b=q):=⟨_,rfl⟩;rw[hq.out];go_enter Tryz.func187,Tryz.ntmps187
 go_wp2_with fail
 refine(urf a _).mono ?_;rintro e w1⟨rfl,a2⟩;have a1:=hid a2;clear a2;go_wp2_with fail
 refine(urf b _).mono ?_;rintro e w2⟨rfl,a3⟩;have a0:=hid (a1.out.trans (a3.mono a1.out.size));clear a3;by_cases h1:a<b
 ·go_wp2
  go_ret
  exact⟨by rw[<-hq.out,uxs h1];rfl,a0.out⟩
 by_cases h2:b<a
 ·go_wp2
  go_ret
  exact⟨by rw[<-hq.out,uxt h2];rfl,a0.out⟩
 go_wp2;go_ret
 exact⟨by rw[<-hq.out,uxu (by omega) (by omega)];rfl,a0.out⟩
theorem ug2(b T:Nat)(x y:Int)(w:World)(h:Bk w b T #[.int .i64 x,.int .i64 y]):Calls Tryz.prog 127 #[.slice (some ⟨b,0,none⟩) 2 2] w (uY (.int .i64 (orC x y)) w):=by
 obtain⟨hc,_,_⟩:=h.facts;have c0:=hc 0;have c1:=hc 1;simp only[ae]at c0 c1;clear hc h;obtain⟨q,hq⟩:∃q,Hid (orC x y=q):=⟨_,rfl⟩;rw[hq.out];go_enter Tryz.func127,Tryz.ntmps127
 go_wp2;go_loopw [8] (fun iv wr=>∃i:Nat,i<=2/\iv = .int .i64 i/\wr=w/\(0<i->x=0)/\(1<i->y=0)) (fun iv _=>2-(intOf iv).toNat)
 case atStart=>exact⟨0,by omega,rfl,rfl,fun h=>absurd h (by omega),fun h=>absurd h (by omega)⟩
 case round=>
  obtain⟨i,hi,rfl,rfl,hx,hy⟩:=hrel;have HX:=hid hx;have HY:=hid hy;clear hx hy;rcases i with _|_|i
  ·by_cases h0:x=0
   ·subst h0
    go_wp2;go_roundw
    case rel=>exact⟨1,by omega,by go_num,trivial,fun _=>(by first|rfl|trivial),fun h=>absurd h (by omega)⟩
    case measure=>simp[intOf]
   ·go_wp2
    go_ret
    exact⟨by rw[<-hq.out,orC,if_pos h0];rfl,aa⟩
  ·have h0:x=0:=HX.out (by omega)
   subst h0;by_cases h1:y=0
   ·subst h1
    go_wp2;go_roundw
    case rel=>exact⟨2,by omega,by go_num,trivial,fun _=>(by first|rfl|trivial),fun _=>(by first|rfl|trivial)⟩
    case measure=>simp[intOf]
   ·go_wp2
    go_ret
    exact⟨by rw[<-hq.out,orC,if_neg (by simp)];rfl,aa⟩
  ·obtain rfl:i=0:=by omega
   have h0:x=0:=HX.out (by omega)
   have h1:y=0:=HY.out (by omega)
   go_wp2;go_ret
   exact⟨by rw[<-hq.out,h0,h1];rfl,aa⟩
end Go.Proofs.YtnbbpmagijpmpaaGreatDoor
