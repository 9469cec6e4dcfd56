/-
  Polynomials: copyMono.
-/
import Derived.Test.YtnbbpmagijpmpaaGreatDoorMGn
import Derived.Laws.FloatArith
set_option linter.unusedVariables false
set_option linter.unusedSimpArgs false
namespace Go.Proofs.YtnbbpmagijpmpaaGreatDoor
open Go.Lib (hid)
open Go.RowKit AC
theorem uz7:vCk (fun w D (t:Fac) v=>ujk w D t v):=⟨fun hk h=>ujk.vAb hk h,fun hd h=>h.sub hd⟩
theorem uz8:vCk (fun w D (t:Ato) v=>ujl w D t v):=⟨fun hk h=>ujl.vAb hk h,fun hd h=>h.sub hd⟩
theorem uz9:(Tryz.prog.info? 122).map (fun i=>(i.size,i.bytes,i.zero.map fun z=>z.cells.size))=some (3,40,some 3):=by kernel_rfl
theorem urj:(Tryz.prog.info? 128).map (fun i=>(i.size,i.bytes,i.zero.map fun z=>z.cells.size))=some (3,40,some 3):=by kernel_rfl
def utv(base:Nat)(f:Fac)(v:Value)(x:World):Prop:=∃A n c,v = .agg #[.int .i64 f.v,.int .i64 f.i.k,.slice A n c]/\IxR x (base <= ·) f.i [.int .i64 f.i.k,.slice A n c]
theorem utv.stays{base:Nat}{f:Fac}:∀v x x',utv base f v x->Below x.heap.size x x'->utv base f v x':=fun v x x' h hb=>by
 obtain⟨A,n,c,h1,h2⟩:=h;exact⟨A,n,c,h1,h2.vAb (uc.of hb)⟩
def upw(base:Nat)(f:Fac)(v:Value)(x:World):Prop:=∃A n c g,v = .slice (some ⟨g,0,none⟩) 1 1/\Bk x g 122 #[.int .i64 f.v,.int .i64 f.i.k,.slice A n c]/\base<=g/\IxR x (base <= ·) f.i [.int .i64 f.i.k,.slice A n c]
theorem upw.stays{base:Nat}{f:Fac}:∀v x x',upw base f v x->Below x.heap.size x x'->upw base f v x':=fun v x x' h hb=>by
 obtain⟨A,n,c,g,h1,h2,h3,h4⟩:=h;exact⟨A,n,c,g,h1,h2.below hb h2.lt,h3,h4.vAb (uc.of hb)⟩
def utw(base:Nat)(l:List (Int×Int))(v:Value)(x:World):Prop:=∃A n c,v = .slice A n c/\LtS x (base <= ·) l A n c
theorem utw.stays{base:Nat}{l:List (Int×Int)}:∀v x x',utw base l v x->Below x.heap.size x x'->utw base l v x':=fun v x x' h hb=>by
 obtain⟨A,n,c,h1,h2⟩:=h;exact⟨A,n,c,h1,LtS.vAb (uc.of hb) h2⟩
def upx(base:Nat)(c0:Int)(l:List (Int×Int))(v:Value)(x:World):Prop:=∃A n c,v = .agg #[.int .i64 c0,.slice A n c]/\LtS x (base <= ·) l A n c
theorem upx.stays{base:Nat}{c0:Int}{l:List (Int×Int)}:∀v x x',upx base c0 l v x->Below x.heap.size x x'->upx base c0 l v x':=fun v x x' h hb=>by
 obtain⟨A,n,c,h1,h2⟩:=h;exact⟨A,n,c,h1,LtS.vAb (uc.of hb) h2⟩
def upy(base:Nat)(v:Value)(x:World):Prop:=∃b,v = .pointer (some ⟨b,0,none⟩)/\base<=b/\Bk x b 126 #[.int .i64 0,.slice none 0 0]
theorem upy.stays{base:Nat}:∀v x x',upy base v x->Below x.heap.size x x'->upy base v x':=fun v x x' h hb=>by
 obtain⟨b,h1,h2,h3⟩:=h;exact⟨b,h1,h2,h3.below hb h3.lt⟩
theorem LtS.off{x:World}{D:Nat->Prop}{l:List (Int×Int)}{A:Option Addr}{n c g:Nat}{T:TypeId}{k:Int}{A':Option Addr}{n' c':Nat}(h:LtS x D l A n c)(hb:Bk x g T #[.int .i64 k,.slice A' n' c']):LtS x (fun b=>D b/\b≠g) l A n c:=by
 obtain⟨h1,h2,h3,h4⟩:=h;refine⟨h1,h2,h3,fun hp=>?_⟩
 obtain⟨b,off,e,hD,a0,hf⟩:=h4 hp;refine⟨b,off,e,⟨hD,fun e2=>?_⟩,a0,hf⟩
 subst e2;obtain⟨v,hc,_,_,rfl⟩:=hf 0 (by omega)
 have c0:=hc 0 _ rfl;have c1:=hc 1 _ rfl;rw[hb.cell]at c0 c1;rcases off with _|_|off
 ·simp at c1
 ·simp at c0
 ·simp at c0
def udn(base:Nat)(m:Mon)(v:Value)(x:World):Prop:=∃A n c A' n' c',v = .agg #[.slice A n c,.slice A' n' c']/\uU x (base <= ·) m [.slice A n c,.slice A' n' c']
def uc1(m:Mon)(w:World)(e:Ending)(w':World):Prop:=∃v,e = .returned v/\udn w.heap.size m v w'/\Below w.heap.size w w'
theorem upz{w:World}{g:Nat}{T:TypeId}{a b x:Value}(h:Bk w g T #[a,b]):Bk (w.setCell ⟨g,0,none⟩ x) g T #[x,b]:=by
 have:=h.set 0 x;simpa using this
theorem ulp{w:World}{g:Nat}{T:TypeId}{a b x:Value}(h:Bk w g T #[a,b]):Bk (w.setCell ⟨g,1,none⟩ x) g T #[a,x]:=by
 have:=h.set 1 x;simpa using this
set_option maxHeartbeats 16000000
set_option maxRecDepth 100000
theorem uc2{D:Nat->Prop}(m:Mon)(mv:List Value)(w:World)(h:uU w D m mv)(n5:m.fs.length<=100)(n6:m.ats.length<=100)(j1:∀f∈m.fs,f.i.sz<=50)(j5:∀a∈m.ats,a.l.ts.length<=1000):Calls Tryz.prog 74 #[.agg mv.toArray] w (uc1 m w):=by
 obtain⟨A,n,c,A',n',c',rfl,c9,c8⟩:=h;have hn:n=m.fs.length:=c9.1;have j2:n'=m.ats.length:=c8.1;have n8:=c9.2.1;have n9:=c8.2.1;have l4:c<=maxLen:=c9.2.2.1;have l5:c'<=maxLen:=c8.2.2.1;unfold maxLen at l4 l5;have n7:n<=100/\n'<=100:=⟨by omega,by omega⟩
 have k5:Hid (∀(j:Nat) (h:j<m.fs.length),m.fs[j].i.sz<=50):=fun j h=>j1 _ (aq h)
 have k6:Hid (∀(j:Nat) (h:j<m.ats.length),m.ats[j].l.ts.length<=1000):=fun j h=>j5 _ (aq h)
 have HN:=hid hn;have e6:=hid j2;have HF:=hid c9;have HA:=hid c8;clear hn j2 c9 c8 j1 j5;show Calls Tryz.prog 74 #[.agg #[.slice A n c,.slice A' n' c']] w _
 go_enter Tryz.func74,Tryz.ntmps74
 go_upto_region 2 with(fail)
 obtain⟨C,hC⟩:∃C,C=((w.alloc (.cells #[.slice A n c,.slice A' n' c'] 83)).alloc (.cells #[.slice none 0 0,.slice none 0 0] 83)).alloc (.cells #[.slice none 0 0,.slice none 0 0] 83):=⟨_,rfl⟩;have j7:Hid (Below w.heap.size w C):=by rw[hC];exact((aa.alloc ab _).alloc (by simp) _).alloc (by simp;omega) _
 have g7:Hid (Bk C w.heap.size 83 #[.slice A n c,.slice A' n' c']):=by rw[hC];exact((Bk.new _ _ _).alloc _).alloc _
 have k9:Hid (Bk C (w.heap.size+1) 83 #[.slice none 0 0,.slice none 0 0]):=by rw[hC];exact(uax _ _ _ _).alloc _
 have l1:Hid (Bk C (w.heap.size+2) 83 #[.slice none 0 0,.slice none 0 0]):=by rw[hC];exact ubc _ _ _ _ _
 have d8:Hid (C.heap.size=w.heap.size+3):=by show C.heap.size=_;rw[hC];simp
 rw[<-hC];clear hC;obtain⟨m5,_,_⟩:=g7.out.facts;go_wp2;clear m5;go_loopw [12] (fun jv wr=>∃(j:Nat) (us:Nat->List Value) (lv:Value),j<=n/\jv = .int .i64 j/\Hid (ucb 3 (fun w D (t:Fac) v=>ujk w D t v) 122 C.heap.size wr lv (m.fs.take j) us)/\Hid (Below w.heap.size w wr)/\Hid (Bk wr w.heap.size 83 #[.slice A n c,.slice A' n' c'])/\Hid (Bk wr (w.heap.size+1) 83 #[.slice none 0 0,.slice none 0 0])/\Hid (Bk wr (w.heap.size+2) 83 #[lv,.slice none 0 0])/\Hid (C.heap.size<=wr.heap.size)) (fun jv _=>n-(intOf jv).toNat)
 case atStart=>exact⟨0,fun _=>[],.slice none 0 0,by omega,rfl,ucb.nil _ _ _ _ _,j7,g7,k9,l1,ab⟩
 case round=>
  obtain⟨j,us,lv,hj,rfl,HO,HB,HX,HY,HZ,HC⟩:=hrel;obtain⟨pl,a4⟩:∃pl,m.fs.take j=pl:=⟨_,rfl⟩;have b6:pl.length=j:=by rw[<-a4,List.length_take];have:=HN.out;omega
  rw[a4]at HO;obtain⟨PA,pc,rfl,m0,m1⟩:=HO.out.form;unfold maxLen at m1;rw[b6]at HO HZ m0;have a8:=hid b6;have b8:=hid a4;clear a4 b6;by_cases l9:j<n
  ·have b4:j<m.fs.length:=by have:=HN.out;omega
   have hS:uhl wr D m.fs A n c:=uhl.vAb (uc.of HB.out) HF.out;obtain⟨b,off,v,rfl,hD,hb,hc,hr⟩:=hS.get b4;obtain⟨d3,A2,n2,c2,rfl,d2⟩:=hr;have c0:=hc 0 _ rfl;rw[Nat.add_zero]at c0;have c1:=hc 1 _ rfl;have f4:=hc 2 _ rfl;have e9:Hid (m.fs.take (j+1)=pl++[m.fs[j]]):=by
    show _=_
    rw[aJ b4,b8.out]
   have j4:=k5.out j b4;generalize m.fs[j]=fd at *;have e8:=hid d2;have d5:=hid d3;generalize hy0:fd.v=y0 at *;generalize hy1:fd.i.k=y1 at *;clear d2 d3 hc hD hS;go_upto_region 5 with(fail)
   obtain⟨wi,a5⟩:∃x,x=wr.alloc (.cells #[.int .i64 y0,.int .i64 y1,.slice A2 n2 c2] 122):=⟨_,rfl⟩;have a0:Hid (Below wr.heap.size wr wi):=by rw[a5];exact aa.alloc ab _
   have a6:Hid (Bk wi wr.heap.size 122 #[.int .i64 y0,.int .i64 y1,.slice A2 n2 c2]):=by rw[a5];exact Bk.new _ _ _
   have a9:=hid (HZ.out.below a0.out HZ.out.lt);have f3:Hid (∀x,Below wi.heap.size wi x->Calls Tryz.prog 132 #[.agg #[.int .i64 y1,.slice A2 n2 c2]] x (uhw fd.i x)):=fun x hx=>ukf fd.i.sz fd.i ab (by omega) _ x (e8.out.vAb (uc.of (a0.out.trans (hx.mono a0.out.size))))
   rw[<-a5];clear a5 c0 c1 f4;refine ue (⟨[(w.heap.size+2,0,[.slice PA j pc,.slice none 0 0]),(wr.heap.size,0,[.int .i64 y0,.int .i64 y1,.slice A2 n2 c2])],[],[uit wi.heap.size fd.i,utv wi.heap.size fd,upw wi.heap.size fd],[(3,.p 0 0),(5,.p 1 0)],[(6,.f 0),(7,.f 1),(8,.f 2)]⟩:Sp) [16,17,18,19,20,21,22,23,24] wi (aa.drew) (by kernel_rfl) (by kernel_rfl) (by kernel_rfl) (sI (uit.stays) (sI (utv.stays) (sI (upw.stays) sN))) (by kernel_rfl)
    (fun x hx=>(mI (ud (a9.out.below hx a9.out.lt)) (mI (ud (a6.out.below hx a6.out.lt)) mN))) (dI (ug [.v (.agg #[.int .i64 y1,.slice A2 n2 c2])] rfl rfl (by kernel_rfl) (by kernel_rfl) fun x vs hx hC hv=>by
     obtain⟨v1,rfl,h1⟩:=ubg hv;obtain rfl:v1 = .agg #[.int .i64 y1,.slice A2 n2 c2]:=h1;refine(f3.out x hx).mono ?_;rintro en w2⟨u,rfl,⟨A3,n3,c3,h1,h2⟩,hb⟩;exact⟨u,rfl,⟨A3,n3,c3,h1,h2.sub fun b _ hD=>ag hx.size hD⟩,hb⟩) (
    dI (uX rfl (parts:=[(0,.tmp 19),(1,.tmp 22)]) rfl fun x a hx b5=>by
     obtain⟨A3,n3,c3,h1,h2⟩:=(b5 (.tmp 22) (.f 0) (by kernel_rfl):uit wi.heap.size fd.i (a.eval (.tmp 22)) x)
     have h3:a.eval (.tmp 19) = .int .i64 y0:=b5 (.tmp 19) (.v (.int .i64 y0)) (by kernel_rfl)
     refine⟨.agg #[.int .i64 y0,.int .i64 fd.i.k,.slice A3 n3 c3],?_,A3,n3,c3,by rw[hy0],h2⟩
     simp only[List.map_cons,List.map_nil,h1,h3];kernel_rfl) (
    dI (uac rfl (parts:=[(0,.tmp 23)]) rfl fun x a hx b5=>by
     obtain⟨A3,n3,c3,h1,h2⟩:=(b5 (.tmp 23) (.f 1) (by kernel_rfl):utv wi.heap.size fd (a.eval (.tmp 23)) x)
     refine⟨122,[.int .i64 fd.v,.int .i64 fd.i.k,.slice A3 n3 c3],?_,A3,n3,c3,x.heap.size,rfl,Bk.new _ _ _,hx.size,h2.vAb (uc.of (aa.alloc ab _))⟩;simp only[List.map_cons,List.map_nil,h1];kernel_rfl) (dN)))) ?_
   intro S x1 a1 hS;obtain⟨g1,f8,_⟩:S 1 = .slice PA j pc/\(upw wi.heap.size fd:Value->World->Prop) (S 8) x1/\True:=hS (l:=[(1,.v (.slice PA j pc)),(8,.f 2)]) (by kernel_rfl)
   clear hS;simp only[nv,Nat.reduceAdd,aB,aE,aC,List.drop_zero,g1];clear g1;obtain⟨A3,n3,c3,gb,e5,b3,g0,g2⟩:=(f8:upw wi.heap.size fd (S 8) x1);rw[e5];rw[hy0,hy1]at b3;rw[hy1]at g2;have a7:=hid (a0.out.trans (a1.mono a0.out.size));have g6:=hid (HO.out.below uz7 a7.out);have f9:C.heap.size<=x1.heap.size:=by have h3:C.heap.size<=wr.heap.size:=HC.out;have:=a7.out.size;omega
   have m4:wr.heap.size<=wi.heap.size:=a0.out.size;have f2:=hid (a9.out.below a1 a9.out.lt);have k8:=hid (HX.out.below a7.out HX.out.lt);have f1:=hid (HY.out.below a7.out HY.out.lt);have h9:IxR x1 (fun b=>C.heap.size<=b/\some b≠(Value.slice PA j pc).ownBlock) fd.i [.int .i64 y1,.slice A3 n3 c3]:=g2.sub fun b _ hb=>by
    have f5:wi.heap.size<=b:=hb;have h3:C.heap.size<=wr.heap.size:=HC.out;exact⟨by omega,fun e=>by have:=(HO.out.lt e.symm).2;omega⟩
   have HV:Hid (ujk x1 (fun b=>C.heap.size<=b/\some b≠(Value.slice PA j pc).ownBlock) fd [.int .i64 y0,.int .i64 y1,.slice A3 n3 c3]):=⟨by rw[hy0];exact d5.out,A3,n3,c3,by rw[hy0,hy1],by rw[hy1];exact h9⟩
   clear h9;have b1:=g6.out.1;rw[a8.out]at b1;clear a1 g2;refine uN x1 rfl _ _ 80 122 rfl Tryz.underlying80 3 40 uz9 (by decide) (by decide) C.heap.size (.slice PA j pc) j (ucr us j) [.int .i64 y0,.int .i64 y1,.slice A3 n3 c3] (by rfl) b1 gb _ b3 (by rfl) rfl (by intro y hy;simp at hy;rcases hy with rfl|rfl|rfl<;>rfl) (by omega) f9 ?_
   intro g c5 w3 d0 hg h8 l6;have b0:=g6.out.vBc uz7 HV.out rfl (g:=g) (cap:=c5) (by rw[a8.out];exact d0) hg h8
   rw[a8.out]at b0;have e7:=hid b0;have a3:∀k,k<C.heap.size->some k≠(Value.slice PA j pc).ownBlock:=fun k hk e=>by have:=(HO.out.lt e.symm).1;omega
   have h6:=d8.out;have f0:=hid (f1.out.grown hg (a3 _ (by omega)))
   have k7:=hid (k8.out.grown hg (a3 _ (by omega)))
   have b9:=hid (f2.out.grown hg (a3 _ (by omega)))
   have b2:Below w.heap.size w x1:=HB.out.trans (a7.out.mono HB.out.size);have d7:Hid (Below w.heap.size w w3):=b2.grown hg b2.size (fun k e=>by have:=(HO.out.lt e).1;omega)
   obtain⟨hz,j6,m8⟩:=b9.out.facts;have k4:Hid (C.heap.size<=w3.heap.size):=by show C.heap.size<=w3.heap.size;have:=hg.size;omega
   clear b1 d0 b3 h8 hg a3 b2 b0;go_wp2;go_roundw
   case rel=>
    have a2:Fw (fun b=>b=w.heap.size+2) w3 (w3.setCell ⟨w.heap.size+2,0,none⟩ (.slice (some ⟨g,0,none⟩) (j+1) c5)):=(Fw.refl (fun b=>b=w.heap.size+2) _).setCell (p:=⟨w.heap.size+2,0,none⟩) (.inl rfl) _
    have c6:=e7.out.fw uz7 a2 (fun b hb=>by omega)
    rw[<-e9.out]at c6;refine⟨j+1,_,_,by omega,by go_num,c6,hid (d7.out.setCell (p:=⟨w.heap.size+2,0,none⟩) (by show w.heap.size<=w.heap.size+2;omega) _),hid (Bk.fw k7.out a2 (by show ¬w.heap.size=w.heap.size+2;omega)),hid (Bk.fw f0.out a2 (by show ¬w.heap.size+1=w.heap.size+2;omega)),hid (upz b9.out),hid (ag k4.out a2.size)⟩
   case measure=>simp[intOf];omega
  ·obtain rfl:n=j:=by omega
   have d1:pl=m.fs:=by rw[<-b8.out,List.take_of_length_le (by have:=HN.out;omega)]
   obtain⟨A3,n3,c3,h3,c7⟩:=HO.out.done uz7;injection h3 with e1 e2 e3;subst e1;subst e2;subst e3;have g4:Hid (uhl wr (C.heap.size <= ·) m.fs PA n pc):=by rw[<-d1];exact c7
   clear c7 d1;obtain⟨m6,_,_⟩:=HX.out.facts;go_wp2;clear m6;obtain⟨W1,h5⟩:∃x,x=wr:=⟨_,rfl⟩;rw[<-h5]at HB HX HY HZ HC g4 ⊢;clear HO h5;go_loopw [31] (fun jv wr=>∃(j:Nat) (us:Nat->List Value) (lv:Value),j<=n'/\jv = .int .i64 j/\Hid (ucb 3 (fun w D (t:Ato) v=>ujl w D t v) 128 W1.heap.size wr lv (m.ats.take j) us)/\Hid (Below w.heap.size w wr)/\Hid (uc (C.heap.size <= ·) W1 wr)/\Hid (Bk wr (w.heap.size+1) 83 #[.slice none 0 0,.slice none 0 0])/\Hid (Bk wr (w.heap.size+2) 83 #[.slice PA n pc,lv])) (fun jv _=>n'-(intOf jv).toNat)
   case atStart=>exact⟨0,fun _=>[],.slice none 0 0,by omega,rfl,ucb.nil _ _ _ _ _,HB,uc.of aa,HY,HZ⟩
   case round=>
    obtain⟨j,us,lv,hj,rfl,HO,HB,e0,HY,HZ⟩:=hrel;obtain⟨pl,a4⟩:∃pl,m.ats.take j=pl:=⟨_,rfl⟩;have b6:pl.length=j:=by rw[<-a4,List.length_take];have:=e6.out;omega
    rw[a4]at HO;obtain⟨QA,qc,rfl,m2,m3⟩:=HO.out.form;unfold maxLen at m3;rw[b6]at HO HZ m2;have a8:=hid b6;have b8:=hid a4;clear a4 b6;have o0:W1.heap.size<=wr.heap.size:=e0.out.1;by_cases l9:j<n'
    ·have b4:j<m.ats.length:=by have:=e6.out;omega
     have hS:uht wr D m.ats A' n' c':=uht.vAb (uc.of HB.out) HA.out;obtain⟨b,off,v,rfl,hD,hb,hc,hr⟩:=hS.get b4;obtain⟨d3,A2,n2,c2,rfl,j3,A4,n4,c4,e4,d2⟩:=hr;have c0:=hc 0 _ rfl;rw[Nat.add_zero]at c0;have c1:=hc 1 _ rfl;have f4:=hc 2 _ rfl;have e9:Hid (m.ats.take (j+1)=pl++[m.ats[j]]):=by
      show _=_
      rw[aJ b4,b8.out]
     have j4:=k6.out j b4;generalize m.ats[j]=ad at *;simp only[List.cons.injEq,Value.slice.injEq,true_and,and_true]at e4;obtain⟨rfl,rfl,rfl⟩:=e4;have e8:=hid d2;have d5:=hid (And.intro d3 j3);generalize hy2:ad.d=y2 at *;generalize hy0:ad.l.c=y0 at *;clear d2 d3 j3 hc hD hS;go_upto_region 10 with(fail)
     obtain⟨wi,a5⟩:∃x,x=wr.alloc (.cells #[.int .i64 y0,.slice A2 n2 c2,.int .i64 y2] 128):=⟨_,rfl⟩;have a0:Hid (Below wr.heap.size wr wi):=by rw[a5];exact aa.alloc ab _
     have a6:Hid (Bk wi wr.heap.size 128 #[.int .i64 y0,.slice A2 n2 c2,.int .i64 y2]):=by rw[a5];exact Bk.new _ _ _
     have a9:=hid (HZ.out.below a0.out HZ.out.lt);have g8:=hid (HY.out.below a0.out HY.out.lt);have f3:Hid (∀x,Below wi.heap.size wi x->Calls Tryz.prog 63 #[.slice A2 n2 c2] x (uno ad.l.ts x)):=fun x hx=>upv ad.l.ts A2 n2 c2 x (LtS.vAb (uc.of (a0.out.trans (hx.mono a0.out.size))) e8.out) j4
     rw[<-a5];clear a5 c0 c1 f4;refine ue (⟨[(wr.heap.size,0,[.int .i64 y0,.slice A2 n2 c2,.int .i64 y2])],[],[utw wi.heap.size ad.l.ts,upx wi.heap.size y0 ad.l.ts,upy wi.heap.size],[(7,.p 0 0)],[(6,.f 0),(7,.f 1),(8,.f 2)]⟩:Sp) [35,36,37,38,39,40,41,42,8] wi (aa.drew) (by kernel_rfl) (by kernel_rfl) (by kernel_rfl) (sI (utw.stays) (sI (upx.stays) (sI (upy.stays) sN))) (by kernel_rfl)
      (fun x hx=>(mI (ud (a6.out.below hx a6.out.lt)) mN)) (dI (ug [.v (.slice A2 n2 c2)] rfl rfl (by kernel_rfl) (by kernel_rfl) fun x vs hx hC hv=>by
       obtain⟨v1,rfl,h1⟩:=ubg hv;obtain rfl:v1 = .slice A2 n2 c2:=h1;refine(f3.out x hx).mono ?_;rintro en w2⟨A3,c3,rfl,h2,hb⟩;exact⟨_,rfl,⟨A3,_,c3,rfl,LtS.sub (fun b _ hD=>ag hx.size hD) h2⟩,hb⟩) (
      dI (uX rfl (parts:=[(0,.tmp 37),(1,.tmp 41)]) rfl fun x a hx b5=>by
       obtain⟨A3,n3,c3,h1,h2⟩:=(b5 (.tmp 41) (.f 0) (by kernel_rfl):utw wi.heap.size ad.l.ts (a.eval (.tmp 41)) x)
       have h3:a.eval (.tmp 37) = .int .i64 y0:=b5 (.tmp 37) (.v (.int .i64 y0)) (by kernel_rfl)
       refine⟨.agg #[.int .i64 y0,.slice A3 n3 c3],?_,A3,n3,c3,rfl,h2⟩;simp only[List.map_cons,List.map_nil,h1,h3];kernel_rfl) (
      dI (upk rfl rfl [.int .i64 0,.slice none 0 0] (by kernel_rfl) (fun x hx=>⟨_,rfl,hx.size,Bk.new _ _ _⟩)) (dN)))) ?_
     intro S x1 a1 hS;obtain⟨f7,f8,_⟩:(upx wi.heap.size y0 ad.l.ts:Value->World->Prop) (S 7) x1/\(upy wi.heap.size:Value->World->Prop) (S 8) x1/\True:=hS (l:=[(7,.f 1),(8,.f 2)]) (by kernel_rfl)
     clear hS;simp only[nv,Nat.reduceAdd,aB,aE,aC,List.drop_zero];obtain⟨A3,n3,c3,e5,j0⟩:=(f7:upx wi.heap.size y0 ad.l.ts (S 7) x1);obtain⟨bz,ez,n1,b3⟩:=(f8:upy wi.heap.size (S 8) x1);rw[e5,ez];have g3:=hid b3;have k2:=hid (LtS.off j0 b3);have a7:=hid (a0.out.trans (a1.mono a0.out.size));have j9:=hid (a6.out.below a1 a6.out.lt);have f2:=hid (a9.out.below a1 a9.out.lt);have f1:=hid (g8.out.below a1 g8.out.lt);have m4:wr.heap.size<wi.heap.size:=a6.out.lt;have o1:wi.heap.size<=x1.heap.size:=a1.size;have o3:w.heap.size+2<wr.heap.size:=HZ.out.lt;clear a1 j0 e5 ez b3;obtain⟨l2,l3,n0⟩:=g3.out.facts;go_upto_region 11 with(fail)
     clear l2 l3;obtain⟨X2,d6⟩:∃x,x=(x1.setCell ⟨bz,0,none⟩ (.int .i64 y0)).setCell ⟨bz,1,none⟩ (.slice A3 n3 c3):=⟨_,rfl⟩;have b7:Fw (fun b=>b=bz) x1 X2:=by
      rw[d6];exact((Fw.refl (fun b=>b=bz) _).setCell (p:=⟨bz,0,none⟩) (.inl rfl) _).setCell (p:=⟨bz,1,none⟩) (.inl rfl) _
     have d4:Hid (Below wr.heap.size wr X2):=a7.out.trans (b7.toBelow (fun x hx=>by omega) (by omega))
     have k0:Hid (Bk X2 bz 126 #[.int .i64 y0,.slice A3 n3 c3]):=by rw[d6];exact hid (ucc g3.out)
     have j8:=hid (Bk.fw j9.out b7 (by show ¬wr.heap.size=bz;omega))
     have g9:=hid (Bk.fw f2.out b7 (by show ¬w.heap.size+2=bz;omega))
     have l0:=hid (Bk.fw f1.out b7 (by show ¬w.heap.size+1=bz;omega))
     have k1:=hid (LtS.vAb (uc.fw b7 (fun b hb e=>hb.2 e)) k2.out)
     have g5:=hid (HO.out.below uz8 d4.out);rw[<-d6];clear d6 b7;have b1:=g5.out.1;rw[a8.out]at b1;obtain⟨m7,_,_⟩:=g9.out.facts;obtain⟨l7,_,_⟩:=j8.out.facts;obtain⟨l8,_,_⟩:=k0.out.facts;have f9:W1.heap.size<=X2.heap.size:=by have:=d4.out.size;omega
     go_wp2_with (first|refine ua3 rfl 81 128 (.tmp 48) rfl Tryz.underlying81 3 40 urj (by decide) (by decide) [.int .i64 y0,.slice A3 n3 c3,.int .i64 y2] (.agg #[.int .i64 y0,.slice A3 n3 c3,.int .i64 y2]) rfl rfl rfl ?_|(at_builtin;refine uaf X2 rfl _ _ 81 128 rfl Tryz.underlying81 3 40 urj (by decide) (by decide) W1.heap.size _ j (ucr us j) [.int .i64 y0,.slice A3 n3 c3,.int .i64 y2] (by rfl) b1 (by rfl) rfl (by intro y hy;simp at hy;rcases hy with rfl|rfl|rfl<;>rfl) (by omega) f9 ?_))
     intro g c5 w3 d0 hg g0 l6;have HV:ujl X2 (fun b=>W1.heap.size<=b/\some b≠(Value.slice QA j qc).ownBlock) ad [.int .i64 y0,.slice A3 n3 c3,.int .i64 y2]:=by
      refine⟨by rw[hy2];exact d5.out.1,A3,n3,c3,by rw[hy0,hy2],by rw[hy0];exact d5.out.2,A3,n3,c3,rfl,?_⟩
      refine LtS.sub (fun b _ hb=>?_) k1.out
      have f5:wi.heap.size<=b:=hb.1;exact⟨by omega,fun e=>by have:=(HO.out.lt e.symm).2;omega⟩
     have b0:=g5.out.next uz8 HV rfl (g:=g) (cap:=c5) (by rw[a8.out];exact d0) hg g0
     rw[a8.out]at b0;have e7:=hid b0;have a3:∀k,k<W1.heap.size->some k≠(Value.slice QA j qc).ownBlock:=fun k hk e=>by have:=(HO.out.lt e.symm).1;omega
     have h6:=d8.out;have h7:C.heap.size<=W1.heap.size:=HC.out;have f0:=hid ((l0.out.alloc (.cells (#[.int .i64 y0,.slice A3 n3 c3,.int .i64 y2]:Array Value) 128)).grown hg (a3 _ (by omega)))
     have b9:=hid ((g9.out.alloc (.cells (#[.int .i64 y0,.slice A3 n3 c3,.int .i64 y2]:Array Value) 128)).grown hg (a3 _ (by omega)))
     have f6:Below w.heap.size w X2:=HB.out.trans (d4.out.mono HB.out.size);have b2:Below w.heap.size w (X2.alloc (.cells (#[.int .i64 y0,.slice A3 n3 c3,.int .i64 y2]:Array Value) 128)):=f6.alloc f6.size _;have d7:Hid (Below w.heap.size w w3):=b2.grown hg b2.size (fun k e=>by have:=(HO.out.lt e).1;omega)
     have d9:Hid (uc (C.heap.size <= ·) W1 w3):=⟨by have:=hg.size;simp at this;omega,fun b hb hD=>by
      refine(hg.block b (by simp;omega) (a3 b hb)).trans ?_
      refine(Below.heap_alloc X2 _ b (by omega)).trans ?_
      exact(d4.out.block b (by omega)).trans (e0.out.2 b hb hD)⟩
     obtain⟨hz,j6,m8⟩:=b9.out.facts;clear b1 d0 g0 hg a3 f6 b2 b0 HV m7 l7 l8;go_wp2;go_roundw
     case rel=>
      have a2:Fw (fun b=>b=w.heap.size+2) w3 (w3.setCell ⟨w.heap.size+2,1,none⟩ (.slice (some ⟨g,0,none⟩) (j+1) c5)):=(Fw.refl (fun b=>b=w.heap.size+2) _).setCell (p:=⟨w.heap.size+2,1,none⟩) (.inl rfl) _
      have c6:=e7.out.fw uz8 a2 (fun b hb=>by omega)
      rw[<-e9.out]at c6;refine⟨j+1,_,_,by omega,by go_num,c6,hid (d7.out.setCell (p:=⟨w.heap.size+2,1,none⟩) (by show w.heap.size<=w.heap.size+2;omega) _),hid ⟨ag d9.out.1 a2.size,fun b hb hD=>(a2.block b (af hb d9.out.1) (fun e=>by have m9:C.heap.size<=b:=hD;omega)).trans (d9.out.2 b hb hD)⟩,hid (Bk.fw f0.out a2 (by show ¬w.heap.size+1=w.heap.size+2;omega)),hid (ulp b9.out)⟩
     case measure=>simp[intOf];omega
    ·obtain rfl:n'=j:=by omega
     have d1:pl=m.ats:=by rw[<-b8.out,List.take_of_length_le (by have:=e6.out;omega)]
     obtain⟨hz,j6,_⟩:=HZ.out.facts;obtain⟨hy,o2,_⟩:=HY.out.facts;obtain⟨A3,n3,c3,h3,c7⟩:=HO.out.done uz8;injection h3 with e1 e2 e3;subst e1;subst e2;subst e3;have h0:uht wr (W1.heap.size <= ·) m.ats QA n' qc:=by rw[<-d1];exact c7
     have h4:uhl wr (C.heap.size <= ·) m.fs PA n pc:=uhl.vAb e0.out g4.out
     have h7:C.heap.size<=W1.heap.size:=HC.out;have k3:Hid (uU wr (C.heap.size <= ·) m [.slice PA n pc,.slice QA n' qc]):=⟨PA,n,pc,QA,n',qc,rfl,h4,uht.sub (fun b _ hb=>ag h7 hb) h0⟩
     clear c7 h0 h4 d1;go_wp2;have hg:Bk ((wr.setCell ⟨w.heap.size+1,0,none⟩ (.slice PA n pc)).setCell ⟨w.heap.size+1,1,none⟩ (.slice QA n' qc)) (w.heap.size+1) 83 #[.slice PA n pc,.slice QA n' qc]:=ucc HY.out;refine bodyPost_ret (results_cell_row rfl _ _ (w.heap.size+1) 83 #[.slice PA n pc,.slice QA n' qc] (0,0) _ rfl hg Tryz.underlying83 rfl (by kernel_rfl)) rfl ?_
     have hf:Fw (fun b=>b=w.heap.size+1) wr ((wr.setCell ⟨w.heap.size+1,0,none⟩ (.slice PA n pc)).setCell ⟨w.heap.size+1,1,none⟩ (.slice QA n' qc)):=((Fw.refl (fun b=>b=w.heap.size+1) _).setCell (p:=⟨w.heap.size+1,0,none⟩) (.inl rfl) _).setCell (p:=⟨w.heap.size+1,1,none⟩) (.inl rfl) _
     have h6:=d8.out;refine⟨_,rfl,⟨PA,n,pc,QA,n',qc,rfl,(uU.vAb (uc.fw hf fun b hb e=>by have f5:C.heap.size<=b:=hb;omega) k3.out).sub fun b _ hb=>by have f5:C.heap.size<=b:=hb;show w.heap.size<=b;omega⟩,(HB.out.setCell (p:=⟨w.heap.size+1,0,none⟩) (by show w.heap.size<=w.heap.size+1;omega) _).setCell (p:=⟨w.heap.size+1,1,none⟩) (by show w.heap.size<=w.heap.size+1;omega) _⟩
set_option maxHeartbeats 200000
set_option maxRecDepth 512
def urk(a b:Rat):Bool:=decide (upa a b<0)
def url(a b:Rat):Bool:=decide (upa a b>0)
def uIt(g:FuncId)(sel:Rat->Rat->Bool):Prop:=Enters Tryz.prog g/\∀(w:World) (va vb:Value) (qa qb:Rat),ufi w 0 va 1100 qa->ufi w 0 vb 1100 qb ->
 Calls Tryz.prog g #[va,vb] w (fun e w'=>∃c0 C1 m1 d1 C2 m2 d2,e = .returned (.agg #[.bool c0,.slice C1 m1 d1,.slice C2 m2 d2])/\ufi w' 0 (.agg #[.bool c0,.slice C1 m1 d1,.slice C2 m2 d2]) 1100 (chS sel qa qb)/\Below w.heap.size w w')
set_option maxHeartbeats 16000000
set_option maxRecDepth 100000
theorem uv7:uIt 38 urk:=by
 refine⟨enters_of Tryz.func38 (by kernel_rfl) rfl,fun w va vb qa qb ha hb=>?_⟩
 have KC:=hid (fun(x:World) (hx:Below w.heap.size w x)=>uve x 0 0 va vb 1100 1100 qa qb (ha.below hx) (hb.below hx) (by omega))
 have HA:=hid ha;have a8:=hid hb;obtain⟨a0,A1,n1,c1,A2,n2,c2,rfl⟩:=ha.form;obtain⟨b0,B1,k1,d1,B2,k2,d2,rfl⟩:=hb.form;obtain⟨z,hz⟩:∃z,upa qa qb=z:=⟨_,rfl⟩;have HT:Hid (z<0->chS urk qa qb=qb):=fun h=>by unfold chS urk;rw[hz,decide_eq_true h];rfl
 have HN:Hid (¬z<0->chS urk qa qb=qa):=fun h=>by unfold chS urk;rw[hz,aQ h];rfl
 rw[hz]at KC;clear ha hb hz;generalize chS urk qa qb=qc at *;go_enter Tryz.func38,Tryz.ntmps38
 go_upto_region 1 with(fail)
 obtain⟨C,hC⟩:∃C,C=((w.alloc (.cells #[.bool a0,.slice A1 n1 c1,.slice A2 n2 c2] 62)).alloc (.cells #[.bool b0,.slice B1 k1 d1,.slice B2 k2 d2] 62)).alloc (.cells #[.bool false,.slice none 0 0,.slice none 0 0] 62):=⟨_,rfl⟩;have a2:Hid (Below w.heap.size w C):=by rw[hC];exact((aa.alloc ab _).alloc (by simp) _).alloc (by simp;omega) _
 have a3:Hid (Bk C w.heap.size 62 #[.bool a0,.slice A1 n1 c1,.slice A2 n2 c2]):=by rw[hC];exact((Bk.new _ _ _).alloc _).alloc _
 have a4:Hid (Bk C (w.heap.size+1) 62 #[.bool b0,.slice B1 k1 d1,.slice B2 k2 d2]):=by rw[hC];exact(uax _ _ _ _).alloc _
 have a7:Hid (Bk C (w.heap.size+2) 62 #[.bool false,.slice none 0 0,.slice none 0 0]):=by rw[hC];exact ubc _ _ _ _ _
 rw[<-hC];clear hC;obtain⟨b2,_,_⟩:=a3.out.facts;obtain⟨b3,_,_⟩:=a4.out.facts;go_wp2_with fail
 refine(KC.out C a2.out).mono ?_;rintro e w1⟨rfl,hb⟩;have a6:=hid (a2.out.trans (hb.mono a2.out.size));have a9:=hid (a3.out.below hb a3.out.lt);have b1:=hid (a4.out.below hb a4.out.lt);have a5:=hid (a7.out.below hb a7.out.lt);clear hb b2 b3;obtain⟨b4,_,_⟩:=a9.out.facts;obtain⟨b5,_,_⟩:=b1.out.facts;obtain⟨b6,b7,_⟩:=a5.out.facts;by_cases h0:z<0
 ·have e:=HT.out h0
  go_wp2;have hg:Bk (((w1.setCell ⟨w.heap.size+2,0,none⟩ (.bool b0)).setCell ⟨w.heap.size+2,1,none⟩ (.slice B1 k1 d1)).setCell ⟨w.heap.size+2,2,none⟩ (.slice B2 k2 d2)) (w.heap.size+2) 62 #[.bool b0,.slice B1 k1 d1,.slice B2 k2 d2]:=udy a5.out;refine bodyPost_ret (results_cell_row rfl _ _ (w.heap.size+2) 62 #[.bool b0,.slice B1 k1 d1,.slice B2 k2 d2] (0,0) _ rfl hg Tryz.underlying62 rfl (by kernel_rfl)) rfl ?_
  have a1:=uo a6.out (g:=w.heap.size+2) (by omega) (.bool b0) (.slice B1 k1 d1) (.slice B2 k2 d2)
  exact⟨b0,B1,k1,d1,B2,k2,d2,rfl,by rw[e];exact a8.out.below a1,a1⟩
 ·have e:=HN.out (by omega)
  go_wp2;have hg:Bk (((w1.setCell ⟨w.heap.size+2,0,none⟩ (.bool a0)).setCell ⟨w.heap.size+2,1,none⟩ (.slice A1 n1 c1)).setCell ⟨w.heap.size+2,2,none⟩ (.slice A2 n2 c2)) (w.heap.size+2) 62 #[.bool a0,.slice A1 n1 c1,.slice A2 n2 c2]:=udy a5.out;refine bodyPost_ret (results_cell_row rfl _ _ (w.heap.size+2) 62 #[.bool a0,.slice A1 n1 c1,.slice A2 n2 c2] (0,0) _ rfl hg Tryz.underlying62 rfl (by kernel_rfl)) rfl ?_
  have a1:=uo a6.out (g:=w.heap.size+2) (by omega) (.bool a0) (.slice A1 n1 c1) (.slice A2 n2 c2)
  exact⟨a0,A1,n1,c1,A2,n2,c2,rfl,by rw[e];exact HA.out.below a1,a1⟩
theorem uv8:uIt 40 url:=by
 refine⟨enters_of Tryz.func40 (by kernel_rfl) rfl,fun w va vb qa qb ha hb=>?_⟩
 have KC:=hid (fun(x:World) (hx:Below w.heap.size w x)=>uve x 0 0 va vb 1100 1100 qa qb (ha.below hx) (hb.below hx) (by omega))
 have HA:=hid ha;have a8:=hid hb;obtain⟨a0,A1,n1,c1,A2,n2,c2,rfl⟩:=ha.form;obtain⟨b0,B1,k1,d1,B2,k2,d2,rfl⟩:=hb.form;obtain⟨z,hz⟩:∃z,upa qa qb=z:=⟨_,rfl⟩;have HT:Hid (z>0->chS url qa qb=qb):=fun h=>by unfold chS url;rw[hz,decide_eq_true h];rfl
 have HN:Hid (¬z>0->chS url qa qb=qa):=fun h=>by unfold chS url;rw[hz,aQ h];rfl
 rw[hz]at KC;clear ha hb hz;generalize chS url qa qb=qc at *;go_enter Tryz.func40,Tryz.ntmps40
 go_upto_region 1 with(fail)
 obtain⟨C,hC⟩:∃C,C=((w.alloc (.cells #[.bool a0,.slice A1 n1 c1,.slice A2 n2 c2] 62)).alloc (.cells #[.bool b0,.slice B1 k1 d1,.slice B2 k2 d2] 62)).alloc (.cells #[.bool false,.slice none 0 0,.slice none 0 0] 62):=⟨_,rfl⟩;have a2:Hid (Below w.heap.size w C):=by rw[hC];exact((aa.alloc ab _).alloc (by simp) _).alloc (by simp;omega) _
 have a3:Hid (Bk C w.heap.size 62 #[.bool a0,.slice A1 n1 c1,.slice A2 n2 c2]):=by rw[hC];exact((Bk.new _ _ _).alloc _).alloc _
 have a4:Hid (Bk C (w.heap.size+1) 62 #[.bool b0,.slice B1 k1 d1,.slice B2 k2 d2]):=by rw[hC];exact(uax _ _ _ _).alloc _
 have a7:Hid (Bk C (w.heap.size+2) 62 #[.bool false,.slice none 0 0,.slice none 0 0]):=by rw[hC];exact ubc _ _ _ _ _
 rw[<-hC];clear hC;obtain⟨b2,_,_⟩:=a3.out.facts;obtain⟨b3,_,_⟩:=a4.out.facts;go_wp2_with fail
 refine(KC.out C a2.out).mono ?_;rintro e w1⟨rfl,hb⟩;have a6:=hid (a2.out.trans (hb.mono a2.out.size));have a9:=hid (a3.out.below hb a3.out.lt);have b1:=hid (a4.out.below hb a4.out.lt);have a5:=hid (a7.out.below hb a7.out.lt);clear hb b2 b3;obtain⟨b4,_,_⟩:=a9.out.facts;obtain⟨b5,_,_⟩:=b1.out.facts;obtain⟨b6,b7,_⟩:=a5.out.facts;by_cases h0:z>0
 ·have e:=HT.out h0
  go_wp2;have hg:Bk (((w1.setCell ⟨w.heap.size+2,0,none⟩ (.bool b0)).setCell ⟨w.heap.size+2,1,none⟩ (.slice B1 k1 d1)).setCell ⟨w.heap.size+2,2,none⟩ (.slice B2 k2 d2)) (w.heap.size+2) 62 #[.bool b0,.slice B1 k1 d1,.slice B2 k2 d2]:=udy a5.out;refine bodyPost_ret (results_cell_row rfl _ _ (w.heap.size+2) 62 #[.bool b0,.slice B1 k1 d1,.slice B2 k2 d2] (0,0) _ rfl hg Tryz.underlying62 rfl (by kernel_rfl)) rfl ?_
  have a1:=uo a6.out (g:=w.heap.size+2) (by omega) (.bool b0) (.slice B1 k1 d1) (.slice B2 k2 d2)
  exact⟨b0,B1,k1,d1,B2,k2,d2,rfl,by rw[e];exact a8.out.below a1,a1⟩
 ·have e:=HN.out (by omega)
  go_wp2;have hg:Bk (((w1.setCell ⟨w.heap.size+2,0,none⟩ (.bool a0)).setCell ⟨w.heap.size+2,1,none⟩ (.slice A1 n1 c1)).setCell ⟨w.heap.size+2,2,none⟩ (.slice A2 n2 c2)) (w.heap.size+2) 62 #[.bool a0,.slice A1 n1 c1,.slice A2 n2 c2]:=udy a5.out;refine bodyPost_ret (results_cell_row rfl _ _ (w.heap.size+2) 62 #[.bool a0,.slice A1 n1 c1,.slice A2 n2 c2] (0,0) _ rfl hg Tryz.underlying62 rfl (by kernel_rfl)) rfl ?_
  have a1:=uo a6.out (g:=w.heap.size+2) (by omega) (.bool a0) (.slice A1 n1 c1) (.slice A2 n2 c2)
  exact⟨a0,A1,n1,c1,A2,n2,c2,rfl,by rw[e];exact HA.out.below a1,a1⟩
set_option maxHeartbeats 200000
set_option maxRecDepth 512
mutual
def Ix.rg:Ix->Prop
 | .n k l=>rng k/\rgs l
def rgs:List Ix->Prop
 | []=>True
 | x::l=>x.rg/\rgs l
end
mutual
theorem IxR.rg{w:World}{D:Nat->Prop}:∀ {x:Ix} {v:List Value},IxR w D x v->x.rg
 | .n k l,v,h=>by
  rw[IxR]at h;obtain⟨h1,A,len,cap,h3,h4,h5,h6,h7⟩:=h;rw[Ix.rg];refine⟨h1,?_⟩;cases l with
  | nil=>rw[rgs];trivial
  | cons x l=>
   obtain⟨b,off,hA,hD,hb,hL⟩:=h7 (by rw[h4];simp)
   exact IxL.rg hL
theorem IxL.rg{w:World}{D:Nat->Prop}{b:Nat}:∀ {l:List Ix} {off:Nat},IxL w D b l off->rgs l
 | [],_,_=>by rw[rgs];trivial
 | t::l,off,h=>by
  rw[IxL]at h;obtain⟨⟨v,h1,h2⟩,h3⟩:=h;rw[rgs];exact⟨IxR.rg h2,IxL.rg h3⟩
end
mutual
theorem ulq:∀ {x:Ix},x.rg->(wix x).length+1<=24*x.sz
 | .n k l,h=>by
  rw[Ix.rg]at h;have h1:=uak h.1;have h2:=vBn (l:=l) h.2;rw[wix,Ix.sz,ay];split
  ·simp;omega
  ·simp;omega
theorem vBn:∀ {l:List Ix},rgs l->(vA5 l).length<=24*szs l
 | [],_=>by rw[vA5];simp
 | x::l,h=>by
  rw[rgs]at h;have h1:=ulq h.1;have h2:=vBn (l:=l) h.2;rw[vA5,szs,ay,aB];omega
end
theorem ulr:∀(a b:List Ix),vA5 (a++b)=vA5 a++vA5 b
 | [],b=>by rw[vA5];rfl
 | x::a,b=>by
  rw[List.cons_append,vA5,vA5,ulr a b];simp
theorem uv9{l:List Ix}{i:Nat}(h:i<l.length):vA5 (l.take (i+1))=vA5 (l.take i)++(wix l[i]++[44]):=by
 rw[aJ h,ulr,vA5,vA5]
theorem uAa{l:List Ix}{i:Nat}(h:rgs l):(vA5 (l.take i)).length<=24*szs l:=by
 have h2:=vBn h;have h3:vA5 l=vA5 (l.take i)++vA5 (l.drop i):=by rw[<-ulr,List.take_append_drop]
 rw[h3,ay]at h2;omega
theorem uD3{i:Ix}(h:i.l.length=0):wix i=Lib.itoa i.k:=by
 obtain⟨k,l⟩:=i;have:l=[]:=List.eq_nil_of_length_eq_zero h;subst this;rw[wix];exact List.append_nil _
theorem uAb{i:Ix}(h:i.l.length≠0):wix i=Lib.itoa i.k++[40]++vA5 i.l++[41]:=by
 obtain⟨k,l⟩:=i;rw[wix];cases l with
 | nil=>exact absurd rfl h
 | cons x l=>
  show Lib.itoa k++(if(x::l).isEmpty then []else 40::(vA5 (x::l)++[41]))=_
  simp;rfl
theorem Ix.vDg(i:Ix):i.rg↔rng i.k/\rgs i.l:=by
 obtain⟨k,l⟩:=i;rw[Ix.rg];exact Iff.rfl
theorem uGj{l:List Ix}{i:Nat}(h:i<l.length):l[i].sz<=szs l:=uge (aq h)
theorem uwa:∀ {l:List Ix} {i:Nat} (h:i<l.length),rgs l->l[i].rg
 | x::l,0,_,h=>by rw[rgs]at h;exact h.1
 | x::l,i+1,hi,h=>by
  rw[rgs]at h;exact uwa (l:=l) (i:=i) (by simpa using hi) h.2
set_option maxHeartbeats 16000000
set_option maxRecDepth 100000
theorem ukh:∀(N:Nat) (i:Ix) (hN:i.sz<=N) (b5:i.sz<=100) (bw:Nat) (l:List UInt8) (v:List Value) (w:World) (h:IxR w (· < bw) i v) (hd:Dst w bw l) (hl:l.length+2500*i.sz<=260000) (hg:Gp w) (a9:GP<=bw),
 Calls Tryz.prog 150 #[.pointer (some ⟨bw,0,none⟩),.agg v.toArray] w (fun e w'=>e = .returned (.tuple #[])/\Wfr bw w w'/\Dst w' bw (l++wix i))
 | 0,i,hN,_,_,_,_,_,_,_,_,_,_=>by have:=Ix.vBj i;omega
 | N+1,i,hN,b5,bw,l,v,w,h,hd,hl,hg,a9=>by
  have IH:=hid (ukh N);have e0:=Ix.vBj i;have b7:=(Ix.vDg i).1 h.rg;obtain⟨A,n,c,rfl,hs,hk⟩:=h.form;have hn:n=i.l.length:=hs.1;have d5:c<=maxLen:=hs.2.2.1;have e4:=hs.2.1;unfold maxLen at d5;have E0:= @uD3 i;have E1:= @uAb i;have e2:=uak hk;rw[<-hn]at E0 E1;have e7:szs i.l<=N/\szs i.l<=99/\l.length+2500*szs i.l+2500<=260000:=by omega
  generalize wix i=q at *;generalize i.k=x0 at *;generalize i.l=kids at *;have c7:=hid E0;have c8:=hid E1;have HS:=hid hs;have HN:=hid hn;have HK:=hid hk;have HD:=hid hd;have HG:=hid hg;have a7:=hid b7.2;have b6:=hd.lt;have b0:=hid a9;clear E0 E1 hs hn h hk hd hg b7 hN b5 e0 a9 hl;show Calls Tryz.prog 150 #[.pointer (some ⟨bw,0,none⟩),.agg #[.int .i64 x0,.slice A n c]] w _
  go_enter Tryz.func150,Tryz.ntmps150
  go_upto_region 1 with(fail)
  obtain⟨W,hW⟩:∃W,W=w.alloc (.cells #[.int .i64 x0,.slice A n c] 120):=⟨_,rfl⟩;have a1:Hid (Below w.heap.size w W):=by rw[hW];exact aa.alloc ab _
  have HP:Hid (Bk W w.heap.size 120 #[.int .i64 x0,.slice A n c]):=by rw[hW];exact Bk.new _ _ _
  rw[<-hW];clear hW;have c9:Hid (Wfr bw w W):=(Wfr.refl bw w).below a1.out (Nat.le_of_lt b6);have b9:=hid (HD.out.below a1.out);have d2:=hid (HG.out.below a1.out HG.out.2);obtain⟨d6,_,_⟩:=HP.out.facts;go_wp2_with fail
  refine(ud8 W x0 HK.out d2.out).mono ?_;rintro e w1⟨rfl,hb⟩;have b8:=hid (c9.out.below hb (ag (Nat.le_of_lt b6) a1.out.size));have d3:=hid (HP.out.below hb HP.out.lt);have c3:=hid (b9.out.below hb);clear hb d6;go_wp2_with fail
  refine(uS w1 bw l ⟨(Lib.itoa x0).toArray⟩ c3.out (by show l.length+(Lib.itoa x0).toArray.size<=262144;simp;omega)).mono ?_
  rintro e w2⟨rfl,hf,hd⟩;have b3:=hid (hf.2 _ _ _ (by omega) (by decide) d3.out)
  have b2:=hid (b8.out.trans hf);have b1:Hid (Dst w2 bw (l++Lib.itoa x0)):=hd;clear hf hd;obtain⟨d7,_,_⟩:=b3.out.facts;by_cases h0:n=0
  ·have e:=hid (c7.out h0)
   subst h0;go_wp2;go_end0
   exact⟨rfl,b2.out,by rw[e.out];exact b1.out⟩
  ·have e:=hid (c8.out h0)
   have e5:(n:Int)>0:=by omega
   go_wp2_with fail
   refine(uie w2 bw _ 40 40 (by decide) b1.out (by simp;omega)).mono ?_
   rintro e w3⟨rfl,hf,hd⟩;have d4:=hid (hf.2 _ _ _ (by omega) (by decide) b3.out)
   have d0:=hid (b2.out.trans hf);have c4:Hid (Dst w3 bw (l++Lib.itoa x0++[40])):=hd;clear hf hd d7;obtain⟨d8,_,_⟩:=d4.out.facts;go_wp2;clear d8;go_loopw [20] (fun iv wr=>∃(j:Nat),j<=n/\iv = .int .i64 j/\Hid (Wfr bw w wr)/\Hid (Dst wr bw (l++Lib.itoa x0++[40]++vA5 (kids.take j)))) (fun iv _=>n-(intOf iv).toNat)
   case atStart=>exact⟨0,by omega,rfl,d0,by show Dst w3 bw _;rw[List.take_zero,vA5,List.append_nil];exact c4.out⟩
   case round=>
    obtain⟨j,hj,rfl,HF,a4⟩:=hrel;by_cases e3:j<n
    ·have a2:j<kids.length:=by have:=HN.out;omega
     have hS:IxS wr (· < bw) kids A n c:=IxS.vAb ⟨HF.out.1.size,fun b hb hD=>HF.out.1.block b hD⟩ HS.out
     obtain⟨b,off,v,rfl,hD,hb,hc,hr⟩:=hS.get a2;obtain⟨A2,n2,c2,rfl,_,_⟩:=hr.form;have c0:=hc 0 _ rfl;rw[Nat.add_zero]at c0;have c1:=hc 1 _ rfl;have e6:=uGj a2;have hT:=uv9 a2;have d9:=uAa (i:=j) a7.out;have e8:=ulq (uwa a2 a7.out);have HR:=hid hr;have HT:=hid hT;have e1:bw<wr.heap.size:=a4.out.lt;obtain⟨W2,a8⟩:∃W2,W2=wr.alloc (.cells #[.int .i64 kids[j].k,.slice A2 n2 c2] 120):=⟨_,rfl⟩;have a0:Below wr.heap.size wr W2:=by rw[a8];exact aa.alloc ab _
     have a5:=hid (HF.out.below a0 (Nat.le_of_lt e1));have b4:=hid (IH.out kids[j] (by omega) (by omega) bw _ _ W2 (hr.vAb (uc.of a0)) (a4.out.below a0) (by simp;omega) (HG.out.below a5.out.1 b0.out) b0.out)
     rw[a8]at b4 a5;clear hr hc hT hD a8 a0;generalize kids[j]=kj at *;generalize kj.k=y0 at *;go_wp2_with fail
     refine b4.out.mono ?_;rintro e w4⟨rfl,hf,hd⟩;have d1:=hid (a5.out.trans hf);have c5:=hid hd;clear hf hd c0 c1;go_wp2_with fail
     refine(uie w4 bw _ 44 44 (by decide) c5.out (by simp;omega)).mono ?_
     rintro e w5⟨rfl,hf,hd⟩;have a6:=hid (d1.out.trans hf);have a3:Hid (Dst w5 bw (l++Lib.itoa x0++[40]++vA5 (kids.take (j+1)))):=by
      rw[HT.out];have:=hd;show Dst w5 bw _
      simp only[aS]at this ⊢;exact this
     clear hf hd;go_wp2;go_roundw
     case rel=>exact⟨j+1,by omega,by go_num,a6,a3⟩
     case measure=>simp[intOf];omega
    ·obtain rfl:j=n:=by omega
     have d9:=vBn a7.out;have c6:Hid (Dst wr bw (l++Lib.itoa x0++[40]++vA5 kids)):=by
      have:=a4.out;rw[List.take_of_length_le (by have:=HN.out;omega)]at this
      exact this
     go_wp2_with fail
     refine(uie wr bw _ 41 41 (by decide) c6.out (by simp;omega)).mono ?_
     rintro en w5⟨rfl,hf,hd⟩;have a6:=hid (HF.out.trans hf);have a3:Hid (Dst w5 bw (l++q)):=by
      rw[e.out];have:=hd;simp only[aS]at this ⊢;exact this
     clear hf hd;go_wp2;go_end0
     exact⟨rfl,a6.out,a3.out⟩
end Go.Proofs.YtnbbpmagijpmpaaGreatDoor
