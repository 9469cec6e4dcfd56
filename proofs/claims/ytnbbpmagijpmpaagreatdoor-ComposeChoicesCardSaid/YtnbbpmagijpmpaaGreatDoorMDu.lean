/-
  Polynomials: a sum takes terms.
-/
import Derived.Test.YtnbbpmagijpmpaaGreatDoorMDo
set_option linter.unusedVariables false
set_option linter.unusedSimpArgs false
namespace Go.Proofs.YtnbbpmagijpmpaaGreatDoor
open Go.Lib (hid)
open Go.RowKit AC
theorem ukx{s:ByteArray}:∀ {n:Nat} {l:List (ByteArray×Rat)},ubx (umf n l) s=none->∀z∈l,z.1≠s
 | _,[],_,z,hz=>by cases hz
 | n,a::l,h,z,hz=>by
  rw[umf,ubx]at h;split at h
  ·cases h
  ·rename_i hne
   rcases List.mem_cons.1 hz with rfl|hz
   ·exact fun e=>hne e.symm
   ·exact ukx h z hz
theorem uky{s:ByteArray}{k:Int}:∀ {n:Nat} {l:List (ByteArray×Rat)},ubx (umf n l) s=some k->∃(i:Nat) (h:i<l.length),k=((n+i:Nat):Int)/\l[i].1=s
 | _,[],h=>by cases h
 | n,a::l,h=>by
  rw[umf,ubx]at h;split at h
  ·rename_i he
   injection h with h;exact⟨0,by simp,by rw[Nat.add_zero];exact h.symm,he.symm⟩
  ·obtain⟨i,hi,e1,e2⟩:=uky h
   exact⟨i+1,by simpa using hi,by rw[e1];congr 1;omega,by simpa using e2⟩
def uqn(m:Mon):ByteArray:=⟨(uy0 m).toArray⟩
structure vC8 (w:World) (base sb mb:Nat) (lv:Value) (l:List (ByteArray×Rat)) (us:Nat->List Value):Prop where
 blk:Bk w sb 67 #[.map (some mb),lv]
 map:umn w mb (umf 0 l)
 row:ucb 5 (fun w D (q:Rat) v=>RcP (fun b=>b≠sb/\b≠mb) 5000000 w D q v) 85 0 w lv (l.map Prod.snd) us
 own:∀g,lv.ownBlock=some g->base<=g/\g≠sb/\g≠mb
 bs:base<=sb/\base<=mb/\sb≠mb
theorem vC8.below{w w':World}{base sb mb:Nat}{lv:Value}{l:List (ByteArray×Rat)}{us:Nat->List Value}(h:vC8 w base sb mb lv l us)(hb:Below w.heap.size w w'):vC8 w' base sb mb lv l us:=
 ⟨Bk.below h.blk hb h.blk.lt,h.map.below hb,h.row.below (uyi _ _) hb,h.own,h.bs⟩
theorem ucb.rowAt{Pb:Nat->Prop}{K:Nat}{e:TypeId}{base:Nat}{w:World}{lv:Value}{l:List Rat}{us:Nat->List Value}(h:ucb 5 (fun w D (q:Rat) v=>RcP Pb K w D q v) e base w lv l us){j:Nat}(hj:j<l.length) :
 ∃g cap b A1 n1 c1 A2 n2 c2 A3 n3 c3 A4 n4 c4,lv = .slice (some ⟨g,0,none⟩) l.length cap/\l.length<=cap/\cap<=maxLen/\g<w.heap.size/\um w g (0+j*5) [.bool b,.slice A1 n1 c1,.slice A2 n2 c2,.slice A3 n3 c3,.slice A4 n4 c4]/\(∀o,w.frozen? ⟨g,o,none⟩=false)/\uK w (fun b=>(base<=b/\b≠g)/\Pb b) (.agg #[.bool b,.slice A1 n1 c1,.slice A2 n2 c2]) K l[j]:=by
 obtain⟨b,A1,n1,c1,A2,n2,c2,A3,n3,c3,A4,n4,c4,e0,hq⟩:=(h.2 j hj).2;have a1:=h.1;rcases a1.2 with⟨hv,hn0⟩|⟨g,cap,cur,hv,r1,r2,r3,r4,r5⟩
 ·omega
 ·have a0:lv.ownBlock=some g:=by rw[hv];rfl
  refine⟨g,cap,b,A1,n1,c1,A2,n2,c2,A3,n3,c3,A4,n4,c4,hv,r3,r4,(a1.lt g a0).2,fun i x hx=>?_,fun o=>by simp[World.frozen?,r2],hq.vAb ab fun b hb _=>⟨rfl,⟨hb.1.1,fun e=>hb.1.2 (by rw[e,a0])⟩,hb.2⟩⟩
  have h1:=uil (fun i hi=>(h.2 i hi).1) hj (j:=i) (x:=x) (by rw[e0];exact hx)
  have h2:=a1.cells a0 _ _ h1;rw[Addr.add_lit]at h2;rw[show 0+j*5+i=0+(j*5+i) from by omega]
  exact h2
theorem uHl{f:Mon->Bool}:∀ {p:Pol},(∀y∈p,sz y.2<=2000)->sz (sm f p)<=3+p.length*2001
 | [],_=>by
  show sz 0<=_
  have:sz (0:Rat)<=3:=uet 0 1 (by decide) (by decide) (by decide)
  omega
 | (m,a)::p,h=>by
  have h1:=uHl (f:=f) (p:=p) fun y hy=>h y (by simp[hy])
  have h2:sz (if f m=true then a else 0)<=2000:=by
   split
   ·exact h (m,a) (by simp)
   ·have:sz (0:Rat)<=3:=uet 0 1 (by decide) (by decide) (by decide)
    omega
  have h3:=uF7 (if f m=true then a else 0) (sm f p)
  rw[sm,aB];omega
def ufd(l:List (ByteArray×Rat))(done:Pol):Prop:=vCj uqn l done/\l.length<=done.length/\done.length<=2400/\∀y∈done,sz y.2<=2000
theorem ufd.szs{l:List (ByteArray×Rat)}{done:Pol}(h:ufd l done):∀z∈l,sz z.2<=5000000:=fun z hz=>by
 rw[h.1.val z hz];have h1:=uHl (f:=fun m=>decide (uqn m=z.1)) h.2.2.2
 have h2:done.length*2001<=2400*2001:=aF _ h.2.2.1;omega
theorem ufd.new{l:List (ByteArray×Rat)}{done:Pol}(h:ufd l done)(m:Mon)(c:Rat)(hn:∀z∈l,z.1≠uqn m)(hc:sz c<=2000)(hd:done.length+1<=2400):ufd (l++[(uqn m,c)]) (done++[(m,c)]):=by
 refine⟨h.1.new m c hn,by simp;exact h.2.1,by simp;omega,fun y hy=>?_⟩
 rcases List.mem_append.1 hy with hy|hy
 ·exact h.2.2.2 y hy
 ·rw[List.mem_singleton]at hy;subst hy;exact hc
theorem ufd.more{l:List (ByteArray×Rat)}{done:Pol}(h:ufd l done)(m:Mon)(c:Rat){i:Nat}(hi:i<l.length)(hk:l[i].1=uqn m)(hc:sz c<=2000)(hd:done.length+1<=2400):ufd (l.set i (uqn m,l[i].2+c)) (done++[(m,c)]):=by
 refine⟨h.1.more m c hi hk,by rw[List.length_set];simp;exact Nat.le_succ_of_le h.2.1,by simp;omega,fun y hy=>?_⟩
 rcases List.mem_append.1 hy with hy|hy
 ·exact h.2.2.2 y hy
 ·rw[List.mem_singleton]at hy;subst hy;exact hc
def uFp(base:Nat)(cs:Array Value)(v:Value)(x:World):Prop:=∃g,v = .slice (some ⟨g,0,none⟩) 1 1/\Bk x g 85 cs/\base<=g
theorem uyk(w2:World){o:Oper}{a:Act}{KK:Act->World->Prop}{Q:Exit->Act->World->Prop}(sl x:Operand)(t e:TypeId)
 (ho:o.op = .call { callee:= .builtin .append,args:=#[sl,x],argTypes:=#[t,t] })
 (ht:Tryz.prog.underlying t=some (.slice e)) (sz a0:Nat) (a5:(Tryz.prog.info? e).map (fun i=>(i.size,i.bytes,i.zero.map fun z=>z.cells.size))=some (sz,a0,some sz)) (a8:0<sz) (a3:a0<=4096)
 (base:Nat) (lv:Value) (n:Nat) (xs v:List Value) (hs:a.eval sl=lv) (a6:w2.ownsRow base e sz lv n xs) (b:Nat) (T:TypeId) (hk:Bk w2 b T v.toArray) (hx:a.eval x = .slice (some ⟨b,0,none⟩) 1 1) (hv:v.length=sz) (h1:∀u∈v,u.oneCell'=true)
 (hn:n<=100000000) (a2:base<=w2.heap.size)
 (h:∀g cap w3,w3.ownsRow base e sz (.slice (some ⟨g,0,none⟩) (n+1) cap) (n+1) (xs++v)->w2.grownBy w3 lv.ownBlock->(lv.ownBlock=some g\/g=w2.heap.size)->g<w3.heap.size->KK (a.put o.dst (.slice (some ⟨g,0,none⟩) (n+1) cap)) w3) :
 o.wp Tryz.prog a w2 KK Q:=by
 obtain⟨i,hi,a1⟩:=aL.1 a5;simp only[Prod.mk.injEq]at a1;obtain⟨a7,a4,b1⟩:=a1;obtain⟨z,a9,b0⟩:=aL.1 b1;refine wp_append_lies _ sl x t ho base e i z sz a0 ht hi a9 a7 a4 b0 a8 lv n xs hs a6 ⟨b,0,none⟩ 1 1 v hx (by omega) ?_ h1 (by omega) (by unfold maxLen;omega) ?_ a2 w2.heap.size rfl ?_
 ·intro j u hu
  rw[Addr.add_lit,hk.cell,Nat.zero_add];simpa using hu
 ·have:(n+1)*a0<=100000001*4096:=Nat.mul_le_mul (by omega) a3
  omega
 ·intro g cap w3 h2 h3 h4 h5
  exact h g cap w3 h2 h3 h4 h5
def uF0(Pb:Nat->Prop)(base0:Nat)(lv:Value)(n:Nat)(ql:List Rat)(v:Value)(x:World):Prop:=∃g cap us,v = .slice (some ⟨g,0,none⟩) (n+1) cap/\ucb 5 (fun w D (q:Rat) v=>RcP Pb 5000000 w D q v) 85 0 x v ql us/\(lv.ownBlock=some g\/base0<=g)
theorem uF0.stays{Pb:Nat->Prop}{a0:Nat}{lv:Value}{n:Nat}{ql:List Rat}{v:Value}{x x':World}(h:uF0 Pb a0 lv n ql v x)(hb:Below x.heap.size x x'):uF0 Pb a0 lv n ql v x':=by
 obtain⟨g,cap,us,h1,h2,h3⟩:=h;exact⟨g,cap,us,h1,h2.below (uyi _ _) hb,h3⟩
theorem uB8{w w':World}{lv:Value}(h:w.grownBy w' lv.ownBlock):Fw (fun b=>some b=lv.ownBlock) w w':=⟨h.os,h.tape,h.output,h.size,fun b hb hn=>h.block b hb hn⟩
def uH9(w:World)(base sb mb:Nat)(lv0:Value)(done tl:Pol)(i:Nat)(wr:World):Prop:=∃lv l us,vC8 wr base sb mb lv l us/\ufd l (done++tl.take i)/\(lv.ownBlock=lv0.ownBlock\/∀g,lv.ownBlock=some g->w.heap.size<=g)/\Below base w wr/\uc (fun b=>b≠sb/\b≠mb/\some b≠lv0.ownBlock) w wr
def uyl(w:World)(base sb mb:Nat)(lv0:Value)(done tl:Pol)(e:Ending)(w':World):Prop:=e = .returned (.tuple #[])/\uH9 w base sb mb lv0 done tl tl.length w'
set_option maxHeartbeats 16000000
set_option maxRecDepth 100000
theorem uym{D:Nat->Prop}{base sb mb:Nat}{a4:Value}{l0:List (ByteArray×Rat)}{o1:Nat->List Value}{done:Pol}(tl:Pol)(A:Option Addr)(n c:Nat)(w:World)(h:TvS 2000 w D tl A n c)(hD:∀b,D b->b≠sb/\b≠mb/\some b≠a4.ownBlock)(hs:vC8 w base sb mb a4 l0 o1)(c8:ufd l0 done)(r9:done.length+tl.length<=2400)(o0:∀z∈tl,sz z.2<=2000)(l5:∀z∈tl,z.1.vA4)(hg:Gp w)(f2:GP<=base) :
 Calls Tryz.prog 21 #[.pointer (some ⟨sb,0,none⟩),.slice A n c] w (uyl w base sb mb a4 done tl):=by
 have hn:n=tl.length:=h.1;have w4:=h.2.1;have r3:c<=maxLen:=h.2.2.1;unfold maxLen at r3;have w0:n<=2400:=by omega
 have k9:base<=w.heap.size:=by have:=hs.blk.lt;have:=hs.bs.1;omega
 have HF:Hid (TvS 2000 w (fun b=>b<w.heap.size/\b≠sb/\b≠mb/\some b≠a4.ownBlock) tl A n c):=h.sub fun b hb hd=>⟨hb,hD b hd⟩
 have HN:=hid hn;have o4:Hid (uH9 w base sb mb a4 done tl 0 w):=⟨a4,l0,o1,hs,by rw[List.take_zero,List.append_nil];exact c8,.inl rfl,aa,uc.of aa⟩
 have g6:=hid hs.bs;have p8:Hid (∀(i:Nat) (h:i<tl.length),sz tl[i].2<=2000/\tl[i].1.vA4):=fun i h=>⟨o0 _ (aq h),l5 _ (aq h)⟩
 have o7:Hid (∀i,i<n->(done++tl.take i).length+1<=2400):=fun i hi=>by rw[ay,List.length_take];omega
 have HG:=hid hg;have o3:=hid f2;clear h hn hs c8 r9 o0 l5 hg f2 hD;unfold uyl;go_enter Tryz.func21,Tryz.ntmps21
 go_wp2;go_loopw [11] (fun iv wr=>∃(i:Nat),i<=n/\iv = .int .i64 i/\Hid (uH9 w base sb mb a4 done tl i wr)) (fun iv _=>n-(intOf iv).toNat)
 case atStart=>exact⟨0,by omega,rfl,o4⟩
 case round=>
  obtain⟨i,hi,rfl,HI⟩:=hrel;by_cases f6:i<n
  ·have f3:i<tl.length:=by have:=HN.out;omega
   obtain⟨lv,l,us,n9,c8,m7,b1,c6⟩:=HI.out;have hS:TvS 2000 wr (fun b=>b<w.heap.size/\b≠sb/\b≠mb/\some b≠a4.ownBlock) tl A n c:=TvS.vAb ⟨c6.1,fun b hb hD=>c6.2 b hb hD.2⟩ HF.out
   obtain⟨b,off,v,rfl,hD,hb,hc,hr⟩:=hS.get f3;obtain⟨tn,A1,n1,c1,A2,n2,c2,A3,n3,c3,A4,n4,c4,rfl,n5,l9⟩:=hr;have c0:=hc 0 _ rfl;rw[Nat.add_zero]at c0;have q2:=hc 1 _ rfl;have q3:=hc 2 _ rfl;have q4:=hc 3 _ rfl;have q5:=hc 4 _ rfl;have k1:Hid (done++tl.take (i+1)=(done++tl.take i)++[tl[i]]):=by
    show _=_
    rw[aJ f3,aS]
   obtain⟨g0,f5⟩:=p8.out i f3;have l7:=o7.out i f6;generalize tl[i]=z at *;obtain⟨mm,qq⟩:=z;simp only at g0 f5;have j4:Hid (uK wr (fun b=>b<w.heap.size/\b≠sb/\b≠mb/\some b≠a4.ownBlock) (.agg #[.bool tn,.slice A1 n1 c1,.slice A2 n2 c2]) 2000 qq):=n5
   have j1:Hid (uU wr (fun b=>b<w.heap.size/\b≠sb/\b≠mb/\some b≠a4.ownBlock) mm [.slice A3 n3 c3,.slice A4 n4 c4]):=l9
   have k0:=hid g0;have o6:=hid f5;have j0:=hid l7;have d6:=hid c8;have b4:=hid m7;have a8:=hid b1;have e5:=hid c6;have d8:=hid n9;have g5:w.heap.size<=wr.heap.size:=c6.1;have g7:Hid (Gp wr):=HG.out.below b1 o3.out;generalize done++tl.take i=dn at *;clear n5 l9 hc hD hS c8 m7 b1 c6 n9 g0 f5 HI l7;go_upto_region 3 with(fail)
   obtain⟨C,hC⟩:∃C,C=wr.alloc (.cells #[.bool tn,.slice A1 n1 c1,.slice A2 n2 c2,.slice A3 n3 c3,.slice A4 n4 c4] 85):=⟨_,rfl⟩;have d9:Hid (Below wr.heap.size wr C):=by rw[hC];exact aa.alloc ab _
   have HY:Hid (Bk C wr.heap.size 85 #[.bool tn,.slice A1 n1 c1,.slice A2 n2 c2,.slice A3 n3 c3,.slice A4 n4 c4]):=by rw[hC];exact Bk.new _ _ _
   have k2:=hid (uow mm _ C (uU.vAb (uc.of d9.out) j1.out) o6.out (g7.out.below d9.out g7.out.2));rw[<-hC];clear hC c0 q2 q3 q4 q5;obtain⟨v3,_,_⟩:=HY.out.facts;go_wp2_with fail
   refine k2.out.mono ?_;rintro e w1⟨rfl,f0⟩;have b3:Hid (Below wr.heap.size wr w1):=d9.out.trans (f0.mono d9.out.size);have b8:=hid (HY.out.below f0 HY.out.lt);have a7:=hid (d8.out.below b3.out);have p7:=hid d8.out.map;have j7:Hid (∀g,lv.ownBlock=some g->g<wr.heap.size):=fun g hg=>(d8.out.row.lt hg).2
   have j5:=hid (j4.out.vBp b3.out);obtain⟨kt,f4⟩:∃kt,(⟨(uy0 mm).toArray⟩:ByteArray)=kt:=⟨_,rfl⟩;have e6:Hid (uqn mm=kt):=f4;rw[f4];have b6:=uoe (P:=Tryz.prog) (T:=65) (kt:=9) (e:=3) Tryz.underlying65 Tryz.underlying9 usj a7.out.map kt;clear f0 v3 k2 f4 d8 j4 j1 HY;obtain⟨n8,_,_⟩:=Bk.facts a7.out.blk;have x3:wr.heap.size<w1.heap.size:=b8.out.lt;cases hf:ubx (umf 0 l) kt with
   | some k=>
    obtain⟨j,hj,hk,l4⟩:=uky hf;rw[Nat.zero_add]at hk;subst hk;rw[hf]at b6;simp only[Option.getD_some,Option.isSome_some]at b6;have HJ:=hid hj;have e0:=hid (l4.trans e6.out.symm);clear hf l4;obtain⟨g,cap,ob,B1,m1,d1,B2,m2,d2,B3,m3,d3,B4,m4,d4,rfl,l6,r4,l1,n6,n7,f9⟩:=a7.out.row.rowAt (j:=j) (by rw[List.length_map];exact HJ.out)
    have r8:(l.map Prod.snd)[j]'(by rw[List.length_map];exact HJ.out)=l[j].2:=List.getElem_map ..
    rw[r8]at f9;have w8:=ufd.szs d6.out _ (aq HJ.out);have d5:=hid (ufd.more d6.out mm qq HJ.out e0.out k0.out j0.out);have t7:sz (l[j].2+qq)<=5000000:=by
     have h1:=ufd.szs d5.out (uqn mm,l[j].2+qq);exact h1 (List.mem_set HJ.out _)
    have p6:Hid (umf 0 (l.set j (uqn mm,l[j].2+qq))=umf 0 l):=by
     rw[<-e0.out];exact hid (usq 0 l j _ HJ.out)
    have e7:Hid ((l.set j (uqn mm,l[j].2+qq)).map Prod.snd=(l.map Prod.snd).set j (l[j].2+qq)):=by
     show _=_
     rw[List.map_set]
    rw[List.length_map]at l6;unfold maxLen at r4;generalize l[j].2=ov at *;obtain⟨ln,c7⟩:∃ln,l.length=ln:=⟨_,rfl⟩;have l3:j<ln:=by rw[<-c7];exact HJ.out
    have g8:=hid c7;simp only[List.length_map,c7]at l6 a7 b4 ⊢;have p4:=hid f9;have j6:Hid (um w1 g (0+j*5) [.bool ob,.slice B1 m1 d1,.slice B2 m2 d2,.slice B3 m3 d3,.slice B4 m4 d4]):=n6;have e8:Hid (g<w1.heap.size):=l1;have b0:Hid (Bk w1 sb 67 #[.map (some mb),.slice (some ⟨g,0,none⟩) ln cap]):=a7.out.blk;have KA:Hid (∀x,Below w1.heap.size w1 x->Calls Tryz.prog 45 #[.agg #[.bool ob,.slice B1 m1 d1,.slice B2 m2 d2],.agg #[.bool tn,.slice A1 n1 c1,.slice A2 n2 c2]] x (uFo (ov+qq) 5000000 x)):=fun x hx=>
     (uzn x 0 0 _ _ 5000000 2000 ov qq (uK.zero (p4.out.vBp hx)) (uK.zero (j5.out.vBp hx)) (by omega)).mono fun e w' h=>uDn.vDk t7 h
    clear f9 n6 l1 n7 e0;go_upto_region 6 with(fail)
    clear b6 n8;refine ue (⟨[(sb,0,[.map (some mb),.slice (some ⟨g,0,none⟩) ln cap]),(g,(0+j*5),[.bool ob,.slice B1 m1 d1,.slice B2 m2 d2,.slice B3 m3 d3,.slice B4 m4 d4]),(wr.heap.size,0,[.bool tn,.slice A1 n1 c1,.slice A2 n2 c2,.slice A3 n3 c3,.slice A4 n4 c4])],[],[uyj w1.heap.size 5000000 (ov+qq)],[(0,.p 0 0),(5,.p 2 0),(7,.v (.int .i64 ((j:Int))))],[(10,.p 1 0),(15,.f 0),(16,.p 1 0)]⟩:Sp) [28,29,30,31,32,33,34,35,36,37,38,39,40,41,42,43,44,45] w1 (aa.drew) (by kernel_rfl) (by kernel_rfl) (by kernel_rfl) (sI (uyj.stays) sN) (by kernel_rfl)
     (fun x hx=>(mI (ud (b0.out.below hx b0.out.lt)) (mI (j6.out.sure hx e8.out) (mI (ud (b8.out.below hx b8.out.lt)) mN)))) (dI (uas rfl rfl g (0) ln cap .i64 j 5 1 (by kernel_rfl) (by kernel_rfl) (fun _=>by omega) rfl) (
     dI (ug [.v (.agg #[.bool ob,.slice B1 m1 d1,.slice B2 m2 d2]),.v (.agg #[.bool tn,.slice A1 n1 c1,.slice A2 n2 c2])] rfl rfl (by kernel_rfl) (by kernel_rfl) fun x vs hx hC hv=>by
      obtain⟨v1,v2,rfl,h1,h2⟩:=uec hv;obtain rfl:v1 = .agg #[.bool ob,.slice B1 m1 d1,.slice B2 m2 d2]:=h1;obtain rfl:v2 = .agg #[.bool tn,.slice A1 n1 c1,.slice A2 n2 c2]:=h2;refine(KA.out x hx).mono ?_;rintro en w2⟨u,rfl,⟨b,A3,n3,c3,A4,n4,c4,h1,h2⟩,hb⟩;exact⟨u,rfl,⟨b,A3,n3,c3,A4,n4,c4,h1,h2.vAb ab fun b hb _=>⟨rfl,ag hx.size hb⟩⟩,hb⟩) (
     dI (uas rfl rfl g (0) ln cap .i64 j 5 1 (by kernel_rfl) (by kernel_rfl) (fun _=>by omega) rfl) (dN)))) ?_
    intro S x1 a0 hS;obtain⟨q6,k4,_⟩:(uyj w1.heap.size 5000000 (ov+qq):Value->World->Prop) (S 15) x1/\S 17 = .pointer (some ⟨g,(0+j*5)+0,none⟩)/\True:=hS (l:=[(15,.f 0),(17,.p 1 0)]) (by kernel_rfl)
    clear hS;simp only[nv,Nat.reduceAdd,aB,aE,aC,List.drop_zero,k4];clear k4;obtain⟨nb,E1,e1,e2,E2,e3,e4,k3,m5⟩:=(q6:uyj w1.heap.size 5000000 (ov+qq) (S 15) x1);rw[k3];have a1:=hid (a7.out.below a0);have a5:Hid (Below wr.heap.size wr x1):=b3.out.trans (a0.mono b3.out.size);have w9:w1.heap.size<=x1.heap.size:=a0.size;have s9:sb<w1.heap.size:=b0.out.lt;have s1:mb<w1.heap.size:=a7.out.map.lt;have v8:g<w1.heap.size:=e8.out;have e9:=hid (j6.out.sure a0 e8.out);obtain⟨g',v5,_,_,_,_,_,_,_,_,_,_,_,_,_,eg,_,_,_,_,n7,_⟩:=a1.out.row.rowAt (j:=j) (by rw[List.length_map,g8.out];exact l3)
    injection eg with eg _ _;injection eg with eg;injection eg with eg;subst eg;have r0:=e9.out 0 _ rfl;have r1:=e9.out 1 _ rfl;have r2:=e9.out 2 _ rfl;simp only[Nat.zero_add,Nat.add_zero]at r0 r1 r2;have p0:=hid m5;clear a0 m5 k3;go_wp2;go_roundw
    case rel=>
     refine⟨i+1,by omega,by go_num,?_⟩
     obtain⟨us',v0⟩:=ucb.vDo (k:=j) a1.out.row (by rw[List.length_map,g8.out];exact l3) (q:=ov+qq) (b:=nb) (A1:=E1) (n1:=e1) (c1:=e2) (A2:=E2) (n2:=e3) (c2:=e4) (p0.out.vAb ab fun b hb _=>⟨rfl,⟨Nat.zero_le _,fun e=>by
      have e':b=g:=by simpa[Value.ownBlock]using e
      have k6:w1.heap.size<=b:=hb;omega⟩,by have k6:w1.heap.size<=b:=hb;omega,by have k6:w1.heap.size<=b:=hb;omega⟩)
     have a3:Fw (fun x=>x=g) x1 (((x1.setCell ⟨g,j*5,none⟩ (.bool nb)).setCell ⟨g,j*5+1,none⟩ (.slice E1 e1 e2)).setCell ⟨g,j*5+2,none⟩ (.slice E2 e3 e4)):=(((Fw.refl (fun x=>x=g) _).setCell (p:=⟨g,j*5,none⟩) (.inl rfl) _).setCell (p:=⟨g,j*5+1,none⟩) (.inl rfl) _).setCell (p:=⟨g,j*5+2,none⟩) (.inl rfl) _
     have f8:=a1.out.own g rfl;refine⟨_,l.set j (uqn mm,ov+qq),us',⟨Bk.fw a1.out.blk a3 (fun e=>f8.2.1 e.symm),?_,?_,a1.out.own,a1.out.bs⟩,?_,b4.out,a8.out.trans ((a5.out.mono (ag k9 g5)).trans (a3.toBelow (fun x hx=>by rw[hx];exact f8.1) (ag k9 (ag g5 a5.out.size)))),⟨?_,fun b hb hD=>?_⟩⟩
     ·rw[p6.out]
      exact a1.out.map.fw a3 (fun e=>f8.2.2 e.symm)
     ·rw[e7.out]
      exact v0
     ·rw[k1.out]
      exact d5.out
     ·exact ag e5.out.1 (ag a5.out.size a3.size)
     ·have s4:¬b=g:=fun e=>by
       rcases b4.out with h|h
       ·exact hD.2.2 (by rw[e,<-h];rfl)
       ·have:=h g rfl;omega
      have k7:b<wr.heap.size:=af hb g5;exact((a3.block b (af k7 a5.out.size) s4).trans (a5.out.block b k7)).trans (e5.out.2 b hb hD)
    case measure=>simp[intOf];omega
   | none=>
    rw[hf]at b6;simp only[Option.getD_none,Option.isSome_none]at b6;have o2:=hid hf;have m0:=ukx hf;have d5:Hid (ufd (l++[(uqn mm,qq)]) (dn++[(mm,qq)])):=ufd.new d6.out mm qq (fun z hz=>by rw[e6.out];exact m0 z hz) k0.out j0.out
    have r7:l.length<=2400:=by have:=d6.out.2;omega
    clear hf m0;obtain⟨PA,pc,f7,m8,s8⟩:=a7.out.row.form;unfold maxLen at s8;rw[List.length_map]at f7 m8;have j3:Hid (umf 0 (l++[(uqn mm,qq)])=umf 0 l++[(kt,(l.length:Int))]):=by
     show _=_
     rw[usp,Nat.zero_add,e6.out]
    have e7:Hid ((l++[(uqn mm,qq)]).map Prod.snd=l.map Prod.snd++[qq]):=by
     show _=_
     rw[List.map_append];rfl
    have d7:Hid ((l.map Prod.snd).length=l.length):=List.length_map ..;obtain⟨ln,c7⟩:∃ln,Hid (l.length=ln):=⟨_,rfl⟩;rw[c7.out]at f7 m8 r7 j3 d7;subst f7;have b0:Hid (Bk w1 sb 67 #[.map (some mb),.slice PA ln pc]):=a7.out.blk;go_upto_region 7 with(fail)
    clear b6 n8;refine ue (⟨[(sb,0,[.map (some mb),.slice PA ln pc])],[],[],[(0,.p 0 0),(6,.v (.string kt))],[]⟩:Sp) [46,47,48,49,50,51,52,53,54,55] w1 (aa.drew) (by kernel_rfl) (by kernel_rfl) (by kernel_rfl) sN (by kernel_rfl)
     (fun x hx=>(mI (ud (b0.out.below hx b0.out.lt)) mN)) (dN) ?_
    intro S x1 a0 hS;obtain⟨g3,g4,g9,_⟩:S 3 = .map (some mb)/\S 4 = .string kt/\S 9 = .int .i64 ln/\True:=hS (l:=[(3,.v (.map (some mb))),(4,.v (.string kt)),(9,.v (.int .i64 ln))]) (by kernel_rfl)
    clear hS;simp only[nv,Nat.reduceAdd,aB,aE,aC,List.drop_zero,g3,g4,g9];clear g3 g4 g9;have a1:=hid (a7.out.below a0);have a5:Hid (Below wr.heap.size wr x1):=b3.out.trans (a0.mono b3.out.size);have q0:=hid (b8.out.below a0 b8.out.lt);have p2:=hid (j5.out.vBp a0);clear a0;obtain⟨w3,t9,l8,a9,w6⟩:=usd (P:=Tryz.prog) (T:=65) (kt:=9) (e:=3) Tryz.underlying65 Tryz.underlying9 a1.out.map kt (ln:Int) o2.out;have q9:=g6.out;have s9:sb<x1.heap.size:=a1.out.blk.lt;have s1:mb<x1.heap.size:=a1.out.map.lt;have x0:wr.heap.size<=x1.heap.size:=a5.out.size;have s2:mb<wr.heap.size\/True:= .inr trivial;have o8:=hid l8;have c9:=hid a9;have j8:=hid (Bk.fw a1.out.blk a9 q9.2.2);have p5:=hid (a1.out.row.fwP a9 (fun b hb h=>h.2 hb) (fun g hg e=>(a1.out.own g hg).2.2 e))
    have s3:¬wr.heap.size=mb:=fun e=>by have h1:=p7.out.lt;omega
    have q1:=hid (Bk.fw q0.out a9 s3);have s0:∀b,(b<w.heap.size/\b≠sb/\b≠mb/\some b≠a4.ownBlock)->¬b=mb:=fun b hb=>hb.2.2.1
    have p3:Hid (uK w3 (fun b=>b<w.heap.size/\b≠sb/\b≠mb/\some b≠a4.ownBlock) (.agg #[.bool tn,.slice A1 n1 c1,.slice A2 n2 c2]) 2000 qq):=p2.out.vAb a9.size fun b hb f6=>⟨a9.block b f6 (s0 b hb),hb⟩
    have v6:x1.heap.size<=w3.heap.size:=a9.size;clear l8 a9 b0 s2;go_upto_region 8 with(fail)
    clear t9;have m6:some sb≠(Value.slice PA ln pc).ownBlock:=fun e=>(a1.out.own sb e.symm).2.1 rfl
    have s5:some mb≠(Value.slice PA ln pc).ownBlock:=fun e=>(a1.out.own mb e.symm).2.2 rfl
    have s6:some wr.heap.size≠(Value.slice PA ln pc).ownBlock:=fun e=>by have:=j7.out _ e.symm;omega
    have r5:∀b,some b=(Value.slice PA ln pc).ownBlock->b<w3.heap.size:=fun b e=>by have:=j7.out b e.symm;omega
    have p9:Hid (∀x,Below w3.heap.size w3 x->RcP (fun b=>b≠sb/\b≠mb) 5000000 x (fun b=>0<=b/\some b≠(Value.slice PA ln pc).ownBlock) qq [.bool tn,.slice A1 n1 c1,.slice A2 n2 c2,.slice A3 n3 c3,.slice A4 n4 c4]):=fun x hx=>
     ⟨tn,A1,n1,c1,A2,n2,c2,A3,n3,c3,A4,n4,c4,rfl,((p3.out.vBp hx).vAb ab fun b hb _=>⟨rfl,⟨Nat.zero_le _,fun e=>by
      rcases b4.out with h|h
      ·exact hb.2.2.2 (by rw[e,h])
      ·have:=h b e.symm;have:=hb.1;omega⟩,hb.2.1,hb.2.2.1⟩).more (by decide)⟩
    obtain⟨ql,n0⟩:∃ql,Hid (l.map Prod.snd++[qq]=ql):=⟨_,rfl⟩;refine ufn (by kernel_rfl) (by kernel_rfl) [56,57,58,59,60,61,62,63,64,65] 60 (by kernel_rfl) (fun d x=>Fw (fun b=>some b=(Value.slice PA ln pc).ownBlock) w3 x/\(d 7=false->Below w3.heap.size w3 x)) (fun j x x'=>Fw (fun b=>some b=(Value.slice PA ln pc).ownBlock) x x'/\(j≠7->Below x.heap.size x x')) (fun io v x=>match io with
     | 0=>v = .pointer (some ⟨sb,0,none⟩)
     | 1=>v = .pointer (some ⟨sb,0,none⟩)
     | 2=>v = .pointer (some ⟨sb,0,none⟩)
     | 3=>v = .pointer (some ⟨sb,1,none⟩)
     | 4=>v = .slice PA ln pc
     | 5=>v = .agg #[.bool tn,.slice A1 n1 c1,.slice A2 n2 c2,.slice A3 n3 c3,.slice A4 n4 c4]
     | 6=>uFp w3.heap.size #[.bool tn,.slice A1 n1 c1,.slice A2 n2 c2,.slice A3 n3 c3,.slice A4 n4 c4] v x
     | 7=>uF0 (fun b=>b≠sb/\b≠mb) w3.heap.size (.slice PA ln pc) ln ql v x
     | 8=>v = .pointer (some ⟨sb,0,none⟩)
     | _=>v = .pointer (some ⟨sb,1,none⟩)) ⟨(Fw.refl _ _).below (aa.drew),fun _=>aa.drew⟩ ?_ ?_ ?_ ?_
    ·rintro d j x x' ⟨h1,h2⟩ hd ⟨g1,g2⟩
     refine⟨h1.trans g1,fun hh=>?_⟩
     obtain⟨e1,e2⟩:=Bool.or_eq_false_iff.1 hh;have h3:=h2 e1;exact h3.trans ((g2 (by rintro rfl;simp at e2)).mono h3.size)
    ·intro io jo v x x' hi hj r6 ha h hg
     rcases io with _|_|_|_|_|_|_|_|_|_|io
     ·exact h
     ·exact h
     ·exact h
     ·exact h
     ·exact h
     ·exact h
     ·obtain⟨gb,e1,e2,e3⟩:=(h:uFp w3.heap.size #[.bool tn,.slice A1 n1 c1,.slice A2 n2 c2,.slice A3 n3 c3,.slice A4 n4 c4] v x)
      exact⟨gb,e1,Bk.fw e2 hg.1 (fun hS=>by have:=r5 gb hS;omega),e3⟩
     ·exact uF0.stays h (hg.2 (fun e=>r6 e.symm))
     ·exact h
     ·exact h
     ·exact absurd hi (by simp)
    ·intro io oo S d x ho a6 hd a0 a2
     rcases io with _|_|_|_|_|_|_|_|_|_|io
     ·cases ho
      refine uh rfl rfl fun KK HK=>?_
      clear a2 a6;simp only[nv,Nat.reduceAdd]at HK ⊢;go_wp2;exact HK.out _ _ ⟨_,rfl,rfl,Fw.refl _ _,fun _=>aa⟩
     ·cases ho
      refine uh rfl rfl fun KK HK=>?_
      clear a2 a6;simp only[nv,Nat.reduceAdd]at HK ⊢;go_wp2;exact HK.out _ _ ⟨_,rfl,rfl,Fw.refl _ _,fun _=>aa⟩
     ·cases ho
      have h1:S 1 = .pointer (some ⟨sb,0,none⟩):=a2 1 (by kernel_rfl) (by decide)
      refine uh rfl rfl fun KK HK=>?_
      clear a2 a6;simp only[nv,Nat.reduceAdd]at HK ⊢;generalize S 1=t1 at *;subst h1;go_wp2;exact HK.out _ _ ⟨_,rfl,rfl,Fw.refl _ _,fun _=>aa⟩
     ·cases ho
      have h2:S 2 = .pointer (some ⟨sb,0,none⟩):=a2 2 (by kernel_rfl) (by decide)
      refine uh rfl rfl fun KK HK=>?_
      clear a2 a6;simp only[nv,Nat.reduceAdd]at HK ⊢;generalize S 2=t2 at *;subst h2;go_wp2;exact HK.out _ _ ⟨_,rfl,rfl,Fw.refl _ _,fun _=>aa⟩
     ·cases ho
      have h3:S 3 = .pointer (some ⟨sb,1,none⟩):=a2 3 (by kernel_rfl) (by decide)
      have hq:=(Bk.fw j8.out a0.1 m6).cell;refine uh rfl rfl fun KK HK=>?_
      clear a2 a6;simp only[nv,Nat.reduceAdd]at HK ⊢;generalize S 3=t3 at *;subst h3;go_wp2;exact HK.out _ _ ⟨_,rfl,rfl,Fw.refl _ _,fun _=>aa⟩
     ·cases ho
      have hq:=(Bk.fw q1.out a0.1 s6).facts;obtain⟨w5,_,_⟩:=hq;refine uh rfl rfl fun KK HK=>?_
      clear a2 a6;simp only[nv,Nat.reduceAdd]at HK ⊢;go_wp2;exact HK.out _ _ ⟨_,rfl,rfl,Fw.refl _ _,fun _=>aa⟩
     ·cases ho
      have h5:S 5 = .agg #[.bool tn,.slice A1 n1 c1,.slice A2 n2 c2,.slice A3 n3 c3,.slice A4 n4 c4]:=a2 5 (by kernel_rfl) (by decide)
      refine uh rfl rfl fun KK HK=>?_
      clear a2 a6;simp only[nv,Nat.reduceAdd]at HK ⊢;generalize S 5=t5 at *;subst h5;go_wp2;refine HK.out _ _ ⟨_,rfl,⟨x.heap.size,rfl,Bk.new _ _ _,a0.1.size⟩,(Fw.refl _ _).below (aa.alloc ab _),fun _=>aa.alloc ab _⟩
     ·cases ho
      have h4:S 4 = .slice PA ln pc:=a2 4 (by kernel_rfl) (by decide)
      obtain⟨gb,h6,q8,f2⟩:uFp w3.heap.size #[.bool tn,.slice A1 n1 c1,.slice A2 n2 c2,.slice A3 n3 c3,.slice A4 n4 c4] (S 6) x:=a2 6 (by kernel_rfl) (by decide)
      have b1:=a0.2 hd;have v7:w3.heap.size<=x.heap.size:=b1.size;have j2:=p5.out.below (uyi _ _) b1;have q7:=p9.out x b1;have k5:=j2.1;rw[d7.out]at k5;refine uh rfl rfl fun KK HK=>?_
      clear a2 a6;simp only[nv,Nat.reduceAdd]at HK ⊢;generalize S 4=t4 at *;subst h4;generalize S 6=t6 at *;subst h6;refine uyk x _ _ 32 85 rfl Tryz.underlying32 5 104 udw (by decide) (by decide) 0 (.slice PA ln pc) ln (ucr us ln) [.bool tn,.slice A1 n1 c1,.slice A2 n2 c2,.slice A3 n3 c3,.slice A4 n4 c4] (by rfl) k5 gb _ q8 (by rfl) rfl (by intro y hy;simp at hy;rcases hy with rfl|rfl|rfl|rfl|rfl<;>rfl) (by omega) (Nat.zero_le _) ?_
      intro g b9 w7 s7 hg c5 v9;have b5:=j2.vBc (uyi _ _) q7 rfl (g:=g) (cap:=b9) (by rw[d7.out];exact s7) hg c5
      rw[d7.out,n0.out]at b5;refine HK.out _ _ ⟨_,rfl,⟨g,b9,_,rfl,b5,?_⟩,uB8 hg,fun h=>absurd rfl h⟩
      rcases c5 with h|h
      ·exact .inl h
      ·exact .inr (by omega)
     ·cases ho
      have h0:S 0 = .pointer (some ⟨sb,0,none⟩):=a2 0 (by kernel_rfl) (by decide)
      refine uh rfl rfl fun KK HK=>?_
      clear a2 a6;simp only[nv,Nat.reduceAdd]at HK ⊢;generalize S 0=t0 at *;subst h0;go_wp2;exact HK.out _ _ ⟨_,rfl,rfl,Fw.refl _ _,fun _=>aa⟩
     ·cases ho
      have h8:S 8 = .pointer (some ⟨sb,0,none⟩):=a2 8 (by kernel_rfl) (by decide)
      refine uh rfl rfl fun KK HK=>?_
      clear a2 a6;simp only[nv,Nat.reduceAdd]at HK ⊢;generalize S 8=t8 at *;subst h8;go_wp2;exact HK.out _ _ ⟨_,rfl,rfl,Fw.refl _ _,fun _=>aa⟩
     ·exact absurd a6 (by simp)
    intro S d x a0 hF;have h9:S 9 = .pointer (some ⟨sb,1,none⟩):=hF 9 (by decide)
    obtain⟨g,b9,v4,h7,b5,c5⟩:uF0 (fun b=>b≠sb/\b≠mb) w3.heap.size (.slice PA ln pc) ln ql (S 7) x:=hF 7 (by decide)
    have d0:=hid a0.1;rw[h7]at b5;have p1:=hid b5;have j9:=hid (Bk.fw j8.out a0.1 m6);have o9:=hid (o8.out.fw a0.1 s5);have x2:w3.heap.size<=x.heap.size:=a0.1.size;have l2:base<=g/\g≠sb/\g≠mb/\(some g=(Value.slice PA ln pc).ownBlock\/w.heap.size<=g):=by
     rcases c5 with h|h
     ·have:=a1.out.own g h
      exact⟨this.1,this.2.1,this.2.2,.inl h.symm⟩
     ·have h1:=a8.out.size
      exact⟨by omega,by omega,by omega,.inr (by omega)⟩
    have b7:=hid l2;clear hF b5 c5 a0 l2;simp only[nv,Nat.reduceAdd,aB,aE,aC,List.drop_zero,h9,h7];clear h9 h7;obtain⟨hz,x4,x5⟩:=j9.out.facts;go_wp2;go_roundw
    case rel=>
     refine⟨i+1,by omega,by go_num,?_⟩
     have a3:Fw (fun x=>x=sb) x (x.setCell ⟨sb,1,none⟩ (.slice (some ⟨g,0,none⟩) (ln+1) b9)):=(Fw.refl (fun x=>x=sb) _).setCell (p:=⟨sb,1,none⟩) (.inl rfl) _
     have k8:=g6.out;have m9:∀b,b<wr.heap.size->b≠sb->b≠mb->some b≠(Value.slice PA ln pc).ownBlock->(x.setCell ⟨sb,1,none⟩ (.slice (some ⟨g,0,none⟩) (ln+1) b9)).heap[b]? = wr.heap[b]? :=fun b hb h1 h2 h3=>
      (a3.block b (by omega) h1).trans ((d0.out.block b (by omega) h3).trans ((c9.out.block b (by omega) h2).trans (a5.out.block b hb)))
     refine⟨_,l++[(uqn mm,qq)],v4,⟨ulp j9.out,?_,?_,?_,k8⟩,?_,?_,⟨a3.os.trans (d0.out.os.trans (c9.out.os.trans (a5.out.os.trans a8.out.os))),a3.tape.trans (d0.out.tape.trans (c9.out.tape.trans (a5.out.tape.trans a8.out.tape))),a3.output.trans (d0.out.output.trans (c9.out.output.trans (a5.out.output.trans a8.out.output))),by have:=a3.size;have:=a8.out.size;omega,fun b hb=>?_⟩,⟨by have:=a3.size;omega,fun b hb hD=>?_⟩⟩
     ·rw[j3.out]
      exact o9.out.fw a3 (fun e=>k8.2.2 e.symm)
     ·rw[e7.out,n0.out]
      exact p1.out.fwP a3 (fun b hb h=>h.1 hb) (fun g' b2 e=>by
       have e':g=g':=by simpa[Value.ownBlock]using b2
       have:=b7.out.2.1;omega)
     ·intro g' b2
      have e':g=g':=by simpa[Value.ownBlock]using b2
      rw[<-e'];exact⟨b7.out.1,b7.out.2.1,b7.out.2.2.1⟩
     ·rw[k1.out]
      exact d5.out
     ·rcases b7.out.2.2.2 with h|h
      ·rcases b4.out with h2|h2
       ·exact .inl (by rw[<-h2,<-h];rfl)
       ·exact .inr fun g' b2=>by
         have e':g=g':=by simpa[Value.ownBlock]using b2
         rw[<-e'];exact h2 g h.symm
      ·exact .inr fun g' b2=>by
        have e':g=g':=by simpa[Value.ownBlock]using b2
        rw[<-e'];exact h
     ·have f1:b<wr.heap.size:=by have:=a8.out.size;omega
      exact(m9 b f1 (by omega) (by omega) (fun e=>by have:=(a1.out.own b e.symm).1;omega)).trans (a8.out.block b hb)
     ·have f1:b<wr.heap.size:=by omega
      refine(m9 b f1 hD.1 hD.2.1 fun e=>?_).trans (e5.out.2 b hb hD)
      rcases b4.out with h2|h2
      ·exact hD.2.2 (by rw[e,h2])
      ·have:=h2 b e.symm;omega
    case measure=>simp[intOf];omega
  ·obtain rfl:i=n:=by omega
   have o5:Hid (uH9 w base sb mb a4 done tl tl.length wr):=by rw[<-HN.out];exact HI
   go_wp2;go_end0
   exact⟨rfl,o5.out⟩
end Go.Proofs.YtnbbpmagijpmpaaGreatDoor
