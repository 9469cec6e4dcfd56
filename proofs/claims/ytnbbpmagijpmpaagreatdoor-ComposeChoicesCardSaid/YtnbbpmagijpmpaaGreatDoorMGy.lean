/-
  substSize.
-/
import Derived.Test.YtnbbpmagijpmpaaGreatDoorMSy
import Derived.StillTailTactics
import Derived.Deep.CutRange
set_option linter.unusedVariables false
set_option linter.unusedSimpArgs false
namespace Go.Proofs.YtnbbpmagijpmpaaGreatDoor
open Go.Lib (hid)
open Go.RowKit AC
def NsR(w:World)(D:Nat->Prop)(ss:List Nat)(A:Option Addr)(len:Nat):Prop:=
 len=ss.length/\(0<len->∃b off,A=some ⟨b,off,none⟩/\D b/\b<w.heap.size/\∀i,i<len->w.cell? ⟨b,off+i,none⟩=some (.int .i64 (ss.getD i 0:Nat)))
theorem NsR.vAb{w w':World}{D:Nat->Prop}(hk:uc D w w'){ss:List Nat}{A:Option Addr}{len:Nat}(h:NsR w D ss A len):NsR w' D ss A len:=by
 obtain⟨h1,h2⟩:=h;refine⟨h1,fun hp=>?_⟩
 obtain⟨b,off,hA,hD,hb,hL⟩:=h2 hp;exact⟨b,off,hA,hD,af hb hk.1,fun i hi=>(World.cell?_of_block (w:=w) (hk.2 b hb hD)).trans (hL i hi)⟩
theorem NsR.below{w w':World}{D:Nat->Prop}{ss:List Nat}{A:Option Addr}{len:Nat}(h:NsR w D ss A len)(hb:Below w.heap.size w w'):NsR w' D ss A len:=h.vAb (uc.of hb)
mutual
theorem uka{ss:List Nat}{B:Nat}(hB:∀i,ss.getD i 0<=B):∀t:Tr,vAe ss t<=200*t.size+B
 | .n k m l=>by
  rw[vAe,Tr.size];split
  ·have:=hB m.toNat;omega
  ·have:=vBq hB l 1 (by omega)
   omega
theorem vBq{ss:List Nat}{B:Nat}(hB:∀i,ss.getD i 0<=B):∀(l:List Tr) (n:Nat),n<=200->vAf ss n l<=200+200*vAk l+B
 | [],n,hn=>by rw[vAf];omega
 | t::l,n,hn=>by
  have h1:=uka hB t;rw[vAf,vAk];split
  ·omega
  ·have:=vBq hB l (n+vAe ss t) (by omega)
   omega
end
set_option maxHeartbeats 16000000
set_option maxRecDepth 100000
theorem ufs{D D':Nat->Prop}{ss:List Nat}{Z:Option Addr}{zl zc:Nat}(d0:zl<=zc)(hz:zc<=maxLen)(hB:∀i,ss.getD i 0<=1000000000):∀(n:Nat) (t:Tr) (w:World) (v:List Value),t.size<=n->t.size<=1000000000->TrR w D t v->NsR w D' ss Z zl ->
 Calls Tryz.prog 294 #[.agg v.toArray,.slice Z zl zc] w (fun e w'=>e = .returned (.int .i64 (vAe ss t:Int))/\Below w.heap.size w w')
 | 0,t,w,v,h,_,_,_=>absurd t.size_pos (by omega)
 | n+1,t,w,v,hn,hmax,hr,hz0=>by
  have c1:=hid (ufs (D:=D) (D':=D') (ss:=ss) (Z:=Z) d0 hz hB n);obtain⟨A,len,cap,rfl,hs,c6,c7⟩:=hr.form;have a4:=Tr.size_eq t;have hq:vAe ss t=if(t.k==4&&decide (0<=t.m)&&decide (t.m<ss.length))then ss.getD t.m.toNat 0 else vAf ss 1 t.kids:=by
   cases t;rw[vAe];rfl
  obtain⟨q,b5⟩:∃q,vAe ss t=q:=⟨_,rfl⟩;rw[b5]at hq ⊢;clear b5;generalize t.kids=l at hs a4 hq;have HS:=hid hs;have b4:len=l.length:=hs.1;have d5:=ud6 l;have c4:cap<=maxLen:=hs.2.2.1;have d7:=hs.2.1;have d6:len<=vAk l:=by omega
  have a7:=hid b4;have c2:=hid a4;have e4:vAk l<=1000000000:=by omega
  unfold maxLen at c4 hz;have HZ:=hid hz0;have a5:zl=ss.length:=hz0.1;rw[<-a5]at hq;have d1:=hid a5;have b9:=hid hB;clear hs hr b4 a4 hz0 a5 hB;unfold rng at c6 c7;generalize t.k=x0 at *;generalize t.m=x1 at *;obtain⟨C,hC⟩:∃C,C=w.alloc (.cells #[.int .i64 x0,.int .i64 x1,.slice A len cap] 25):=⟨_,rfl⟩;have a0:Hid (Below w.heap.size w C):=by rw[hC];exact aa.alloc ab _
  have c0:Hid (Bk C w.heap.size 25 #[.int .i64 x0,.int .i64 x1,.slice A len cap]):=by rw[hC];exact Bk.new _ _ _
  show Calls Tryz.prog 294 #[.agg #[.int .i64 x0,.int .i64 x1,.slice A len cap],.slice Z zl zc] w _
  go_enter Tryz.func294,Tryz.ntmps294
  go_upto_region 1 with(fail)
  rw[<-hC];clear hC;obtain⟨d2,d3,_⟩:=c0.out.facts;by_cases hk:x0=4/\0<=x1/\x1<zl
  ·obtain⟨rfl,c8,c9⟩:=hk
   have a1:q=ss.getD x1.toNat 0:=by rw[hq];simp[c8,c9]
   clear hq;have HQ:=hid a1;clear a1;obtain⟨i,rfl⟩:∃i:Nat,x1=i:=⟨x1.toNat,by omega⟩
   obtain⟨b,off,rfl,hD,hb,b3⟩:=(HZ.out.below a0.out).2 (by omega)
   have c5:=b3 i (by omega)
   clear b3;obtain⟨y,hy⟩:∃y,ss.getD i 0=y:=⟨_,rfl⟩;rw[hy]at c5;have HY:=hid hy;clear hy;go_wp2;go_ret
   have e:q=y:=by
    have h:=HQ.out;rw[Int.toNat_natCast,HY.out]at h;exact h
   exact⟨by rw[e];rfl,a0.out⟩
  ·have a1:q=vAf ss 1 l:=by
    rw[hq,if_neg];intro h;simp at h;exact hk ⟨h.1.1,h.1.2,h.2⟩
   have HQ:=hid a1;clear hq a1;have h3:x0≠4\/(x0=4/\¬0<=x1)\/(x0=4/\0<=x1/\¬x1<zl):=by omega
   clear hk;rcases h3 with h1|⟨h1,h2⟩|⟨h1,h2,h3⟩
   all_goals
    go_wp2;go_loopw [5,31] (fun nv iv wr=>∃i m:Nat,i<=len/\iv = .int .i64 i/\nv = .int .i64 (m:Int)/\m<=200/\Hid (vAf ss m (l.drop i)=q)/\Hid (Below C.heap.size C wr)) (fun _ iv _=>len-(intOf iv).toNat)
    case atStart=>exact⟨0,1,by omega,rfl,rfl,by omega,HQ.out.symm,aa⟩
    case round=>
     obtain⟨i,m,hi,rfl,rfl,d9,HM,HB⟩:=hrel;have a2:=hid (a0.out.trans (HB.out.mono a0.out.size));by_cases d8:i<len
     ·have a3:i<l.length:=by have:=a7.out;omega
      have hM:=HM.out;rw[aN a3,vAf]at hM;obtain⟨b,off,A',b8,b0,rfl,hb,e0,e1,e2,b6⟩:=(HS.out.below a2.out).get (i:=i) a3;have d4:=ubo a3;have b7:=uka b9.out l[i];have key:=c1.out l[i] (wr.alloc (.cells #[.int .i64 l[i].k,.int .i64 l[i].m,.slice A' b8 b0] 25)) _ (by have:=c2.out;omega) (by omega) (b6.below (aa.alloc ab _)) (HZ.out.below (a2.out.alloc a2.out.size _))
      have a9:=hid key;clear key b6;obtain⟨r,hr⟩:∃r,vAe ss l[i]=r:=⟨_,rfl⟩;rw[hr]at a9 hM b7;have a8:=hid hM;have e3:r<=400000000000:=by omega
      clear hr hM b7;generalize l[i].k=y0 at *;generalize l[i].m=y1 at *;go_wp2_with fail
      refine a9.out.mono ?_;rintro e w2⟨rfl,b1⟩;have a6:=hid ((HB.out.alloc HB.out.size (.cells #[.int .i64 y0,.int .i64 y1,.slice A' b8 b0] 25)).trans (b1.mono (by have:=HB.out.size;simp;omega)))
      clear b1;by_cases b2:200<m+r
      ·have c3:(200:Int)<(m:Int)+(r:Int):=by omega
       go_wp2;go_ret
       have e:q=m+r:=by
        have:=a8.out;rw[if_pos b2]at this;exact this.symm
       exact⟨by rw[e];go_num,a0.out.trans (a6.out.mono a0.out.size)⟩
      ·have c3:¬(200:Int)<(m:Int)+(r:Int):=by omega
       go_wp2;go_roundw
       case rel=>exact⟨i+1,m+r,by omega,by go_num,by go_num,by omega,by have:=a8.out;rw[if_neg b2]at this;exact this,a6⟩
       case measure=>simp[intOf];omega
     ·obtain rfl:i=len:=by omega
      go_wp2;go_ret
      have e:m=q:=by
       have:=HM.out;rw[List.drop_eq_nil_of_le (by have:=a7.out;omega),vAf]at this
       exact this
      exact⟨by rw[e];rfl,a2.out⟩
theorem urd(D:Nat->Prop):∀(n:Nat) (t:Tr) (w:World) (v:List Value),t.size<=n->t.size<=1000000000->TrR w D t v ->
 Calls Tryz.prog 293 #[.agg v.toArray] w (fun e w'=>e = .returned (.int .i64 (t.size:Int))/\Below w.heap.size w w')
 | 0,t,w,v,h,_,_=>absurd t.size_pos (by omega)
 | n+1,t,w,v,hn,hmax,hr=>by
  have b3:=hid (urd D n);obtain⟨A,len,cap,rfl,hs,_,_⟩:=hr.form;have a1:=Tr.size_eq t;generalize t.kids=l at hs a1;have HS:=hid hs;have a8:len=l.length:=hs.1;have b9:=ud6 l;have b5:cap<=maxLen:=hs.2.2.1;have c1:=hs.2.1;have c0:len<=vAk l:=by omega
  have a0:=hid a8;have a4:=hid a1;have c3:vAk l<=1000000000:=by omega
  unfold maxLen at b5;clear hs hr a8 a1;obtain⟨C,hC⟩:∃C,C=w.alloc (.cells #[.int .i64 t.k,.int .i64 t.m,.slice A len cap] 25):=⟨_,rfl⟩;have a2:Hid (Below w.heap.size w C):=by rw[hC];exact aa.alloc ab _
  have b2:Hid (Bk C w.heap.size 25 #[.int .i64 t.k,.int .i64 t.m,.slice A len cap]):=by rw[hC];exact Bk.new _ _ _
  show Calls Tryz.prog 293 #[.agg #[.int .i64 t.k,.int .i64 t.m,.slice A len cap]] w _
  go_enter Tryz.func293,Tryz.ntmps293
  go_upto_region 1 with(fail)
  rw[<-hC];clear hC;obtain⟨b7,_,_⟩:=b2.out.facts;go_wp2;go_loopw [3,9] (fun nv iv wr=>∃i:Nat,i<=len/\iv = .int .i64 i/\nv = .int .i64 ((1+vAk (l.take i):Nat):Int)/\Hid (Below C.heap.size C wr)) (fun _ iv _=>len-(intOf iv).toNat)
  case atStart=>exact⟨0,by omega,rfl,by simp[vAk],aa⟩
  case round=>
   obtain⟨i,hi,rfl,rfl,HB⟩:=hrel;have a3:=hid (a2.out.trans (HB.out.mono a2.out.size));have c4:=udd l i;by_cases c2:i<len
   ·obtain⟨b,off,A',b0,a5,rfl,hb,e0,e1,e2,a9⟩:=(HS.out.below a3.out).get (i:=i) (by have:=a0.out;omega)
    have a7:i<l.length:=by have:=a0.out;omega
    have b8:=ubo a7;have b6:=uj0 a7;have c5:=udd l (i+1);have key:=b3.out l[i] (wr.alloc (.cells #[.int .i64 l[i].k,.int .i64 l[i].m,.slice A' b0 a5] 25)) _ (by have:=a4.out;omega) (by omega) (a9.below (aa.alloc ab _))
    have b4:=hid key;clear key a9;obtain⟨q,hq⟩:∃q,l[i].size=q:=⟨_,rfl⟩;generalize l[i].k=x0 at *;generalize l[i].m=x1 at *;go_wp2_with fail
    refine b4.out.mono ?_;rintro e w2⟨rfl,a6⟩;have b1:=hid ((HB.out.alloc HB.out.size (.cells #[.int .i64 x0,.int .i64 x1,.slice A' b0 a5] 25)).trans (a6.mono (by have:=HB.out.size;simp;omega)))
    clear a6;go_wp2;go_roundw
    case rel=>exact⟨i+1,by omega,by go_num,by rw[b6];go_num,b1⟩
    case measure=>simp[intOf];omega
   ·obtain rfl:i=len:=by omega
    go_wp2;go_ret
    refine⟨?_,a3.out⟩;rw[a4.out,show l.take i=l from by rw[a0.out,List.take_length]]
    rfl
set_option maxHeartbeats 200000
set_option maxRecDepth 512
theorem uzz:(Tryz.prog.info? 3).map (fun i=>(i.size,i.bytes,i.zero))=some (1,8,some (.int .i64 0)):=by kernel_rfl
theorem ux{w w':World}{b o:Nat}{x:Value}(h:w.cell? ⟨b,o,none⟩=some x)(hb:Below w.heap.size w w')(hl:b<w.heap.size):w'.cell? ⟨b,o,none⟩=some x:=(World.cell?_of_block (w:=w) (hb.block b hl)).trans h
theorem uDt(w:World)(n:Nat)(hn:n<=1000000) :
 (Instr.makeSlice 70 (.int .i64 n) (.int .i64 n)).run Tryz.prog w = .ok (.slice (some ⟨w.heap.size,0,none⟩) n n) (w.alloc (.cells (madeCells #[.int .i64 0] n) 3)):=by
 obtain⟨i,hi,a1⟩:=aL.1 uzz;simp only[Prod.mk.injEq]at a1;obtain⟨h1,h2,h3⟩:=a1;have a0:=run_make (P:=Tryz.prog) w 70 3 i _ Tryz.underlying70 hi h3 .i64 .i64 n n (by omega) (by omega) (by rw[h2];omega) (by omega)
 simp only[Int.toNat_natCast]at a0;rw[h1,Nat.mul_one]at a0;exact a0
def uCp(dat:List DaD):Prop:=∀d∈dat,∀c∈d.cons,c.args.length<=100000/\∀a∈c.args,a.size<=100000
def ukb(q:Option (List Tr))(w:World)(e:Ending)(w':World):Prop:=
 Below w.heap.size w w'/\((q=none/\e = .returned (.tuple #[.slice none 0 0,.bool false]))\/∃fs A len cap,q=some fs/\e = .returned (.tuple #[.slice A len cap,.bool true])/\TrS w' (w.heap.size <= ·) fs A len cap)
theorem um9(dat:List DaD)(t:Tr)(c:Int)(h:¬(t.k=5/\0<=t.m/\t.m<dat.length)):uae dat t c=none:=by rw[uae,if_neg h]
theorem uti(dat:List DaD)(t:Tr)(c:Int)(i:Nat)(hi:i<dat.length)(hk:t.k=5)(hm:t.m=i):uae dat t c =
 if(t.kids.length:Int)=dat[i].vars/\0<=c/\c<dat[i].cons.length then
  match dat[i].cons[c.toNat]? with
  | none=>none
  | some e=>if e.args.all (fun a=>decide (vAe (t.kids.map Tr.size) a<=200))then some (e.args.map (subst t.kids))else none
 else none:=by
 rw[uae,if_pos ⟨hk,by omega,by omega⟩,hm,Int.toNat_natCast,ai hi]
 rfl
def szF(l:List Tr)(i:Nat)(j:Nat):Value:=if j<i then .int .i64 ((l.map Tr.size).getD j 0:Nat)else .int .i64 0
set_option maxHeartbeats 16000000
set_option maxRecDepth 100000
theorem utj{D D':Nat->Prop}{dat:List DaD}{A:Option Addr}{dl dc:Nat}{t:Tr}{v:List Value}(c:Int)(hc:rng c)(w:World)(hd:DaS w D dat A dl dc)(k3:uCp dat)(ht:TrR w D' t v)(r6:t.size<=100000) :
 Calls Tryz.prog 249 #[.slice A dl dc,.agg v.toArray,.int .i64 c] w (ukb (uae dat t c) w):=by
 obtain⟨B,len,cap,rfl,hs,hk,hm⟩:=ht.form;have k4:=Tr.size_eq t;have g4:=um9 dat t c;have a6:=uti dat t c;generalize uae dat t c=q at *;generalize t.kids=l at hs k4 a6;unfold rng at hk hm hc;generalize t.k=x0 at *;generalize t.m=x1 at *;have HS:=hid hs;have j8:len=l.length:=hs.1;have p0:=ud6 l;have o2:cap<=maxLen:=hs.2.2.1;have r4:=hs.2.1;have d8:=hid j8;have HD:=hid hd;have f8:dl=dat.length:=hd.1;have o6:dc<=maxLen:=hd.2.2.1;have q6:=hd.2.1;have m1:=hid f8;have l2:=hid a6;have n3:=hid k3;have r2:len<=100000:=by omega
 have b4:Hid (∀(i:Nat) (h:i<l.length),l[i].size<=100000):=fun i h=>by have:=ubo h;omega
 unfold maxLen at o2 o6;rw[<-f8]at g4;have m4:=hid g4;clear hs hd j8 f8 a6 k3 g4 k4 p0 ht;show Calls Tryz.prog 249 #[.slice A dl dc,.agg #[.int .i64 x0,.int .i64 x1,.slice B len cap],.int .i64 c] w _
 go_enter Tryz.func249,Tryz.ntmps249
 go_upto_region 1 with(fail)
 obtain⟨C,hC⟩:∃C,C=w.alloc (.cells #[.int .i64 x0,.int .i64 x1,.slice B len cap] 25):=⟨_,rfl⟩;have c2:Hid (Below w.heap.size w C):=by rw[hC];exact aa.alloc ab _
 have d6:Hid (Bk C w.heap.size 25 #[.int .i64 x0,.int .i64 x1,.slice B len cap]):=by rw[hC];exact Bk.new _ _ _
 have j0:C.heap.size=w.heap.size+1:=by rw[hC];simp
 rw[<-hC];clear hC;have p7:=hid j0;clear j0;obtain⟨q0,q1,_⟩:=d6.out.facts;by_cases h1:x0=5/\0<=x1/\x1<dl
 ·obtain⟨h2,p6,r8⟩:=h1
  obtain⟨m,j9⟩:∃m:Nat,x1=m:=⟨x1.toNat,by omega⟩
  have g3:m<dat.length:=by have:=m1.out;omega
  have a6:=l2.out m g3 h2 j9;subst h2;subst j9;obtain⟨b,off,s,A',c1,e8,rfl,hb,e0,e1,e2,p3,p5,b8⟩:=(HD.out.below c2.out).get (i:=m) g3;have b7:∀cc∈dat[m].cons,cc.args.length<=100000/\∀a∈cc.args,a.size<=100000:=n3.out _ (aq g3);generalize dat[m].vars=vr at *;generalize dat[m].cons=cons at *;have f7:c1=cons.length:=b8.1;have o3:e8<=maxLen:=b8.2.2.1;have q3:=b8.2.1;unfold maxLen at o3;unfold rng at p5;have l8:=hid b8;have l7:=hid f7;have l9:=hid b7;rw[<-d8.out,<-f7]at a6;have HQ:=hid a6;clear a6 b8 f7 b7 p3;have r5:(0:Int)<=m:=by omega
  go_upto_region 4 with(fail)
  obtain⟨E,hE⟩:∃E,E=C.alloc (.cells #[.string s,.int .i64 vr,.slice A' c1 e8] 200):=⟨_,rfl⟩;have c7:Below C.heap.size C E:=by rw[hE];exact aa.alloc ab _
  have g9:Hid (Bk E C.heap.size 200 #[.string s,.int .i64 vr,.slice A' c1 e8]):=by rw[hE];exact Bk.new _ _ _
  have j1:E.heap.size=C.heap.size+1:=by rw[hE];simp
  rw[<-hE];clear hE;have m2:=hid j1;have d3:=hid (c2.out.trans (c7.mono c2.out.size));have b5:=hid (d6.out.below c7 d6.out.lt);have l6:=hid (l8.out.below c7);clear j1 c7;obtain⟨r7,p6,_⟩:=b5.out.facts;obtain⟨q4,q5,_⟩:=g9.out.facts;by_cases h3:(len:Int)=vr/\0<=c/\c<c1
  ·obtain⟨h4,h5,h6⟩:=h3
   obtain⟨k,o9⟩:∃k:Nat,c=k:=⟨c.toNat,by omega⟩
   subst h4;subst o9;have f9:k<cons.length:=by have:=l7.out;omega
   obtain⟨bc,s1,sc,Ac,al,ac,rfl,o0,f0,f1,o5,b6⟩:=l6.out.get (i:=k) f9;obtain⟨n9,b7⟩:=l9.out _ (aq f9);have hq:q=if cons[k].args.all (fun a=>decide (vAe (l.map Tr.size) a<=200))then some (cons[k].args.map (subst l))else none:=by
    have h:=HQ.out;rw[if_pos ⟨rfl,h5,h6⟩,Int.toNat_natCast,ai f9]at h;exact h
   generalize cons[k].args=args at *;have j7:al=args.length:=b6.1;have r3:=b6.2.1;have p1:ac<=maxLen:=b6.2.2.1;unfold maxLen at p1;have l1:=hid b6;have b3:=hid j7;have h9:=hid hq;have h0:=hid b7;have p8:al<=100000:=by omega
   clear b6 b7 o5 n9 j7 hq;have r1:(0:Int)<=k:=h5;have p2:=uDt E len (by omega)
   go_upto_region 7 with(fail)
   obtain⟨G,hG⟩:∃G,G=E.alloc (.cells (madeCells #[.int .i64 0] len) 3):=⟨_,rfl⟩;have m8:Hid (G.rowIs E.heap.size 3 len (szF l 0)):=by
    rw[hG];exact World.rowIs.congr (World.rowIs_made E (.int .i64 0) len 3) fun i _=>by simp[szF]
   have f5:Below E.heap.size E G:=by rw[hG];exact aa.alloc ab _
   rw[<-hG];clear hG p2;have l5:=hid f5;have n5:=hid (b5.out.below f5 b5.out.lt);clear f5;obtain⟨q9,_,_⟩:=n5.out.facts;go_wp2;go_loopw [61] (fun iv wr=>∃i:Nat,i<=len/\iv = .int .i64 i/\Hid (wr.rowIs E.heap.size 3 len (szF l i))/\Hid (Below E.heap.size E wr)) (fun iv _=>len-(intOf iv).toNat)
   case atStart=>exact⟨0,by omega,rfl,m8,l5⟩
   case round=>
    obtain⟨i,hi,rfl,HR,HB⟩:=hrel;have a0:=hid (d3.out.trans (HB.out.mono d3.out.size));by_cases g0:i<len
    ·have a2:i<l.length:=by have:=d8.out;omega
     obtain⟨b2,k9,A2,a3,a1,rfl,j2,e3,e4,e5,a5⟩:=(HS.out.below a0.out).get (i:=i) a2;have key:=urd D' 100000 l[i] (wr.alloc (.cells #[.int .i64 l[i].k,.int .i64 l[i].m,.slice A2 a3 a1] 25)) _ (b4.out i a2) (by have:=b4.out i a2;omega) (a5.below (aa.alloc ab _))
     have a4:=hid key;have g5:(l.map Tr.size).getD i 0=l[i].size:=by simp[aj,List.getElem?_map,ai a2]
     have p4:=b4.out i a2;clear key a5;obtain⟨r,hr⟩:∃r,l[i].size=r:=⟨_,rfl⟩;rw[hr]at a4 g5 p4;have n2:=hid g5;clear hr g5;generalize l[i].k=y0 at *;generalize l[i].m=y1 at *;go_wp2_with fail
     refine a4.out.mono ?_;rintro e w2⟨rfl,a9⟩;have j4:Below E.heap.size E w2:=(HB.out.alloc HB.out.size (.cells #[.int .i64 y0,.int .i64 y1,.slice A2 a3 a1] 25)).trans (a9.mono (by have:=HB.out.size;simp;omega))
     have d0:=HR.out.of_block (w':=w2) (by rw[a9.block _ (by have:=HR.out.lt;simp;omega)];exact Below.heap_alloc _ _ _ HR.out.lt)
     have c3:=hid j4;have m9:=hid d0;have q2:=d0.cell g0;have q8:=d0.frozen i;clear a9 j4 d0;go_wp2;go_roundw
     case rel=>
      refine⟨i+1,by omega,by go_num,(m9.out.set i (.int .i64 r)).congr fun j hj=>?_,c3.out.setCell (p:=⟨E.heap.size,i,none⟩) ab _⟩
      unfold szF;by_cases h:j=i
      ·subst h
       rw[if_pos rfl,if_pos (by omega),n2.out]
      ·rw[if_neg h]
       by_cases h':j<i
       ·rw[if_pos h',if_pos (by omega)]
       ·rw[if_neg h',if_neg (by omega)]
     case measure=>simp[intOf];omega
    ·obtain rfl:i=len:=by omega
     have m5:Hid (NsR wr (fun _=>True) (l.map Tr.size) (some ⟨E.heap.size,0,none⟩) i):=by
      refine⟨by rw[List.length_map];exact d8.out,fun _=>⟨E.heap.size,0,rfl,trivial,HR.out.lt,fun j hj=>?_⟩⟩
      rw[Nat.zero_add,HR.out.cell hj];unfold szF;rw[if_pos hj]
     have e7:=hid (b5.out.below HB.out b5.out.lt);have d7:=hid (g9.out.below HB.out (by have:=m2.out;omega))
     have l4:=hid HB.out;have g8:=hid (l1.out.below HB.out);have q7:E.heap.size<=wr.heap.size:=HB.out.size;obtain⟨W1,n7⟩:∃x,x=wr:=⟨_,rfl⟩;subst n7;have c4:=hid a0.out;clear HR HB a0;have g1:=ux f1 l4.out o0;obtain⟨k7,k8,_⟩:=e7.out.facts;obtain⟨o7,o8,_⟩:=d7.out.facts;go_wp2;go_loopw [79] (fun iv wr=>∃i:Nat,i<=al/\iv = .int .i64 i/\Hid ((args.take i).all (fun a=>decide (vAe (l.map Tr.size) a<=200))=true)/\Hid (Below W1.heap.size W1 wr)) (fun iv _=>al-(intOf iv).toNat)
     case atStart=>exact⟨0,by omega,rfl,by simp[Hid],aa⟩
     case round=>
      obtain⟨j,hj,rfl,HL,HB⟩:=hrel;have a0:=hid (c4.out.trans (HB.out.mono c4.out.size));by_cases g0:j<al
      ·have c8:j<args.length:=by have:=b3.out;omega
       obtain⟨b2,k9,A2,a3,a1,rfl,j2,e3,e4,e5,a5⟩:=(g8.out.below HB.out).get (i:=j) c8;have b0:=h0.out _ (aq c8);have key:=ufs (D:=D) (D':=fun _=>True) (ss:=l.map Tr.size) (Z:=some ⟨E.heap.size,0,none⟩) (zl:=i) (zc:=i) ab (by unfold maxLen;omega) (fun j=>by
        rw[aj,List.getElem?_map];rcases h:l[j]? with _|x
        ·simp
        ·obtain⟨hj,rfl⟩:=aI.1 h
         have:=b4.out j hj;simp;omega) 100000 args[j] (wr.alloc (.cells #[.int .i64 args[j].k,.int .i64 args[j].m,.slice A2 a3 a1] 25)) _ b0 (by omega) (a5.below (aa.alloc ab _)) ((m5.out.below HB.out).below (aa.alloc ab _))
       have a4:=hid key;have c0:(args.take (j+1)).all (fun a=>decide (vAe (l.map Tr.size) a<=200))=((args.take j).all (fun a=>decide (vAe (l.map Tr.size) a<=200))&&decide (vAe (l.map Tr.size) args[j]<=200)):=by
        rw[aJ c8,List.all_append];simp
       have j5:¬vAe (l.map Tr.size) args[j]<=200->q=none:=fun h=>by
        rw[h9.out,if_neg];intro h2;rw[aT]at h2;exact h (by simpa using h2 _ (aq c8))
       clear key a5 b0;generalize vAe (l.map Tr.size) args[j]=r at *;have c5:=hid c0;have m3:=hid j5;clear c0 j5;generalize args[j].k=y0 at *;generalize args[j].m=y1 at *;go_wp2_with fail
       refine a4.out.mono ?_;rintro e w2⟨rfl,a9⟩;have c3:=hid ((HB.out.alloc HB.out.size (.cells #[.int .i64 y0,.int .i64 y1,.slice A2 a3 a1] 25)).trans (a9.mono (by have:=HB.out.size;simp;omega)))
       clear a9;by_cases j3:r<=200
       ·have o1:¬(200:Int)<(r:Int):=by omega
        go_wp2;go_roundw
        case rel=>exact⟨j+1,by omega,by go_num,by show _=true;rw[c5.out,HL.out];simp[j3],c3⟩
        case measure=>simp[intOf];omega
       ·have o1:(200:Int)<(r:Int):=by omega
        have b9:=m3.out j3;go_wp2;go_ret2
        exact⟨c4.out.trans (c3.out.mono c4.out.size),.inl ⟨b9,rfl⟩⟩
      ·obtain rfl:j=al:=by omega
       have hq:q=some (args.map (subst l)):=by
        have h:=HL.out;rw[h9.out,if_pos];rwa [b3.out,List.take_length]at h
       have m7:=hid hq;have c6:=hid (e7.out.below HB.out e7.out.lt);have m0:=hid (d7.out.below HB.out d7.out.lt);have l0:=hid (g8.out.below HB.out);have n0:=hid (HS.out.below a0.out);have g2:=ux g1 HB.out (by omega)
       obtain⟨W2,n8⟩:∃x,x=wr:=⟨_,rfl⟩;subst n8;have d5:=hid a0.out;have p9:bc<W2.heap.size:=by have:=HB.out.size;omega
       clear hq HB a0 HL;obtain⟨k7,k8,_⟩:=c6.out.facts;obtain⟨o7,o8,_⟩:=m0.out.facts;go_wp2;go_loopw [14,95] (fun kv jv wr=>∃(i:Nat) (us:Nat->List Value),i<=j/\jv = .int .i64 i/\Hid (uhr W2.heap.size 25 wr kv ((args.take i).map (subst l)) us)/\Hid (Below W2.heap.size W2 wr)) (fun _ jv _=>j-(intOf jv).toNat)
       case atStart=>exact⟨0,fun _=>[],by omega,rfl,uhr.nil _ _ _,aa⟩
       case round=>
        obtain⟨i2,us,hi2,rfl,HO,HB⟩:=hrel;have a0:=hid (d5.out.trans (HB.out.mono d5.out.size));obtain⟨A0,n6,rfl,k0,o4⟩:=HO.out.form;unfold maxLen at o4;obtain⟨qq,c9⟩:∃qq,(args.take i2).map (subst l)=qq:=⟨_,rfl⟩;have b1:qq.length=i2:=by rw[<-c9,List.length_map,List.length_take];have:=b3.out;omega
        rw[c9]at HO k0 ⊢;rw[b1]at HO k0 ⊢;have h8:=hid c9;have d9:=hid b1;clear c9 b1;by_cases g0:i2<j
        ·have a2:i2<args.length:=by have:=b3.out;omega
         obtain⟨b2,k9,A2,a3,a1,rfl,j2,e3,e4,e5,a5⟩:=(l0.out.below HB.out).get (i:=i2) a2;have b0:=h0.out _ (aq a2);obtain⟨W3,f4⟩:∃W3,W3=wr.alloc (.cells #[.int .i64 args[i2].k,.int .i64 args[i2].m,.slice A2 a3 a1] 25):=⟨_,rfl⟩;have a7:Below wr.heap.size wr W3:=by rw[f4];exact aa.alloc ab _
         have key:=uvr l (fun a ha=>by obtain⟨i,hi,rfl⟩:=aW ha;exact b4.out i hi) 100000 D D' args[i2] W3 _ B i cap b0 b0 (a5.below a7) ((n0.out.below HB.out).below a7)
         have a4:Hid (Calls Tryz.prog 295 #[.agg #[.int .i64 args[i2].k,.int .i64 args[i2].m,.slice A2 a3 a1],.slice B i cap] (wr.alloc (.cells #[.int .i64 args[i2].k,.int .i64 args[i2].m,.slice A2 a3 a1] 25)) (uIa (subst l args[i2]) W3)):=by rw[<-f4];exact key
         have e6:=hid a7;clear key a5 f4 a7 b0;have c0:(args.take (i2+1)).map (subst l)=qq++[subst l args[i2]]:=by rw[aJ a2,List.map_append,h8.out];rfl
         have c5:=hid c0;clear c0;obtain⟨rr,k2⟩:∃x,subst l args[i2]=x:=⟨_,rfl⟩;rw[k2]at a4 c5;clear k2;obtain⟨y0,g6⟩:∃x,args[i2].k=x:=⟨_,rfl⟩;obtain⟨y1,g7⟩:∃x,args[i2].m=x:=⟨_,rfl⟩;rw[g6,g7]at a4;rw[g6]at e3;rw[g7]at e4;clear g6 g7;have k6:=c6.out.below HB.out c6.out.lt;obtain⟨k7,k8,_⟩:=k6.facts;clear k6;have r9:w.heap.size<wr.heap.size:=by have:=c6.out.lt;have:=HB.out.size;omega
         go_wp2_with fail
         refine a4.out.mono ?_;rintro e w2⟨v2,rfl,d1,a7⟩;have d4:=hid (e6.out.trans (a7.mono e6.out.size));have h7:=hid (HO.out.below d4.out);have n4:Hid (TrR w2 (fun b=>W2.heap.size<=b/\some b≠(Value.slice A0 i2 n6).ownBlock) rr v2):=d1.sub fun b _ hD=>by
          have h1:W3.heap.size<=b:=hD;have h2:=e6.out.size;have h3:=HB.out.size;exact⟨by omega,fun e=>by have:=(HO.out.1.lt b e.symm).2;omega⟩
         have d2:v2.length=3:=by obtain⟨_,_,_,rfl,_⟩:=d1.form;rfl
         have k5:∀u∈v2,u.oneCell'=true:=by obtain⟨_,_,_,rfl,_⟩:=d1.form;intro u hu;simp at hu;rcases hu with rfl|rfl|rfl<;>rfl
         have f6:W2.heap.size<=w2.heap.size:=by have:=HB.out.size;have:=d4.out.size;omega
         have f2:=h7.out.1;rw[d9.out]at f2;clear d1 a7;go_wp2_with (first|refine ua3 rfl 23 25 (.tmp 103) rfl Tryz.underlying23 3 40 ull (by decide) (by decide) v2 (.agg v2.toArray) rfl rfl d2 ?_|(at_builtin;refine uaf w2 rfl _ _ 23 25 rfl Tryz.underlying23 3 40 ull (by decide) (by decide) W2.heap.size _ i2 (ucr us i2) v2 (by rfl) f2 (by rfl) d2 k5 (by omega) f6 ?_))
         intro g e9 w3 k1 hg j6 r0;have m6:Hid (uhr W2.heap.size 25 w3 (.slice (some ⟨g,0,none⟩) (i2+1) e9) ((args.take (i2+1)).map (subst l)) fun j=>if j=i2 then v2 else us j):=by
          have h1:=h7.out.next (by exact n4.out) d2 (g:=g) (cap:=e9) (by rw[d9.out];exact k1) hg j6
          rw[d9.out]at h1;rw[c5.out];exact h1
         have a8:Below W2.heap.size W2 (w2.alloc (.cells v2.toArray 25)):=(HB.out.trans (d4.out.mono HB.out.size)).alloc f6 _;have l3:Hid (Below W2.heap.size W2 w3):=⟨hg.os.trans a8.os,hg.tape.trans a8.tape,hg.output.trans a8.output,ag a8.size hg.size,fun k hk=>(hg.block k (af hk a8.size) (fun e=>by have:=(HO.out.1.lt k e.symm).1;omega)).trans (a8.block k hk)⟩
         clear hg j6 k1 a8 f2 k5 d2 f6;go_wp2;go_roundw
         case rel=>exact⟨i2+1,_,by omega,by go_num,m6,l3⟩
         case measure=>simp[intOf];omega
        ·obtain rfl:i2=j:=by omega
         have b1:qq=args.map (subst l):=by rw[<-h8.out,b3.out,List.take_length]
         obtain⟨A3,s0,e9,h3,f3⟩:=HO.out.done;injection h3 with e1 e2 e3;subst e1;subst e2;subst e3;rw[b1]at f3;have n1:=hid f3;clear f3 b1;go_wp2;go_ret2
         exact⟨a0.out,.inr ⟨_,_,_,_,m7.out,rfl,n1.out.sub fun b _ hb=>by
          have h1:W2.heap.size<=b:=hb;have h2:=d5.out.size;show w.heap.size<=b
          omega⟩⟩
  ·have b9:Hid (q=none):=by
    show q=none
    rw[HQ.out,if_neg h3]
   have h4:(len:Int)≠vr\/((len:Int)=vr/\¬0<=c)\/((len:Int)=vr/\0<=c/\¬c<c1):=by omega
   clear h3;rcases h4 with h4|⟨h4,h5⟩|⟨h4,h5,h6⟩
   all_goals
    go_wp2;go_ret2
    exact⟨d3.out,.inl ⟨b9.out,rfl⟩⟩
 ·have b9:=hid (m4.out h1)
  have h4:x0≠5\/(x0=5/\¬0<=x1)\/(x0=5/\0<=x1/\¬x1<dl):=by omega
  clear h1;rcases h4 with h4|⟨h4,h5⟩|⟨h4,h5,h6⟩
  all_goals
   go_wp2;go_ret2
   exact⟨c2.out,.inl ⟨b9.out,rfl⟩⟩
set_option maxHeartbeats 200000
set_option maxRecDepth 512
theorem uvs:(Tryz.prog.info? 4).map (fun i=>(i.size,i.bytes,i.zero))=some (1,1,some (.bool false)):=by kernel_rfl
theorem uDu(w:World)(n:Nat)(hn:n<=1000000) :
 (Instr.makeSlice 205 (.int .i64 n) (.int .i64 n)).run Tryz.prog w = .ok (.slice (some ⟨w.heap.size,0,none⟩) n n) (w.alloc (.cells (madeCells #[.bool false] n) 4)):=by
 obtain⟨i,hi,a1⟩:=aL.1 uvs;simp only[Prod.mk.injEq]at a1;obtain⟨h1,h2,h3⟩:=a1;have a0:=run_make (P:=Tryz.prog) w 205 4 i _ Tryz.underlying205 hi h3 .i64 .i64 n n (by omega) (by omega) (by rw[h2];omega) (by omega)
 simp only[Int.toNat_natCast]at a0;rw[h1,Nat.mul_one]at a0;exact a0
def BsR(w:World)(D:Nat->Prop)(bs:List Bool)(A:Option Addr)(len:Nat):Prop:=
 len=bs.length/\(0<len->∃b off,A=some ⟨b,off,none⟩/\D b/\b<w.heap.size/\∀i,i<len->w.cell? ⟨b,off+i,none⟩=some (.bool (bs.getD i false)))
theorem BsR.vAb{w w':World}{D:Nat->Prop}(hk:uc D w w'){ss:List Bool}{A:Option Addr}{len:Nat}(h:BsR w D ss A len):BsR w' D ss A len:=by
 obtain⟨h1,h2⟩:=h;refine⟨h1,fun hp=>?_⟩
 obtain⟨b,off,hA,hD,hb,hL⟩:=h2 hp;exact⟨b,off,hA,hD,af hb hk.1,fun i hi=>(World.cell?_of_block (w:=w) (hk.2 b hb hD)).trans (hL i hi)⟩
theorem BsR.below{w w':World}{D:Nat->Prop}{ss:List Bool}{A:Option Addr}{len:Nat}(h:BsR w D ss A len)(hb:Below w.heap.size w w'):BsR w' D ss A len:=h.vAb (uc.of hb)
def uvt(bs:List Bool)(w:World)(e:Ending)(w':World):Prop:=∃Z,e = .returned (.slice Z bs.length bs.length)/\BsR w' (w.heap.size <= ·) bs Z bs.length/\Below w.heap.size w w'
def bsF(bs:List Bool)(i:Nat)(j:Nat):Value:= .bool (if j<i then bs.getD j false else false)
def bsG(bs:List Bool)(i:Nat)(x:Bool)(j:Nat):Value:= .bool (if j=i then x else if j<i then bs.getD j false else false)
theorem uvu{bs:List Bool}{i:Nat}{v q:Bool}(j:Nat)(h:v=q):(if j=i then .bool v else bsF bs i j)=bsG bs i q j:=by
 subst h;unfold bsF bsG;by_cases hj:j=i
 ·rw[if_pos hj,if_pos hj]
 ·rw[if_neg hj,if_neg hj]
theorem uIp{x c y r:Bool}(h:(x&&(c&&y))=r)(hc:c=true):Hid ((x&&y)=r):=by
 show _=_
 rw[<-h,hc];simp
theorem uDv{x c y y' r:Bool}(h:(x&&(c&&y))=r)(hc:c=false):Hid ((false&&y')=r):=by
 show _=_
 rw[<-h,hc];simp
theorem upl{bs:List Bool}{i:Nat}{x:Bool}(j:Nat):(if j=i then .bool false else bsG bs i x j)=bsG bs i false j:=by
 unfold bsG;by_cases hj:j=i
 ·rw[if_pos hj,if_pos hj]
 ·rw[if_neg hj,if_neg hj,if_neg hj]
theorem uDw{bs:List Bool}{i:Nat}{x:Bool}(j:Nat)(h:x=bs.getD i false):bsG bs i x j=bsF bs (i+1) j:=by
 unfold bsF bsG;by_cases hj:j=i
 ·subst hj
  rw[if_pos rfl,if_pos (by omega),h]
 ·rw[if_neg hj]
  by_cases h2:j<i
  ·rw[if_pos h2,if_pos (by omega)]
  ·rw[if_neg h2,if_neg (by omega)]
set_option maxHeartbeats 16000000
set_option maxRecDepth 100000
theorem uft{D:Nat->Prop}{dat:List DaD}{A:Option Addr}{dl dc:Nat}(d c:Nat)(hd:d<dat.length)(hc:c<dat[d].cons.length)(hn:dat[d].cons[c].args.length<=100000)(w:World)(hD:DaS w D dat A dl dc) :
 Calls Tryz.prog 189 #[.slice A dl dc,.int .i64 (d:Int),.int .i64 (c:Int)] w (uvt (dat[d].cons[c].args.map (uqv d dat[d].vars)) w):=by
 obtain⟨b,off,s,A',j8,k9,rfl,hb,e0,e1,e2,n5,n6,c3⟩:=hD.get (i:=d) hd;obtain⟨bc,q0,sc,Ac,al,ac,rfl,o1,f0,f1,m6,c0⟩:=c3.get (i:=c) hc;have h0:dl=dat.length:=hD.1;have o9:=hD.2.1;have m7:dc<=maxLen:=hD.2.2.1;have f9:j8=dat[d].cons.length:=c3.1;have o6:=c3.2.1;have m5:k9<=maxLen:=c3.2.2.1;unfold maxLen at m7 m5;rw[<-h0]at hd;rw[<-f9]at hc;generalize dat[d].cons[c].args=args at *;generalize dat[d].vars=vr at *;have d8:al=args.length:=c0.1;have n9:=c0.2.1;have m4:ac<=maxLen:=c0.2.2.1;unfold maxLen at m4;have k0:=hid (c0.sub (D':=fun b=>b<w.heap.size) fun b hb _=>hb)
 have j9:=hid d8;have n8:al<=100000:=by omega
 unfold rng at n6;obtain⟨bs,d0⟩:∃x,args.map (uqv d vr)=x:=⟨_,rfl⟩;have f6:bs.length=al:=by rw[<-d0,List.length_map,d8]
 rw[d0];have k3:=hid d0;have d4:=hid f6;clear c0 d8 hD c3 m6 n5 f0 e0 h0 f9 d0 f6 hn;have o7:(0:Int)<=d:=by omega
 have o4:(0:Int)<=c:=by omega
 have o8:(d:Int)<dl:=by omega
 have o5:(c:Int)<j8:=by omega
 have n4:=uDu w al (by omega)
 go_enter Tryz.func189,Tryz.ntmps189
 go_upto_region 1 with(fail)
 go_cut [34] from 13 to 34 (fun v wx=>v = .bool false/\w=wx)
 case first=>
  go_wp2;go_meet
  exact⟨by simp;omega,rfl⟩
 case rest=>
 obtain⟨rfl,rfl⟩:=hcut;go_upto_region 5 with(fail)
 obtain⟨G,hG⟩:∃G,G=w.alloc (.cells (madeCells #[.bool false] al) 4):=⟨_,rfl⟩;have k6:Hid (G.rowIs w.heap.size 4 al (bsF bs 0)):=by
  rw[hG];exact World.rowIs.congr (World.rowIs_made w (.bool false) al 4) fun i _=>by simp[bsF]
 have f5:Below w.heap.size w G:=by rw[hG];exact aa.alloc ab _
 rw[<-hG];clear hG n4;have k2:=hid f5;clear f5;go_wp2;go_loopw [49] (fun iv wr=>∃i:Nat,i<=al/\iv = .int .i64 i/\Hid (wr.rowIs w.heap.size 4 al (bsF bs i))/\Hid (Below w.heap.size w wr)) (fun iv _=>al-(intOf iv).toNat)
 case atStart=>exact⟨0,by omega,rfl,k6,k2⟩
 case round=>
  obtain⟨i,hi,rfl,HR,HB⟩:=hrel;by_cases c5:i<al
  ·have j2:i<args.length:=by have:=j9.out;omega
   obtain⟨b2,p8,A2,a3,a7,rfl,o0,e3,e4,e5,j6⟩:=(k0.out.below HB.out).get (i:=i) j2;have hs:=j6.form;obtain⟨_,_,_,a2,c4,m8,n2⟩:=hs;injection a2 with _ a2;injection a2 with _ a2;injection a2 with a2 _;injection a2 with q1 q2 q3;subst q1;subst q2;subst q3;have d9:bs.getD i false=uqv d vr args[i]:=by rw[<-k3.out,aj,List.getElem?_map,ai j2];rfl
   unfold uqv at d9;generalize args[i].kids=kids at *;generalize args[i].k=y0 at *;generalize args[i].m=y1 at *;unfold rng at m8 n2;have j4:a3=kids.length:=c4.1;have p3:=c4.2.1;have n0:a7<=maxLen:=c4.2.2.1;unfold maxLen at n0;obtain⟨W2,b8⟩:∃W2,W2=wr.alloc (.cells #[.int .i64 y0,.int .i64 y1,.slice A2 a3 a7] 25):=⟨_,rfl⟩;have c9:Below wr.heap.size wr W2:=by rw[b8];exact aa.alloc ab _
   have d1:Bk W2 wr.heap.size 25 #[.int .i64 y0,.int .i64 y1,.slice A2 a3 a7]:=by rw[b8];exact Bk.new _ _ _
   have d3:W2.rowIs w.heap.size 4 al (bsF bs i):=by rw[b8];exact HR.out.alloc _
   have d6:=hid (c4.below c9);have b4:=hid (HB.out.trans (c9.mono HB.out.size));have b0:=hid d1;have c7:=hid d3;have d5:=hid j4;have f3:=hid d9;obtain⟨p5,_,_⟩:=d1.facts;have o2:=d3.cell c5;have p0:=d3.frozen i;have g1:W2.cell? ⟨b,off+d*3+1,none⟩=some (.int .i64 vr):=ux e1 (b4.out) hb;have n7:Hid (wr.heap.size<W2.heap.size):=d1.lt;clear c4 c9 d1 d3 j4 d9 j6;go_upto_region 8 with(fail)
   rw[<-b8];clear b8;obtain⟨q,hq⟩:∃q:Bool,(y0==5&&y1==(d:Int)&&decide ((kids.length:Int)=vr))=q:=⟨_,rfl⟩;rw[hq]at f3;rw[<-d5.out]at hq;have HQ:=hid hq;clear hq;go_cut [] from 54 to 76 (fun wx=>Hid (wx.rowIs w.heap.size 4 al (bsG bs i q))/\Hid (Below w.heap.size w wx)/\Hid (Bk wx wr.heap.size 25 #[.int .i64 y0,.int .i64 y1,.slice A2 a3 a7])/\Hid (TrS wx (fun b=>b<w.heap.size) kids A2 a3 a7))
   case first=>
    have e9:w.heap.size≠wr.heap.size:=by have:=HR.out.lt;omega
    by_cases h5:y0=5
    ·by_cases h6:y1=d
     ·subst h5
      subst h6;have c1:decide ((d:Int)=d)=true:=by simp
      go_still_tail 22,(by kernel_rfl)
      change wpList _ _ _ _ _ W2.drew
      obtain⟨wd,a4⟩:∃x,x=W2.drew:=⟨_,rfl⟩;have a5:Hid (wd.rowIs w.heap.size 4 al (bsF bs i)):=by rw[a4];exact c7.out.drew
      have b6:Hid (Bk wd wr.heap.size 25 #[.int .i64 5,.int .i64 (d:Int),.slice A2 a3 a7]):=by rw[a4];exact b0.out.drew
      have b7:Hid (TrS wd (fun b=>b<w.heap.size) kids A2 a3 a7):=by rw[a4];exact d6.out.below aa.drew
      have b5:Hid (Below w.heap.size w wd):=by rw[a4];exact b4.out.drew
      have f8:=a5.out.cell c5;have j1:=a5.out.frozen i;rw[<-a4];clear a4;go_wp2;go_meet
      refine⟨(a5.out.set i _).congr fun j hj=>uvu j ?_,?_,?_,?_⟩
      ·rw[<-HQ.out]
       by_cases hv:(a3:Int)=vr<;>simp[hv]
      ·exact b5.out.setCell (p:=⟨w.heap.size,i,none⟩) ab _
      ·exact b6.out.far (p:=⟨w.heap.size,i,none⟩) (fun e=>e9 e.symm) _
      ·exact TrS.vAb (uc.fw ((Fw.refl (fun b=>b=w.heap.size) _).setCell (p:=⟨w.heap.size,i,none⟩) (.inl rfl) _) (D:=fun b=>b<w.heap.size) (fun b hb e=>by have h1:b<w.heap.size:=hb;have h2:b=w.heap.size:=e;omega)) b7.out
     ·subst h5
      have c1:decide (y1=(d:Int))=false:=by simp[h6]
      go_still_tail 22,(by kernel_rfl)
      change wpList _ _ _ _ _ W2.drew
      obtain⟨wd,a4⟩:∃x,x=W2.drew:=⟨_,rfl⟩;have a5:Hid (wd.rowIs w.heap.size 4 al (bsF bs i)):=by rw[a4];exact c7.out.drew
      have b6:Hid (Bk wd wr.heap.size 25 #[.int .i64 5,.int .i64 y1,.slice A2 a3 a7]):=by rw[a4];exact b0.out.drew
      have b7:Hid (TrS wd (fun b=>b<w.heap.size) kids A2 a3 a7):=by rw[a4];exact d6.out.below aa.drew
      have b5:Hid (Below w.heap.size w wd):=by rw[a4];exact b4.out.drew
      have f8:=a5.out.cell c5;have j1:=a5.out.frozen i;rw[<-a4];clear a4;go_wp2;go_meet
      refine⟨(a5.out.set i _).congr fun j hj=>uvu j ?_,?_,?_,?_⟩
      ·rw[<-HQ.out]
       simp[h6]
      ·exact b5.out.setCell (p:=⟨w.heap.size,i,none⟩) ab _
      ·exact b6.out.far (p:=⟨w.heap.size,i,none⟩) (fun e=>e9 e.symm) _
      ·exact TrS.vAb (uc.fw ((Fw.refl (fun b=>b=w.heap.size) _).setCell (p:=⟨w.heap.size,i,none⟩) (.inl rfl) _) (D:=fun b=>b<w.heap.size) (fun b hb e=>by have h1:b<w.heap.size:=hb;have h2:b=w.heap.size:=e;omega)) b7.out
    ·have c2:(y0==5)=false:=by simp[h5]
     refine uao (by kernel_rfl) (by kernel_rfl) [54,55,56,57,58,59,60,61,62,63,64,65,66,67,68,69,70,71,72,73,74,75] 40 (by kernel_rfl) (fun io v x=>match io with
      | 0=>v = .slice (some ⟨w.heap.size,0,none⟩) al al
      | 1=>v = .int .i64 (i:Int)
      | 2=>v = .pointer (some ⟨wr.heap.size,0,none⟩)
      | 3=>v = .int .i64 y0
      | 4=>v = .bool false
      | 5=>v = .bool false
      | 6=>v=undef
      | 7=>v=undef
      | 8=>v=undef
      | 9=>v=undef
      | 10=>v = .bool false
      | 11=>v = .bool false
      | 12=>v=undef
      | 13=>v=undef
      | 14=>v=undef
      | 15=>v=undef
      | 16=>v=undef
      | 17=>v=undef
      | 18=>v=undef
      | 19=>v=undef
      | 20=>v=undef
      | _=>v = .bool false) ?_ ?_ ?_
     ·intro io v x x' a6 h hb
      rcases io with _|_|_|_|_|_|_|_|_|_|_|_|_|_|_|_|_|_|_|_|_|io
      ·exact h
      ·exact h
      ·exact h
      ·exact h
      ·exact h
      ·exact h
      ·exact h
      ·exact h
      ·exact h
      ·exact h
      ·exact h
      ·exact h
      ·exact h
      ·exact h
      ·exact h
      ·exact h
      ·exact h
      ·exact h
      ·exact h
      ·exact h
      ·exact h
      ·exact h
     ·intro io oo S x ho a6 a8 a0
      rcases io with _|_|_|_|_|_|_|_|_|_|_|_|_|_|_|_|_|_|_|_|_|_|io
      ·cases ho
       refine uh rfl rfl fun KK HK=>?_
       clear a0 a6;simp only[nv,Nat.reduceAdd]at HK ⊢;go_wp2;exact HK.out _ _ ⟨_,rfl,rfl,aa⟩
      ·cases ho
       refine uh rfl rfl fun KK HK=>?_
       clear a0 a6;simp only[nv,Nat.reduceAdd]at HK ⊢;go_wp2;exact HK.out _ _ ⟨_,rfl,rfl,aa⟩
      ·cases ho
       refine uh rfl rfl fun KK HK=>?_
       clear a0 a6;simp only[nv,Nat.reduceAdd]at HK ⊢;go_wp2;exact HK.out _ _ ⟨_,rfl,rfl,aa⟩
      ·cases ho
       have h2:S 2 = .pointer (some ⟨wr.heap.size,0,none⟩):=a0 2 (by kernel_rfl) (by decide)
       have cc:=(b0.out.below a8 b0.out.lt).facts.1;refine uh rfl rfl fun KK HK=>?_
       clear a0 a6;simp only[nv,Nat.reduceAdd]at HK ⊢;generalize S 2=t2 at *;subst h2;go_wp2;exact HK.out _ _ ⟨_,rfl,rfl,aa⟩
      ·cases ho
       have h3:S 3 = .int .i64 y0:=a0 3 (by kernel_rfl) (by decide)
       refine uh rfl rfl fun KK HK=>?_
       clear a0 a6;simp only[nv,Nat.reduceAdd]at HK ⊢;generalize S 3=t3 at *;subst h3;go_wp2;exact HK.out _ _ ⟨_,rfl,rfl,aa⟩
      ·cases ho
       have h4:S 4 = .bool false:=a0 4 (by kernel_rfl) (by decide)
       refine uh rfl rfl fun KK HK=>?_
       clear a0 a6;simp only[nv,Nat.reduceAdd]at HK ⊢;generalize S 4=t4 at *;subst h4;go_wp2;exact HK.out _ _ ⟨_,rfl,rfl,aa⟩
      ·cases ho
       have h5:S 5 = .bool false:=a0 5 (by kernel_rfl) (by decide)
       exact ui rfl rfl 59 (by kernel_rfl) (by simp only[nv,Nat.reduceAdd,h5,ae];rfl) ⟨_,rfl,rfl,aa⟩
      ·cases ho
       have h5:S 5 = .bool false:=a0 5 (by kernel_rfl) (by decide)
       exact ui rfl rfl 59 (by kernel_rfl) (by simp only[nv,Nat.reduceAdd,h5,ae];rfl) ⟨_,rfl,rfl,aa⟩
      ·cases ho
       have h5:S 5 = .bool false:=a0 5 (by kernel_rfl) (by decide)
       exact ui rfl rfl 59 (by kernel_rfl) (by simp only[nv,Nat.reduceAdd,h5,ae];rfl) ⟨_,rfl,rfl,aa⟩
      ·cases ho
       have h5:S 5 = .bool false:=a0 5 (by kernel_rfl) (by decide)
       exact ui rfl rfl 59 (by kernel_rfl) (by simp only[nv,Nat.reduceAdd,h5,ae];rfl) ⟨_,rfl,rfl,aa⟩
      ·cases ho
       have h5:S 5 = .bool false:=a0 5 (by kernel_rfl) (by decide)
       have h9:S 9=undef:=a0 9 (by kernel_rfl) (by decide)
       refine uh rfl rfl fun KK HK=>?_
       clear a0 a6;simp only[nv,Nat.reduceAdd]at HK ⊢;generalize S 5=t5 at *;subst h5;generalize S 9=t9 at *;subst h9;go_wp2;exact HK.out _ _ ⟨_,rfl,rfl,aa⟩
      ·cases ho
       have m2:S 10 = .bool false:=a0 10 (by kernel_rfl) (by decide)
       refine uh rfl rfl fun KK HK=>?_
       clear a0 a6;simp only[nv,Nat.reduceAdd]at HK ⊢;generalize S 10=t10 at *;subst m2;go_wp2;exact HK.out _ _ ⟨_,rfl,rfl,aa⟩
      ·cases ho
       have a1:S 11 = .bool false:=a0 11 (by kernel_rfl) (by decide)
       exact ui rfl rfl 65 (by kernel_rfl) (by simp only[nv,Nat.reduceAdd,a1,ae];rfl) ⟨_,rfl,rfl,aa⟩
      ·cases ho
       have a1:S 11 = .bool false:=a0 11 (by kernel_rfl) (by decide)
       exact ui rfl rfl 65 (by kernel_rfl) (by simp only[nv,Nat.reduceAdd,a1,ae];rfl) ⟨_,rfl,rfl,aa⟩
      ·cases ho
       have a1:S 11 = .bool false:=a0 11 (by kernel_rfl) (by decide)
       exact ui rfl rfl 65 (by kernel_rfl) (by simp only[nv,Nat.reduceAdd,a1,ae];rfl) ⟨_,rfl,rfl,aa⟩
      ·cases ho
       have a1:S 11 = .bool false:=a0 11 (by kernel_rfl) (by decide)
       exact ui rfl rfl 65 (by kernel_rfl) (by simp only[nv,Nat.reduceAdd,a1,ae];rfl) ⟨_,rfl,rfl,aa⟩
      ·cases ho
       have a1:S 11 = .bool false:=a0 11 (by kernel_rfl) (by decide)
       exact ui rfl rfl 65 (by kernel_rfl) (by simp only[nv,Nat.reduceAdd,a1,ae];rfl) ⟨_,rfl,rfl,aa⟩
      ·cases ho
       have a1:S 11 = .bool false:=a0 11 (by kernel_rfl) (by decide)
       exact ui rfl rfl 65 (by kernel_rfl) (by simp only[nv,Nat.reduceAdd,a1,ae];rfl) ⟨_,rfl,rfl,aa⟩
      ·cases ho
       have a1:S 11 = .bool false:=a0 11 (by kernel_rfl) (by decide)
       exact ui rfl rfl 65 (by kernel_rfl) (by simp only[nv,Nat.reduceAdd,a1,ae];rfl) ⟨_,rfl,rfl,aa⟩
      ·cases ho
       have a1:S 11 = .bool false:=a0 11 (by kernel_rfl) (by decide)
       exact ui rfl rfl 65 (by kernel_rfl) (by simp only[nv,Nat.reduceAdd,a1,ae];rfl) ⟨_,rfl,rfl,aa⟩
      ·cases ho
       have a1:S 11 = .bool false:=a0 11 (by kernel_rfl) (by decide)
       exact ui rfl rfl 65 (by kernel_rfl) (by simp only[nv,Nat.reduceAdd,a1,ae];rfl) ⟨_,rfl,rfl,aa⟩
      ·cases ho
       have a1:S 11 = .bool false:=a0 11 (by kernel_rfl) (by decide)
       have m3:S 20=undef:=a0 20 (by kernel_rfl) (by decide)
       refine uh rfl rfl fun KK HK=>?_
       clear a0 a6;simp only[nv,Nat.reduceAdd]at HK ⊢;generalize S 11=t11 at *;subst a1;generalize S 20=t20 at *;subst m3;go_wp2;exact HK.out _ _ ⟨_,rfl,rfl,aa⟩
      ·exact absurd a6 (by simp)
     ·intro S x a8 hF
      have g0:S 0 = .slice (some ⟨w.heap.size,0,none⟩) al al:=hF 0 (by decide)
      have g1:S 1 = .int .i64 (i:Int):=hF 1 (by decide)
      have g2:S 2 = .pointer (some ⟨wr.heap.size,0,none⟩):=hF 2 (by decide)
      have g3:S 3 = .int .i64 y0:=hF 3 (by decide)
      have g4:S 4 = .bool false:=hF 4 (by decide)
      have g5:S 5 = .bool false:=hF 5 (by decide)
      have g6:S 6=undef:=hF 6 (by decide)
      have g7:S 7=undef:=hF 7 (by decide)
      have g8:S 8=undef:=hF 8 (by decide)
      have g9:S 9=undef:=hF 9 (by decide)
      have l0:S 10 = .bool false:=hF 10 (by decide)
      have l1:S 11 = .bool false:=hF 11 (by decide)
      have l2:S 12=undef:=hF 12 (by decide)
      have l3:S 13=undef:=hF 13 (by decide)
      have l4:S 14=undef:=hF 14 (by decide)
      have l5:S 15=undef:=hF 15 (by decide)
      have l6:S 16=undef:=hF 16 (by decide)
      have l7:S 17=undef:=hF 17 (by decide)
      have l8:S 18=undef:=hF 18 (by decide)
      have l9:S 19=undef:=hF 19 (by decide)
      have m0:S 20=undef:=hF 20 (by decide)
      have m1:S 21 = .bool false:=hF 21 (by decide)
      clear hF;simp only[nv,Nat.reduceAdd,aB,aE,aC,List.drop_zero];generalize S 0=t0 at *;subst g0;generalize S 1=t1 at *;subst g1;generalize S 2=t2 at *;subst g2;generalize S 3=t3 at *;subst g3;generalize S 4=t4 at *;subst g4;generalize S 5=t5 at *;subst g5;generalize S 6=t6 at *;subst g6;generalize S 7=t7 at *;subst g7;generalize S 8=t8 at *;subst g8;generalize S 9=t9 at *;subst g9;generalize S 10=t10 at *;subst l0;generalize S 11=t11 at *;subst l1;generalize S 12=t12 at *;subst l2;generalize S 13=t13 at *;subst l3;generalize S 14=t14 at *;subst l4;generalize S 15=t15 at *;subst l5;generalize S 16=t16 at *;subst l6;generalize S 17=t17 at *;subst l7;generalize S 18=t18 at *;subst l8;generalize S 19=t19 at *;subst l9;generalize S 20=t20 at *;subst m0;generalize S 21=t21 at *;subst m1;have a5:Hid (x.rowIs w.heap.size 4 al (bsF bs i)):=c7.out.of_block (a8.block _ c7.out.lt);have b6:=hid (b0.out.below a8 b0.out.lt);have b7:=hid (d6.out.below a8);have b5:Hid (Below w.heap.size w x):=b4.out.trans (a8.mono b4.out.size);have f8:=a5.out.cell c5;have j1:=a5.out.frozen i;clear a8;go_wp2;go_meet
      refine⟨(a5.out.set i _).congr fun j hj=>uvu j ?_,?_,?_,?_⟩
      ·rw[<-HQ.out]
       simp[h5]
      ·exact b5.out.setCell (p:=⟨w.heap.size,i,none⟩) ab _
      ·exact b6.out.far (p:=⟨w.heap.size,i,none⟩) (fun e=>e9 e.symm) _
      ·exact TrS.vAb (uc.fw ((Fw.refl (fun b=>b=w.heap.size) _).setCell (p:=⟨w.heap.size,i,none⟩) (.inl rfl) _) (D:=fun b=>b<w.heap.size) (fun b hb e=>by have h1:b<w.heap.size:=hb;have h2:b=w.heap.size:=e;omega)) b7.out
   case rest=>
    obtain⟨k7,f2,k4,k5⟩:=hcut;obtain⟨p6,_,_⟩:=k4.out.facts;go_wp2;go_loopw [80] (fun jv wr=>∃(j:Nat) (x:Bool),j<=a3/\jv = .int .i64 j/\Hid ((x&&ufj j (kids.drop j))=bs.getD i false)/\Hid (wr.rowIs w.heap.size 4 al (bsG bs i x))/\Hid (Fw (fun b=>b=w.heap.size) wc wr)) (fun jv _=>a3-(intOf jv).toNat)
    case atStart=>
     refine⟨0,q,by omega,rfl,?_,k7,Fw.refl _ _⟩
     have h:=f3.out;rw[h];rfl
    case round=>
     obtain⟨j,x,hj,rfl,HV,f4,HF⟩:=hrel;have k1:=hid (f2.out.trans (HF.out.toBelow (n:=w.heap.size) (fun x hx=>by have h2:x=w.heap.size:=hx;omega) f2.out.size))
     by_cases p2:j<a3
     ·have j3:j<kids.length:=by have:=d5.out;omega
      obtain⟨b3,p9,A3,a9,d7,rfl,c9,e6,e7,e8,j7⟩:=(k5.out.vAb (uc.fw HF.out fun b hb e=>by have h1:b<w.heap.size:=hb;have h2:b=w.heap.size:=e;omega)).get (i:=j) j3
      have hv:=HV.out;rw[aN j3,ufj]at hv;obtain⟨_,_,_,a2,d2,m9,n3⟩:=j7.form;injection a2 with _ a2;injection a2 with _ a2;injection a2 with a2 _;injection a2 with q1 q2 q3;subst q1;subst q2;subst q3;have j5:a9=kids[j].kids.length:=d2.1;have j0:kids[j].kids.isEmpty=decide (a9=0):=by rw[j5];cases kids[j].kids<;>simp
      rw[j0]at hv;have p4:=d2.2.1;have n1:d7<=maxLen:=d2.2.2.1;unfold maxLen at n1;unfold rng at m9 n3;clear j7 d2 j5 j0;generalize kids[j].k=z0 at *;generalize kids[j].m=z1 at *;have c8:=hid hv;clear hv;obtain⟨W5,b9⟩:∃W5,W5=wr.alloc (.cells #[.int .i64 z0,.int .i64 z1,.slice A3 a9 d7] 25):=⟨_,rfl⟩;have b1:Hid (W5.rowIs w.heap.size 4 al (bsG bs i x)):=by rw[b9];exact f4.out.alloc _
      have c6:Hid (Fw (fun b=>b=w.heap.size) wc W5):=by rw[b9];exact HF.out.alloc _
      have f7:Bk W5 wr.heap.size 25 #[.int .i64 z0,.int .i64 z1,.slice A3 a9 d7]:=by rw[b9];exact Bk.new _ _ _
      obtain⟨p7,_,_⟩:=f7.facts;have o3:=b1.out.cell c5;have p1:=b1.out.frozen i;go_upto_region 12 with(fail)
      rw[<-b9];clear b9 f7;by_cases h4:z0=4
      ·by_cases h5:z1=j
       ·by_cases h6:a9=0
        ·subst h4
         subst h5;subst h6;go_wp2;go_roundw
         case rel=>exact⟨j+1,x,by omega,by go_num,uIp c8.out (by simp),b1,c6⟩
         case measure=>simp[intOf];omega
        ·subst h4
         subst h5;have h7:(0:Int)<(a9:Int):=by omega
         have h8:0<a9:=by omega
         go_wp2;go_roundw
         case rel=>exact⟨j+1,false,by omega,by go_num,uDv c8.out (by simp[h6]),(b1.out.set i _).congr fun j _=>upl j,c6.out.setCell (p:=⟨w.heap.size,i,none⟩) (.inl rfl) _⟩
         case measure=>simp[intOf];omega
       ·subst h4
        go_wp2;go_roundw
        case rel=>exact⟨j+1,false,by omega,by go_num,uDv c8.out (by simp[h5]),(b1.out.set i _).congr fun j _=>upl j,c6.out.setCell (p:=⟨w.heap.size,i,none⟩) (.inl rfl) _⟩
        case measure=>simp[intOf];omega
      ·go_wp2
       go_roundw
       case rel=>exact⟨j+1,false,by omega,by go_num,uDv c8.out (by simp[h4]),(b1.out.set i _).congr fun j _=>upl j,c6.out.setCell (p:=⟨w.heap.size,i,none⟩) (.inl rfl) _⟩
       case measure=>simp[intOf];omega
     ·obtain rfl:j=a3:=by omega
      have hx:x=bs.getD i false:=by
       have h:=HV.out;rw[List.drop_eq_nil_of_le (by have:=d5.out;omega),ufj,Bool.and_true]at h
       exact h
      have k8:Hid (wr.rowIs w.heap.size 4 al (bsF bs (i+1))):=f4.out.congr fun j _=>uDw j hx
      go_wp2;go_roundw
      case rel=>exact⟨i+1,by omega,by go_num,k8,k1⟩
      case measure=>simp[intOf];omega
  ·obtain rfl:i=al:=by omega
   go_wp2;go_ret
   refine⟨some ⟨w.heap.size,0,none⟩,by rw[show bs.length=i from d4.out];simp,⟨rfl,fun _=>⟨w.heap.size,0,rfl,ab,HR.out.lt,fun j hj=>?_⟩⟩,HB.out⟩
   rw[Nat.zero_add,HR.out.cell (by rw[d4.out]at hj;exact hj)]
   unfold bsF;rw[if_pos (by rw[d4.out]at hj;exact hj)]
end Go.Proofs.YtnbbpmagijpmpaaGreatDoor
