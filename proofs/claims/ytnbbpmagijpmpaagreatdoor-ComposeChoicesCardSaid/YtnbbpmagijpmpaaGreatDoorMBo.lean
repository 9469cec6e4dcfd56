/-
  Polynomials: element.
-/
import Derived.Test.YtnbbpmagijpmpaaGreatDoorMYh
set_option linter.unusedVariables false
set_option linter.unusedSimpArgs false
namespace Go.Proofs.YtnbbpmagijpmpaaGreatDoor
open Go.Lib (hid)
open Go.RowKit AC
theorem uog:(Tryz.prog.info? 25).map (fun i=>(i.size,i.bytes,i.zero.map fun z=>z.cells.size))=some (3,40,some 3):=by kernel_rfl
theorem usg:∀(fs:List Tr) (bs:List Bool),(uei fs bs).length<=fs.length
 | [],_=>by simp[uei]
 | _::_,[]=>by simp[uei]
 | f::fs,b::bs=>by
  have:=usg fs bs;rw[uei];split<;>simp<;>omega
theorem uG8:vCk (fun w D (t:Tr) v=>TrR w D t v):=⟨fun hk h=>h.vAb hk,fun hd h=>h.sub hd⟩
theorem TrS.vDn{w:World}{D:Nat->Prop}{l:List Tr}{A:Option Addr}{len cap:Nat}(h:Sl 3 (TrR w D) w D l A len cap):TrS w D l A len cap:=by
 obtain⟨h1,h2,h3,h4⟩:=h;refine⟨h1,h2,h3,fun hp=>?_⟩
 obtain⟨b,off,e,hD,hb,hf⟩:=h4 hp;exact⟨b,off,e,hD,hb,TrL.of hf⟩
theorem umd:∀ {fs:List Tr} {bs:List Bool} {t:Tr},t∈uei fs bs->t∈fs
 | [],_,_,h=>by simp[uei]at h
 | _::_,[],_,h=>by simp[uei]at h
 | f::fs,b::bs,t,h=>by
  rw[uei]at h;split at h
  ·exact aG _ (umd h)
  ·rcases List.mem_cons.1 h with rfl|h
   ·simp
   ·exact aG _ (umd h)
theorem uoh:∀ {fs:List Tr} {bs:List Bool} {i:Nat} (h1:i<fs.length) (h2:i<bs.length),uei (fs.take (i+1)) (bs.take (i+1))=uei (fs.take i) (bs.take i)++(if bs.getD i false=true then []else [fs[i]])
 | f::fs,b::bs,0,_,_=>by simp[uei]
 | f::fs,b::bs,i+1,h1,h2=>by
  have:=uoh (fs:=fs) (bs:=bs) (i:=i) (by simpa using h1) (by simpa using h2)
  rw[List.take_succ_cons,List.take_succ_cons,uei,this,List.take_succ_cons,List.take_succ_cons,uei];by_cases hb:b=true
  ·rw[if_pos hb,if_pos hb];rfl
  ·rw[if_neg hb,if_neg hb];rfl
theorem uud(dat:List DaD)(t:Tr)(c:Int):umc dat t c=ue3 dat t c:=rfl
theorem uBh{dat:List DaD}{e:Ix}{t:Tr}(h:uae dat t e.k=none):elm dat e t = -1:=by
 obtain⟨c,m⟩:=e;rw[elm,show uae dat t c=none from h]
theorem uBi{dat:List DaD}{e:Ix}{t:Tr}{fs:List Tr}(h:uae dat t e.k=some fs):elm dat e t=if tot dat (uei fs (ue3 dat t e.k)) e.l<0 then -1 else 1+tot dat (uei fs (ue3 dat t e.k)) e.l:=by
 obtain⟨c,m⟩:=e;rw[elm,show uae dat t c=some fs from h,<-uud]
 unfold tot;show(if(uei fs (umc dat t c)).length=m.length then _ else _)=if(if(uei fs (umc dat t c)).length=m.length then _ else _)<0 then _ else 1+(if(uei fs (umc dat t c)).length=m.length then _ else _)
 split
 ·rfl
 ·rfl
def FsT(base:Nat)(fs:List Tr)(v:Value)(x:World):Prop:=∃A n c,v = .slice A n c/\TrS x (base <= ·) fs A n c
theorem FsT.stays{base:Nat}{fs:List Tr}:∀v x x',FsT base fs v x->Below x.heap.size x x'->FsT base fs v x':=fun v x x' h hb=>by
 obtain⟨A,n,c,h1,h2⟩:=h;exact⟨A,n,c,h1,h2.below hb⟩
def FsU(base:Nat)(fs:List Tr)(v:Value)(x:World):Prop:=∃u,v = .tuple #[u,.bool true]/\FsT base fs u x
theorem FsU.stays{base:Nat}{fs:List Tr}:∀v x x',FsU base fs v x->Below x.heap.size x x'->FsU base fs v x':=fun v x x' h hb=>by
 obtain⟨u,h1,h2⟩:=h;exact⟨u,h1,FsT.stays _ _ _ h2 hb⟩
def FlB(base:Nat)(fl:List Bool)(n:Nat)(v:Value)(x:World):Prop:=∃Z,v = .slice Z n n/\BsR x (base <= ·) fl Z n
theorem FlB.stays{base n:Nat}{fl:List Bool}:∀v x x',FlB base fl n v x->Below x.heap.size x x'->FlB base fl n v x':=fun v x x' h hb=>by
 obtain⟨Z,h1,h2⟩:=h;exact⟨Z,h1,h2.below hb⟩
set_option maxHeartbeats 16000000
set_option maxRecDepth 100000
theorem uue{lo sb mb pb:Nat}{X:Ctx}{N:Nat}(hX:X.ok)(hM:uE8 lo sb mb pb X N):uE7 lo sb mb pb X (N+1):=by
 intro D D' i t tv iv w hN j4 c4 g0 ht hl;have l4:=Ix.vBj i;obtain⟨A,n,c,rfl,_,m9,n0⟩:=ht.form;obtain⟨B,m,k,rfl,b4,k5⟩:=hl.form;have n1:=b4.2.1;have k0:k<=maxLen:=b4.2.2.1;unfold maxLen at k0;have KF:Hid (∀x,Below w.heap.size w x->∀dA dn dc,DaS x (· < lo) X.dat dA dn dc->Calls Tryz.prog 249 #[.slice dA dn dc,.agg #[.int .i64 t.k,.int .i64 t.m,.slice A n c],.int .i64 i.k] x (ukb (uae X.dat t i.k) x)):=fun x hx dA dn dc hd=>by
  have:=c4.1;exact utj i.k k5 x hd hX.1.small (ht.vAb (uc.of hx)) (by omega)
 have KR:Hid (∀fs,uae X.dat t i.k=some fs->(ue3 X.dat t i.k).length=fs.length/\fs.length<=6/\(∀f∈fs,TOk f)/\∀x dA dn dc,DaS x (· < lo) X.dat dA dn dc->Calls Tryz.prog 189 #[.slice dA dn dc,.int .i64 t.m,.int .i64 i.k] x (uvt (ue3 X.dat t i.k) x)):=fun fs b3=>by
  obtain⟨h6,j7⟩:=utt hX.1 c4 b3;obtain⟨i',j,hi,hj,_,k7,j9,_,k2,a3⟩:=upt b3;have h7:=((hX.1 _ (aq hi)).2.2.2 _ (aq hj)).1;refine⟨by rw[a3,k2,List.length_map,List.length_map],h6,j7,fun x dA dn dc hd=>?_⟩
  rw[a3,k7,j9];exact uft i' j hi hj (by omega) x hd
 have KT:Hid (∀fs,uae X.dat t i.k=some fs->∀(x:World) (D2:Nat->Prop) (A2:Option Addr) (n2 c2:Nat),Below w.heap.size w x->TrS x D2 (uei fs (ue3 X.dat t i.k)) A2 n2 c2->Calls Tryz.prog 255 #[.pointer (some ⟨sb,0,none⟩),.slice A2 n2 c2,.slice B m k] x (uY (.int .i64 (tot X.dat (uei fs (ue3 X.dat t i.k)) i.l)) x)):=fun fs b3 x D2 A2 n2 c2 hx l6=>by
  exact hM D2 D' i.l _ A2 B n2 c2 m k x (by omega) (by omega) (fun f hf=>(KR.out fs b3).2.2.1 f (umd hf)) (g0.below hx) l6 (b4.vAb (uc.of hx))
 have EN:= @uBh X.dat i t;have ES:=fun fs=> @uBi X.dat i t fs
 have a9:∀ts,tot X.dat ts i.l<=700:=fun ts=>by
  have:=vBy X.dat i.l ts 0;unfold tot;split<;>omega
 obtain⟨dA,dn,dc,vA,vn,vc,rk,rm,rA,rn,rc,f8,f1,_,_⟩:=g0;have b8:=hid f8;have c8:=hid f1;generalize elm X.dat i t=q at *;generalize uae X.dat t i.k=fd at *;generalize ue3 X.dat t i.k=fl at *;generalize t.k=a0 at *;generalize t.m=a1 at *;generalize i.k=y0 at *;obtain⟨tq,g2⟩:∃tq:List Tr->Int,Hid (∀ts,tot X.dat ts i.l=tq ts):=⟨_,fun _=>rfl⟩
 simp only[g2.out]at ES a9 KT;have c9:=hid EN;have d0:=hid ES;have h5:=hid a9;clear EN ES a9 g2 b4 ht hl c4 hM f1 f8 l4 hN j4 hX;show Calls Tryz.prog 256 #[.pointer (some ⟨sb,0,none⟩),.agg #[.int .i64 a0,.int .i64 a1,.slice A n c],.agg #[.int .i64 y0,.slice B m k]] w _
 go_enter Tryz.func256,Tryz.ntmps256
 go_upto_region 1 with(fail)
 obtain⟨W,hW⟩:∃W,W=(w.alloc (.cells #[.int .i64 a0,.int .i64 a1,.slice A n c] 25)).alloc (.cells #[.int .i64 y0,.slice B m k] 120):=⟨_,rfl⟩;have a4:Hid (Below w.heap.size w W):=by rw[hW];exact(aa.alloc ab _).alloc (by simp) _
 have HP:Hid (Bk W w.heap.size 25 #[.int .i64 a0,.int .i64 a1,.slice A n c]):=by rw[hW];exact(Bk.new _ _ _).alloc _
 have HR:Hid (Bk W (w.heap.size+1) 120 #[.int .i64 y0,.slice B m k]):=by
  rw[hW];have:=Bk.new (w.alloc (.cells #[.int .i64 a0,.int .i64 a1,.slice A n c] 25)) 120 #[.int .i64 y0,.slice B m k];exact hid (by simpa using this)
 have HS:Hid (Bk W sb 97 #[.slice dA dn dc,.slice vA vn vc,.int .i64 rk,.int .i64 rm,.slice rA rn rc,.map (some mb),.map (some pb)]):=b8.out.below a4.out b8.out.lt;have HD:Hid (DaS W (· < lo) X.dat dA dn dc):=c8.out.below a4.out
 have m3:Hid (W.heap.size=w.heap.size+2):=by rw[hW];exact hid (by simp)
 rw[<-hW];clear hW b8 c8;cases fd with
 | none=>
  have e:=hid (c9.out rfl);refine ue (⟨[(w.heap.size,0,[.int .i64 a0,.int .i64 a1,.slice A n c]),(w.heap.size+1,0,[.int .i64 y0,.slice B m k]),(sb,0,[.slice dA dn dc,.slice vA vn vc,.int .i64 rk,.int .i64 rm,.slice rA rn rc,.map (some mb),.map (some pb)])],[],[],[(0,.p 2 0),(4,.p 0 0),(5,.p 1 0)],[(8,.v (.tuple #[.slice none 0 0,.bool false])),(10,.v (.slice none 0 0)),(11,.v (.bool false))]⟩:Sp) [14,15,16,17,18,19,20,21,22,13,23,24,7,8] W (aa.drew) (by kernel_rfl) (by kernel_rfl) (by kernel_rfl) sN (by kernel_rfl)
   (fun x hx=>(mI (ud (HP.out.below hx HP.out.lt)) (mI (ud (HR.out.below hx HR.out.lt)) (mI (ud (HS.out.below hx HS.out.lt)) mN)))) (dI (ug [.v (.slice dA dn dc),.v (.agg #[.int .i64 a0,.int .i64 a1,.slice A n c]),.v (.int .i64 y0)] rfl rfl (by kernel_rfl) (by kernel_rfl) fun x vs hx hC hv=>by
    obtain⟨v1,v2,v3,rfl,h1,h2,h3⟩:=um8 hv;obtain rfl:v1 = .slice dA dn dc:=h1;obtain rfl:v2 = .agg #[.int .i64 a0,.int .i64 a1,.slice A n c]:=h2;obtain rfl:v3 = .int .i64 y0:=h3;refine((KF.out x (a4.out.trans (hx.mono a4.out.size)) dA dn dc (HD.out.below hx))).mono ?_;rintro en w2 hp;obtain⟨hb,h⟩:=hp;rcases h with⟨_,rfl⟩|⟨_,_,_,_,h,_⟩
    ·exact⟨_,rfl,rfl,hb⟩
    ·cases h) (
   dI (ug9 rfl rfl #[.slice none 0 0,.bool false] (.slice none 0 0) (by kernel_rfl) rfl) (
   dI (ug9 rfl rfl #[.slice none 0 0,.bool false] (.bool false) (by kernel_rfl) rfl) (dN)))) ?_
  intro S x1 a2 hS;obtain⟨e5,a7,_⟩:S 12 = .slice none 0 0/\S 13 = .bool false/\True:=hS (l:=[(12,.v (.slice none 0 0)),(13,.v (.bool false))]) (by kernel_rfl)
  clear hS;simp only[nv,Nat.reduceAdd,aB,aE,aC,List.drop_zero,e5,a7];clear e5 a7;have HX:=hid (a4.out.trans (a2.mono a4.out.size));clear a2;go_wp2;go_ret
  exact⟨by first|rfl|(rw[e.out];rfl),HX.out⟩
 | some fs=>
  have e:=hid (d0.out fs rfl);obtain⟨a3,h6,l5,f6⟩:=KR.out fs rfl;have j1:=hid f6;have d2:=hid a3;have j2:=hid (KT.out fs rfl);clear f6 a3 KR KT c9 d0 l5;refine ue (⟨[(w.heap.size,0,[.int .i64 a0,.int .i64 a1,.slice A n c]),(w.heap.size+1,0,[.int .i64 y0,.slice B m k]),(sb,0,[.slice dA dn dc,.slice vA vn vc,.int .i64 rk,.int .i64 rm,.slice rA rn rc,.map (some mb),.map (some pb)])],[],[FsU W.heap.size fs,FsT W.heap.size fs],[(0,.p 2 0),(4,.p 0 0),(5,.p 1 0)],[(8,.f 0),(10,.f 1),(11,.v (.bool true))]⟩:Sp) [14,15,16,17,18,19,20,21,22,13,23,24,7,8] W (aa.drew) (by kernel_rfl) (by kernel_rfl) (by kernel_rfl) (sI (FsU.stays) (sI (FsT.stays) sN)) (by kernel_rfl)
   (fun x hx=>(mI (ud (HP.out.below hx HP.out.lt)) (mI (ud (HR.out.below hx HR.out.lt)) (mI (ud (HS.out.below hx HS.out.lt)) mN)))) (dI (ug [.v (.slice dA dn dc),.v (.agg #[.int .i64 a0,.int .i64 a1,.slice A n c]),.v (.int .i64 y0)] rfl rfl (by kernel_rfl) (by kernel_rfl) fun x vs hx hC hv=>by
    obtain⟨v1,v2,v3,rfl,h1,h2,h3⟩:=um8 hv;obtain rfl:v1 = .slice dA dn dc:=h1;obtain rfl:v2 = .agg #[.int .i64 a0,.int .i64 a1,.slice A n c]:=h2;obtain rfl:v3 = .int .i64 y0:=h3;refine((KF.out x (a4.out.trans (hx.mono a4.out.size)) dA dn dc (HD.out.below hx))).mono ?_;rintro en w2 hp;obtain⟨hb,h⟩:=hp;rcases h with⟨h,_⟩|⟨fs2,A2,l2,c2,h,rfl,hs⟩
    ·cases h
    ·cases h
     exact⟨_,rfl,⟨_,rfl,A2,l2,c2,rfl,hs.sub fun b _ (hD:x.heap.size<=b)=>ag hx.size hD⟩,hb⟩) (
   dI (ub4 rfl rfl 0 (by kernel_rfl) (fun v x h=>by obtain⟨u,rfl,h2⟩:=h;exact⟨_,u,rfl,rfl,h2⟩)) (
   dI (ub4 rfl rfl 0 (by kernel_rfl) (fun v x h=>by obtain⟨u,rfl,h2⟩:=h;exact⟨_,_,rfl,rfl,rfl⟩)) (dN)))) ?_
  intro S x1 a2 hS;obtain⟨j3,a7,_⟩:(FsT W.heap.size fs:Value->World->Prop) (S 12) x1/\S 13 = .bool true/\True:=hS (l:=[(12,.f 1),(13,.v (.bool true))]) (by kernel_rfl)
  clear hS;simp only[nv,Nat.reduceAdd,aB,aE,aC,List.drop_zero,a7];clear a7;obtain⟨FA,fn,fc,f2,a8⟩:=(j3:FsT W.heap.size fs (S 12) x1);rw[f2];have k1:fc<=maxLen:=a8.2.2.1;unfold maxLen at k1;have m7:=a8.2.1;have f3:fn=fs.length:=a8.1;have g9:=hid f3;have c5:=hid a2;have d3:=hid (HP.out.below a2 HP.out.lt);have b1:=hid (HR.out.below a2 HR.out.lt);have d6:=hid (HS.out.below a2 HS.out.lt);have g8:=hid (HD.out.below a2);have h0:=hid a8;have l1:Hid (W.heap.size<=x1.heap.size):=a2.size;clear a2 f2 a8 f3;obtain⟨nn,b0⟩:∃nn,Hid (fl.length=nn):=⟨_,rfl⟩;have n3:nn<=6:=by have:=b0.out;have:=d2.out;omega
  go_upto_region 5 with(fail)
  refine ue (⟨[(w.heap.size,0,[.int .i64 a0,.int .i64 a1,.slice A n c]),(w.heap.size+1,0,[.int .i64 y0,.slice B m k]),(sb,0,[.slice dA dn dc,.slice vA vn vc,.int .i64 rk,.int .i64 rm,.slice rA rn rc,.map (some mb),.map (some pb)])],[],[FlB x1.heap.size fl nn],[(0,.p 2 0),(4,.p 0 0),(5,.p 1 0)],[(9,.f 0),(10,.v (.int .i64 nn))]⟩:Sp) [27,28,29,30,31,32,33,34,35,36,37,38] x1 (aa.drew) (by kernel_rfl) (by kernel_rfl) (by kernel_rfl) (sI (FlB.stays) sN) (by kernel_rfl)
   (fun x hx=>(mI (ud (d3.out.below hx d3.out.lt)) (mI (ud (b1.out.below hx b1.out.lt)) (mI (ud (d6.out.below hx d6.out.lt)) mN)))) (dI (ug [.v (.slice dA dn dc),.v (.int .i64 a1),.v (.int .i64 y0)] rfl rfl (by kernel_rfl) (by kernel_rfl) fun x vs hx hC hv=>by
    obtain⟨v1,v2,v3,rfl,h1,h2,h3⟩:=um8 hv;obtain rfl:v1 = .slice dA dn dc:=h1;obtain rfl:v2 = .int .i64 a1:=h2;obtain rfl:v3 = .int .i64 y0:=h3;refine((j1.out x dA dn dc (g8.out.below hx))).mono ?_;rintro en w2⟨Z,h,hz,hb⟩;rw[b0.out]at h hz;subst h;refine⟨_,rfl,⟨Z,rfl,hz.1,fun hp=>?_⟩,hb⟩
    obtain⟨b,off,e,hD,r⟩:=hz.2 hp;exact⟨b,off,e,ag hx.size hD,r⟩) (
   dI (uvo rfl rfl 0 nn (by kernel_rfl) (by kernel_rfl) (fun v x h=>by obtain⟨Z,rfl,_⟩:=h;exact⟨_,_,rfl⟩)) (dN))) ?_
  intro S x2 a2 hS;obtain⟨f9,d9,e4,_⟩:(FlB x1.heap.size fl nn:Value->World->Prop) (S 9) x2/\S 10 = .int .i64 nn/\S 11 = .int .i64 0/\True:=hS (l:=[(9,.f 0),(10,.v (.int .i64 nn)),(11,.v (.int .i64 0))]) (by kernel_rfl)
  clear hS;simp only[nv,Nat.reduceAdd,aB,aE,aC,List.drop_zero,d9,e4];clear d9 e4;obtain⟨Z,g5,g6⟩:=(f9:FlB x1.heap.size fl nn (S 9) x2);rw[g5];have HZ:=hid g6;have c6:=hid (c5.out.trans (a2.mono c5.out.size));have d5:=hid (b1.out.below a2 b1.out.lt);have d1:=hid (h0.out.below a2);have l3:Hid (x1.heap.size<=x2.heap.size):=a2.size;have e6:Hid (nn=fs.length):=by have:=b0.out;have:=d2.out;exact hid (by omega)
  clear a2 g5 g6;go_wp2;go_loopw [9,38] (fun pv iv wr=>∃(i:Nat) (us:Nat->List Value),i<=nn/\iv = .int .i64 i/\Hid (ucb 3 (fun w D (t:Tr) v=>TrR w D t v) 25 W.heap.size wr pv (uei (fs.take i) (fl.take i)) us)/\Hid (Below x2.heap.size x2 wr)/\Hid (∀g,pv.ownBlock=some g->x2.heap.size<=g)) (fun _ iv _=>nn-(intOf iv).toNat)
  case atStart=>exact⟨0,fun _=>[],by omega,rfl,by rw[List.take_zero,List.take_zero];exact ucb.nil _ _ _ _ _,aa,fun g h=>by cases h⟩
  case round=>
   obtain⟨i,us,hi,rfl,HO,HB,HG⟩:=hrel;obtain⟨pl,c1⟩:∃pl,uei (fs.take i) (fl.take i)=pl:=⟨_,rfl⟩;rw[c1]at HO;have b7:=hid c1;obtain⟨PA,pc,rfl,n4,k8⟩:=HO.out.form;unfold maxLen at k8;clear c1;by_cases k6:i<nn
   ·have c0:i<fs.length:=by have:=e6.out;omega
    have k4:i<fl.length:=by have:=b0.out;omega
    obtain⟨bz,oz,rfl,j5,j8,f0⟩:=HZ.out.2 (by omega)
    have cz:=ux (f0 i k6) HB.out j8;have m5:bz<wr.heap.size:=by have:=HB.out.size;omega
    have hT:TrS wr (W.heap.size <= ·) fs FA fn fc:=d1.out.vAb (uc.of HB.out)
    obtain⟨b,off,A1,a6,a5,rfl,hb,e0,e1,e2,f7⟩:=hT.get (i:=i) c0;have c3:=uoh c0 k4;rw[b7.out]at c3;have d4:=hid c3;have n5:pl.length<=6:=by
     have h1:=usg (fs.take i) (fl.take i);rw[b7.out,List.length_take]at h1;omega
    have m6:i<fn:=by have:=g9.out;omega
    clear f0 c3 j5;cases a3:fl.getD i false with
    | true=>
     rw[a3]at cz;have b6:Hid (uei (fs.take (i+1)) (fl.take (i+1))=pl):=by
      have:=d4.out;rw[a3,if_pos rfl,List.append_nil]at this;exact this
     clear f7 e0 e1 e2 a3;go_wp2;go_roundw
     case rel=>exact⟨i+1,us,by omega,by go_num,by rw[b6.out];exact HO,HB,HG⟩
     case measure=>simp[intOf];omega
    | false=>
     rw[a3]at cz;have b6:Hid (uei (fs.take (i+1)) (fl.take (i+1))=pl++[fs[i]]):=by
      have:=d4.out;rw[a3,if_neg (by simp)]at this
      exact this
     have HV:Hid (TrR wr (fun b=>W.heap.size<=b/\some b≠(Value.slice PA pl.length pc).ownBlock) fs[i] [.int .i64 fs[i].k,.int .i64 fs[i].m,.slice A1 a6 a5]):=by
      have j6:TrS wr (fun b=>b<x2.heap.size/\W.heap.size<=b) fs (some ⟨b,off,none⟩) fn fc:=(d1.out.sub fun b hb hD=>⟨hb,hD⟩).vAb (uc.of HB.out)
      obtain⟨b',n8,l8,n6,m0,e,m4,m1,m2,b2,l0⟩:=j6.get (i:=i) c0;injection e with e;injection e with ea eb;subst ea;subst eb;rw[e2]at b2;injection b2 with b2;injection b2 with ea eb ec;subst ea;subst eb;subst ec;exact l0.sub fun b hb hD=>⟨hD.2,fun e=>by have:=HG.out b e.symm;omega⟩
     have h9:=hid HO.out.1;have e9:W.heap.size<=wr.heap.size:=by have:=HB.out.size;have:=l3.out;have:=l1.out;omega
     have l9:=hid e9;have g4:([.int .i64 fs[i].k,.int .i64 fs[i].m,.slice A1 a6 a5]:List Value).length=3:=rfl;have l7:∀u∈([.int .i64 fs[i].k,.int .i64 fs[i].m,.slice A1 a6 a5]:List Value),u.oneCell'=true:=by intro u hu;simp at hu;rcases hu with rfl|rfl|rfl<;>rfl
     clear f7 a3;generalize hft:fs[i]=ft at *;generalize ft.k=z0 at *;generalize ft.m=z1 at *;go_wp2_with (first|refine ua3 rfl 23 25 (.tmp 49) rfl Tryz.underlying23 3 40 uog (by decide) (by decide) [.int .i64 z0,.int .i64 z1,.slice A1 a6 a5] (.agg #[.int .i64 z0,.int .i64 z1,.slice A1 a6 a5]) rfl rfl g4 ?_|(at_builtin;refine uaf wr rfl _ _ 23 25 rfl Tryz.underlying23 3 40 uog (by decide) (by decide) W.heap.size _ pl.length (ucr us pl.length) [.int .i64 z0,.int .i64 z1,.slice A1 a6 a5] (by rfl) h9.out (by rfl) g4 l7 (by omega) e9 ?_))
     intro g d8 w3 f4 hg b9 m8;have h8:=hid (HO.out.next uG8 HV.out rfl f4 hg b9);have k3:x2.heap.size<=g:=by
      rcases b9 with h|h
      ·exact HG.out g h
      ·have:=HB.out.size;omega
     have h4:Hid (∀g',(Value.slice (some ⟨g,0,none⟩) (pl.length+1) d8).ownBlock=some g'->x2.heap.size<=g'):=fun g' e=>by
      injection e with e;rw[<-e];exact k3
     have g7:Hid (Below x2.heap.size x2 w3):=by
      have h1:Below x2.heap.size x2 (wr.alloc (.cells #[.int .i64 z0,.int .i64 z1,.slice A1 a6 a5] 25)):=HB.out.alloc HB.out.size _;exact h1.grown hg h1.size (fun k e=>HG.out k e)
     clear f4 hg b9;go_wp2;go_roundw
     case rel=>exact⟨i+1,_,by omega,by go_num,by rw[b6.out];exact h8,g7,h4⟩
     case measure=>simp[intOf];omega
   ·obtain rfl:i=nn:=by omega
    have f5:pl=uei fs fl:=by
     rw[<-b7.out,List.take_of_length_le (by have:=e6.out;omega),List.take_of_length_le (by have:=b0.out;omega)]
    obtain⟨A3,n7,d8,h3,e7⟩:=HO.out.done uG8;injection h3 with e1 e2 e3;subst e1;subst e2;subst e3;have e8:TrS wr (W.heap.size <= ·) (uei fs fl) PA pl.length pc:=by rw[<-f5];exact TrS.vDn e7
    have b5:=hid (a4.out.trans ((c6.out.trans (HB.out.mono c6.out.size)).mono a4.out.size));have d7:=hid (j2.out wr _ PA pl.length pc b5.out e8);have j0:=hid (d5.out.below HB.out d5.out.lt);have a9:=h5.out (uei fs fl);obtain⟨tv,g3⟩:∃tv,tq (uei fs fl)=tv:=⟨_,rfl⟩;rw[g3]at e d7 a9;obtain⟨k9,_,_⟩:=j0.out.facts;clear e7 e8 f5 g3;go_wp2_with fail
    refine d7.out.mono ?_;rintro en w4⟨rfl,hb⟩;have c7:=hid (b5.out.trans (hb.mono b5.out.size));clear hb k9;by_cases g1:tv<0
    ·have e':Hid (q = -1):=by
      have:=e.out;rw[if_pos g1]at this;exact this
     go_wp2;go_ret
     exact⟨by first|rfl|(rw[e'.out];rfl),c7.out⟩
    ·have e':Hid (q=1+tv):=by
      have:=e.out;rw[if_neg g1]at this;exact this
     go_wp2;go_ret
     exact⟨by first|rfl|(rw[e'.out];rfl),c7.out⟩
set_option maxHeartbeats 200000
set_option maxRecDepth 512
theorem uE9{dat:List DaD}{i:Ix}{t:Tr}(h:t.k=6):msr dat i t=if i.k=0 then tot dat t.kids i.l else -1:=by
 obtain⟨k,l⟩:=i;rw[msr,if_pos h];rfl
theorem uFa{dat:List DaD}{i:Ix}{t:Tr}(h:t.k=7):msr dat i t=if 0<=i.k/\i.k<=6/\i.l.length=0 then i.k else -1:=by
 obtain⟨k,l⟩:=i;rw[msr,if_neg (by omega),if_pos h];rfl
theorem uFb{dat:List DaD}{i:Ix}{t:Tr}(h:t.k=5):msr dat i t=if i.k=0 then els dat i.l t 0 else -1:=by
 obtain⟨k,l⟩:=i;rw[msr,if_neg (by omega),if_neg (by omega),if_pos h];rfl
theorem uFc{dat:List DaD}{i:Ix}{t:Tr}(h6:t.k≠6)(h7:t.k≠7)(h5:t.k≠5):msr dat i t=if i.k=0/\i.l.length=0 then 0 else -1:=by
 obtain⟨k,l⟩:=i;rw[msr,if_neg h6,if_neg h7,if_neg h5];rfl
theorem uBj{dat:List DaD}{l:List Ix}{t:Tr}{i:Nat}{s:Int}(h1:i<l.length):els dat (l.drop i) t s=if elm dat l[i] t<0\/6<s then -1 else els dat (l.drop (i+1)) t (s+elm dat l[i] t):=by
 rw[aN h1,els]
theorem uFd{dat:List DaD}{l:List Ix}{t:Tr}{i:Nat}{s:Int}(h1:l.length=i):els dat (l.drop i) t s=s:=by
 rw[show l.drop i=[] from List.drop_eq_nil_of_le (by omega),els]
set_option maxHeartbeats 16000000
set_option maxRecDepth 100000
theorem uuf{lo sb mb pb:Nat}{X:Ctx}{N:Nat}(hM:uE8 lo sb mb pb X N)(hE:uE7 lo sb mb pb X N):uE6 lo sb mb pb X (N+1):=by
 intro D D' i t tv iv w hN d8 b3 b2 ht hl;have e7:=Ix.vBj i;obtain⟨A,n,c,rfl,c4,f0,f2⟩:=ht.form;obtain⟨B,m,k,rfl,a1,e9⟩:=hl.form;have f3:=a1.2.1;have e1:k<=maxLen:=a1.2.2.1;have a7:m=i.l.length:=a1.1;unfold maxLen at e1;have KT:Hid (∀(x:World),Below w.heap.size w x->Calls Tryz.prog 255 #[.pointer (some ⟨sb,0,none⟩),.slice A n c,.slice B m k] x (uY (.int .i64 (tot X.dat t.kids i.l)) x)):=fun x hx=>
  hM D D' i.l _ A B n c m k x (by omega) (by omega) (fun f hf=>b3.kid hf) (b2.below hx) (c4.vAb (uc.of hx)) (a1.vAb (uc.of hx))
 have KE:Hid (∀(j:Nat) (h:j<i.l.length) (x:World) (ev:List Value),Below w.heap.size w x->IxR w D' i.l[j] ev->Calls Tryz.prog 256 #[.pointer (some ⟨sb,0,none⟩),.agg #[.int .i64 t.k,.int .i64 t.m,.slice A n c],.agg ev.toArray] x (uY (.int .i64 (elm X.dat i.l[j] t)) x)):=fun j h x ev hx he=>by
  have:=uqf h;exact hE D D' i.l[j] t [.int .i64 t.k,.int .i64 t.m,.slice A n c] ev x (by omega) (by omega) b3 (b2.below hx) (ht.vAb (uc.of hx)) (he.vAb (uc.of hx))
 have E6:= @uE9 X.dat i t;have E7:= @uFa X.dat i t;have E5:= @uFb X.dat i t;have E0:= @uFc X.dat i t;have c3:∀(j:Nat) (h:j<i.l.length),elm X.dat i.l[j] t<=700:=fun j h=>by
  have h1:=vC1 X.dat i.l[j] t;have h2:=uqf h;omega
 have d6:Hid (∀(j:Nat) (s:Int) (h:j<i.l.length),els X.dat (i.l.drop j) t s=if elm X.dat i.l[j] t<0\/6<s then -1 else els X.dat (i.l.drop (j+1)) t (s+elm X.dat i.l[j] t)):=fun j s h=>uBj h
 have d1:Hid (∀(s:Int),els X.dat (i.l.drop m) t s=s):=fun s=>uFd a7.symm
 rw[<-a7]at E7 E0;generalize msr X.dat i t=q at *;generalize tot X.dat t.kids i.l=tq at *;generalize t.k=x0 at *;generalize t.m=x1 at *;generalize i.k=y0 at *;have c9:=hid E6;have d0:=hid E7;have c8:=hid E5;have c7:=hid E0;have d2:=hid c3;have HK:=hid a1;have d3:=hid a7;clear E6 E7 E5 E0 c3 a1 ht hl b3 hM hE e7 hN d8 b2 c4 a7;show Calls Tryz.prog 202 #[.pointer (some ⟨sb,0,none⟩),.agg #[.int .i64 x0,.int .i64 x1,.slice A n c],.agg #[.int .i64 y0,.slice B m k]] w _
 go_enter Tryz.func202,Tryz.ntmps202
 go_upto_region 1 with(fail)
 obtain⟨W,hW⟩:∃W,W=(w.alloc (.cells #[.int .i64 x0,.int .i64 x1,.slice A n c] 25)).alloc (.cells #[.int .i64 y0,.slice B m k] 120):=⟨_,rfl⟩;have a0:Hid (Below w.heap.size w W):=by rw[hW];exact(aa.alloc ab _).alloc (by simp) _
 have HP:Hid (Bk W w.heap.size 25 #[.int .i64 x0,.int .i64 x1,.slice A n c]):=by rw[hW];exact(Bk.new _ _ _).alloc _
 have HR:Hid (Bk W (w.heap.size+1) 120 #[.int .i64 y0,.slice B m k]):=by
  rw[hW];have:=Bk.new (w.alloc (.cells #[.int .i64 x0,.int .i64 x1,.slice A n c] 25)) 120 #[.int .i64 y0,.slice B m k];exact hid (by simpa using this)
 rw[<-hW];clear hW;obtain⟨e3,_,_⟩:=HP.out.facts;obtain⟨e5,_,_⟩:=HR.out.facts;by_cases h6:x0=6
 ·have e:=c9.out h6
  subst h6;by_cases hy:y0=0
  ·subst hy
   rw[if_pos rfl]at e;have HE:=hid e;clear e;go_wp2_with fail
   refine(KT.out _ a0.out).mono ?_;rintro e w2⟨rfl,hb⟩;have a4:=hid (a0.out.trans (hb.mono a0.out.size));clear hb e3 e5;go_wp2;go_ret
   exact⟨by rw[HE.out];rfl,a4.out⟩
  ·rw[if_neg hy]at e
   have HE:=hid e;clear e;go_wp2;go_ret
   exact⟨by rw[HE.out];rfl,a0.out⟩
 by_cases h7:x0=7
 ·have e:=d0.out h7
  subst h7;by_cases hy:0<=y0/\y0<=6/\m=0
  ·rw[if_pos hy]at e
   have HE:=hid e;clear e;obtain⟨a3,c5,b4⟩:=hy;subst b4;go_wp2;go_ret
   exact⟨by rw[HE.out];rfl,a0.out⟩
  ·rw[if_neg hy]at e
   have HE:=hid e;clear e;by_cases a3:0<=y0
   ·by_cases c5:y0<=6
    ·have b4:¬(m:Int)=0:=fun h=>hy ⟨a3,c5,by omega⟩
     go_wp2;go_ret
     exact⟨by rw[HE.out];rfl,a0.out⟩
    ·go_wp2
     go_ret
     exact⟨by rw[HE.out];rfl,a0.out⟩
   ·go_wp2
    go_ret
    exact⟨by rw[HE.out];rfl,a0.out⟩
 by_cases h5:x0=5
 ·have e:=c8.out h5
  subst h5;by_cases hy:y0=0
  ·subst hy
   rw[if_pos rfl]at e;have HE:=hid e;clear e;go_wp2;go_loopw [7,50] (fun sv iv wr=>∃(j:Nat) (s:Int),j<=m/\iv = .int .i64 j/\sv = .int .i64 s/\(0<=s/\s<=1000)/\Hid (Below W.heap.size W wr)/\Hid (q=els X.dat (i.l.drop j) t s)) (fun _ iv _=>m-(intOf iv).toNat)
   case atStart=>exact⟨0,0,by omega,rfl,rfl,by omega,aa,HE⟩
   case round=>
    obtain⟨j,s,hj,rfl,rfl,hs,HB,a5⟩:=hrel;have a2:=hid (a0.out.trans (HB.out.mono a0.out.size));have d4:=hid (HP.out.below HB.out HP.out.lt);obtain⟨e4,_,_⟩:=d4.out.facts;by_cases f1:j<m
    ·have a6:j<i.l.length:=by have:=d3.out;omega
     obtain⟨b',f6,v',rfl,d9,b8,b9,b0⟩:=HK.out.get a6;obtain⟨A2,n2,c2,rfl,e6,e2⟩:=b0.form;have a9:=b9.sure a2.out b8;have c0:=a9 0 _ rfl;rw[Nat.add_zero]at c0;have c1:=a9 1 _ rfl;have e8:b'<wr.heap.size:=af b8 a2.out.size;have b6:=fun x hx=>KE.out j a6 x _ hx b0
     have b7:=d6.out j s a6;have f5:=d2.out j a6;generalize i.l[j]=e0 at *;generalize elm X.dat e0 t=z at *;generalize e0.k=z0 at *;have a8:=hid b7;have d7:Hid (∀x,Below w.heap.size w x->Calls Tryz.prog 256 #[.pointer (some ⟨sb,0,none⟩),.agg #[.int .i64 5,.int .i64 x1,.slice A n c],.agg #[.int .i64 z0,.slice A2 n2 c2]] x (uY (.int .i64 z) x)):=b6;clear b6 b7 a9 b9 b0 e6 d9 e2;go_wp2_with fail
     refine(d7.out _ ?_).mono ?_
     ·exact a2.out.alloc a2.out.size _
     rintro e w2⟨rfl,hb⟩;have a4:Hid (Below W.heap.size W w2):=by
      refine HB.out.trans (Below.mono ?_ HB.out.size);refine Below.trans ?_ (hb.mono (by first|(simp;done)|(simp;omega)))
      exact aa.alloc ab _
     have b5:=hid (a0.out.trans (a4.out.mono a0.out.size));clear hb e4 c0 c1;by_cases c6:z<0
     ·have e:Hid (q = -1):=by
       show q = -1
       rw[a5.out,a8.out,if_pos (.inl c6)]
      go_wp2;go_ret
      exact⟨by rw[e.out];rfl,b5.out⟩
     by_cases b1:6<s
     ·have e:Hid (q = -1):=by
       show q = -1
       rw[a5.out,a8.out,if_pos (.inr b1)]
      have f4:s>6:=b1;go_wp2;go_ret
      exact⟨by rw[e.out];rfl,b5.out⟩
     have d5:Hid (q=els X.dat (i.l.drop (j+1)) t (s+z)):=by
      show q=_
      rw[a5.out,a8.out,if_neg (fun h=>h.elim c6 b1)]
     go_wp2;refine⟨⟨j+1,s+z,by omega,by go_num,rfl,by omega,a4,d5⟩,?_⟩
     simp only[intOf];omega
    ·obtain rfl:j=m:=by omega
     have e:Hid (q=s):=by
      show q=s
      rw[a5.out,d1.out]
     go_wp2;go_ret
     exact⟨by rw[e.out];rfl,a2.out⟩
  ·rw[if_neg hy]at e
   have HE:=hid e;clear e;go_wp2;go_ret
   exact⟨by rw[HE.out];rfl,a0.out⟩
 have e:=c7.out h6 h7 h5;by_cases hy:y0=0/\m=0
 ·rw[if_pos hy]at e
  have HE:=hid e;clear e;obtain⟨rfl,rfl⟩:=hy;go_wp2;go_ret
  exact⟨by rw[HE.out];rfl,a0.out⟩
 ·rw[if_neg hy]at e
  have HE:=hid e;clear e;by_cases a3:y0=0
  ·have b4:¬(m:Int)=0:=fun h=>hy ⟨a3,by omega⟩
   subst a3;go_wp2;go_ret
   exact⟨by rw[HE.out];rfl,a0.out⟩
  ·go_wp2
   go_ret
   exact⟨by rw[HE.out];rfl,a0.out⟩
set_option maxHeartbeats 200000
set_option maxRecDepth 512
theorem ujb{lo sb mb pb:Nat}{X:Ctx}(hX:X.ok):∀N,uE6 lo sb mb pb X N/\uE7 lo sb mb pb X N
 | 0=>by
  constructor
  ·intro D D' i t tv iv w hN
   have:=Ix.vBj i;omega
  ·intro D D' i t tv iv w hN
   have:=Ix.vBj i;omega
 | N+1=>by
  obtain⟨h1,h2⟩:=ujb (lo:=lo) (sb:=sb) (mb:=mb) (pb:=pb) hX N;exact⟨uuf (usf h1) h2,uue hX (usf h1)⟩
def lvB(v:Int):Bool:=decide (-1<=v)&&decide (v<3000)
def lsB(n:Int):Bool:=decide (-1048576<=n)&&decide (n<=1048576)
theorem ush(v:Int)(w:World):Calls Tryz.prog 167 #[.int .i64 v] w (uY (.bool (lvB v)) w):=by
 obtain⟨q,hq⟩:∃q,Hid (lvB v=q):=⟨_,rfl⟩;rw[hq.out];go_enter Tryz.func167,Tryz.ntmps167
 by_cases h1 : -1<=v
 ·by_cases h2:v<3000
  ·go_wp2
   go_ret
   exact⟨by rw[<-hq.out,lvB,decide_eq_true h1,decide_eq_true h2];rfl,aa⟩
  ·go_wp2
   go_ret
   exact⟨by rw[<-hq.out,lvB,decide_eq_true h1,aQ (by omega)];rfl,aa⟩
 ·go_wp2
  go_ret
  exact⟨by rw[<-hq.out,lvB,aQ (by omega)];rfl,aa⟩
theorem ug0(v:Int)(w:World):Calls Tryz.prog 203 #[.int .i64 v] w (uY (.bool (lsB v)) w):=by
 obtain⟨q,hq⟩:∃q,Hid (lsB v=q):=⟨_,rfl⟩;rw[hq.out];go_enter Tryz.func203,Tryz.ntmps203
 by_cases h1 : -1048576<=v
 ·by_cases h2:v<=1048576
  ·go_wp2
   go_ret
   exact⟨by rw[<-hq.out,lsB,decide_eq_true h1,decide_eq_true h2];rfl,aa⟩
  ·go_wp2
   go_ret
   exact⟨by rw[<-hq.out,lsB,decide_eq_true h1,aQ (by omega)];rfl,aa⟩
 ·go_wp2
  go_ret
  exact⟨by rw[<-hq.out,lsB,aQ (by omega)];rfl,aa⟩
def uFe(l:List (Int×Int))(i:Nat):Prop:=lvB (l.getD i (0,0)).1=true/\(l.getD i (0,0)).2≠0/\lsB (l.getD i (0,0)).2=true/\(0<i->(l.getD (i-1) (0,0)).1<(l.getD i (0,0)).1)
theorem uBk(l:Lin):uof l↔lsB l.c=true/\l.ts.length<=16/\∀i,i<l.ts.length->uFe l.ts i:=by
 have hg:∀(i:Nat) (h:i<l.ts.length),l.ts.getD i (0,0)=l.ts[i]:=fun i h=>by rw[aj,ai h];rfl
 unfold uof uFe lsB lvB;constructor
 ·rintro⟨h1,h2,h3⟩
  refine⟨by simp;exact h1,h2,fun i h=>?_⟩
  rw[hg i h];have:=h3 i h;refine⟨by simp;exact this.1,this.2.1,by simp;exact this.2.2.1,this.2.2.2⟩
 ·rintro⟨h1,h2,h3⟩
  refine⟨by simpa using h1,h2,fun i h=>?_⟩
  have:=h3 i h;rw[hg i h]at this;exact⟨by simpa using this.1,this.2.1,by simpa using this.2.2.1,this.2.2.2⟩
set_option maxHeartbeats 16000000
set_option maxRecDepth 100000
theorem ukr{D:Nat->Prop}(l:Lin)(v:List Value)(w:World)(h:uoz w D l v):Calls Tryz.prog 148 #[.agg v.toArray] w (uY (.bool (bP (uof l))) w):=by
 obtain⟨_,A,n,c,rfl,hs⟩:=h;have hn:n=l.ts.length:=hs.1;have d5:=hs.2.1;have c9:c<=maxLen:=hs.2.2.1;unfold maxLen at c9;have HI:=hid (uBk l);obtain⟨q,hq⟩:∃q,Hid (bP (uof l)=q):=⟨_,rfl⟩;rw[hq.out];have QF:Hid (¬(lsB l.c=true/\n<=16/\∀i,i<n->uFe l.ts i)->q=false):=fun h=>by
  rw[<-hq.out];refine uej fun h2=>h ?_
  have:=HI.out.1 h2;rw[<-hn]at this;exact this
 have QT:Hid ((lsB l.c=true/\n<=16/\∀i,i<n->uFe l.ts i)->q=true):=fun h=>by
  rw[<-hq.out];refine ue0 (HI.out.2 ?_);rw[<-hn];exact h
 have HN:=hid hn;have HS:=hid hs;clear hq HI hs hn;generalize l.c=x0 at *;show Calls Tryz.prog 148 #[.agg #[.int .i64 x0,.slice A n c]] w _
 go_enter Tryz.func148,Tryz.ntmps148
 go_upto_region 1 with(fail)
 obtain⟨W,hW⟩:∃W,W=w.alloc (.cells #[.int .i64 x0,.slice A n c] 126):=⟨_,rfl⟩;have b8:Hid (Below w.heap.size w W):=by rw[hW];exact aa.alloc ab _
 have HP:Hid (Bk W w.heap.size 126 #[.int .i64 x0,.slice A n c]):=by rw[hW];exact Bk.new _ _ _
 rw[<-hW];clear hW;obtain⟨d0,_,_⟩:=HP.out.facts;go_wp2_with fail
 refine(ug0 _ _).mono ?_;rintro e w1⟨rfl,hb⟩;have a6:=hid (b8.out.trans (hb.mono b8.out.size));have a7:=hid (HP.out.below hb HP.out.lt);clear hb d0;obtain⟨s0,d2⟩:∃s,lsB x0=s:=⟨_,rfl⟩;rw[d2]at QF QT ⊢;cases s0 with
 | false=>
  have e:q=false:=QF.out (fun h=>by cases h.1)
  go_wp2;go_ret
  exact⟨by first|rfl|(rw[e];rfl),a6.out⟩
 | true=>
  obtain⟨d1,_,_⟩:=a7.out.facts;by_cases b7:n<=16
  ·go_wp2
   clear d1;go_loopw [18] (fun iv wr=>∃(i:Nat),i<=n/\iv = .int .i64 i/\Hid (Below w1.heap.size w1 wr)/\Hid (∀j,j<i->uFe l.ts j)) (fun iv _=>n-(intOf iv).toNat)
   case atStart=>exact⟨0,by omega,rfl,aa,fun j h=>absurd h (by omega)⟩
   case round=>
    obtain⟨i,hi,rfl,HB,HG⟩:=hrel;have a3:=hid (a6.out.trans (HB.out.mono a6.out.size));by_cases c3:i<n
    ·have c2:i<l.ts.length:=by have:=HN.out;omega
     obtain⟨b,off,v,rfl,hD,hb,hc,_,_,rfl⟩:=HS.out.get c2;have b6:=hc.sure a3.out hb;have d4:b<wr.heap.size:=af hb a3.out.size;have b9:l.ts.getD i (0,0)=l.ts[i]:=by rw[aj,ai c2];rfl
     have a4:Hid (uFe l.ts i↔lvB l.ts[i].1=true/\l.ts[i].2≠0/\lsB l.ts[i].2=true/\(0<i->(l.ts.getD (i-1) (0,0)).1<l.ts[i].1)):=by
      unfold uFe;rw[b9];exact Iff.rfl
     clear b9;obtain⟨pv,a8⟩:∃pv,(l.ts.getD (i-1) (0,0)).1=pv:=⟨_,rfl⟩;have c5:Hid (0<i->∃pc,um w b (off+(i-1)*2) [.int .i64 pv,.int .i64 pc]):=fun h0=>by
      have hi1:i-1<l.ts.length:=by omega
      obtain⟨b',d6,v,e,_,_,c8,_,_,rfl⟩:=HS.out.get hi1;injection e with e;injection e with ea eb;subst ea;subst eb;rw[aj,ai hi1]at a8;exact⟨_,by rw[<-a8];exact c8⟩
     rw[a8]at a4;generalize l.ts[i].1=y0 at *;generalize l.ts[i].2=y1 at *;have c0:=b6 0 _ rfl;rw[Nat.add_zero]at c0;have c1:=b6 1 _ rfl;clear hD hc a8 b6;go_upto_region 6 with(fail)
     obtain⟨C,hC⟩:∃C,C=wr.alloc (.cells #[.int .i64 y0,.int .i64 y1] 131):=⟨_,rfl⟩;have a2:Hid (Below wr.heap.size wr C):=by rw[hC];exact aa.alloc ab _
     have HY:Hid (Bk C wr.heap.size 131 #[.int .i64 y0,.int .i64 y1]):=by rw[hC];exact Bk.new _ _ _
     have HX:Hid (Bk C w.heap.size 126 #[.int .i64 x0,.slice (some ⟨b,off,none⟩) n c]):=by
      exact(a7.out.below HB.out a7.out.lt).below a2.out (af a7.out.lt HB.out.size)
     have a1:=hid (a3.out.trans (a2.out.mono a3.out.size));rw[<-hC];clear hC c0 c1;rcases aK i with hi0|hi0
     ·subst hi0
      refine ue (⟨[(w.heap.size,0,[.int .i64 x0,.slice (some ⟨b,off,none⟩) n c]),(wr.heap.size,0,[.int .i64 y0,.int .i64 y1])],[lvB y0,(y1==0),lsB y1],[],[(3,.v (.int .i64 (((0:Nat):Int)))),(4,.p 1 0)],[(2,.b (.x 0)),(7,.b (.x 1)),(12,.b (.x 2)),(17,.b .f)]⟩:Sp) [23,24,25,26,27,28,29,30,31,32,33,34,35,36,37,38,39,40,41,42,43,44,45,46,47,48,49,50,51,52,53] C (aa.drew) (by kernel_rfl) (by kernel_rfl) (by kernel_rfl) sN (by kernel_rfl)
       (fun x hx=>(mI (ud (HX.out.below hx HX.out.lt)) (mI (ud (HY.out.below hx HY.out.lt)) mN))) (dI (ug [.v (.int .i64 y0)] rfl rfl (by kernel_rfl) (by kernel_rfl) fun x vs hx hC hv=>by
        obtain⟨v1,rfl,h1⟩:=ubg hv;obtain rfl:v1 = .int .i64 y0:=h1;refine(ush y0 x).mono ?_;rintro en w2⟨rfl,hb⟩;exact⟨_,rfl,rfl,hb⟩) (
       dI (ub3 (op:= .eql) rfl rfl .i64 y1 0 (.x 1) (by kernel_rfl) rfl) (
       dI (ug [.v (.int .i64 y1)] rfl rfl (by kernel_rfl) (by kernel_rfl) fun x vs hx hC hv=>by
        obtain⟨v1,rfl,h1⟩:=ubg hv;obtain rfl:v1 = .int .i64 y1:=h1;refine(ug0 y1 x).mono ?_;rintro en w2⟨rfl,hb⟩;exact⟨_,rfl,rfl,hb⟩) (
       dI (ub3 (op:= .gtr) rfl rfl .i64 (((0:Nat):Int)) 0 .f (by kernel_rfl) (utg (show ¬((((0:Nat):Int)):Int)>0 by omega))) (dN))))) ?_
      intro S x1 a0 hS;obtain⟨a5,_⟩:S 30 = .bool (((!lvB y0||(!(!lvB y0)&&(y1==0)))||(!((!lvB y0||(!(!lvB y0)&&(y1==0)))) && !lsB y1)))/\True:=hS (l:=[(30,.b (.o (.o (.n (.x 0)) (.a (.n (.n (.x 0))) (.x 1))) (.a (.n (.o (.n (.x 0)) (.a (.n (.n (.x 0))) (.x 1)))) (.n (.x 2)))))]) (by kernel_rfl)
      clear hS;simp only[nv,Nat.reduceAdd,aB,aE,aC,List.drop_zero,a5];clear a5;have a9:=hid (a1.out.trans (a0.mono a1.out.size));have b0:Hid (Below w1.heap.size w1 x1):=HB.out.trans ((a2.out.trans (a0.mono a2.out.size)).mono HB.out.size);clear a0;generalize hbad:(_||_:Bool)=bad
      cases bad with
      | true=>
       have e:q=false:=QF.out (fun h=>by
        have hg:=a4.out.1 (h.2.2 _ c3);obtain⟨g1,g2,g3,g4⟩:=hg;have c7:=g4;simp[g1,g2,g3]at hbad;try omega)
       go_wp2;go_ret
       exact⟨by first|rfl|(rw[e];rfl),a9.out⟩
      | false=>
       simp only[Bool.or_eq_false_iff]at hbad;have b5:=hid (a4.out.2 (by obtain⟨⟨b1,b2⟩,b3⟩:=hbad;have g1:lvB y0=true:=(by simpa using b1);have g2:¬y1=0:=(by simpa[g1]using b2);have g3:lsB y1=true:=(by simpa[g1,g2]using b3);exact⟨g1,g2,g3,fun h=>absurd h (by omega)⟩))
       clear hbad;go_wp2;go_roundw
       case rel=>exact⟨0+1,by omega,by go_num,b0,fun j hj=>by
        rcases ah j 0 with h|h
        ·exact HG.out j h
        ·obtain rfl:j=0:=by omega
         exact b5.out⟩
       case measure=>simp[intOf];omega
     ·obtain⟨pc,c4⟩:=c5.out hi0
      have HQ:Hid (um C b (off+(i-1)*2) [.int .i64 pv,.int .i64 pc]):=c4.sure a1.out hb;have c6:Hid (b<C.heap.size):=af hb a1.out.size;clear c4;refine ue (⟨[(w.heap.size,0,[.int .i64 x0,.slice (some ⟨b,off,none⟩) n c]),(wr.heap.size,0,[.int .i64 y0,.int .i64 y1]),(b,(off+(i-1)*2),[.int .i64 pv,.int .i64 pc])],[lvB y0,(y1==0),lsB y1,decide (pv≥y0)],[],[(1,.p 0 0),(3,.v (.int .i64 ((i:Int)))),(4,.p 1 0)],[(2,.b (.x 0)),(7,.b (.x 1)),(12,.b (.x 2)),(17,.b .t),(22,.v (.int .i64 (((i-1:Nat):Int)))),(23,.p 2 0),(28,.b (.x 3))]⟩:Sp) [23,24,25,26,27,28,29,30,31,32,33,34,35,36,37,38,39,40,41,42,43,44,45,46,47,48,49,50,51,52,53] C (aa.drew) (by kernel_rfl) (by kernel_rfl) (by kernel_rfl) sN (by kernel_rfl)
       (fun x hx=>(mI (ud (HX.out.below hx HX.out.lt)) (mI (ud (HY.out.below hx HY.out.lt)) (mI (HQ.out.sure hx c6.out) mN)))) (dI (ug [.v (.int .i64 y0)] rfl rfl (by kernel_rfl) (by kernel_rfl) fun x vs hx hC hv=>by
        obtain⟨v1,rfl,h1⟩:=ubg hv;obtain rfl:v1 = .int .i64 y0:=h1;refine(ush y0 x).mono ?_;rintro en w2⟨rfl,hb⟩;exact⟨_,rfl,rfl,hb⟩) (
       dI (ub3 (op:= .eql) rfl rfl .i64 y1 0 (.x 1) (by kernel_rfl) rfl) (
       dI (ug [.v (.int .i64 y1)] rfl rfl (by kernel_rfl) (by kernel_rfl) fun x vs hx hC hv=>by
        obtain⟨v1,rfl,h1⟩:=ubg hv;obtain rfl:v1 = .int .i64 y1:=h1;refine(ug0 y1 x).mono ?_;rintro en w2⟨rfl,hb⟩;exact⟨_,rfl,rfl,hb⟩) (
       dI (ub3 (op:= .gtr) rfl rfl .i64 ((i:Int)) 0 .t (by kernel_rfl) (uzy (show(((i:Int)):Int)>0 by omega))) (
       dI (uj8 (op:= .sub) rfl rfl ((i:Int)) 1 (((i-1:Nat):Int)) (by kernel_rfl) (.inr ⟨rfl,(by omega)⟩) (fun _=>by omega)) (
       dI (uas rfl rfl b (off) n c .i64 (i-1) 2 2 (by kernel_rfl) (by kernel_rfl) (fun _=>by omega) rfl) (
       dI (ub3 (op:= .geq) rfl rfl .i64 pv y0 (.x 3) (by kernel_rfl) rfl) (dN)))))))) ?_
      intro S x1 a0 hS;obtain⟨a5,_⟩:S 30 = .bool ((((!lvB y0||(!(!lvB y0)&&(y1==0)))||(!((!lvB y0||(!(!lvB y0)&&(y1==0)))) && !lsB y1))||(!(((!lvB y0||(!(!lvB y0)&&(y1==0)))||(!((!lvB y0||(!(!lvB y0)&&(y1==0)))) && !lsB y1)))&&decide (pv≥y0))))/\True:=hS (l:=[(30,.b (.o (.o (.o (.n (.x 0)) (.a (.n (.n (.x 0))) (.x 1))) (.a (.n (.o (.n (.x 0)) (.a (.n (.n (.x 0))) (.x 1)))) (.n (.x 2)))) (.a (.n (.o (.o (.n (.x 0)) (.a (.n (.n (.x 0))) (.x 1))) (.a (.n (.o (.n (.x 0)) (.a (.n (.n (.x 0))) (.x 1)))) (.n (.x 2))))) (.x 3))))]) (by kernel_rfl)
      clear hS;simp only[nv,Nat.reduceAdd,aB,aE,aC,List.drop_zero,a5];clear a5;have a9:=hid (a1.out.trans (a0.mono a1.out.size));have b0:Hid (Below w1.heap.size w1 x1):=HB.out.trans ((a2.out.trans (a0.mono a2.out.size)).mono HB.out.size);clear a0;generalize hbad:(_||_:Bool)=bad
      cases bad with
      | true=>
       have e:q=false:=QF.out (fun h=>by
        have hg:=a4.out.1 (h.2.2 _ c3);obtain⟨g1,g2,g3,g4⟩:=hg;have c7:=g4;simp[g1,g2,g3]at hbad;try omega)
       go_wp2;go_ret
       exact⟨by first|rfl|(rw[e];rfl),a9.out⟩
      | false=>
       simp only[Bool.or_eq_false_iff]at hbad;have b5:=hid (a4.out.2 (by obtain⟨⟨⟨b1,b2⟩,b3⟩,b4⟩:=hbad;have g1:lvB y0=true:=(by simpa using b1);have g2:¬y1=0:=(by simpa[g1]using b2);have g3:lsB y1=true:=(by simpa[g1,g2]using b3);exact⟨g1,g2,g3,fun h=>by simpa[g1,g2,g3]using b4⟩))
       clear hbad;go_wp2;go_roundw
       case rel=>exact⟨i+1,by omega,by go_num,b0,fun j hj=>by
        rcases ah j i with h|h
        ·exact HG.out j h
        ·obtain rfl:j=i:=by omega
         exact b5.out⟩
       case measure=>simp[intOf];omega
    ·obtain rfl:i=n:=by omega
     have e:q=true:=QT.out ⟨by first|rfl|trivial,b7,HG.out⟩
     go_wp2;go_ret
     exact⟨by first|rfl|(rw[e];rfl),a3.out⟩
  ·have e:q=false:=QF.out (fun h=>b7 h.2.1)
   have d3:(n:Int)>16:=by omega
   go_wp2;go_ret
   exact⟨by first|rfl|(rw[e];rfl),a6.out⟩
end Go.Proofs.YtnbbpmagijpmpaaGreatDoor
