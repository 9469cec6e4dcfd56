/-
  slices.IndexFunc and ContainsFunc over trees (printed by gen_g.py).
-/
import Derived.Test.YtnbbpmagijpmpaaGreatDoorMGi
import Derived.Deep.CutRange
set_option linter.unusedVariables false
set_option linter.unusedSimpArgs false
namespace Go.Proofs.YtnbbpmagijpmpaaGreatDoor
open Go.Lib (hid)
open Go.RowKit AC
def uIq(len:Nat)(Inv:Nat->World->Prop)(Fin:World->Prop)(e:Ending)(w':World):Prop:=
 (∃i:Nat,i<len/\e = .returned (.int .i64 (i:Int))/\Fin w')\/(e = .returned (.int .i64 (-1))/\Inv len w')
def uGg(len:Nat)(Inv:Nat->World->Prop)(Fin:World->Prop)(e:Ending)(w':World):Prop:=
 (e = .returned (.bool true)/\Fin w')\/(e = .returned (.bool false)/\Inv len w')
def Looks(D:Nat->Prop)(l:List Tr)(g:FuncId)(fi ca:Array Value)(Inv:Nat->World->Prop)(Fin:World->Prop):Prop:=
 Enters Tryz.prog g/\∀(i:Nat) (h:i<l.length) (w:World) (v:List Value),Inv i w->TrR w D l[i] v->Calls Tryz.prog g (fi ++ #[.agg v.toArray]++ca) w (fun e w2=>(e = .returned (.bool true)/\Fin w2)\/(e = .returned (.bool false)/\Inv (i+1) w2))
set_option maxHeartbeats 16000000
set_option maxRecDepth 100000
theorem utk(D:Nat->Prop)(l:List Tr)(A:Option Addr)(len cap:Nat)(g:FuncId)(fi ca:Array Value)(Inv:Nat->World->Prop)(Fin:World->Prop)(hk:∀i w,Inv i w->TrS w D l A len cap)(hg:Looks D l g fi ca Inv Fin)(w:World)(h0:Inv 0 w) :
 Calls Tryz.prog 191 #[.slice A len cap,.func (.func g) fi ca] w (uIq len Inv Fin):=by
 obtain⟨he,a3⟩:=hg;unfold Enters at he;have hs:=hk 0 w h0;have a1:len=l.length:=hs.1;have a9:cap<=maxLen:=hs.2.2.1;have b2:=hs.2.1;have a5:=hid a1;have HK:=hid hk;have a6:=hid a3;have H0:=hid h0;unfold maxLen at a9;clear hs a1 hk a3 h0;go_enter Tryz.func191,Tryz.ntmps191
 go_wp2;go_loopw [8] (fun iv wr=>∃i:Nat,i<=len/\iv = .int .i64 i/\Hid (Inv i wr)) (fun iv _=>len-(intOf iv).toNat)
 case atStart=>exact⟨0,by omega,rfl,H0⟩
 case round=>
  obtain⟨i,hi,rfl,HI⟩:=hrel;by_cases b0:i<len
  ·have a0:i<l.length:=by have:=a5.out;omega
   obtain⟨b,off,A',b1,a8,rfl,hb,e0,e1,e2,a2⟩:=(HK.out i _ HI.out).get (i:=i) a0;have key:=a6.out i a0 wr _ HI.out a2;generalize l[i].k=x0 at *;generalize l[i].m=x1 at *;have a7:=hid (show Calls Tryz.prog g (fi ++ #[.agg #[.int .i64 x0,.int .i64 x1,.slice A' b1 a8]]++ca) _ _ from key)
   clear key a2;go_wp2_with fail
   refine a7.out.mono ?_;rintro e w2(⟨rfl,hf⟩|⟨rfl,hI⟩)
   ·have HF:=hid hf
    clear hf;go_wp2;go_ret
    exact .inl ⟨i,b0,rfl,HF.out⟩
   ·have a4:=hid hI
    clear hI;go_wp2;go_roundw
    case rel=>exact⟨i+1,by omega,by go_num,a4⟩
    case measure=>simp[intOf];omega
  ·obtain rfl:i=len:=by omega
   go_wp2;go_ret
   exact .inr ⟨rfl,HI.out⟩
theorem udk(D:Nat->Prop)(l:List Tr)(A:Option Addr)(len cap:Nat)(g:FuncId)(fi ca:Array Value)(Inv:Nat->World->Prop)(Fin:World->Prop)(hk:∀i w,Inv i w->TrS w D l A len cap)(hg:Looks D l g fi ca Inv Fin)(w:World)(h0:Inv 0 w) :
 Calls Tryz.prog 137 #[.slice A len cap,.func (.func g) fi ca] w (uGg len Inv Fin):=by
 have a1:=hid (utk D l A len cap g fi ca Inv Fin hk hg w h0);clear hk hg h0;go_enter Tryz.func137,Tryz.ntmps137
 go_wp2_with fail
 refine a1.out.mono ?_;rintro e w2(⟨i,_,rfl,hf⟩|⟨rfl,hI⟩)
 ·have HF:=hid hf
  clear hf;have hi:(0:Int)<=(i:Int):=by omega
  go_wp2;go_ret
  exact .inl ⟨rfl,HF.out⟩
 ·have a0:=hid hI
  clear hI;go_wp2;go_ret
  exact .inr ⟨rfl,a0.out⟩
set_option maxHeartbeats 200000
set_option maxRecDepth 512
def uY(v:Value)(w:World)(e:Ending)(w':World):Prop:=e = .returned v/\Below w.heap.size w w'
theorem ure(x:Int)(w:World):Calls Tryz.prog 183 #[.int .i64 x] w (uY (.bool false) w):=by
 go_enter Tryz.func183,Tryz.ntmps183
 go_wp2;go_ret
 exact⟨by simp,aa⟩
theorem urf(x:Int)(w:World):Calls Tryz.prog 245 #[.int .i64 x] w (uY (.bool false) w):=by
 go_enter Tryz.func245,Tryz.ntmps245
 go_wp2;go_ret
 exact⟨by simp,aa⟩
end Go.Proofs.YtnbbpmagijpmpaaGreatDoor
namespace AC
def ued(D:List DaD)(vars k m:Int):Option (Int×Int):=
 if k=1\/k=2\/k=3 then some (0,0)
 else if k=4 then(if 0<=m/\m<vars then some (0,0)else none)
 else if k=5 then(if 0<=m/\m<D.length then(D[m.toNat]?).map fun d=>(d.vars,d.vars)else none)
 else if k=6 then some (2,6)
 else if k=7\/k=8 then some (1,1)
 else if k=9 then some (1,7)
 else none
theorem urg(D:List DaD)(vars k m:Int):uza D vars k m=(ued D vars k m).bind fun p=>if k≠4/\k≠5/\m≠0 then none else some p:=by
 unfold uza ued;by_cases h1:k=1\/k=2\/k=3
 ·rw[if_pos h1,if_pos h1,Option.bind_some]
  by_cases h:m=0
  ·rw[if_pos h,if_neg (by omega)]
  ·rw[if_neg h,if_pos (by omega)]
 rw[if_neg h1,if_neg h1];by_cases h2:k=4
 ·rw[if_pos h2,if_pos h2]
  by_cases h:0<=m/\m<vars
  ·rw[if_pos h,Option.bind_some,if_neg (by omega)]
  ·rw[if_neg h];rfl
 rw[if_neg h2,if_neg h2];by_cases h3:k=5
 ·rw[if_pos h3,if_pos h3]
  by_cases h:0<=m/\m<D.length
  ·rw[if_pos h]
   cases D[m.toNat]? with
   | none=>rfl
   | some d=>rw[Option.map_some,Option.bind_some,if_neg (by omega)]
  ·rw[if_neg h];rfl
 rw[if_neg h3,if_neg h3];by_cases h4:k=6
 ·rw[if_pos h4,if_pos h4,Option.bind_some]
  by_cases h:m=0
  ·rw[if_pos h,if_neg (by omega)]
  ·rw[if_neg h,if_pos (by omega)]
 rw[if_neg h4,if_neg h4];by_cases h5:k=7\/k=8
 ·rw[if_pos h5,if_pos h5,Option.bind_some]
  by_cases h:m=0
  ·rw[if_pos h,if_neg (by omega)]
  ·rw[if_neg h,if_pos (by omega)]
 rw[if_neg h5,if_neg h5];by_cases h6:k=9
 ·rw[if_pos h6,if_pos h6,Option.bind_some]
  by_cases h:m=0
  ·rw[if_pos h,if_neg (by omega)]
  ·rw[if_neg h,if_pos (by omega)]
 rw[if_neg h6,if_neg h6];rfl
theorem uvv{x0 x1 lo hi len:Int}{X:Option Nat}:(if x0≠4/\x0≠5/\x1≠0 then none else if lo<=len/\len<=hi then X else none) =
 if decide (x0≠4/\x0≠5/\x1≠0)=true then none else if decide (len<lo\/hi<len)=true then none else X:=by
 simp only[aP];by_cases h1:x0≠4/\x0≠5/\x1≠0
 ·rw[if_pos h1,if_pos h1]
 ·rw[if_neg h1,if_neg h1]
  by_cases h2:lo<=len/\len<=hi
  ·rw[if_pos h2,if_neg (by omega)]
  ·rw[if_neg h2,if_pos (by omega)]
mutual
theorem una{D:List DaD}{vars:Int}:∀ {t:Tr} {L r:Nat},uA D vars L t=some r->r<=L
 | .n k m l,0,r,h=>by rw[uA]at h;cases h
 | .n k m l,L+1,r,h=>by
  rw[uA]at h;split at h
  ·cases h
  ·split at h
   ·have:=vBw h;omega
   ·cases h
theorem vBw{D:List DaD}{vars:Int}:∀ {l:List Tr} {L r:Nat},vAm D vars L l=some r->r<=L
 | [],L,r,h=>by rw[vAm]at h;cases h;exact ab
 | t::l,L,r,h=>by
  rw[vAm]at h;cases hq:uA D vars L t with
  | none=>rw[hq]at h;cases h
  | some s=>
   rw[hq]at h;have h1:=una hq;have h2:=vBw h;omega
end
end AC
namespace Go.Proofs.YtnbbpmagijpmpaaGreatDoor
open Go.Lib (hid)
open Go.RowKit AC
section
variable (D D':Nat->Prop) (dat:List DaD) (A:Option Addr) (dl dc:Nat) (vars:Int)
def VB(vb:Nat)(L:Int)(w:World):Prop:=Bk w vb 148 #[.slice A dl dc,.int .i64 vars,.int .i64 L]
def uDx(q:Option Nat)(vb:Nat)(w:World)(e:Ending)(w':World):Prop:=
 Fw (· = vb) w w'/\((∃r:Nat,q=some r/\e = .returned (.bool true)/\VB A dl dc vars vb r w')\/(q=none/\e = .returned (.bool false)/\∃x:Int,VB A dl dc vars vb x w'))
def uvw(n:Nat):Prop:=∀(t:Tr) (L vb:Nat) (w:World) (v:List Value),t.size<=n->L<=200->¬D' vb->¬D vb->TrR w D' t v->DaS w D dat A dl dc->VB A dl dc vars vb L w ->
 Calls Tryz.prog 86 #[.pointer (some ⟨vb,0,none⟩),.agg v.toArray] w (uDx A dl dc vars (uA dat vars L t) vb w)
end
section
variable {D D':Nat->Prop} {dat:List DaD} {A:Option Addr} {dl dc:Nat} {vars:Int}
theorem CoS.sub{w:World}{D D':Nat->Prop}(hd:∀b,b<w.heap.size->D b->D' b){l:List CoD}{A:Option Addr}{len cap:Nat}(h:CoS w D l A len cap):CoS w D' l A len cap:=by
 obtain⟨h1,h2,h3,h4⟩:=h;refine⟨h1,h2,h3,fun hp=>?_⟩
 obtain⟨b,off,hA,hD,hb,hL⟩:=h4 hp;refine⟨b,off,hA,hd b hb hD,hb,fun i hi=>?_⟩
 obtain⟨v,h5,s,A1,l1,c1,h6,h7,h8⟩:=hL i hi;exact⟨v,h5,s,A1,l1,c1,h6,h7,h8.sub hd⟩
theorem DaS.sub{w:World}{D D':Nat->Prop}(hd:∀b,b<w.heap.size->D b->D' b){l:List DaD}{A:Option Addr}{len cap:Nat}(h:DaS w D l A len cap):DaS w D' l A len cap:=by
 obtain⟨h1,h2,h3,h4⟩:=h;refine⟨h1,h2,h3,fun hp=>?_⟩
 obtain⟨b,off,hA,hD,hb,hL⟩:=h4 hp;refine⟨b,off,hA,hd b hb hD,hb,fun i hi=>?_⟩
 obtain⟨v,h5,s,A1,l1,c1,h6,h7,h8,h9⟩:=hL i hi;exact⟨v,h5,s,A1,l1,c1,h6,h7,h8,h9.sub hd⟩
theorem Fw.drewN{S:Nat->Prop}{a b:World}(h:Fw S a b)(n:Nat):Fw S a (b.drewN n):=⟨h.os,h.tape,h.output,h.size,h.block⟩
set_option maxHeartbeats 16000000
set_option maxRecDepth 100000
theorem utl{n:Nat}(ih:uvw D D' dat A dl dc vars n)(t:Tr)(L vb b2:Nat)(w:World)(v:List Value)(hn:t.size<=n)(hL:L<=200)(a8:¬D' vb)(hD:¬D vb)(hr:TrR w D' t v)(hd:DaS w D dat A dl dc)(hb:VB A dl dc vars vb L w)(h2:Bk w b2 146 #[.pointer (some ⟨vb,0,none⟩)]) :
 Calls Tryz.prog 144 #[.agg v.toArray,.pointer (some ⟨b2,0,none⟩)] w (fun e w'=>Fw (· = vb) w w'/\((∃r:Nat,uA dat vars L t=some r/\e = .returned (.bool false)/\VB A dl dc vars vb r w')\/(uA dat vars L t=none/\e = .returned (.bool true)/\∃x:Int,VB A dl dc vars vb x w'))):=by
 obtain⟨B,len,cap,rfl,_,_,_⟩:=hr.form;obtain⟨x0,a2⟩:∃x,t.k=x:=⟨_,rfl⟩;obtain⟨x1,a3⟩:∃x,t.m=x:=⟨_,rfl⟩;have b0:=h2.lt;obtain⟨C,hC⟩:∃C,C=w.alloc (.cells #[.int .i64 t.k,.int .i64 t.m,.slice B len cap] 25):=⟨_,rfl⟩;have a0:Hid (Below w.heap.size w C):=by rw[hC];exact aa.alloc ab _
 have a5:Hid (Fw (· = vb) w C):=by rw[hC];exact(Fw.refl _ _).alloc _
 have a4:Hid (Bk C w.heap.size 25 #[.int .i64 t.k,.int .i64 t.m,.slice B len cap]):=by rw[hC];exact Bk.new _ _ _
 have a9:vb<w.heap.size:=Bk.lt hb;have key:=ih t L vb C _ hn hL a8 hD (hr.below a0.out) (hd.below a0.out) (Bk.below hb a0.out a9);have a7:=h2.below a0.out b0;have a6:=hid (show Calls Tryz.prog 86 #[.pointer (some ⟨vb,0,none⟩),.agg #[.int .i64 t.k,.int .i64 t.m,.slice B len cap]] C (uDx A dl dc vars (uA dat vars L t) vb C) from key)
 show Calls Tryz.prog 144 #[.agg #[.int .i64 t.k,.int .i64 t.m,.slice B len cap],.pointer (some ⟨b2,0,none⟩)] w _
 clear key hr hb h2 ih hd;rw[a2,a3]at a4 a6 ⊢;rw[a2,a3]at hC;clear a2 a3;generalize uA dat vars L t=q at *;go_enter Tryz.func144,Tryz.ntmps144
 go_upto_region 1 with(fail)
 rw[<-hC];clear hC;obtain⟨b1,_,_⟩:=a4.out.facts;obtain⟨b3,_,_⟩:=a7.facts;go_wp2_with fail
 refine a6.out.mono ?_;rintro e w2⟨hf,(⟨r,hq,rfl,hb⟩|⟨hq,rfl,hb⟩)⟩
 ·have HF:=hid (a5.out.trans hf)
  have a1:=hid hb;have HQ:=hid hq;clear hf hb hq;go_wp2;go_ret
  exact⟨HF.out,.inl ⟨r,HQ.out,rfl,a1.out⟩⟩
 ·have HF:=hid (a5.out.trans hf)
  have a1:=hid hb;have HQ:=hid hq;clear hf hb hq;go_wp2;go_ret
  exact⟨HF.out,.inr ⟨HQ.out,rfl,a1.out⟩⟩
theorem unb(d7:rng vars):∀(n:Nat),uvw D D' dat A dl dc vars n
 | 0=>fun t L vb w v h _ _ _ _ _ _=>absurd t.size_pos (by omega)
 | n+1=>fun t L vb w v hn hL d0 hD hr hd hb=>by
  have IH:=hid (unb d7 n);obtain⟨B,len,cap,rfl,hs,hk,hm⟩:=hr.form;have d6:=Tr.size_eq t;obtain⟨x0,a9⟩:∃x,t.k=x:=⟨_,rfl⟩;obtain⟨x1,b0⟩:∃x,t.m=x:=⟨_,rfl⟩;obtain⟨l,hl⟩:∃l,t.kids=l:=⟨_,rfl⟩;have ht:t = .n x0 x1 l:=by
   cases t;rw[<-a9,<-b0,<-hl];rfl
  rw[a9]at hk;rw[b0]at hm;rw[hl]at hs d6;rw[a9,b0];obtain⟨q,hq⟩:∃q,uA dat vars L t=q:=⟨_,rfl⟩;rw[hq];rw[ht]at hq;clear a9 b0 hl ht hr;have d2:len=l.length:=hs.1;have g8:=hs.2.1;have e7:cap<=maxLen:=hs.2.2.1;have d1:dl=dat.length:=hd.1;have g6:=hd.2.1;have f1:dc<=maxLen:=hd.2.2.1;unfold maxLen at e7 f1;unfold rng at hk hm d7;have f4:vb<w.heap.size:=Bk.lt hb;have c8:=hid d2;have c6:=hid d1;have HS:=hid hs;have HD:=hid hd;have HB:=hid hb;have HQ:=hid hq;have HN:Hid (∀(i:Nat) (h:i<l.length),l[i].size<=n):=fun i h=>by have:=ubo h;omega
  clear hs d2 d6 hb hd hq d1;obtain⟨C,hC⟩:∃C,C=(w.alloc (.cells #[.pointer (some ⟨vb,0,none⟩)] 146)).alloc (.cells #[.int .i64 x0,.int .i64 x1,.slice B len cap] 25):=⟨_,rfl⟩;have d9:Hid (Below w.heap.size w C):=by rw[hC];exact(aa.alloc ab _).alloc (by simp) _
  have c7:Hid (Fw (· = vb) w C):=by rw[hC];exact((Fw.refl _ _).alloc _).alloc _
  have c4:Hid (Bk C w.heap.size 146 #[.pointer (some ⟨vb,0,none⟩)]):=by rw[hC];exact(Bk.new _ _ _).alloc _
  have c5:Hid (Bk C (w.heap.size+1) 25 #[.int .i64 x0,.int .i64 x1,.slice B len cap]):=by rw[hC];exact uax _ _ _ _
  have b1:Hid (VB A dl dc vars vb L C):=Bk.below HB.out d9.out f4;show Calls Tryz.prog 86 #[.pointer (some ⟨vb,0,none⟩),.agg #[.int .i64 x0,.int .i64 x1,.slice B len cap]] w _
  go_enter Tryz.func86,Tryz.ntmps86
  go_upto_region 1 with(fail)
  rw[<-hC];clear hC;obtain⟨g2,_,_⟩:=c4.out.facts;obtain⟨g3,_,_⟩:=c5.out.facts;obtain⟨g4,g7,_⟩:=Bk.facts b1.out;by_cases f9:1<=L
  ·obtain⟨L',rfl⟩:∃L',L=L'+1:=⟨L-1,by omega⟩
   obtain⟨W1,a6⟩:∃W1,W1=C.setCell ⟨vb,2,none⟩ (.int .i64 (L':Int)):=⟨_,rfl⟩;have a0:Hid (Fw (· = vb) w W1):=by rw[a6];exact c7.out.setCell (p:=⟨vb,2,none⟩) (.inl rfl) _
   have a1:Hid (VB A dl dc vars vb L' W1):=by
    rw[a6];have:=Bk.set b1.out 2 (.int .i64 (L':Int));exact hid (by simpa[VB]using this)
   have a4:Hid (Bk W1 w.heap.size 146 #[.pointer (some ⟨vb,0,none⟩)]):=by rw[a6];exact c4.out.far (by show w.heap.size≠vb;omega) _
   have a5:Hid (Bk W1 (w.heap.size+1) 25 #[.int .i64 x0,.int .i64 x1,.slice B len cap]):=by rw[a6];exact c5.out.far (by show w.heap.size+1≠vb;omega) _
   obtain⟨e9,_,_⟩:=a4.out.facts;obtain⟨f0,_,_⟩:=a5.out.facts;obtain⟨g5,_,_⟩:=Bk.facts a1.out;have g0:((L'+1:Nat):Int)-1=(L':Int):=by omega
   have f7:¬(L':Int)<0:=by omega
   have a2:ued dat vars x0 x1=none->q=none:=fun h=>by
    have h2:=HQ.out;rw[uA,urg,h]at h2;exact h2.symm
   have b7:=hid a2;clear a2;go_upto_region 2 with(fail)
   rw[<-a6];clear a6;go_upto_block 0 with(fail)
   go_cut [5,6] from 21 to 78 (fun lo hi wx=>∃a b:Int,lo = .int .i64 a/\hi = .int .i64 b/\rng a/\rng b/\ued dat vars x0 x1=some (a,b)/\Hid (Fw (· = vb) w wx)/\Hid (VB A dl dc vars vb L' wx)/\Hid (Bk wx w.heap.size 146 #[.pointer (some ⟨vb,0,none⟩)])/\Hid (Bk wx (w.heap.size+1) 25 #[.int .i64 x0,.int .i64 x1,.slice B len cap]))
   case first=>
    by_cases h1:x0=1
    ·subst h1
     go_wp2;go_meet
     exact⟨0,0,rfl,rfl,by unfold rng;omega,by unfold rng;omega,by simp[ued],a0,a1,a4,a5⟩
    by_cases h2:x0=2
    ·subst h2
     go_wp2;go_meet
     exact⟨0,0,rfl,rfl,by unfold rng;omega,by unfold rng;omega,by simp[ued],a0,a1,a4,a5⟩
    by_cases h3:x0=3
    ·subst h3
     go_wp2;go_meet
     exact⟨0,0,rfl,rfl,by unfold rng;omega,by unfold rng;omega,by simp[ued],a0,a1,a4,a5⟩
    by_cases h6:x0=6
    ·subst h6
     go_wp2;go_meet
     exact⟨2,6,rfl,rfl,by unfold rng;omega,by unfold rng;omega,by simp[ued],a0,a1,a4,a5⟩
    by_cases h7:x0=7
    ·subst h7
     go_wp2;go_meet
     exact⟨1,1,rfl,rfl,by unfold rng;omega,by unfold rng;omega,by simp[ued],a0,a1,a4,a5⟩
    by_cases h8:x0=8
    ·subst h8
     go_wp2;go_meet
     exact⟨1,1,rfl,rfl,by unfold rng;omega,by unfold rng;omega,by simp[ued],a0,a1,a4,a5⟩
    by_cases h9:x0=9
    ·subst h9
     go_wp2;go_meet
     exact⟨1,7,rfl,rfl,by unfold rng;omega,by unfold rng;omega,by simp[ued],a0,a1,a4,a5⟩
    by_cases h4:x0=4
    ·subst h4
     have a2:¬(0<=x1/\x1<vars)->q=none:=fun h=>b7.out (by simp[ued,h])
     by_cases c0:x1<0
     ·have c1:decide (x1<0)=true:=by simp[c0]
      have a3:=hid (a2 (by omega))
      clear a2;go_wp2;go_quiet (fail)
      go_wp2;go_ret
      exact⟨a0.out.drewN _,.inr ⟨a3.out,rfl,_,(Bk.drewN a1.out _)⟩⟩
     have c1:decide (x1<0)=false:=by simp;omega
     by_cases f5:vars<=x1
     ·have a3:=hid (a2 (by omega))
      clear a2;go_wp2;go_quiet (fail)
      go_wp2;go_ret
      exact⟨a0.out.drewN _,.inr ⟨a3.out,rfl,_,(Bk.drewN a1.out _)⟩⟩
     clear a2;go_wp2;go_quiet (fail)
     go_wp2;go_meet
     exact⟨0,0,rfl,rfl,by unfold rng;omega,by unfold rng;omega,by simp[ued];omega,a0.out.drewN _,Bk.drewN a1.out _,a4.out.drewN _,a5.out.drewN _⟩
    by_cases h5:x0=5
    ·subst h5
     have a2:¬(0<=x1/\x1<dat.length)->q=none:=fun h=>b7.out (by simp only[ued];simp[h])
     rw[<-c6.out]at a2;by_cases c0:x1<0
     ·have c1:decide (x1<0)=true:=by simp[c0]
      have a3:=hid (a2 (by omega))
      clear a2;go_wp2;go_quiet (fail)
      go_wp2;go_ret
      exact⟨a0.out.drewN _,.inr ⟨a3.out,rfl,_,(Bk.drewN a1.out _)⟩⟩
     have c1:decide (x1<0)=false:=by simp;omega
     by_cases f5:(dl:Int)<=x1
     ·have a3:=hid (a2 (by omega))
      clear a2;go_wp2;go_quiet (fail)
      go_wp2;go_ret
      exact⟨a0.out.drewN _,.inr ⟨a3.out,rfl,_,(Bk.drewN a1.out _)⟩⟩
     clear a2;obtain⟨m,rfl⟩:∃m:Nat,x1=m:=⟨x1.toNat,by omega⟩
     have d3:m<dat.length:=by have:=c6.out;omega
     obtain⟨b,off,s,A',h0,f8,rfl,g1,e0,e1,e2,f6,d8,e8⟩:=(HD.out.vAb (uc.fw a0.out fun b hb e=>hD (by rw[<-e];exact hb))).get (i:=m) d3
     have a8:Hid (ued dat vars 5 m=some (dat[m].vars,dat[m].vars)):=by
      show _=_
      rw[ued,if_neg (by omega),if_neg (by omega),if_pos rfl,if_pos ⟨by omega,by omega⟩,Int.toNat_natCast,ai d3]
      rfl
     clear e8 f6;generalize dat[m].vars=vr at *;go_wp2;go_quiet (fail)
     go_wp2;go_quiet (fail)
     go_wp2;go_meet
     exact⟨vr,vr,rfl,rfl,d8,d8,a8.out,(a0.out.drewN _).drewN _,Bk.drewN (Bk.drewN a1.out _) _,(a4.out.drewN _).drewN _,(a5.out.drewN _).drewN _⟩
    have a3:=hid (b7.out (by simp[ued, *]))
    go_wp2;go_ret
    exact⟨a0.out,.inr ⟨a3.out,rfl,_,a1.out⟩⟩
   case rest=>
    obtain⟨lo,hi,rfl,rfl,f3,f2,a8,b2,b4,c9,e4⟩:=hcut;have hq:q=if x0≠4/\x0≠5/\x1≠0 then none else if lo<=len/\(len:Int)<=hi then vAm dat vars L' l else none:=by
     have h:=HQ.out;rw[uA,urg,a8,Option.bind_some,<-c8.out]at h;by_cases hc:x0≠4/\x0≠5/\x1≠0
     ·rw[if_pos hc]at h ⊢;exact h.symm
     ·rw[if_neg hc]at h ⊢;exact h.symm
    unfold rng at f3 f2;obtain⟨e9,_,_⟩:=c9.out.facts;obtain⟨f0,_,_⟩:=e4.out.facts;obtain⟨qa,c2⟩:∃qa:Bool,decide (x0≠4/\x0≠5/\x1≠0)=qa:=⟨_,rfl⟩;obtain⟨qb,c3⟩:∃qb:Bool,decide ((len:Int)<lo\/hi<(len:Int))=qb:=⟨_,rfl⟩;have d4:q=if qa=true then none else if qb=true then none else vAm dat vars L' l:=by
     rw[hq,<-c2,<-c3];exact uvv
    have b5:=hid d4;have a7:=hid c2;have b6:=hid c3;clear hq a8 d4 c2 c3;go_upto_region 24 with(fail)
    go_cut [91] from 79 to 91 (fun v wx=>v = .bool qa/\wc=wx)
    case first=>
     by_cases h4:x0=4
     ·subst h4
      go_wp2;go_meet
      exact⟨by rw[<-a7.out];simp,rfl⟩
     ·by_cases h5:x0=5
      ·subst h5
       go_wp2;go_meet
       exact⟨by rw[<-a7.out];simp,rfl⟩
      ·by_cases h6:x1=0
       ·subst h6
        go_wp2;go_meet
        exact⟨by rw[<-a7.out];simp,rfl⟩
       ·go_wp2
        go_meet
        exact⟨by rw[<-a7.out];simp[h4,h5,h6],rfl⟩
    case rest=>
    obtain⟨rfl,rfl⟩:=hcut;cases qa with
    | true=>
     have a3:=hid (show q=none by rw[b5.out,if_pos rfl])
     go_wp2;go_ret
     exact⟨b2.out,.inr ⟨a3.out,rfl,_,b4.out⟩⟩
    | false=>
     go_upto_region 26 with(fail)
     go_cut [103] from 92 to 103 (fun v wx=>v = .bool qb/\wc=wx)
     case first=>
      by_cases hC:(len:Int)<lo
      ·go_wp2
       go_meet
       exact⟨by rw[<-b6.out];simp[hC],rfl⟩
      ·by_cases hE:hi<(len:Int)
       ·go_wp2
        go_meet
        exact⟨by rw[<-b6.out];simp[hE],rfl⟩
       ·go_wp2
        go_meet
        exact⟨by rw[<-b6.out];simp;omega,rfl⟩
     case rest=>
     obtain⟨rfl,rfl⟩:=hcut;cases qb with
     | true=>
      have a3:=hid (show q=none by rw[b5.out];simp)
      go_wp2;go_ret
      exact⟨b2.out,.inr ⟨a3.out,rfl,_,b4.out⟩⟩
     | false=>
      have d5:vAm dat vars L' l=q:=by rw[b5.out];simp
      have e3:=hid d5;clear d5;have key:=udk D' l B len cap 144 #[] #[.pointer (some ⟨w.heap.size,0,none⟩)]
       (fun i w'=>∃r:Nat,r<=200/\VB A dl dc vars vb r w'/\vAm dat vars r (l.drop i)=q/\Bk w' w.heap.size 146 #[.pointer (some ⟨vb,0,none⟩)]/\Fw (· = vb) w w')
       (fun w'=>q=none/\(∃x:Int,VB A dl dc vars vb x w')/\Fw (· = vb) w w')
       (fun i w' ⟨_,_,_,_,_,h⟩=>HS.out.vAb (uc.fw h fun b hb e=>d0 (by rw[<-e];exact hb)))
       ⟨enters_of Tryz.func144 (by kernel_rfl) rfl,fun i hi w' v ⟨r,h1,h2,h3,h4,h5⟩ hr=>by
        rw[aN hi,vAm]at h3;have:=utl IH.out l[i] r vb w.heap.size w' v (HN.out i hi) h1 d0 hD hr (HD.out.vAb (uc.fw h5 fun b hb e=>hD (by rw[<-e];exact hb))) h2 h4
        refine Calls.mono (by simpa using this) ?_
        rintro e w2⟨hf,(⟨r2,hv,rfl,hb⟩|⟨hv,rfl,hb⟩)⟩
        ·rw[hv]at h3
         exact .inr ⟨rfl,r2,by have:=una hv;omega,hb,h3,Bk.fw h4 hf (by show ¬(w.heap.size=vb);omega),h5.trans hf⟩
        ·rw[hv]at h3
         exact .inl ⟨rfl,h3.symm,hb,h5.trans hf⟩⟩ wc ⟨L',by omega,b4.out,e3.out,c9.out,b2.out⟩
      have e5:=hid key;clear key;go_wp2_with fail
      refine e5.out.mono ?_;rintro e w2(⟨rfl,hx,hy,hf⟩|⟨rfl,r,g9,hx,hy,_,hf⟩)
      ·have b8:=hid hx
       have b9:=hid hy;have b3:=hid hf;clear hx hy hf;go_wp2;go_ret
       exact⟨b3.out,.inr ⟨b8.out,rfl,b9.out⟩⟩
      ·have b8:=hid hx
       have b9:=hid hy;have b3:=hid hf;clear hx hy hf;go_wp2;go_ret
       refine⟨b3.out,.inl ⟨r,?_,rfl,b8.out⟩⟩;have h:=b9.out;rw[List.drop_eq_nil_of_le (by have:=c8.out;omega),vAm]at h
       exact h.symm
  ·have e6:L=0:=by omega
   subst e6;have f7:(0:Int)-1<0:=by omega
   have a3:q=none:=by have h:=HQ.out;rw[uA]at h;exact h.symm
   go_wp2;go_ret
   exact⟨c7.out.setCell (p:=⟨vb,2,none⟩) (.inl rfl) _,.inr ⟨a3,rfl,_,by have:=Bk.set b1.out 2 (.int .i64 (-1));simpa[VB]using this⟩⟩
theorem ugl(a7:rng vars)(t:Tr)(w:World)(v:List Value)(hr:TrR w D' t v)(hd:DaS w D dat A dl dc) :
 Calls Tryz.prog 42 #[.slice A dl dc,.agg v.toArray,.int .i64 vars] w (uY (.bool (uA dat vars 200 t).isSome) w):=by
 obtain⟨B,len,cap,rfl,_,_,_⟩:=hr.form;obtain⟨C,hC⟩:∃C,C=(w.alloc (.cells #[.int .i64 t.k,.int .i64 t.m,.slice B len cap] 25)).alloc (.cells #[.slice A dl dc,.int .i64 vars,.int .i64 200] 148):=⟨_,rfl⟩;have a0:Below w.heap.size w C:=by rw[hC];exact(aa.alloc ab _).alloc (by simp) _
 have a5:Hid (Bk C w.heap.size 25 #[.int .i64 t.k,.int .i64 t.m,.slice B len cap]):=by rw[hC];exact(Bk.new _ _ _).alloc _
 have a4:VB A dl dc vars (w.heap.size+1) 200 C:=by rw[hC];exact uax _ _ _ _
 have key:=unb a7 t.size t 200 (w.heap.size+1) C _ ab ab (fun(h:w.heap.size+1<w.heap.size)=>by omega) (fun(h:w.heap.size+1<w.heap.size)=>by omega) ((hr.sub (D':=fun b=>b<w.heap.size) fun b hb _=>hb).below a0) ((hd.sub (D':=fun b=>b<w.heap.size) fun b hb _=>hb).below a0) a4
 have a1:=hid a0;have a6:=hid (show Calls Tryz.prog 86 #[.pointer (some ⟨w.heap.size+1,0,none⟩),.agg #[.int .i64 t.k,.int .i64 t.m,.slice B len cap]] C (uDx A dl dc vars (uA dat vars 200 t) (w.heap.size+1) C) from key)
 clear key a4 a0 hr hd;show Calls Tryz.prog 42 #[.slice A dl dc,.agg #[.int .i64 t.k,.int .i64 t.m,.slice B len cap],.int .i64 vars] w _
 generalize uA dat vars 200 t=q at *;generalize t.k=x0 at *;generalize t.m=x1 at *;go_enter Tryz.func42,Tryz.ntmps42
 go_upto_region 2 with(fail)
 rw[<-hC];clear hC;obtain⟨a8,_,_⟩:=a5.out.facts;go_wp2_with fail
 refine a6.out.mono ?_;rintro e w2⟨hf,hh⟩;have a3:=a1.out.trans (hf.toBelow (n:=w.heap.size) (fun x hx=>by have h:x=w.heap.size+1:=hx;omega) a1.out.size)
 have a2:=hid a3;clear hf a3;rcases hh with⟨r,rfl,rfl,_⟩|⟨rfl,rfl,_⟩
 ·go_wp2
  go_ret
  exact⟨rfl,a2.out⟩
 ·go_wp2
  go_ret
  exact⟨rfl,a2.out⟩
end
mutual
def upm(d:Int):Tr->Bool
 | .n k m l=>(decide (k=5)&&decide (m=d))||vBb d l
def vBb(d:Int):List Tr->Bool
 | []=>false
 | t::l=>upm d t||vBb d l
end
theorem uDy(d:Int)(t:Tr):upm d t=((decide (t.k=5)&&decide (t.m=d))||vBb d t.kids):=by cases t;rw[upm];rfl
theorem unc{d:Int}:∀ {l:List Tr} {i:Nat} (hi:i<l.length),upm d l[i]=true->vBb d l=true
 | t::l,0,_,h=>by rw[vBb];simp at h;simp[h]
 | t::l,i+1,hi,h=>by
  have:=unc (l:=l) (i:=i) (by simpa using hi) (by simpa using h)
  rw[vBb,this];simp
theorem urh{d:Int}:∀ {l:List Tr},(∀(i:Nat) (h:i<l.length),upm d l[i]=false)->vBb d l=false
 | [],_=>by rw[vBb]
 | t::l,h=>by
  have h0:=h 0 (by simp)
  have h1:=urh (l:=l) fun i hi=>h (i+1) (Nat.succ_lt_succ hi)
  simp at h0;rw[vBb,h0,h1];rfl
def uCq(n:Nat):Prop:=∀(D:Nat->Prop) (t:Tr) (d:Int) (w:World) (v:List Value),t.size<=n->TrR w D t v->Calls Tryz.prog 190 #[.agg v.toArray,.int .i64 d] w (uY (.bool (upm d t)) w)
set_option maxHeartbeats 16000000
set_option maxRecDepth 100000
theorem uvx{n:Nat}(ih:uCq n)(D:Nat->Prop)(t:Tr)(d:Int)(b2:Nat)(w:World)(v:List Value)(hn:t.size<=n)(hr:TrR w D t v)(h2:Bk w b2 3 #[.int .i64 d]) :
 Calls Tryz.prog 248 #[.agg v.toArray,.pointer (some ⟨b2,0,none⟩)] w (uY (.bool (upm d t)) w):=by
 obtain⟨A,len,cap,rfl,_,_,_⟩:=hr.form;have a6:=h2.lt;obtain⟨C,hC⟩:∃C,C=w.alloc (.cells #[.int .i64 t.k,.int .i64 t.m,.slice A len cap] 25):=⟨_,rfl⟩;have a0:Hid (Below w.heap.size w C):=by rw[hC];exact aa.alloc ab _
 have a3:Hid (Bk C w.heap.size 25 #[.int .i64 t.k,.int .i64 t.m,.slice A len cap]):=by rw[hC];exact Bk.new _ _ _
 have key:=ih D t d C _ hn (hr.below a0.out);have a5:=h2.below a0.out a6;show Calls Tryz.prog 248 #[.agg #[.int .i64 t.k,.int .i64 t.m,.slice A len cap],.pointer (some ⟨b2,0,none⟩)] w _
 obtain⟨q,hq⟩:∃q,upm d t=q:=⟨_,rfl⟩;rw[hq]at key ⊢;have a4:=hid (show Calls Tryz.prog 190 #[.agg #[.int .i64 t.k,.int .i64 t.m,.slice A len cap],.int .i64 d] C (uY (.bool q) C) from key)
 clear key hr h2 ih hq;obtain⟨x0,a1⟩:∃x,t.k=x:=⟨_,rfl⟩;obtain⟨x1,a2⟩:∃x,t.m=x:=⟨_,rfl⟩;rw[a1,a2]at a3 a4 ⊢;rw[a1,a2]at hC;clear a1 a2;go_enter Tryz.func248,Tryz.ntmps248
 go_upto_region 1 with(fail)
 rw[<-hC];clear hC;obtain⟨a7,_,_⟩:=a3.out.facts;obtain⟨a8,_,_⟩:=a5.facts;go_wp2_with fail
 refine a4.out.mono ?_;rintro e w2⟨rfl,hb⟩;have HB:=hid (a0.out.trans (hb.mono a0.out.size));clear hb;go_wp2;go_ret
 exact⟨rfl,HB.out⟩
theorem uri:∀(n:Nat),uCq n
 | 0=>fun D t d w v h _=>absurd t.size_pos (by omega)
 | n+1=>fun D t d w v hn hr=>by
  have IH:=hid (uri n);obtain⟨A,len,cap,rfl,hs,_,_⟩:=hr.form;have a6:=Tr.size_eq t;rw[uDy];generalize t.kids=l at hs a6 ⊢;have HN:Hid (∀(i:Nat) (h:i<l.length),l[i].size<=n):=fun i h=>by have:=ubo h;omega
  have HS:=hid hs;have a5:len=l.length:=hs.1;have b0:=hid a5;clear hs hr a6 a5;obtain⟨x0,a7⟩:∃x,t.k=x:=⟨_,rfl⟩;obtain⟨x1,a8⟩:∃x,t.m=x:=⟨_,rfl⟩;rw[a7,a8];clear a7 a8;obtain⟨C,hC⟩:∃C,C=(w.alloc (.cells #[.int .i64 x0,.int .i64 x1,.slice A len cap] 25)).alloc (.cells #[.int .i64 d] 3):=⟨_,rfl⟩;have a0:Hid (Below w.heap.size w C):=by rw[hC];exact(aa.alloc ab _).alloc (by simp) _
  have a9:Hid (Bk C w.heap.size 25 #[.int .i64 x0,.int .i64 x1,.slice A len cap]):=by rw[hC];exact(Bk.new _ _ _).alloc _
  have a1:Hid (Bk C (w.heap.size+1) 3 #[.int .i64 d]):=by rw[hC];exact uax _ _ _ _
  show Calls Tryz.prog 190 #[.agg #[.int .i64 x0,.int .i64 x1,.slice A len cap],.int .i64 d] w _
  obtain⟨q,hq⟩:∃q,((decide (x0=5)&&decide (x1=d))||vBb d l)=q:=⟨_,rfl⟩
  rw[hq];have HQ:=hid hq;clear hq;have key:=udk D l A len cap 248 #[] #[.pointer (some ⟨w.heap.size+1,0,none⟩)]
   (fun i w'=>(∀(j:Nat) (h:j<l.length),j<i->upm d l[j]=false)/\Below C.heap.size C w')
   (fun w'=>vBb d l=true/\Below C.heap.size C w')
   (fun i w' h=>(HS.out.below a0.out).below h.2)
   ⟨enters_of Tryz.func248 (by kernel_rfl) rfl,fun i hi w' v ⟨h1,h2⟩ hr=>by
    have:=uvx IH.out D l[i] d (w.heap.size+1) w' v (HN.out i hi) hr (a1.out.below h2 a1.out.lt);refine Calls.mono (by simpa using this) ?_
    rintro e w2⟨rfl,hb⟩;cases hq:upm d l[i]with
    | true=>exact .inl ⟨rfl,unc hi hq,h2.trans (hb.mono h2.size)⟩
    | false=>
     refine .inr ⟨rfl,fun j h hj=>?_,h2.trans (hb.mono h2.size)⟩
     rcases ah j i with h5|h5
     ·exact h1 j h h5
     ·obtain rfl:j=i:=by omega
      exact hq⟩ C ⟨fun j _ h=>absurd h (by omega),aa⟩
  have a4:=hid key;clear key;go_enter Tryz.func190,Tryz.ntmps190
  go_upto_region 1 with(fail)
  rw[<-hC];clear hC;obtain⟨b3,_,_⟩:=a9.out.facts;obtain⟨b4,_,_⟩:=a1.out.facts;by_cases h:x0=5/\x1=d
  ·obtain⟨rfl,rfl⟩:=h
   have eq:q=true:=by rw[<-HQ.out];simp
   go_wp2;go_ret
   exact⟨rfl,a0.out⟩
  ·have a2:(decide (x0=5)&&decide (x1=d))=false:=by
    rw[Bool.and_eq_false_iff];rcases Classical.em (x0=5)with h1|h1
    ·exact .inr (aQ fun h2=>h ⟨h1,h2⟩)
    ·exact .inl (aQ h1)
   have eq:q=vBb d l:=by rw[<-HQ.out,a2,Bool.false_or]
   have EQ:=hid eq;clear eq;have fin:∀(e:Ending) (w2:World),uGg len (fun i w'=>(∀(j:Nat) (h:j<l.length),j<i->upm d l[j]=false)/\Below C.heap.size C w') (fun w'=>vBb d l=true/\Below C.heap.size C w') e w2->e = .returned (.bool (vBb d l))/\Below w.heap.size w w2:=by
    rintro e w2(⟨rfl,h1,h2⟩|⟨rfl,h1,h2⟩)
    ·exact⟨by rw[h1],a0.out.trans (h2.mono a0.out.size)⟩
    ·exact⟨by rw[urh fun i hi=>h1 i hi (by have:=b0.out;omega)],a0.out.trans (h2.mono a0.out.size)⟩
   have a3:=hid fin;clear fin;by_cases h5:x0=5
   ·have h6:¬x1=d:=fun e=>h ⟨h5,e⟩
    have b2:(x1==d)=false:=by rw[aw];exact h6
    subst h5;clear h a2;go_wp2_with fail
    refine a4.out.mono ?_;intro e w2 hq;obtain⟨rfl,hb⟩:=a3.out e w2 hq;have HB:=hid hb;clear hb hq;go_wp2;go_ret
    exact⟨by rw[EQ.out];rfl,HB.out⟩
   ·have b1:(x0==5)=false:=by rw[aw];exact h5
    clear h a2;go_wp2_with fail
    refine a4.out.mono ?_;intro e w2 hq;obtain⟨rfl,hb⟩:=a3.out e w2 hq;have HB:=hid hb;clear hb hq;go_wp2;go_ret
    exact⟨by rw[EQ.out];rfl,HB.out⟩
end Go.Proofs.YtnbbpmagijpmpaaGreatDoor
