/-
  Data types in memory.
-/
import Derived.Test.YtnbbpmagijpmpaaGreatDoorMRat
import Derived.Test.YtnbbpmagijpmpaaGreatDoorRows
import Derived.Deep.Slices
import Derived.Deep.Strs
import Derived.ProofKit
import Derived.OpenShut
import Derived.KernelRfl
set_option linter.unusedVariables false
set_option linter.unusedSimpArgs false
namespace Go.Proofs.YtnbbpmagijpmpaaGreatDoor
open Go.Lib (hid)
open Go.RowKit AC
def CoR(w:World)(D:Nat->Prop)(c:CoD)(v:List Value):Prop:=∃(s:ByteArray) (A:Option Addr) (len cap:Nat),v=[.string s,.slice A len cap]/\s.data.toList=c.name/\TrS w D c.args A len cap
def CoS(w:World)(D:Nat->Prop)(l:List CoD)(A:Option Addr)(len cap:Nat):Prop:=
 len=l.length/\len<=cap/\cap<=maxLen/\(0<len->∃b off,A=some ⟨b,off,none⟩/\D b/\b<w.heap.size/\∀(i:Nat) (h:i<l.length),∃v,um w b (off+i*2) v/\CoR w D l[i] v)
def DaR(w:World)(D:Nat->Prop)(d:DaD)(v:List Value):Prop:=∃(s:ByteArray) (A:Option Addr) (len cap:Nat),v=[.string s,.int .i64 d.vars,.slice A len cap]/\s.data.toList=d.name/\rng d.vars/\CoS w D d.cons A len cap
def DaS(w:World)(D:Nat->Prop)(l:List DaD)(A:Option Addr)(len cap:Nat):Prop:=
 len=l.length/\len<=cap/\cap<=maxLen/\(0<len->∃b off,A=some ⟨b,off,none⟩/\D b/\b<w.heap.size/\∀(i:Nat) (h:i<l.length),∃v,um w b (off+i*3) v/\DaR w D l[i] v)
section
variable {w w':World} {D D':Nat->Prop} {A:Option Addr} {len cap:Nat}
theorem um.vAb(hk:uc D w w'){b off:Nat}{u:List Value}(hb:b<w.heap.size)(hD:D b)(h:um w b off u):um w' b off u:=fun j x hx=>(World.cell?_of_block (w:=w) (hk.2 b hb hD)).trans (h j x hx)
theorem CoR.vAb(hk:uc D w w'){c:CoD}{v:List Value}(h:CoR w D c v):CoR w' D c v:=by
 obtain⟨s,A,len,cap,h1,h2,h3⟩:=h;exact⟨s,A,len,cap,h1,h2,h3.vAb hk⟩
theorem CoS.vAb(hk:uc D w w'){l:List CoD}(h:CoS w D l A len cap):CoS w' D l A len cap:=by
 obtain⟨h1,h2,h3,h4⟩:=h;refine⟨h1,h2,h3,fun hp=>?_⟩
 obtain⟨b,off,hA,hD,hb,hL⟩:=h4 hp;refine⟨b,off,hA,hD,af hb hk.1,fun i hi=>?_⟩
 obtain⟨v,h5,h6⟩:=hL i hi;exact⟨v,h5.vAb hk hb hD,h6.vAb hk⟩
theorem DaR.vAb(hk:uc D w w'){d:DaD}{v:List Value}(h:DaR w D d v):DaR w' D d v:=by
 obtain⟨s,A,len,cap,h1,h2,h3,h4⟩:=h;exact⟨s,A,len,cap,h1,h2,h3,h4.vAb hk⟩
theorem DaS.vAb(hk:uc D w w'){l:List DaD}(h:DaS w D l A len cap):DaS w' D l A len cap:=by
 obtain⟨h1,h2,h3,h4⟩:=h;refine⟨h1,h2,h3,fun hp=>?_⟩
 obtain⟨b,off,hA,hD,hb,hL⟩:=h4 hp;refine⟨b,off,hA,hD,af hb hk.1,fun i hi=>?_⟩
 obtain⟨v,h5,h6⟩:=hL i hi;exact⟨v,h5.vAb hk hb hD,h6.vAb hk⟩
theorem CoS.below{l:List CoD}(h:CoS w D l A len cap)(hb:Below w.heap.size w w'):CoS w' D l A len cap:=h.vAb (uc.of hb)
theorem DaS.below{l:List DaD}(h:DaS w D l A len cap)(hb:Below w.heap.size w w'):DaS w' D l A len cap:=h.vAb (uc.of hb)
theorem DaS.get{l:List DaD}{i:Nat}(h:DaS w D l A len cap)(hi:i<l.length):∃b off s A' a1 a0,A=some ⟨b,off,none⟩/\b<w.heap.size/\w.cell? ⟨b,off+i*3,none⟩=some (.string s)/\w.cell? ⟨b,off+i*3+1,none⟩=some (.int .i64 l[i].vars)/\w.cell? ⟨b,off+i*3+2,none⟩=some (.slice A' a1 a0) /\
 s.data.toList=l[i].name/\rng l[i].vars/\CoS w D l[i].cons A' a1 a0:=by
 obtain⟨a2,_,_,h4⟩:=h;obtain⟨b,off,rfl,hD,hb,hL⟩:=h4 (by omega)
 obtain⟨v,hc,s,A',a1,a0,rfl,h1,h2,h3⟩:=hL i hi;exact⟨b,off,s,A',a1,a0,rfl,hb,hc 0 _ rfl,hc 1 _ rfl,hc 2 _ rfl,h1,h2,h3⟩
theorem CoS.get{l:List CoD}{i:Nat}(h:CoS w D l A len cap)(hi:i<l.length):∃b off s A' a1 a0,A=some ⟨b,off,none⟩/\b<w.heap.size/\w.cell? ⟨b,off+i*2,none⟩=some (.string s)/\w.cell? ⟨b,off+i*2+1,none⟩=some (.slice A' a1 a0) /\
 s.data.toList=l[i].name/\TrS w D l[i].args A' a1 a0:=by
 obtain⟨a2,_,_,h4⟩:=h;obtain⟨b,off,rfl,hD,hb,hL⟩:=h4 (by omega)
 obtain⟨v,hc,s,A',a1,a0,rfl,h1,h2⟩:=hL i hi;exact⟨b,off,s,A',a1,a0,rfl,hb,hc 0 _ rfl,hc 1 _ rfl,h1,h2⟩
theorem DaS.take{l:List DaD}(h:DaS w D l A len cap){n:Nat}(hn:n<=l.length):DaS w D (l.take n) A n cap:=by
 obtain⟨h1,h2,h3,h4⟩:=h;refine⟨by rw[List.length_take];omega,by omega,h3,fun hp=>?_⟩
 obtain⟨b,off,hA,hD,hb,hL⟩:=h4 (by omega)
 refine⟨b,off,hA,hD,hb,fun i hi=>?_⟩
 have hi2:i<l.length:=by rw[List.length_take]at hi;omega
 obtain⟨v,h5,h6⟩:=hL i hi2;exact⟨v,h5,by rw[List.getElem_take];exact h6⟩
end
open Go.RowKit AC Go.ChangeShapes Go.WideShapes Go.Deep
theorem uzd{w:World}{a:Addr}{v:Value}(h:w.cell? a=some v):a.block<w.heap.size:=by
 rcases ah a.block w.heap.size with h1|h1
 ·exact h1
 ·unfold World.cell? at h
  rw[Array.getElem?_eq_none h1]at h;simp at h
theorem uk3{α:Type}{n:Nat}{P:Nat->α->Prop}(h:∀i,i<n->∃t,P i t):∃l:List α,l.length=n/\∀(i:Nat) (hi:i<l.length),P i l[i]:=by
 induction n with
 | zero=>exact⟨[],rfl,fun i hi=>absurd hi (by simp)⟩
 | succ n ih=>
  obtain⟨l,hl,hp⟩:=ih fun i hi=>h i (by omega)
  obtain⟨t,ht⟩:=h n (by omega)
  refine⟨l++[t],by simp[hl],fun i hi=>?_⟩
  rw[ay,List.length_singleton]at hi;rcases ah i l.length with h1|h1
  ·rw[List.getElem_append_left h1];exact hp i h1
  ·obtain rfl:i=l.length:=by omega
   rw[List.getElem_append_right ab];simp only[Nat.sub_self,List.getElem_cons_zero];rw[hl];exact ht
section
variable {H:Type} {enc:TypeId×Value->H} {W:World} {base:Nat} {spare:Nat->Bool} {held:Bool}
theorem ud9{t e:TypeId}{F sz:Nat}{cs:List Value}{x:DataW H×List MemPlace}(hu:Tryz.prog.underlying t=some (.slice e))(a3:Tryz.prog.cellsOf e=sz)(a4:0<sz)(hx:DataW.trod enc Tryz.prog W base spare held F t cs=some x) :
 ∃A len cap n,n<F/\cs=[.slice A len cap]/\len<=cap/\cap<=maxLen/\(0<len->∃b off,A=some ⟨b,off,none⟩/\b<W.heap.size/\∀i,i<len->∃u y,u.length=sz/\um W b (off+i*sz) u/\DataW.trod enc Tryz.prog W base spare held n e u=some y):=by
 have hF:0<F:=by
  rcases aK F with h|h
  ·subst h;simp[DataW.trod]at hx
  ·exact h
 rcases DataW.trod_slice hu hx with⟨rfl,_⟩|⟨a,len,cap,elems,rest,n,rfl,rfl,_,hb,hl,hm,hlen,hel,_,_⟩
 ·exact⟨none,0,0,0,hF,rfl,ab,Nat.zero_le _,fun h=>absurd h (by omega)⟩
 ·refine⟨some a,len,cap,n,by omega,rfl,hl,hm,fun h0=>?_⟩
  rw[a3]at hel;have key:∀i,i<len->∃u y,u.length=sz/\(∀j,j<sz->W.cell? ((a.add (i*sz)).add j)=u[j]?)/\DataW.trod enc Tryz.prog W base spare held n e u=some y:=by
   intro i hi;have h1:=hel i hi;rw[ai (by omega)]at h1
   obtain⟨u,a6,a7⟩:=Option.bind_eq_some_iff.1 h1;obtain⟨q1,q2,q3⟩:=World.cells?_some a6;exact⟨u,_,q2,q3,a7⟩
  obtain⟨u0,y0,a8,a1,_⟩:=key 0 h0;have h1:=a1 0 a4;rw[ai (by omega)]at h1
  have hs:a.spot=none:=by simpa[Addr.add]using World.cell?_spot h1
  obtain⟨b,o,a9⟩:=a;simp only at hs;subst hs;refine⟨b,o,rfl,by have:=uzd h1;simpa[Addr.add]using this,fun i hi=>?_⟩
  obtain⟨u,y,a0,a2,a5⟩:=key i hi;refine⟨u,y,a0,fun j z hz=>?_,a5⟩
  have hj:j<sz:=by rw[<-a0];exact(aI.1 hz).1
  have:=a2 j hj;rw[hz]at this;rw[Addr.add_lit,Addr.add_lit]at this;exact this
theorem uCi{w:World}{D:Nat->Prop}{A:Option Addr}{len cap:Nat}(hl:len<=cap)(hm:cap<=maxLen)(h:0<len->∃b off,A=some ⟨b,off,none⟩/\D b/\b<w.heap.size/\∀i,i<len->∃u t,um w b (off+i*3) u/\TrR w D t u):∃l,TrS w D l A len cap:=by
 rcases aK len with h0|h0
 ·subst h0
  exact⟨[],rfl,hl,hm,fun h=>absurd h (by omega)⟩
 ·obtain⟨b,off,hA,hD,hb,a0⟩:=h h0
  obtain⟨l,a1,hp⟩:=uk3 (n:=len) (P:=fun i t=>∃u,um w b (off+i*3) u/\TrR w D t u) fun i hi=>by
   obtain⟨u,t,h1,h2⟩:=a0 i hi;exact⟨t,u,h1,h2⟩
  exact⟨l,a1.symm,hl,hm,fun _=>⟨b,off,hA,hD,hb,TrL.of fun i hi=>hp i hi⟩⟩
theorem udf{k:IntKind}{n:Int}(h:(Lit.int k n).wf=true)(hk:k = .i64):rng n:=by
 subst hk;unfold rng;have:=bounds_i64 h;omega
set_option maxRecDepth 100000
theorem uk4:∀(N F:Nat),F<=N->∀(cs:List Value) (x:DataW H×List MemPlace),DataW.trod enc Tryz.prog W base spare held F 25 cs=some x->∃t,TrR W (fun _=>True) t cs
 | 0,F,hF,cs,x,hx=>by
  obtain rfl:F=0:=by omega
  simp[DataW.trod]at hx
 | N+1,F,hF,cs,x,hx=>by
  obtain⟨xs,n,rfl,_,hl,a1,hf⟩:=DataW.trod_struct Tryz.underlying25 hx;rw[show Tryz.prog.cellsOf 25=3 by kernel_rfl]at hl
  match xs,a1,cs,hl with
  | [y0,y1,y2],_,[c0,c1,c2],_=>
   have e0:=hf 0 _ rfl;have e1:=hf 1 _ rfl;have e2:=hf 2 _ rfl;simp only[show Tryz.prog.cellsOf 3=1 by kernel_rfl,show Tryz.prog.cellsOf 23=1 by kernel_rfl,List.drop_zero,List.take_succ_cons,List.take_zero,aC,List.getElem?_cons_zero,List.getElem?_cons_succ]at e0 e1 e2
   obtain⟨k,e3,_,hk⟩:=DataW.trod_int Tryz.underlying3 e0;obtain⟨m,e4,_,hm⟩:=DataW.trod_int Tryz.underlying3 e1;obtain⟨A,len,cap,n',a2,e5,h1,h2,h3⟩:=ud9 Tryz.underlying23 (sz:=3) (by kernel_rfl) (by decide) e2
   injection e3 with e3 _;injection e4 with e4 _;injection e5 with e5 _;subst e3;subst e4;subst e5;obtain⟨l,hS⟩:=uCi (D:=fun _=>True) h1 h2 fun h0=>by
    obtain⟨b,off,hA,hb,a0⟩:=h3 h0;refine⟨b,off,hA,trivial,hb,fun i hi=>?_⟩
    obtain⟨u,y,_,hc,hy⟩:=a0 i hi;obtain⟨t,ht⟩:=uk4 N n' (by omega) u y hy
    exact⟨u,t,hc,ht⟩
   refine⟨.n k m l,?_⟩;rw[TrR];exact⟨udf hk rfl,udf hm rfl,A,len,cap,rfl,hS⟩
set_option maxRecDepth 512
theorem umz{F:Nat}{cs:List Value}{x:DataW H×List MemPlace}(hx:DataW.trod enc Tryz.prog W base spare held F 23 cs=some x):∃A len cap l,cs=[.slice A len cap]/\TrS W (fun _=>True) l A len cap:=by
 obtain⟨A,len,cap,n',a1,e5,h1,h2,h3⟩:=ud9 Tryz.underlying23 (sz:=3) (by kernel_rfl) (by decide) hx
 obtain⟨l,hS⟩:=uCi (D:=fun _=>True) h1 h2 fun h0=>by
  obtain⟨b,off,hA,hb,a0⟩:=h3 h0;refine⟨b,off,hA,trivial,hb,fun i hi=>?_⟩
  obtain⟨u,y,_,hc,hy⟩:=a0 i hi;obtain⟨t,ht⟩:=uk4 n' n' ab u y hy;exact⟨u,t,hc,ht⟩
 exact⟨A,len,cap,l,e5,hS⟩
set_option maxRecDepth 100000
theorem uze{F:Nat}{cs:List Value}{x:DataW H×List MemPlace}(hx:DataW.trod enc Tryz.prog W base spare held F 202 cs=some x):∃c,CoR W (fun _=>True) c cs:=by
 obtain⟨xs,n,rfl,_,hl,a0,hf⟩:=DataW.trod_struct Tryz.underlying202 hx;rw[show Tryz.prog.cellsOf 202=2 by kernel_rfl]at hl
 match xs,a0,cs,hl with
 | [y0,y1],_,[c0,c1],_=>
  have e0:=hf 0 _ rfl;have e1:=hf 1 _ rfl;simp only[show Tryz.prog.cellsOf 9=1 by kernel_rfl,show Tryz.prog.cellsOf 23=1 by kernel_rfl,List.drop_zero,List.take_succ_cons,List.take_zero,aC,List.getElem?_cons_zero,List.getElem?_cons_succ]at e0 e1
  obtain⟨s,e3,_,_⟩:=DataW.trod_string Tryz.underlying9 e0;obtain⟨A,len,cap,l,e4,hS⟩:=umz e1;injection e3 with e3 _;injection e4 with e4 _;subst e3;subst e4;exact⟨⟨s.data.toList,l⟩,s,A,len,cap,rfl,rfl,hS⟩
theorem uu5{F:Nat}{cs:List Value}{x:DataW H×List MemPlace}(hx:DataW.trod enc Tryz.prog W base spare held F 200 cs=some x):∃d,DaR W (fun _=>True) d cs:=by
 obtain⟨xs,n,rfl,_,hl,a2,hf⟩:=DataW.trod_struct Tryz.underlying200 hx;rw[show Tryz.prog.cellsOf 200=3 by kernel_rfl]at hl
 match xs,a2,cs,hl with
 | [y0,y1,y2],_,[c0,c1,c2],_=>
  have e0:=hf 0 _ rfl;have e1:=hf 1 _ rfl;have e2:=hf 2 _ rfl;simp only[show Tryz.prog.cellsOf 9=1 by kernel_rfl,show Tryz.prog.cellsOf 3=1 by kernel_rfl,show Tryz.prog.cellsOf 198=1 by kernel_rfl,List.drop_zero,List.take_succ_cons,List.take_zero,aC,List.getElem?_cons_zero,List.getElem?_cons_succ]at e0 e1 e2
  obtain⟨s,e3,_,_⟩:=DataW.trod_string Tryz.underlying9 e0;obtain⟨m,e4,_,hm⟩:=DataW.trod_int Tryz.underlying3 e1;obtain⟨A,len,cap,n',a4,e5,h1,h2,h3⟩:=ud9 Tryz.underlying198 (sz:=2) (by kernel_rfl) (by decide) e2
  injection e3 with e3 _;injection e4 with e4 _;injection e5 with e5 _;subst e3;subst e4;subst e5;have hS:∃l,CoS W (fun _=>True) l A len cap:=by
   rcases aK len with h0|h0
   ·subst h0
    exact⟨[],rfl,h1,h2,fun h=>absurd h (by omega)⟩
   ·obtain⟨b,off,hA,hb,a1⟩:=h3 h0
    obtain⟨l,a3,hp⟩:=uk3 (n:=len) (P:=fun i c=>∃u,um W b (off+i*2) u/\CoR W (fun _=>True) c u) fun i hi=>by
     obtain⟨u,y,_,hc,hy⟩:=a1 i hi;obtain⟨c,a0⟩:=uze hy;exact⟨c,u,hc,a0⟩
    exact⟨l,a3.symm,h1,h2,fun _=>⟨b,off,hA,trivial,hb,hp⟩⟩
  obtain⟨l,hS⟩:=hS;exact⟨⟨s.data.toList,m,l⟩,s,A,len,cap,rfl,rfl,udf hm rfl,hS⟩
set_option maxRecDepth 512
theorem us9{F:Nat}{cs:List Value}{x:DataW H×List MemPlace}(hx:DataW.trod enc Tryz.prog W base spare held F 22 cs=some x):∃A len cap l,cs=[.slice A len cap]/\DaS W (fun _=>True) l A len cap:=by
 obtain⟨A,len,cap,n',a3,e5,h1,h2,h3⟩:=ud9 Tryz.underlying22 (sz:=3) (by kernel_rfl) (by decide) hx
 rcases aK len with h0|h0
 ·subst h0
  exact⟨A,0,cap,[],e5,rfl,h1,h2,fun h=>absurd h (by omega)⟩
 ·obtain⟨b,off,hA,hb,a1⟩:=h3 h0
  obtain⟨l,a2,hp⟩:=uk3 (n:=len) (P:=fun i c=>∃u,um W b (off+i*3) u/\DaR W (fun _=>True) c u) fun i hi=>by
   obtain⟨u,y,_,hc,hy⟩:=a1 i hi;obtain⟨c,a0⟩:=uu5 hy;exact⟨c,u,hc,a0⟩
  exact⟨A,len,cap,l,e5,a2.symm,h1,h2,fun _=>⟨b,off,hA,trivial,hb,hp⟩⟩
end
structure IsOrd {α:Type} (f:α->α->Int):Prop where
 eq:∀a b,f a b=0↔a=b
 anti:∀a b,f a b<0↔0<f b a
 trans:∀a b c,f a b<0->f b c<0->f a c<0
namespace IsOrd
variable {α β:Type} {f:α->α->Int} {g:β->β->Int}
theorem refl(h:IsOrd f)(a:α):f a a=0:=(h.eq a a).2 rfl
theorem gt(h:IsOrd f){a b:α}(a0:0<f a b):f b a<0:=(h.anti b a).2 a0
end IsOrd
def uai(a b:Int):Int:=if a<b then -1 else if b<a then 1 else 0
theorem uji:IsOrd uai where
 eq a b:=by unfold uai;split<;>(try split)<;>constructor<;>intro h<;>omega
 anti a b:=by unfold uai;split<;>(try split)<;>(try split)<;>omega
 trans a b c:=by unfold uai;split<;>(try split)<;>(try split)<;>(try split)<;>(try split)<;>omega
def orC(x y:Int):Int:=if x≠0 then x else y
theorem ug5{x y:Int}:orC x y<0↔x<0\/x=0/\y<0:=by unfold orC;split<;>omega
theorem uqx{x y:Int}:0<orC x y↔0<x\/x=0/\0<y:=by unfold orC;split<;>omega
theorem um0{x y:Int}:orC x y=0↔x=0/\y=0:=by unfold orC;split<;>omega
def cmpL{α:Type}(f:α->α->Int):List α->List α->Int
 | [],[]=>0
 | [],_::_=> -1
 | _::_,[]=>1
 | x::l,y::m=>orC (f x y) (cmpL f l m)
theorem IsOrd.list{α:Type}{f:α->α->Int}(h:IsOrd f):IsOrd (cmpL f) where
 eq:=by
  intro a;induction a with
  | nil=>intro b;cases b<;>simp[cmpL]
  | cons x l ih=>
   intro b;cases b with
   | nil=>simp[cmpL]
   | cons y m=>rw[cmpL,um0,h.eq,ih,List.cons.injEq]
 anti:=by
  intro a;induction a with
  | nil=>intro b;cases b<;>simp[cmpL]
  | cons x l ih=>
   intro b;cases b with
   | nil=>simp[cmpL]
   | cons y m=>
    rw[cmpL,cmpL,ug5,uqx,h.anti,ih];have:=h.eq x y;have:=h.eq y x;constructor
    ·rintro(h1|⟨h1,h2⟩)
     ·exact .inl h1
     ·exact .inr ⟨(h.eq y x).2 ((h.eq x y).1 h1).symm,h2⟩
    ·rintro(h1|⟨h1,h2⟩)
     ·exact .inl h1
     ·exact .inr ⟨(h.eq x y).2 ((h.eq y x).1 h1).symm,h2⟩
 trans:=by
  intro a;induction a with
  | nil=>
   intro b c h1 h2;cases b with
   | nil=>exact h2
   | cons y m=>
    cases c with
    | nil=>simp[cmpL]at h2
    | cons z n=>simp[cmpL]
  | cons x l ih=>
   intro b c h1 h2;cases b with
   | nil=>simp[cmpL]at h1
   | cons y m=>
    cases c with
    | nil=>simp[cmpL]at h2
    | cons z n=>
     rw[cmpL,ug5]at h1 h2 ⊢;rcases h1 with h1|⟨h1,h3⟩<;>rcases h2 with h2|⟨h2,h4⟩
     ·exact .inl (h.trans _ _ _ h1 h2)
     ·rw[<-(h.eq y z).1 h2];exact .inl h1
     ·rw[(h.eq x y).1 h1];exact .inl h2
     ·exact .inr ⟨by rw[(h.eq x y).1 h1];exact h2,ih _ _ h3 h4⟩
theorem IsOrd.lex{α β:Type}{f:α->α->Int}{g:β->β->Int}(hf:IsOrd f)(hg:IsOrd g):IsOrd fun(a b:α×β)=>orC (f a.1 b.1) (g a.2 b.2) where
 eq a b:=by rw[um0,hf.eq,hg.eq,Prod.ext_iff]
 anti a b:=by
  rw[ug5,uqx,hf.anti,hg.anti];constructor
  ·rintro(h1|⟨h1,h2⟩)
   ·exact .inl h1
   ·exact .inr ⟨(hf.eq _ _).2 ((hf.eq _ _).1 h1).symm,h2⟩
  ·rintro(h1|⟨h1,h2⟩)
   ·exact .inl h1
   ·exact .inr ⟨(hf.eq _ _).2 ((hf.eq _ _).1 h1).symm,h2⟩
 trans a b c h1 h2:=by
  rw[ug5]at h1 h2 ⊢;rcases h1 with h1|⟨h1,h3⟩<;>rcases h2 with h2|⟨h2,h4⟩
  ·exact .inl (hf.trans _ _ _ h1 h2)
  ·rw[<-(hf.eq _ _).1 h2];exact .inl h1
  ·rw[(hf.eq _ _).1 h1];exact .inl h2
  ·exact .inr ⟨by rw[(hf.eq _ _).1 h1];exact h2,hg.trans _ _ _ h3 h4⟩
theorem IsOrd.by{α β:Type}{g:β->β->Int}(hg:IsOrd g)(m:α->β)(hm:∀a b,m a=m b->a=b):IsOrd fun a b=>g (m a) (m b) where
 eq a b:=by rw[hg.eq];exact⟨hm a b,fun h=>by rw[h]⟩
 anti a b:=hg.anti _ _
 trans a b c:=hg.trans _ _ _
inductive Ix where
 | n (k:Int) (l:List Ix)
mutual
def uk5:Ix->Ix->Int
 | .n a l,.n b m=>orC (orC (uai a b) (uai l.length m.length)) (vCa l m)
def vCa:List Ix->List Ix->Int
 | [],[]=>0
 | [],_::_=> -1
 | _::_,[]=>1
 | x::l,y::m=>orC (uk5 x y) (vCa l m)
end
theorem uer:∀l m:List Ix,vCa l m=cmpL uk5 l m
 | [],[]=>by rw[vCa,cmpL]
 | [],_::_=>by rw[vCa,cmpL]
 | _::_,[]=>by rw[vCa,cmpL]
 | x::l,y::m=>by rw[vCa,cmpL,uer l m]
mutual
def Ix.sz:Ix->Nat
 | .n _ l=>szs l+1
def szs:List Ix->Nat
 | []=>0
 | x::l=>x.sz+szs l
end
structure vCx {α:Type} (p:α->Prop) (f:α->α->Int):Prop where
 eq:∀a b,p a->p b->(f a b=0↔a=b)
 anti:∀a b,p a->p b->(f a b<0↔0<f b a)
 trans:∀a b c,p a->p b->p c->f a b<0->f b c<0->f a c<0
theorem vCx.list{α:Type}{p:α->Prop}{f:α->α->Int}(h:vCx p f):vCx (fun l=>∀x∈l,p x) (cmpL f) where
 eq:=by
  intro a;induction a with
  | nil=>intro b _ _;cases b<;>simp[cmpL]
  | cons x l ih=>
   intro b ha hb;cases b with
   | nil=>simp[cmpL]
   | cons y m=>rw[cmpL,um0,h.eq x y (ha x (by simp)) (hb y (by simp)),ih m (fun z hz=>ha z (by simp[hz])) (fun z hz=>hb z (by simp[hz])),List.cons.injEq]
 anti:=by
  intro a;induction a with
  | nil=>intro b _ _;cases b<;>simp[cmpL]
  | cons x l ih=>
   intro b ha hb;cases b with
   | nil=>simp[cmpL]
   | cons y m=>
    have px:=ha x (by simp)
    have py:=hb y (by simp)
    rw[cmpL,cmpL,ug5,uqx,h.anti x y px py,ih m (fun z hz=>ha z (by simp[hz])) (fun z hz=>hb z (by simp[hz]))]
    constructor
    ·rintro(h1|⟨h1,h2⟩)
     ·exact .inl h1
     ·exact .inr ⟨(h.eq y x py px).2 ((h.eq x y px py).1 h1).symm,h2⟩
    ·rintro(h1|⟨h1,h2⟩)
     ·exact .inl h1
     ·exact .inr ⟨(h.eq x y px py).2 ((h.eq y x py px).1 h1).symm,h2⟩
 trans:=by
  intro a;induction a with
  | nil=>
   intro b c _ _ _ h1 h2;cases b with
   | nil=>exact h2
   | cons y m=>
    cases c with
    | nil=>simp[cmpL]at h2
    | cons z n=>simp[cmpL]
  | cons x l ih=>
   intro b c ha hb hc h1 h2;cases b with
   | nil=>simp[cmpL]at h1
   | cons y m=>
    cases c with
    | nil=>simp[cmpL]at h2
    | cons z n=>
     have px:=ha x (by simp)
     have py:=hb y (by simp)
     have pz:=hc z (by simp)
     rw[cmpL,ug5]at h1 h2 ⊢;rcases h1 with h1|⟨h1,h3⟩<;>rcases h2 with h2|⟨h2,h4⟩
     ·exact .inl (h.trans _ _ _ px py pz h1 h2)
     ·rw[<-(h.eq y z py pz).1 h2];exact .inl h1
     ·rw[(h.eq x y px py).1 h1];exact .inl h2
     ·exact .inr ⟨by rw[(h.eq x y px py).1 h1];exact h2,ih _ _ (fun z hz=>ha z (by simp[hz])) (fun z hz=>hb z (by simp[hz])) (fun z hz=>hc z (by simp[hz])) h3 h4⟩
theorem uge:∀ {l:List Ix} {x:Ix},x∈l->x.sz<=szs l
 | y::l,x,h=>by
  rw[szs];rcases List.mem_cons.1 h with rfl|h
  ·omega
  ·have:=uge h;omega
theorem uk6:∀n:Nat,vCx (fun x:Ix=>x.sz<=n) uk5
 | 0=>⟨fun a _ h=>by cases a;rw[Ix.sz]at h;omega,fun a _ h=>by cases a;rw[Ix.sz]at h;omega,fun a _ _ h=>by cases a;rw[Ix.sz]at h;omega⟩
 | n+1=>by
  have ih:=(uk6 n).list;have hk:∀ {k:Int} {l:List Ix},(Ix.n k l).sz<=n+1->∀x∈l,x.sz<=n:=fun h x hx=>by
   rw[Ix.sz]at h;have:=uge hx;omega
  refine⟨fun a b ha hb=>?_,fun a b ha hb=>?_,fun a b c ha hb hc h1 h2=>?_⟩
  ·obtain⟨k,l⟩:=a
   obtain⟨k',l'⟩:=b;rw[uk5,um0,um0,uji.eq,uer,ih.eq l l' (hk ha) (hk hb)];constructor
   ·rintro⟨⟨rfl,_⟩,rfl⟩;rfl
   ·intro h
    injection h with h1 h2;subst h1;subst h2;exact⟨⟨rfl,uji.refl _⟩,rfl⟩
  ·obtain⟨k,l⟩:=a
   obtain⟨k',l'⟩:=b;rw[uk5,uk5,uer,uer];have e1:=(uji.lex uji).anti (k,(l.length:Int)) (k',(l'.length:Int));have e2:=(uji.lex uji).eq (k,(l.length:Int)) (k',(l'.length:Int));have e3:=(uji.lex uji).eq (k',(l'.length:Int)) (k,(l.length:Int));have e4:=ih.anti l l' (hk ha) (hk hb);simp only at e1 e2 e3;rw[ug5,uqx,e1,e4];constructor
   ·rintro(h1|⟨h1,h2⟩)
    ·exact .inl h1
    ·exact .inr ⟨e3.2 (e2.1 h1).symm,h2⟩
   ·rintro(h1|⟨h1,h2⟩)
    ·exact .inl h1
    ·exact .inr ⟨e2.2 (e3.1 h1).symm,h2⟩
  ·obtain⟨k,l⟩:=a
   obtain⟨k',l'⟩:=b;obtain⟨a0,a1⟩:=c;rw[uk5,uer,ug5]at h1 h2 ⊢;have t:=(uji.lex uji).trans (k,(l.length:Int)) (k',(l'.length:Int)) (a0,(a1.length:Int));have e1:=(uji.lex uji).eq (k,(l.length:Int)) (k',(l'.length:Int));have e2:=(uji.lex uji).eq (k',(l'.length:Int)) (a0,(a1.length:Int));simp only at t e1 e2;rcases h1 with h1|⟨h1,h3⟩<;>rcases h2 with h2|⟨h2,h4⟩
   ·exact .inl (t h1 h2)
   ·have:=e2.1 h2
    simp only[Prod.mk.injEq]at this;rw[<-this.1,<-this.2];exact .inl h1
   ·have:=e1.1 h1
    simp only[Prod.mk.injEq]at this;rw[this.1,this.2];exact .inl h2
   ·have:=e1.1 h1
    simp only[Prod.mk.injEq]at this;refine .inr ⟨by rw[this.1,this.2];exact h2,ih.trans _ _ _ (hk ha) (hk hb) (hk hc) h3 h4⟩
theorem uJ2:IsOrd uk5 where
 eq a b:=(uk6 (max a.sz b.sz)).eq a b (Nat.le_max_left _ _) (Nat.le_max_right _ _)
 anti a b:=(uk6 (max a.sz b.sz)).anti a b (Nat.le_max_left _ _) (Nat.le_max_right _ _)
 trans a b c:=(uk6 (max (max a.sz b.sz) c.sz)).trans a b c (by omega) (by omega) (by omega)
structure Fac where
 v:Int
 i:Ix
structure Lin where
 c:Int
 ts:List (Int×Int)
structure Ato where
 l:Lin
 d:Int
structure Mon where
 fs:List Fac
 ats:List Ato
def uyt(f g:Fac):Int:=orC (uai f.v g.v) (uk5 f.i g.i)
def ubp(l m:Lin):Int:=if uai l.ts.length m.ts.length≠0 then uai l.ts.length m.ts.length else orC (cmpL (fun a b=>orC (uai a.1 b.1) (uai a.2 b.2)) l.ts m.ts) (uai l.c m.c)
def uFt(a b:Ato):Int:=orC (ubp a.l b.l) (uai a.d b.d)
def uc9(m n:Mon):Int:=if uai m.fs.length n.fs.length≠0 then uai m.fs.length n.fs.length else if orC (cmpL uyt m.fs n.fs) (uai m.ats.length n.ats.length)≠0 then orC (cmpL uyt m.fs n.fs) (uai m.ats.length n.ats.length)else cmpL uFt m.ats n.ats
theorem uJ3:IsOrd uyt:=(uji.lex uJ2).by (fun f:Fac=>(f.v,f.i)) fun a b h=>by
 cases a;cases b;simp only[Prod.mk.injEq]at h;rw[h.1,h.2]
theorem uF9:IsOrd ubp:=by
 have h:=(uji.lex ((uji.lex uji).list.lex uji)).by (fun l:Lin=>((l.ts.length:Int),l.ts,l.c)) fun a b h=>by
  cases a;cases b;simp only[Prod.mk.injEq]at h;rw[h.2.1,h.2.2]
 exact h
theorem uJ4:IsOrd uFt:=(uF9.lex uji).by (fun a:Ato=>(a.l,a.d)) fun a b h=>by
 cases a;cases b;simp only[Prod.mk.injEq]at h;rw[h.1,h.2]
theorem uu6:IsOrd uc9:=by
 have h:=(uji.lex ((uJ3.list.lex uji).lex uJ4.list)).by (fun m:Mon=>((m.fs.length:Int),(m.fs,(m.ats.length:Int)),m.ats)) fun a b h=>by
  cases a;cases b;simp only[Prod.mk.injEq]at h;rw[h.2.1.1,h.2.2]
 exact h
abbrev Pol:=List (Mon×Rat)
def cf:Pol->Mon->Rat
 | [],_=>0
 | (n,a)::p,m=>if uc9 n m=0 then a else cf p m
def Asc:Pol->Prop
 | []=>True
 | x::p=>(∀y∈p,uc9 x.1 y.1<0)/\Asc p
theorem ue6:∀ {p:Pol} {m:Mon},(∀y∈p,y.1≠m)->cf p m=0
 | [],m,h=>rfl
 | (n,a)::p,m,h=>by
  rw[cf,if_neg (fun e=>h (n,a) (by simp) ((uu6.eq _ _).1 e)),ue6 fun y hy=>h y (by simp[hy])]
theorem uIe{m n:Mon}(h:uc9 m n<0):m≠n:=fun e=>by rw[e,uu6.refl]at h;omega
theorem uIf{m n:Mon}(h:uc9 n m<0):m≠n:=fun e=>by rw[e,uu6.refl]at h;omega
theorem uco(n:Mon)(a:Rat)(p:Pol):cf ((n,a)::p) n=a:=by rw[cf,if_pos (uu6.refl n)]
theorem ua0{n m:Mon}(a:Rat)(p:Pol)(h:n≠m):cf ((n,a)::p) m=cf p m:=by rw[cf,if_neg fun e=>h ((uu6.eq _ _).1 e)]
theorem uk7{p:Pol}{m:Mon}(h:∀y∈p,uc9 m y.1<0):cf p m=0:=ue6 fun y hy=>uIf (h y hy)
def put(m:Mon)(c:Rat)(p:Pol):Pol:=if c=0 then p else(m,c)::p
theorem uig{m:Mon}{c:Rat}{p:Pol}{y:Mon×Rat}(h:y∈put m c p):y=(m,c)\/y∈p:=by
 unfold put at h;split at h
 ·exact .inr h
 ·exact List.mem_cons.1 h
theorem uca(m:Mon)(c:Rat)(p:Pol)(hp:∀y∈p,uc9 m y.1<0):cf (put m c p) m=c:=by
 unfold put;by_cases h:c=0
 ·rw[if_pos h,uk7 hp,h]
 ·rw[if_neg h,uco]
theorem ubq{m n:Mon}(c:Rat)(p:Pol)(e:n≠m):cf (put m c p) n=cf p n:=by
 unfold put;by_cases h:c=0
 ·rw[if_pos h]
 ·rw[if_neg h,ua0 _ _ (fun e'=>e e'.symm)]
theorem Asc.put{m:Mon}{c:Rat}{p:Pol}(h:Asc p)(hp:∀y∈p,uc9 m y.1<0):Asc (put m c p):=by
 unfold Go.Proofs.YtnbbpmagijpmpaaGreatDoor.put;split
 ·exact h
 ·exact⟨hp,h⟩
def mrg(ch:Rat->Rat->Rat):Pol->Pol->Pol
 | [],[]=>[]
 | (m,a)::p,[]=>put m (ch a 0) (mrg ch p [])
 | [],(n,b)::q=>put n (ch 0 b) (mrg ch [] q)
 | (m,a)::p,(n,b)::q=>if uc9 m n<0 then put m (ch a 0) (mrg ch p ((n,b)::q))else if 0<uc9 m n then put n (ch 0 b) (mrg ch ((m,a)::p) q)else put m (ch a b) (mrg ch p q)
termination_by p q=>p.length+q.length
theorem ugf(ch:Rat->Rat->Rat):∀(n:Nat) (p q:Pol),p.length+q.length<=n->∀y∈mrg ch p q,(∃x∈p,x.1=y.1)\/∃x∈q,x.1=y.1
 | 0,[],[],_,y,h=>by rw[mrg]at h;cases h
 | 0,_::_,_,h,_,_=>by simp at h
 | 0,[],_::_,h,_,_=>by simp at h
 | n+1,[],[],_,y,h=>by rw[mrg]at h;cases h
 | n+1,(m,a)::p,[],hn,y,h=>by
  rw[mrg]at h;rcases uig h with rfl|h
  ·exact .inl ⟨(m,a),by simp,rfl⟩
  ·rcases ugf ch n p [] (by simp at hn ⊢;omega) y h with⟨x,h1,h2⟩|⟨x,h1,_⟩
   ·exact .inl ⟨x,by simp[h1],h2⟩
   ·cases h1
 | n+1,[],(k,b)::q,hn,y,h=>by
  rw[mrg]at h;rcases uig h with rfl|h
  ·exact .inr ⟨(k,b),by simp,rfl⟩
  ·rcases ugf ch n [] q (by simp at hn ⊢;omega) y h with⟨x,h1,_⟩|⟨x,h1,h2⟩
   ·cases h1
   ·exact .inr ⟨x,by simp[h1],h2⟩
 | n+1,(m,a)::p,(k,b)::q,hn,y,h=>by
  rw[mrg]at h;split at h
  ·rcases uig h with rfl|h
   ·exact .inl ⟨(m,a),by simp,rfl⟩
   ·rcases ugf ch n p _ (by simp at hn ⊢;omega) y h with⟨x,h1,h2⟩|h
    ·exact .inl ⟨x,by simp[h1],h2⟩
    ·exact .inr h
  ·split at h
   ·rcases uig h with rfl|h
    ·exact .inr ⟨(k,b),by simp,rfl⟩
    ·rcases ugf ch n _ q (by simp at hn ⊢;omega) y h with h|⟨x,h1,h2⟩
     ·exact .inl h
     ·exact .inr ⟨x,by simp[h1],h2⟩
   ·rcases uig h with rfl|h
    ·exact .inl ⟨(m,a),by simp,rfl⟩
    ·rcases ugf ch n p q (by simp at hn ⊢;omega) y h with⟨x,h1,h2⟩|⟨x,h1,h2⟩
     ·exact .inl ⟨x,by simp[h1],h2⟩
     ·exact .inr ⟨x,by simp[h1],h2⟩
theorem uea{ch:Rat->Rat->Rat}{p q:Pol}{m:Mon}(hp:∀x∈p,uc9 m x.1<0)(hq:∀x∈q,uc9 m x.1<0):∀y∈mrg ch p q,uc9 m y.1<0:=fun y hy=>by
 rcases ugf ch _ p q ab y hy with⟨x,h1,h2⟩|⟨x,h1,h2⟩
 ·rw[<-h2];exact hp x h1
 ·rw[<-h2];exact hq x h1
theorem Asc.less{m n:Mon}{b:Rat}{q:Pol}(h:Asc ((n,b)::q))(a0:uc9 m n<0):∀x∈(n,b)::q,uc9 m x.1<0:=fun x hx=>by
 rcases List.mem_cons.1 hx with rfl|hx
 ·exact a0
 ·exact uu6.trans _ _ _ a0 (h.1 x hx)
theorem ug6{ch:Rat->Rat->Rat}(h0:ch 0 0=0):∀(n:Nat) (p q:Pol),p.length+q.length<=n->Asc p->Asc q->Asc (mrg ch p q)/\∀x,cf (mrg ch p q) x=ch (cf p x) (cf q x)
 | 0,[],[],_,_,_=>by rw[mrg];exact⟨trivial,fun x=>h0.symm⟩
 | 0,_::_,_,h,_,_=>by simp at h
 | 0,[],_::_,h,_,_=>by simp at h
 | n+1,[],[],_,_,_=>by rw[mrg];exact⟨trivial,fun x=>h0.symm⟩
 | n+1,(m,a)::p,[],hn,hp,hq=>by
  obtain⟨h1,h2⟩:=ug6 h0 n p [] (by simp at hn ⊢;omega) hp.2 trivial
  have hb:=uea (ch:=ch) hp.1 (fun x hx=>by cases hx) (q:=[])
  rw[mrg];refine⟨h1.put hb,fun x=>?_⟩
  skip
  by_cases e:x=m
  ·rw[e,uca _ _ _ hb,uco];rfl
  ·rw[ubq _ _ e,h2,ua0 _ _ fun e'=>e e'.symm]
 | n+1,[],(k,b)::q,hn,hp,hq=>by
  obtain⟨h1,h2⟩:=ug6 h0 n [] q (by simp at hn ⊢;omega) trivial hq.2
  have hb:=uea (ch:=ch) (fun x hx=>by cases hx) hq.1 (p:=[])
  rw[mrg];refine⟨h1.put hb,fun x=>?_⟩
  skip
  by_cases e:x=k
  ·rw[e,uca _ _ _ hb,uco];rfl
  ·rw[ubq _ _ e,h2,ua0 _ _ fun e'=>e e'.symm]
 | n+1,(m,a)::p,(k,b)::q,hn,hp,hq=>by
  rw[mrg];split
  ·rename_i hlt
   obtain⟨h1,h2⟩:=ug6 h0 n p ((k,b)::q) (by simp at hn ⊢;omega) hp.2 hq
   have a1:=hq.less hlt;have hb:=uea (ch:=ch) hp.1 a1;refine⟨h1.put hb,fun x=>?_⟩
   skip
   by_cases e:x=m
   ·rw[e,uca _ _ _ hb,uco,uk7 a1]
   ·rw[ubq _ _ e,h2,ua0 _ p fun e'=>e e'.symm]
  ·rename_i hlt
   split
   ·rename_i hgt
    obtain⟨h1,h2⟩:=ug6 h0 n ((m,a)::p) q (by simp at hn ⊢;omega) hp hq.2
    have a0:=hp.less (uu6.gt hgt);have hb:=uea (ch:=ch) a0 hq.1;refine⟨h1.put hb,fun x=>?_⟩
    skip
    by_cases e:x=k
    ·rw[e,uca _ _ _ hb,uco,uk7 a0]
    ·rw[ubq _ _ e,h2,ua0 _ q fun e'=>e e'.symm]
   ·rename_i hgt
    have e0:m=k:=(uu6.eq _ _).1 (by omega)
    subst e0;obtain⟨h1,h2⟩:=ug6 h0 n p q (by simp at hn ⊢;omega) hp.2 hq.2
    have hb:=uea (ch:=ch) hp.1 hq.1;refine⟨h1.put hb,fun x=>?_⟩
    skip
    by_cases e:x=m
    ·rw[e,uca _ _ _ hb,uco,uco]
    ·rw[ubq _ _ e,h2,ua0 _ p fun e'=>e e'.symm,ua0 _ q fun e'=>e e'.symm]
def Dom(r a:Pol):Prop:=∀x,cf a x<=cf r x
theorem Dom.trans{a b c:Pol}(h:Dom a b)(h':Dom b c):Dom a c:=fun x=>Rat.le_trans (h' x) (h x)
def chJ(a b:Rat):Rat:=if a<b then b else a
def chM(a b:Rat):Rat:=if b<a then b else a
theorem uIg(a b:Rat):a<=chJ a b:=by unfold chJ;split<;>first|exact Rat.le_refl|(apply Rat.le_of_lt;assumption)
theorem uIh(a b:Rat):b<=chJ a b:=by unfold chJ;split<;>first|exact Rat.le_refl|(rename_i h;exact Rat.not_lt.1 h)
theorem uIi(a b:Rat):chM a b<=a:=by unfold chM;split<;>first|exact Rat.le_refl|(apply Rat.le_of_lt;assumption)
theorem uIj(a b:Rat):chM a b<=b:=by unfold chM;split<;>first|exact Rat.le_refl|(rename_i h;exact Rat.not_lt.1 h)
theorem uzf{p q:Pol}(hp:Asc p)(hq:Asc q):Asc (mrg chJ p q)/\Dom (mrg chJ p q) p/\Dom (mrg chJ p q) q:=by
 obtain⟨h1,h2⟩:=ug6 (ch:=chJ) (by simp[chJ]) _ p q ab hp hq
 exact⟨h1,fun x=>by rw[h2];exact uIg _ _,fun x=>by rw[h2];exact uIh _ _⟩
theorem uzg{p q:Pol}(hp:Asc p)(hq:Asc q):Asc (mrg chM p q)/\Dom p (mrg chM p q)/\Dom q (mrg chM p q):=by
 obtain⟨h1,h2⟩:=ug6 (ch:=chM) (by simp[chM]) _ p q ab hp hq
 exact⟨h1,fun x=>by rw[h2];exact uIi _ _,fun x=>by rw[h2];exact uIj _ _⟩
theorem uGa{a b c d:Rat}(h:a<=b)(h':c<=d):a+c<=b+d:=Rat.le_trans (Rat.add_le_add_right.2 h) (Rat.add_le_add_left.2 h')
def sm(p:Mon->Bool):Pol->Rat
 | []=>0
 | (m,a)::l=>(if p m=true then a else 0)+sm p l
def Dif:Pol->Prop
 | []=>True
 | x::p=>(∀y∈p,x.1≠y.1)/\Dif p
theorem Asc.dif:∀ {p:Pol},Asc p->Dif p
 | [],_=>trivial
 | x::p,h=>⟨fun y hy=>uIe (h.1 y hy),h.2.dif⟩
theorem um1(f:Mon->Bool):∀(a b:Pol),sm f (a++b)=sm f a+sm f b
 | [],b=>by rw[List.nil_append,sm,Rat.zero_add]
 | (m,c)::a,b=>by rw[List.cons_append,sm,sm,um1 f a b,Rat.add_assoc]
theorem uu7:∀ {a b:Pol} {n m:Mon} {c:Rat},n≠m->cf (a++(n,c)::b) m=cf (a++b) m
 | [],b,n,m,c,h=>ua0 _ _ h
 | (k,d)::a,b,n,m,c,h=>by
  rw[List.cons_append,List.cons_append,cf,cf,uu7 h]
theorem uqy:∀ {r:Pol} {m:Mon},Dif r->(∀y∈r,y.1≠m)\/∃a b d,r=a++(m,d)::b/\cf r m=d/\Dif (a++b)/\∀y∈a++b,y.1≠m
 | [],m,_=> .inl fun y hy=>by cases hy
 | (k,d)::r,m,h=>by
  by_cases e:k=m
  ·subst e
   exact .inr ⟨[],r,d,rfl,uco _ _ _,h.2,fun y hy=>(h.1 y hy).symm⟩
  ·rcases uqy (r:=r) (m:=m) h.2 with h1|⟨a,b,d',rfl,h2,h3,h4⟩
   ·exact .inl fun y hy=>by
     rcases List.mem_cons.1 hy with rfl|hy
     ·exact e
     ·exact h1 y hy
   ·refine .inr ⟨(k,d)::a,b,d',rfl,by rw[ua0 _ _ e,h2],⟨fun y hy=>h.1 y ?_,h3⟩,fun y hy=>?_⟩
    ·rcases List.mem_append.1 hy with hy|hy
     ·simp[hy]
     ·simp[hy]
    ·rcases List.mem_cons.1 hy with rfl|hy
     ·exact e
     ·exact h4 y hy
theorem um2(f:Mon->Bool):∀ {r:Pol},(∀y∈r,0<=y.2)->0<=sm f r
 | [],_=>Rat.le_refl
 | (m,a)::r,h=>by
  rw[sm];have h1:=um2 f (r:=r) fun y hy=>h y (by simp[hy])
  have h2:0<=(if f m=true then a else 0):=by
   split
   ·exact h (m,a) (by simp)
   ·exact Rat.le_refl
  exact Rat.add_nonneg h2 h1
theorem uCj:∀ {r:Pol},Dif r->∀y∈r,cf r y.1=y.2
 | (m,a)::r,h,y,hy=>by
  rcases List.mem_cons.1 hy with rfl|hy
  ·exact uco _ _ _
  ·rw[ua0 _ _ (h.1 y hy),uCj h.2 y hy]
theorem uu8(f:Mon->Bool):∀(a r:Pol),Dif a->Dif r->Dom r a->sm f a<=sm f r
 | [],r,_,hr,hd=>by
  rw[sm];exact um2 f fun y hy=>by
   have:=hd y.1;rw[uCj hr y hy]at this;exact this
 | (m,c)::a,r,ha,hr,hd=>by
  have hm:=hd m;rw[uco]at hm;have a1:∀y∈a,y.1≠m:=fun y hy=>(ha.1 y hy).symm
  rcases uqy (m:=m) hr with h1|⟨r1,r2,d,rfl,h2,h3,h4⟩
  ·rw[ue6 h1]at hm
   have a0:Dom r a:=fun x=>by
    by_cases e:m=x
    ·subst e
     rw[ue6 a1,ue6 h1];exact Rat.le_refl
    ·have:=hd x
     rwa [ua0 _ _ e]at this
   have h5:=uu8 f a r ha.2 hr a0;rw[sm];have h6:(if f m=true then c else 0)<=0:=by
    split
    ·exact hm
    ·exact Rat.le_refl
   have h7:=uGa h6 h5;rwa [Rat.zero_add]at h7
  ·rw[h2]at hm
   have a0:Dom (r1++r2) a:=fun x=>by
    by_cases e:m=x
    ·subst e
     rw[ue6 a1,ue6 h4];exact Rat.le_refl
    ·have:=hd x
     rwa [ua0 _ _ e,uu7 e]at this
   have h5:=uu8 f a (r1++r2) ha.2 h3 a0;have e:sm f (r1++(m,d)::r2)=(if f m=true then d else 0)+sm f (r1++r2):=by
    rw[um1,sm,um1,<-Rat.add_assoc,<-Rat.add_assoc,Rat.add_comm (sm f r1)]
   rw[sm,e];refine uGa ?_ h5;split
   ·exact hm
   ·exact Rat.le_refl
open Go
def uDk(b:UInt8):Bool:=b==45||(decide (48<=b.toNat)&&decide (b.toNat<=57))
theorem um3(u:Nat):∀b∈Lib.decDigits u,48<=b.toNat/\b.toNat<=57:=by
 induction u using Nat.strongRecOn with
 | _ u ih=>
  intro b hb;rw[Lib.decDigits]at hb;split at hb
  ·rw[List.mem_singleton]at hb
   subst hb;have:(UInt8.ofNat (48+u)).toNat=48+u:=by simp;omega
   omega
  ·rename_i h
   rcases List.mem_append.1 hb with hb|hb
   ·exact ih (u/10) (by omega) b hb
   ·rw[List.mem_singleton]at hb
    subst hb;have:(UInt8.ofNat (48+u%10)).toNat=48+u%10:=by simp;omega
    omega
theorem uo8(u:Nat):0<(Lib.decDigits u).length:=by rw[Lib.decDigits_length];exact Lib.nDigits_pos u
theorem uu9:∀(u v:Nat),Lib.decDigits u=Lib.decDigits v->u=v:=by
 intro u;induction u using Nat.strongRecOn with
 | _ u ih=>
  intro v h;have hb:∀ {x y:Nat},x<10->y<10->UInt8.ofNat (48+x)=UInt8.ofNat (48+y)->x=y:=by
   intro x y hx hy e;have:=congrArg UInt8.toNat e;simp at this;omega
  rw[Lib.decDigits,Lib.decDigits.eq_def v]at h;split at h<;>split at h
  ·rename_i h1 h2
   simp only[List.cons.injEq,and_true]at h;exact hb h1 h2 h
  ·rename_i h1 h2
   have h3:=congrArg List.length h;have h4:=uo8 (v/10);rw[ay,List.length_singleton,List.length_singleton]at h3;omega
  ·rename_i h1 h2
   have h3:=congrArg List.length h;have h4:=uo8 (u/10);rw[ay,List.length_singleton,List.length_singleton]at h3;omega
  ·rename_i h1 h2
   obtain⟨e1,e2⟩:=List.append_inj' h rfl;have:=ih (u/10) (by omega) _ e1
   simp only[List.cons.injEq,and_true]at e2;have:=hb (Nat.mod_lt u (by omega)) (Nat.mod_lt v (by omega)) e2
   omega
theorem ufk(n:Int):∀b∈Lib.itoa n,uDk b=true:=by
 intro b hb;unfold Lib.itoa at hb;have hd:∀u,b∈Lib.decDigits u->uDk b=true:=fun u h=>by
  have:=um3 u b h;unfold uDk;simp[this.1,this.2]
 split at hb
 ·rcases List.mem_cons.1 hb with rfl|hb
  ·rfl
  ·exact hd _ hb
 ·exact hd _ hb
theorem uDl(n:Int):Lib.itoa n≠[]:=by
 unfold Lib.itoa;split
 ·simp
 ·intro h
  have:=uo8 n.toNat;rw[h]at this;simp at this
theorem uqz{m n:Int}(h:Lib.itoa m=Lib.itoa n):m=n:=by
 unfold Lib.itoa at h;have hx:∀u (l:List UInt8),45::l=Lib.decDigits u->False:=fun u l e=>by
  have:=um3 u 45 (by rw[<-e];simp)
  have a0:(45:UInt8).toNat=45:=rfl;omega
 split at h<;>split at h
 ·simp only[List.cons.injEq,true_and]at h
  have:=uu9 _ _ h;omega
 ·exact(hx _ _ h).elim
 ·exact(hx _ _ h.symm).elim
 ·have:=uu9 _ _ h
  omega
def Ends(r:List UInt8):Prop:=∀b t,r=b::t->uDk b=false
theorem uih:∀ {a b r s:List UInt8},(∀x∈a,uDk x=true)->(∀x∈b,uDk x=true)->Ends r->Ends s->a++r=b++s->a=b/\r=s
 | [],[],r,s,_,_,_,_,h=>⟨rfl,h⟩
 | [],y::b,r,s,_,hb,hr,_,h=>by
  have:=hr y (b++s) h;rw[hb y (by simp)]at this
  cases this
 | x::a,[],r,s,ha,_,_,hs,h=>by
  have:=hs x (a++r) h.symm;rw[ha x (by simp)]at this
  cases this
 | x::a,y::b,r,s,ha,hb,hr,hs,h=>by
  simp only[List.cons_append,List.cons.injEq]at h;obtain⟨rfl,h⟩:=h;obtain⟨rfl,h2⟩:=uih (fun z hz=>ha z (by simp[hz])) (fun z hz=>hb z (by simp[hz])) hr hs h
  exact⟨rfl,h2⟩
mutual
def wix:Ix->List UInt8
 | .n k l=>Lib.itoa k++(if l.isEmpty then []else 40::(vA5 l++[41]))
def vA5:List Ix->List UInt8
 | []=>[]
 | x::l=>wix x++44::vA5 l
end
theorem uq0(x:Ix):∃b t,wix x=b::t/\uDk b=true:=by
 obtain⟨k,l⟩:=x;rw[wix];cases h:Lib.itoa k with
 | nil=>exact absurd h (uDl k)
 | cons b t=>exact⟨b,_,rfl,ufk k b (by rw[h];simp)⟩
mutual
theorem uva:∀(x y:Ix) (r s:List UInt8),(r=[]\/(∃t,r=44::t))->(s=[]\/(∃t,s=44::t))->wix x++r=wix y++s->x=y/\r=s
 | .n k l,.n k' l',r,s,hr,hs,h=>by
  have hE:∀(l:List Ix) (r:List UInt8),(r=[]\/(∃t,r=44::t))->Ends ((if l.isEmpty then []else 40::(vA5 l++[41]))++r):=by
   intro l r hr b t e;cases l with
   | nil=>
    simp at e;rcases hr with rfl|⟨t',rfl⟩
    ·cases e
    ·injection e with e _
     subst e;rfl
   | cons x l=>
    simp at e;rw[<-e.1];rfl
  rw[wix,wix,aS,aS]at h;obtain⟨h1,h2⟩:=uih (ufk k) (ufk k') (hE l r hr) (hE l' s hs) h;have hk:=uqz h1;subst hk;cases l with
  | nil=>
   cases l' with
   | nil=>simp at h2;exact⟨rfl,h2⟩
   | cons y l'=>
    simp at h2;rcases hr with rfl|⟨t,rfl⟩
    ·cases h2
    ·injection h2 with h2 _;cases h2
  | cons x l=>
   cases l' with
   | nil=>
    simp at h2;rcases hs with rfl|⟨t,rfl⟩
    ·cases h2
    ·injection h2 with h2 _;cases h2
   | cons y l'=>
    simp only[List.isEmpty_cons,Bool.false_eq_true,if_false,List.cons_append,List.cons.injEq,true_and,aS,List.singleton_append,List.nil_append]at h2;obtain⟨h3,h4⟩:=vCh (x::l) (y::l') r s h2;exact⟨by rw[h3],h4⟩
theorem vCh:∀(l m:List Ix) (r s:List UInt8),vA5 l++41::r=vA5 m++41::s->l=m/\r=s
 | [],[],r,s,h=>by simp[vA5]at h;exact⟨rfl,h⟩
 | [],y::m,r,s,h=>by
  rw[vA5,vA5]at h;obtain⟨b,t,e,hb⟩:=uq0 y;rw[e]at h;simp at h;rw[<-h.1]at hb;cases hb
 | x::l,[],r,s,h=>by
  rw[vA5,vA5]at h;obtain⟨b,t,e,hb⟩:=uq0 x;rw[e]at h;simp at h;rw[h.1]at hb;cases hb
 | x::l,y::m,r,s,h=>by
  rw[vA5,vA5,aS,aS,List.cons_append,List.cons_append]at h;obtain⟨rfl,h2⟩:=uva x y _ _ (.inr ⟨_,rfl⟩) (.inr ⟨_,rfl⟩) h;simp only[List.cons.injEq,true_and]at h2;obtain⟨rfl,h3⟩:=vCh l m r s h2;exact⟨rfl,h3⟩
end
def ugg(v:Int)(i:Ix):List UInt8:=118::(Lib.itoa v++58::wix i)
theorem uzh{v v':Int}{i i':Ix}(h:ugg v i=ugg v' i'):v=v'/\i=i':=by
 unfold ugg at h;simp only[List.cons.injEq,true_and]at h;obtain⟨h1,h2⟩:=uih (ufk v) (ufk v') (fun b t e=>by injection e with e _;subst e;rfl) (fun b t e=>by injection e with e _;subst e;rfl) h
 simp only[List.cons.injEq,true_and]at h2;have:=uva i i' [] [] (.inl rfl) (.inl rfl) (by simpa using h2)
 exact⟨uqz h1,this.1⟩
end Go.Proofs.YtnbbpmagijpmpaaGreatDoor
namespace AC
end AC
namespace Go.Proofs.YtnbbpmagijpmpaaGreatDoor
open Go.Lib (hid)
open Go.RowKit AC
def Sl{α:Type}(sz:Nat)(R:α->List Value->Prop)(w:World)(D:Nat->Prop)(l:List α)(A:Option Addr)(len cap:Nat):Prop:=
 len=l.length/\len<=cap/\cap<=maxLen/\(0<len->∃b off,A=some ⟨b,off,none⟩/\D b/\b<w.heap.size/\∀(i:Nat) (h:i<l.length),∃v,um w b (off+i*sz) v/\R l[i] v)
section
variable {α:Type} {sz:Nat} {R R':α->List Value->Prop} {w w':World} {D D':Nat->Prop} {l:List α} {A:Option Addr} {len cap:Nat}
theorem Sl.vAb(hk:uc D w w')(hR:∀a v,R a v->R' a v)(h:Sl sz R w D l A len cap):Sl sz R' w' D l A len cap:=by
 obtain⟨h1,h2,h3,h4⟩:=h;refine⟨h1,h2,h3,fun hp=>?_⟩
 obtain⟨b,off,hA,hD,hb,hL⟩:=h4 hp;refine⟨b,off,hA,hD,af hb hk.1,fun i hi=>?_⟩
 obtain⟨v,h5,h6⟩:=hL i hi;exact⟨v,h5.vAb hk hb hD,hR _ _ h6⟩
theorem Sl.sub(hd:∀b,b<w.heap.size->D b->D' b)(hR:∀a v,R a v->R' a v)(h:Sl sz R w D l A len cap):Sl sz R' w D' l A len cap:=by
 obtain⟨h1,h2,h3,h4⟩:=h;refine⟨h1,h2,h3,fun hp=>?_⟩
 obtain⟨b,off,hA,hD,hb,hL⟩:=h4 hp;refine⟨b,off,hA,hd b hb hD,hb,fun i hi=>?_⟩
 obtain⟨v,h5,h6⟩:=hL i hi;exact⟨v,h5,hR _ _ h6⟩
theorem Sl.get(h:Sl sz R w D l A len cap){i:Nat}(hi:i<l.length):∃b off v,A=some ⟨b,off,none⟩/\D b/\b<w.heap.size/\um w b (off+i*sz) v/\R l[i] v:=by
 obtain⟨h1,h2,h3,h4⟩:=h;obtain⟨b,off,hA,hD,hb,hL⟩:=h4 (by omega)
 obtain⟨v,h5,h6⟩:=hL i hi;exact⟨b,off,v,hA,hD,hb,h5,h6⟩
theorem Sl.nil(sz:Nat)(R:α->List Value->Prop)(w:World)(D:Nat->Prop):Sl sz R w D [] none 0 0:=⟨rfl,ab,by unfold maxLen;omega,fun h=>absurd h (by omega)⟩
end
section
variable {w w':World} {D D':Nat->Prop} {A:Option Addr} {len cap:Nat}
end
theorem uGb(w:World)(o:Obj):Below w.heap.size w (w.alloc o):=aa.alloc ab o
theorem uhs{w:World}{lo:Nat}{v:Value}{q:Rat}(h:ud5 w lo v q){g:Nat}(hg:g<lo)(x y z:Value) :
 ud5 (((w.setCell ⟨g,0,none⟩ x).setCell ⟨g,1,none⟩ y).setCell ⟨g,2,none⟩ z) lo v q:=by
 obtain⟨vn,vd,rfl,h1,h2⟩:=h;exact⟨vn,vd,rfl,ueq h1 hg x y z,ueq h2 hg x y z⟩
theorem uii{w:World}{lo:Nat}{v:Value}{neg:Bool}{n d:Nat}(h:uaj w lo v neg n d){g:Nat}(hg:g<lo)(x y z:Value) :
 uaj (((w.setCell ⟨g,0,none⟩ x).setCell ⟨g,1,none⟩ y).setCell ⟨g,2,none⟩ z) lo v neg n d:=by
 obtain⟨vn,vd,rfl,h1,h2⟩:=h;exact⟨vn,vd,rfl,ueq h1 hg x y z,ueq h2 hg x y z⟩
set_option maxHeartbeats 16000000
theorem uij(w:World)(x:Int)(h1 : -9223372036854775808<=x)(h2:x<=9223372036854775807) :
 Calls Tryz.prog 23 #[.int .i64 x] w (Ret fun v2 w'=>ud5 w' w.heap.size v2 (mkRat x 1)/\Below w.heap.size w w'):=by
 have b1:Hid (sg (decide (x<0)) x.natAbs=x):=by
  show _=_
  unfold sg;by_cases h:x<0
  ·simp[h];omega
  ·simp[h];omega
 have b0:Hid (dl x.natAbs<=3):=by
  show dl x.natAbs<=3
  apply ue4;have h3:B^3=1000000000000000000000000000:=by decide
  omega
 go_enter Tryz.func23,Tryz.ntmps23
 go_wp2_with fail
 refine(uk2 _ x h1 h2).mono ?_;rintro e w1⟨v1,rfl,a3,a1⟩;have a4:=hid ((Bk.new w 62 _).below a1 (by simp))
 have a5:=hid a3;obtain⟨A,c,rfl⟩:=uu.len a3;have b3:w.heap.size<w1.heap.size:=a4.out.lt;have a7:=(uGb w _).trans (a1.mono (by simp))
 clear a3 a1;go_wp2_with fail
 refine(ufh _ (w.heap.size+1) _ _ x.natAbs 1 (by simp;omega) ⟨_,_,rfl,?_,?_⟩ (by decide) (by have:=b0.out;omega) (by rw[umt];omega)).mono ?_
 ·exact uu.lower (uu.alloc a5.out _) (by simp)
 ·exact uL.vCp _ _ _ (by omega)
 rintro e w2⟨v2,rfl,a0,a2⟩;rw[b1.out]at a0;obtain⟨q,hq⟩:∃q,Hid (q=mkRat x 1):=⟨_,rfl⟩;rw[<-hq.out]at a0;have a6:=hid a0;obtain⟨A2,c2,A3,c3,rfl,h3,h4⟩:=uaj.form a0;obtain⟨a9,b2,b4⟩:=((a4.out.alloc _).below a2 (by simp;omega)).facts
 have a8:=(a7.alloc (by omega) _).trans (a2.mono (by simp;omega))
 clear h3 h4 a0 a2;go_wp2;exact bodyPost_ret (v:= .agg #[.bool (decide (q.num<0)),.slice A2 (dl q.num.natAbs) c2,.slice A3 (dl q.den) c3]) (by simp[results,Tryz.results23,go_sem,a9]) rfl
  ⟨_,rfl,by rw[<-hq.out];exact ud5.lower (uhs a6.out (by omega) _ _ _) (by omega),uo a8 ab _ _ _⟩
set_option maxHeartbeats 200000
theorem uzi{g:Nat->Nat}{T x y c K m' s:Nat}(hT:s=x*y+dg T K+c)
 (h:vs g K+c*B^K=T%B^K+m'):vs (upd g K (s%1000000000)) (K+1)+s/1000000000*B^(K+1)=T%B^(K+1)+(m'+x*y*B^K):=by
 rw[vs,uCf g _ (Nat.le_refl K),uad,uF,Nat.pow_succ];have h1:s%1000000000*B^K+s/1000000000*(B^K*B)=s*B^K:=by
  have e:s/1000000000*(B^K*B)=s/1000000000*1000000000*B^K:=by rw[uhn,Nat.mul_comm (1000000000^K),Nat.mul_assoc]
  rw[e,<-Nat.add_mul,Nat.mod_add_div']
 have h2:s*B^K=x*y*B^K+dg T K*B^K+c*B^K:=by rw[hT,Nat.add_mul,Nat.add_mul]
 omega
theorem uzj(x m i j:Nat):x*(m%B^j)*B^i+x*dg m j*B^(i+j)=x*(m%B^(j+1))*B^i:=by
 rw[uF,Nat.mul_add,Nat.add_mul,Nat.pow_add];congr 1
 simp only[Nat.mul_comm,Nat.mul_left_comm,Nat.mul_assoc]
theorem uzk{g:Nat->Nat}{n m i c L:Nat}(hg:∀t,t<L->g t<B)(hc:c<B)(hL:i+dl m<L)
 (a0:∀t,i+dl m<=t->t<L->g t=dg (n%B^i*m) t)
 (h:vs g (i+dl m)+c*B^(i+dl m)=(n%B^i*m)%B^(i+dl m)+dg n i*(m%B^dl m)*B^i) :
 ∀t,t<L->upd g (i+dl m) c t=dg (n%B^(i+1)*m) t:=by
 have hT:n%B^i*m<B^(i+dl m):=by
  rw[Nat.pow_add];have h1:=Nat.mod_lt n (uH i);have h2:=ua2 m;rcases aK m with h0|h0
  ·subst h0;rw[Nat.mul_zero];exact Nat.mul_pos (uH _) (uH _)
  ·exact Nat.mul_lt_mul_of_lt_of_le h1 (Nat.le_of_lt h2) (uH _)
 rw[aV hT,aV (ua2 m)]at h;have hv:vs (upd g (i+dl m) c) (i+dl m+1)=n%B^(i+1)*m:=by
  rw[vs,uCf g _ ab,uad,h,uF,Nat.add_mul];congr 1
  simp only[Nat.mul_comm,Nat.mul_assoc]
 have hd:∀t,t<i+dl m+1->upd g (i+dl m) c t<B:=by
  intro t ht;by_cases e:t=i+dl m
  ·subst e;rw[uad];exact hc
  ·rw[uD g c e];exact hg t (by omega)
 intro t ht;rcases ah t (i+dl m+1)with h1|h1
 ·rw[<-hv];exact(uDb hd h1).symm
 ·rw[uD g c (by omega),a0 t (by omega) ht]
  have h2:n%B^(i+1)*m<B^(i+dl m+1):=by rw[<-hv];exact usw hd
  rw[uh9 (af hT (Nat.pow_le_pow_right ucs (by omega))),uh9 (af h2 (Nat.pow_le_pow_right ucs h1))]
theorem um4{a b t c:Nat}(ha:a<1000000000)(hb:b<1000000000)(ht:t<1000000000)(hc:c<1000000000) :
 a*b<=999999998000000001/\a*b+t+c<=999999999999999999:=by
 have h:a*b<=999999999*999999999:=Nat.mul_le_mul (by omega) (by omega)
 omega
theorem uk8(w:World)(lo lo':Nat)(v v':Value)(n m:Nat)(hv:uL w lo v n)(a0:uL w lo' v' m)(h:n=0\/m=0) :
 Calls Tryz.prog 78 #[v,v'] w (fun e w'=>e = .returned (.slice none 0 0)/\w=w'):=by
 obtain⟨A,c,rfl⟩:=uu.len hv;obtain⟨A',c',rfl⟩:=uu.len a0;by_cases h0:n=0
 ·subst h0
  rw[uV];clear hv a0 h;go_enter Tryz.func78,Tryz.ntmps78
  go_wp2;go_ret
  exact⟨rfl,rfl⟩
 ·have hm:m=0:=by omega
  subst hm;rw[uV];have a1:(((dl n:Nat):Int)==0)=false:=by
   rw[aw];have:=mt uR.1 h0;omega
  clear hv a0 h h0;go_enter Tryz.func78,Tryz.ntmps78
  go_wp2;go_ret
  exact⟨rfl,rfl⟩
set_option maxHeartbeats 16000000
theorem um5(w:World)(lo lo':Nat)(v v':Value)(n m:Nat)(hv:uL w lo v n)(d7:uL w lo' v' m)(hk:dl n<=4294967296)(d9:dl m<=4294967296)(h0:n≠0)(a9:m≠0) :
 Calls Tryz.prog 78 #[v,v'] w (Ret fun v2 w'=>uL w' w.heap.size v2 (n*m)/\Below w.heap.size w w'):=by
 obtain⟨_,A,c,rfl,e0,c7,hb⟩:=hv;obtain⟨_,A',c',rfl,e1,c8,b0⟩:=d7;unfold maxLen at c7 c8;have hp:0<dl n:=Nat.pos_of_ne_zero (mt uR.1 h0);have d4:0<dl m:=Nat.pos_of_ne_zero (mt uR.1 a9);obtain⟨ba,off,rfl,e2,c1,b2⟩:=hb hp;obtain⟨bb,d8,rfl,e3,c2,b3⟩:=b0 d4;have HC:=hid b2;have c0:=hid b3;clear hb b0 b2 b3 h0 a9;have e6:(((dl n:Nat):Int)==0)=false:=by rw[aw];omega
 have e7:(((dl m:Nat):Int)==0)=false:=by rw[aw];omega
 go_enter Tryz.func78,Tryz.ntmps78
 go_wp2_with (at_make;refine uen _ rfl _ _ 100 rfl w.heap.size 102 Tryz.underlying100 uG _ _ _ _ (dl n+dl m) (by rfl) (by rfl) (by omega) (by omega) (by omega) w aa ab ?_;intro b w1 a7 _ d5 c3 _)
 go_loopw [26] (fun i wr=>∃i0:Nat,i0<=dl n/\i = .int .i64 i0/\uaw wr b 102 (dl n+dl m) (dg (n%B^i0*m))/\Below w.heap.size w wr) (fun i _=>dl n-(intOf i).toNat)
 case atStart=>
  refine⟨0,by omega,rfl,d5.congr fun t _=>?_,c3⟩
  rw[Nat.pow_zero,Nat.mod_one,Nat.zero_mul];unfold dg;simp
 case round=>
  obtain⟨i,hi,rfl,a8,b1⟩:=hrel;by_cases d1:i<dl n
  ·obtain⟨wo,rfl⟩:∃wo:World,wo=wr:=⟨_,rfl⟩
   have c6:Hid (∀wx,Below w.heap.size w wx->wx.cell? ⟨ba,off+i,none⟩=some (.int .u32 ((dg n i:Nat):Int))):=fun wx hx=>(hx.cell (p:=⟨ba,off+i,none⟩) c1).trans (HC.out i d1)
   have a3:dg n i<1000000000:=uZ n i;go_wp2;go_loopw [7,31] (fun cv jv wr=>∃(j c:Nat) (g:Nat->Nat),j<=dl m/\c<1000000000/\jv = .int .i64 j/\cv = .int .u64 c/\Hid (∀t,t<dl n+dl m->g t<B) /\
    Hid (∀t,i+j<=t->t<dl n+dl m->g t=dg (n%B^i*m) t)/\Hid (vs g (i+j)+c*B^(i+j)=(n%B^i*m)%B^(i+j)+dg n i*(m%B^j)*B^i) /\
    uaw wr b 102 (dl n+dl m) g/\Below w.heap.size w wr) (fun _ jv _=>dl m-(intOf jv).toNat)
   case atStart=>
    refine⟨0,0,dg (n%B^i*m),by omega,by omega,rfl,rfl,fun t _=>uZ _ _,fun _ _ _=>rfl,?_,a8,b1⟩
    show _=_
    rw[uDa,Nat.pow_zero,Nat.mod_one];simp
   case round=>
    obtain⟨j,c,g,hj,hc,rfl,rfl,b4,a6,b5,a0,a1⟩:=hrel;by_cases d0:j<dl m
    ·have c4:=c6.out wr a1
     have c5:=(a1.cell (p:=⟨bb,d8+j,none⟩) c2).trans (c0.out j d0);have a2:=a0.cell (i:=i+j) (by omega)
     have c9:=a0.frozen (i+j);rw[a6.out (i+j) ab (by omega)]at a2
     have a4:dg m j<1000000000:=uZ m j;have a5:dg (n%B^i*m) (i+j)<1000000000:=uZ _ _;obtain⟨x,b8⟩:∃x,Hid (x=dg n i):=⟨_,rfl⟩;obtain⟨y,b9⟩:∃y,Hid (y=dg m j):=⟨_,rfl⟩;obtain⟨t,b7⟩:∃t,Hid (t=dg (n%B^i*m) (i+j)):=⟨_,rfl⟩;rw[<-b8.out]at c4 a3;rw[<-b9.out]at c5 a4;rw[<-b7.out]at a2 a5;have b6:=um4 a3 a4 a5 hc;have e5:((x:Int)*y)<=999999998000000001:=by have:=b6.1;omega
     have e4:0<=((x:Int)*y):=by omega
     clear b6;go_wp2;go_quiet (fail)
     go_wp2;go_roundw
     case rel=>
      have hs:=(um4 a3 a4 a5 hc).2;have h9:(x*y+t+c)/1000000000<1000000000:=by omega
      refine⟨j+1,(x*y+t+c)/1000000000,upd g (i+j) ((x*y+t+c)%1000000000),by omega,h9,by go_num,by go_num,?_,?_,?_,uaw.set (uaw.drewN a0 _) (i+j) (by go_num),Below.setCell (a1.drewN _) a7 _⟩
      ·intro t' d6
       by_cases e:t'=i+j
       ·subst e;rw[uad];exact Nat.mod_lt _ ucs
       ·rw[uD g _ e];exact b4.out t' d6
      ·intro t' h1 h2
       rw[uD g _ (by omega)];exact a6.out t' (by omega) h2
      ·have h1:=uzi (g:=g) (T:=n%B^i*m) (x:=x) (y:=y) (c:=c) (K:=i+j) (s:=x*y+t+c) (by rw[b7.out]) b5.out
       show vs _ (i+(j+1))+_*B^(i+(j+1))=_
       rw[show i+(j+1)=i+j+1 by omega,h1,<-uzj,b8.out,b9.out]
     case measure=>simp[intOf];omega
    ·obtain rfl:j=dl m:=by omega
     have c9:=a0.frozen (i+dl m);have a2:=a0.cell (i:=i+dl m) (by omega)
     go_wp2;go_roundw
     case rel=>
      exact⟨i+1,by omega,by go_num,uaw.congr (uaw.set a0 (i+dl m) rfl) (uzk b4.out hc (by omega) a6.out b5.out),Below.setCell a1 a7 _⟩
     case measure=>simp[intOf];omega
  ·obtain rfl:i=dl n:=by omega
   have hT:Hid (n%B^dl n*m=n*m):=by show _=_;rw[aV (ua2 n)]
   rw[hT.out]at a8;have d2:Hid (n*m<B^(dl n+dl m)):=af (ua2 _) (Nat.pow_le_pow_right ucs (uT n m));go_wp2_with fail
   refine(udb _ _ _ _ _ (a8.vAs a7 (by omega) fun i _=>Nat.lt_trans (uZ _ i) (by decide)) d2.out).mono ?_
   rintro e w'⟨v',rfl,d3,rfl⟩;go_wp2;go_ret
   exact⟨v',rfl,d3,b1⟩
set_option maxHeartbeats 200000
theorem uan(w:World)(lo lo':Nat)(v v':Value)(n m:Nat)(hv:uL w lo v n)(a0:uL w lo' v' m)(hk:dl n<=4294967296)(a1:dl m<=4294967296) :
 Calls Tryz.prog 78 #[v,v'] w (Ret fun v2 w'=>uL w' w.heap.size v2 (n*m)/\Below w.heap.size w w'):=by
 by_cases h:n=0\/m=0
 ·refine(uk8 w lo lo' v v' n m hv a0 h).mono ?_
  rintro e w'⟨rfl,rfl⟩;have e0:n*m=0:=by rcases h with h|h<;>subst h<;>simp
  exact⟨_,rfl,by rw[e0];exact uL.zero _ _,aa⟩
 ·exact um5 w lo lo' v v' n m hv a0 hk a1 (fun e=>h (.inl e)) (fun e=>h (.inr e))
def uIl(w:World)(n1 d1 n2 d2:Nat)(s1 s2:Bool)(v2:Value)(w':World):Prop:=
 ∃neg n,uaj w' w.heap.size v2 neg n (d1*d2)/\sg neg n=sg s1 n1*d2+sg s2 n2*d1/\Below w.heap.size w w'
theorem uDm(s:Bool)(n1 n2 d1 d2:Nat):sg s (n1*d2+n2*d1)=sg s n1*d2+sg s n2*d1:=by
 cases s<;>simp[sg,Int.neg_mul,Int.neg_add]
theorem uta{s1 s2:Bool}(h:¬s1=s2){n1 n2 d1 d2:Nat}(a0:n1*d2<n2*d1):sg s2 (n2*d1-n1*d2)=sg s1 n1*d2+sg s2 n2*d1:=by
 have e:((n2*d1-n1*d2:Nat):Int)=(n2:Int)*d1-(n1:Int)*d2:=by
  rw[Int.ofNat_sub (by omega)];simp
 cases s1<;>cases s2<;>simp_all [sg,Int.neg_mul]<;>omega
theorem utb{s1 s2:Bool}(h:¬s1=s2){n1 n2 d1 d2:Nat}(a0:n2*d1<=n1*d2):sg s1 (n1*d2-n2*d1)=sg s1 n1*d2+sg s2 n2*d1:=by
 have e:((n1*d2-n2*d1:Nat):Int)=(n1:Int)*d2-(n2:Int)*d1:=by
  rw[Int.ofNat_sub (by omega)];simp
 cases s1<;>cases s2<;>simp_all [sg,Int.neg_mul]<;>omega
theorem ueb(w:World){g b:Nat}(h:b≠g)(o:Nat)(x y z:Value) :
 (((w.setCell ⟨g,0,none⟩ x).setCell ⟨g,1,none⟩ y).setCell ⟨g,2,none⟩ z).cell? ⟨b,o,none⟩=w.cell? ⟨b,o,none⟩:=by
 rw[World.cell?_setCell_other _ _ _ _ (by intro e;injection e with e;omega),World.cell?_setCell_other _ _ _ _ (by intro e;injection e with e;omega),World.cell?_setCell_other _ _ _ _ (by intro e;injection e with e;omega)]
set_option maxHeartbeats 16000000
theorem uzl(w:World)(lo lo':Nat)(v v':Value)(s1 s2:Bool)(n1 d1 n2 d2:Nat)(hv:uaj w lo v s1 n1 d1)(f3:uaj w lo' v' s2 n2 d2)
 (k1:dl n1+dl d2<=4294967290) (k2:dl n2+dl d1<=4294967290) (k3:dl d1+dl d2<=4294967290) :
 Calls Tryz.prog 94 #[v,v'] w (Ret (uIl w n1 d1 n2 d2 s1 s2)):=by
 obtain⟨A1,c1,B1,e1,rfl,f1,e6⟩:=hv.form;obtain⟨A2,c2,B2,e2,rfl,f2,e7⟩:=f3.form;have f9:=hid f1;have d7:=hid e6;have g0:=hid f2;have d8:=hid e7;clear hv f3 f1 e6 f2 e7;go_enter Tryz.func94,Tryz.ntmps94
 go_wp2;go_outline
 go_region_held3 (fun w'=>w'.cell? ⟨w.heap.size,1,none⟩=some (.slice A1 (dl n1) c1)/\w'.cell? ⟨w.heap.size,2,none⟩=some (.slice B1 (dl d1) e1)/\w'.cell? ⟨w.heap.size+1,1,none⟩=some (.slice A2 (dl n2) c2)/\w'.cell? ⟨w.heap.size+1,2,none⟩=some (.slice B2 (dl d2) e2)) (go_keep)
  (first
   | (go_at_call_of 78 (Value.slice A1 (dl n1) c1);refine(uan _ lo lo' _ _ n1 d2 (by exact((f9.out.alloc _).alloc _).alloc _) (by exact((d8.out.alloc _).alloc _).alloc _) (by omega) (by omega)).mono ?_;rintro e w1 ⟨va,rfl,c8,a8⟩;have b5:=(uF4 w _ _ _).drew.trans (a8.mono (by simp;omega));have c4:=((((Bk.new w 104 _).alloc _).alloc _).drew.below a8 (by simp;omega));have b3:=(((Bk.new _ 104 _).alloc _).drew.below a8 (by simp));have b4:=((Bk.new _ 104 _).drew.below a8 (by simp));obtain⟨g1,g4,f4⟩:=c4.facts;obtain⟨e5,e9,d3⟩:=b3.facts;simp only[World.size_alloc]at e5 e9 d3 b3 b4;have d4:=b4.lt)
   | (go_at_call_of 78 (Value.slice A2 (dl n2) c2);refine(uan _ lo' lo _ _ n2 d1 (by exact g0.out.below b5) (by exact d7.out.below b5) (by omega) (by omega)).mono ?_;rintro e w2 ⟨vb,rfl,c9,a4⟩;have b6:=b5.trans (a4.mono b5.size);have c5:=c4.below a4 f4;have c6:=b3.below a4 d3;have e0:=b4.below a4 d4;obtain⟨g2,g5,g7⟩:=c5.facts;obtain⟨g3,g6,g8⟩:=c6.facts))
 have d5:=hid (c8.below a4);have d6:=hid c9;obtain⟨Aa,ca,rfl⟩:=uu.len c8;obtain⟨Ab,cb,rfl⟩:=uu.len c9;have b8:=hid c5;have c0:=hid c6;have c3:=hid e0;have h6:w.heap.size+1+1<w1.heap.size:=d4;have h7:=a4.size;clear c8 c9 c4 b3 b4 c5 c6 e0 a8 g1 e5 g4 e9 f4 d3 d4 a4;go_wp2_with fail
 refine(uan _ lo lo' _ _ d1 d2 (d7.out.below b6) (d8.out.below b6) (by omega) (by omega)).mono ?_
 rintro e w3⟨vd,rfl,d0,a2⟩;have a5:=b6.trans (a2.mono b6.size);have h9:=a2.size;have b9:=hid (b8.out.below a2 b8.out.lt);have d9:=hid (c0.out.below a2 c0.out.lt);have a3:=hid (c3.out.below a2 c3.out.lt);have b1:=hid (d5.out.below a2);have b2:=hid (d6.out.below a2);have b7:=hid d0;obtain⟨Ad,cd,rfl⟩:=uu.len d0;obtain⟨h0,h2,f5⟩:=b9.out.facts;obtain⟨h1,h3,g9⟩:=d9.out.facts;clear d0 a2 g2 g3 g5 g6 d5 d6 b8 c0 c3 g7 g8;have h8:w.heap.size+1+1<w3.heap.size:=a3.out.lt;by_cases hs:s1=s2
 ·subst hs
  go_wp2;go_region_held3 (fun w'=>w'.cell? ⟨w.heap.size,0,none⟩=some (.bool s1)) (first|go_keep|(refine(ueb _ (by omega) _ _ _ _).trans ?_;simp[*]))
   (first
    | (go_at_call 154;refine(uDd _ _ _ _ _ (n1*d2) (n2*d1) (by exact b1.out) (by exact b2.out) (by have:=uT n1 d2;omega) (by have:=uT n2 d1;omega)).mono ?_;rintro e w4 ⟨f8,rfl,a1,a0⟩;obtain⟨As,cs,rfl⟩:=uu.len a1;obtain⟨e4,e8,f6⟩:=(b9.out.drew.below a0 f5).facts;obtain⟨b0,f0,f7⟩:=(a3.out.drew.below a0 a3.out.lt).facts))
  have a9:=a5.drew.trans (a0.mono a5.size);have a7:=hid a1;have a6:=hid (b7.out.drew.below a0);clear a1 a0;go_wp2;exact bodyPost_ret (v:= .agg #[.bool s1,.slice As (dl (n1*d2+n2*d1)) cs,.slice Ad (dl (d1*d2)) cd]) (by simp[results,Tryz.results94,go_sem,b0]) rfl
   ⟨_,rfl,s1,_,uii ⟨_,_,rfl,a7.out.lower (by simp;omega),a6.out.lower (by omega)⟩ (show w.heap.size+1+1<w1.heap.size by omega) _ _ _ |>.lower (by omega),uDm s1 n1 n2 d1 d2,uo a9 (by omega) _ _ _⟩
 ·have h4:(s1==s2)=false:=by simpa using hs
  obtain⟨ci,c7⟩:∃ci,Hid (uho (n1*d2) (n2*d1)=ci):=⟨_,rfl⟩;go_wp2_with fail
  refine(ubn _ _ _ _ _ _ _ b1.out b2.out).mono ?_;rintro e j0⟨rfl,qc,rfl⟩;rw[c7.out];rcases ah (n1*d2) (n2*d1)with hlt|hge
  ·have e3:ci = -1:=by rw[<-c7.out];exact uk0 hlt
   subst e3;go_wp2;go_region_held3 (fun w'=>w'.cell? ⟨w.heap.size+1,0,none⟩=some (.bool s2)) (first|go_keep|(refine(ueb _ (by omega) _ _ _ _).trans ?_;simp[*]))
    (first
     | (go_at_call 155;refine(ug4 _ _ _ _ _ (n2*d1) (n1*d2) (n2*d1-n1*d2) (by exact b2.out.drewN _) (by exact b1.out.drewN _) (by have:=uT n1 d2;have:=uT n2 d1;omega) (by omega)).mono ?_;rintro e w4 ⟨f8,rfl,a1,a0⟩;obtain⟨As,cs,rfl⟩:=uu.len a1;obtain⟨e4,e8,f6⟩:=(d9.out.drewN _ |>.below a0 g9).facts;obtain⟨b0,f0,f7⟩:=(a3.out.drewN _ |>.below a0 a3.out.lt).facts))
   have a9:=(a5.drewN qc).drew.trans (a0.mono a5.size);have a7:=hid a1;have a6:=hid ((b7.out.drewN qc).drew.below a0);clear a1 a0;go_wp2;exact bodyPost_ret (v:= .agg #[.bool s2,.slice As (dl (n2*d1-n1*d2)) cs,.slice Ad (dl (d1*d2)) cd]) (by simp[results,Tryz.results94,go_sem,b0]) rfl
    ⟨_,rfl,s2,_,uii ⟨_,_,rfl,a7.out.lower (by simp;omega),a6.out.lower (by omega)⟩ (show w.heap.size+1+1<w1.heap.size by omega) _ _ _ |>.lower (by omega),uta hs hlt,uo a9 (by omega) _ _ _⟩
  ·have e3:0<=ci:=by
    rw[<-c7.out];rcases ah (n2*d1) (n1*d2)with h5|h5
    ·rw[uic h5];decide
    ·rw[uk1 (by omega)];decide
   go_wp2;go_region_held3 (fun w'=>w'.cell? ⟨w.heap.size,0,none⟩=some (.bool s1)) (first|go_keep|(refine(ueb _ (by omega) _ _ _ _).trans ?_;simp[*]))
    (first
     | (go_at_call 155;refine(ug4 _ _ _ _ _ (n1*d2) (n2*d1) (n1*d2-n2*d1) (by exact b1.out.drewN _) (by exact b2.out.drewN _) (by have:=uT n1 d2;have:=uT n2 d1;omega) (by omega)).mono ?_;rintro e w4 ⟨f8,rfl,a1,a0⟩;obtain⟨As,cs,rfl⟩:=uu.len a1;obtain⟨e4,e8,f6⟩:=(b9.out.drewN _ |>.below a0 f5).facts;obtain⟨b0,f0,f7⟩:=(a3.out.drewN _ |>.below a0 a3.out.lt).facts))
   have a9:=(a5.drewN qc).drew.trans (a0.mono a5.size);have a7:=hid a1;have a6:=hid ((b7.out.drewN qc).drew.below a0);clear a1 a0;go_wp2;exact bodyPost_ret (v:= .agg #[.bool s1,.slice As (dl (n1*d2-n2*d1)) cs,.slice Ad (dl (d1*d2)) cd]) (by simp[results,Tryz.results94,go_sem,b0]) rfl
    ⟨_,rfl,s1,_,uii ⟨_,_,rfl,a7.out.lower (by simp;omega),a6.out.lower (by omega)⟩ (show w.heap.size+1+1<w1.heap.size by omega) _ _ _ |>.lower (by omega),utb hs hge,uo a9 (by omega) _ _ _⟩
end Go.Proofs.YtnbbpmagijpmpaaGreatDoor
