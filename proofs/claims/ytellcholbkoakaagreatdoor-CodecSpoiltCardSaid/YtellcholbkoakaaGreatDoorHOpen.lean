/-
  An argument that is a list of rational numbers, read out of memory.
-/
import Derived.Test.YtellcholbkoakaaGreatDoorHWalkN
import Derived.Test.YtellcholbkoakaaGreatDoorRows
import Derived.Deep.Slices
import Derived.Deep.Strs
import Derived.ProofKit
import Derived.OpenShut
import Derived.Test.YtellcholbkoakaaGreatDoorHCRep
import Derived.Test.YtellcholbkoakaaGreatDoorHCRa
namespace Go.Proofs.YtellcholbkoakaaGreatDoor
open Go.RowKit AC Go.ChangeShapes Go.WideShapes Go.Deep
set_option linter.unusedVariables false
set_option linter.unusedSimpArgs false
theorem upz:Tryz.prog.cellsOf 4=1:=by kernel_rfl
theorem up0:Tryz.prog.cellsOf 74=1:=by kernel_rfl
theorem usz:Tryz.prog.cellsOf 228=1:=by kernel_rfl
theorem us0:Tryz.prog.cellsOf 76=3:=by kernel_rfl
theorem uxw{w:World}{a:Addr}{v:Value}(h:w.cell? a=some v):a.block<w.heap.size:=by
 rcases Nat.lt_or_ge a.block w.heap.size with h1|h1
 ·exact h1
 ·unfold World.cell? at h
  rw[Array.getElem?_eq_none h1]at h;simp at h
section
variable {H:Type} {enc:TypeId×Value→H} {W:World} {base:Nat} {spare:Nat→Bool} {held:Bool}
theorem up1{n:Nat}{cs:List Value}{x:DataW H×List MemPlace}(h:DataW.trod enc Tryz.prog W base spare held n 74 cs=some x) :
 ∃A k c f,cs=[.slice A k c]∧k≤maxLen∧Limbs W 0 (.slice A k c) k f:=by
 rcases open_ints Tryz.underlying74 Tryz.underlying228 usz h with⟨rfl,_⟩|⟨a,len,cap,zs,rfl,_,hl,hm,hz,_,hcell,hwz⟩
 ·exact⟨none,0,0,fun _=>0,rfl,Nat.zero_le _,Limbs.nil _ _ _⟩
 ·have hlz:len≤zs.length:=by rw[hz];split<;>omega
  have hb:∀i,i<zs.length→0≤zs.getD i 0∧zs.getD i 0≤4294967295:=by
   intro i hi;refine bounds_u32 (hwz _ ?_);rw[List.getD_eq_getElem?_getD,List.getElem?_eq_getElem hi];exact List.getElem_mem hi
  refine⟨some a,len,cap,fun i=>(zs.getD i 0).toNat,rfl,by omega,fun i hi=>?_,_,_,rfl,hl,hm,fun h0=>?_⟩
  ·have:=hb i (by omega)
   show(zs.getD i 0).toNat<4294967296
   omega
  ·have h1:=hcell 0 (by omega)
   have hs:a.spot=none:=by simpa[Addr.add]using World.cell?_spot h1
   obtain⟨b,off,spot⟩:=a;simp only at hs;subst hs;refine⟨b,off,rfl,Nat.zero_le _,uxw h1,fun i hi=>?_⟩
   have h2:=hcell i (by omega)
   rw[Addr.add_lit]at h2;rw[h2];have:=hb i (by omega)
   simp only[Option.some.injEq,Value.int.injEq,true_and];omega
end
open Go.RowKit AC Go.ChangeShapes Go.WideShapes Go.Deep
def Fit:Nat→Shape→TypeId→List Field→Nat→Prop
 | _,.int,t,_,_=>Tryz.prog.underlying t=some (.int .i64)
 | _,.bool,t,_,_=>Tryz.prog.underlying t=some .bool
 | _,.rat,_,_,_=>False
 | _,.big,t,_,_=>t=76
 | F,.no _,_,_,_=>F=0
 | _,.fin,_,fs,_=>fs=[]
 | F,.list s,t,_,_=>∃e,Tryz.prog.underlying t=some (.slice e)∧Tryz.prog.cellsOf e=s.sz∧s.one=true∧0<s.sz∧Fit (F-1) s e [] 0
 | F,.st f,t,_,_=>∃fs,Tryz.prog.underlying t=some (.struct fs)∧Tryz.prog.cellsOf t=f.sz∧f.one=false∧Fit (F-1) f 0 fs.toList 0
 | F,.and s f,_,fs,off=>∃fd rest,fs=fd::rest∧fd.offset=off∧Tryz.prog.cellsOf fd.type=s.sz∧s.one=true∧f.one=false∧Fit F s fd.type [] 0∧Fit F f 0 rest (off+s.sz)
theorem Rep.list_of{w:World}{D:Nat→Prop}{s:Shape}{A:Option Addr}{k c:Nat}(hkc:k≤c)(hc:c≤maxLen)(h:0<k→∃b off,A=some ⟨b,off,none⟩∧D b∧b<w.heap.size∧∀i,i<k→∃u tx,ugo w b (off+i*s.sz) u∧Rep w D s u [tx]):∃t,Rep w D (.list s) [.slice A k c] [t]:=by
 rcases Nat.eq_zero_or_pos k with h0|h0
 ·subst h0
  exact⟨_,A,0,c,fun _=>[],fun _=>[],rfl,hkc,hc,rfl,fun h=>absurd h (by omega),fun i hi=>absurd hi (by omega)⟩
 ·obtain⟨b,off,hA,hD,hlt,hel⟩:=h h0
  have hch:∃(us:Nat→List Value) (tx:Nat→List UInt8),∀i,i<k→ugo w b (off+i*s.sz) (us i)∧Rep w D s (us i) [tx i]:=by
   refine⟨fun i=>if hi:i<k then(hel i hi).choose else [],fun i=>if hi:i<k then(hel i hi).choose_spec.choose else [],fun i hi=>?_⟩
   simp only[hi,dif_pos];exact(hel i hi).choose_spec.choose_spec
  obtain⟨us,tx,hut⟩:=hch;exact⟨par tx k,A,k,c,us,tx,rfl,hkc,hc,rfl,fun _=>⟨b,off,hA,hD,hlt,fun i hi=>(hut i hi).1⟩,fun i hi=>(hut i hi).2⟩
section
variable {H:Type} {enc:TypeId×Value→H} {W:World} {base:Nat} {spare:Nat→Bool} {held:Bool}
theorem ug3{n:Nat}{cs:List Value}{x:DataW H×List MemPlace}(h:DataW.trod enc Tryz.prog W base spare held n 74 cs=some x) :
 ∃A k c f,cs=[.slice A k c]∧LimbsD W (fun _=>True) (.slice A k c) k f:=by
 obtain⟨A,k,c,f,rfl,_,hL⟩:=up1 h;exact⟨A,k,c,f,rfl,Limbs.inD hL fun _ _ _=>trivial⟩
set_option maxRecDepth 100000 in
theorem uvo{n:Nat}{cs:List Value}{x:DataW H×List MemPlace}(h:DataW.trod enc Tryz.prog W base spare held n 76 cs=some x) :
 ∃t,Rep W (fun _=>True) .big cs [t]:=by
 obtain⟨y0,y1,y2,m,_,hl,h0,h1,h2⟩:=trod_struct3 Tryz.underlying76 h;rw[us0]at hl;match cs,hl with
 | [c0,c1,c2],_=>
  have e0:=h0;have e1:=h1;have e2:=h2;simp only[upz,up0,List.drop_zero,List.take_succ_cons,List.take_zero,List.drop_succ_cons]at e0 e1 e2;obtain⟨s,e3,_⟩:=DataW.trod_bool Tryz.underlying4 e0;obtain⟨A,k,c,f,e4,hL⟩:=ug3 e1;obtain⟨A',k',c',f',e5,hL'⟩:=ug3 e2;injection e3 with e3 _;injection e4 with e4 _;injection e5 with e5 _;subst e3;subst e4;subst e5;exact⟨_,_,⟨s,k,k',f,f',_,_,rfl,hL,hL',rfl⟩,rfl⟩
set_option maxRecDepth 100000 in
theorem uc8:∀(s:Shape) (F:Nat) (t:TypeId) (fs:List Field) (off:Nat) (cs:List Value),Fit F s t fs off →
 (s.one=true→∀x,DataW.trod enc Tryz.prog W base spare held F t cs=some x→∃tx,Rep W (fun _=>True) s cs [tx]) ∧
 (s.one=false→(∀f,f∈fs→∃y,DataW.trod enc Tryz.prog W base spare held F f.type ((cs.drop f.offset).take (Tryz.prog.cellsOf f.type))=some y)→cs.length=off+s.sz→∃tr,Rep W (fun _=>True) s (cs.drop off) tr)
 | .int,F,t,fs,off,cs,hF=>by
  refine⟨fun _ x hx=>?_,fun h=>by cases h⟩
  obtain⟨n,rfl,_,hw⟩:=DataW.trod_int hF hx;have:=bounds_i64 hw;exact⟨_,n,rfl,by omega,by omega,rfl⟩
 | .bool,F,t,fs,off,cs,hF=>by
  refine⟨fun _ x hx=>?_,fun h=>by cases h⟩
  obtain⟨b,rfl,_⟩:=DataW.trod_bool hF hx;exact⟨_,b,rfl,rfl⟩
 | .rat,F,t,fs,off,cs,hF=>False.elim hF
 | .big,F,t,fs,off,cs,hF=>by
  refine⟨fun _ x hx=>?_,fun h=>by cases h⟩
  have hF':t=76:=hF;subst hF';exact uvo hx
 | .no s,F,t,fs,off,cs,hF=>by
  have hF':F=0:=hF;subst hF';exact⟨fun _ x hx=>by simp[DataW.trod]at hx,fun h=>by cases h⟩
 | .fin,F,t,fs,off,cs,hF=>by
  refine⟨fun h=>(by cases h),fun _ _ hl=>⟨[],?_,rfl⟩⟩
  have:cs.length=off:=by simpa[Shape.sz]using hl
  exact List.drop_eq_nil_of_le (by omega)
 | .list s,F,t,fs,off,cs,hF=>by
  refine⟨fun _ x hx=>?_,fun h=>by cases h⟩
  obtain⟨e,hu,hce,hone,hpos,hFs⟩:=hF;rcases DataW.trod_slice hu hx with⟨rfl,_⟩|⟨a,len,cap,elems,rest,n,rfl,rfl,_,hb,hl,hm,hlen,hel,_,_⟩
  ·exact Rep.list_of (Nat.le_refl _) (Nat.zero_le _) fun h=>absurd h (by omega)
  ·refine Rep.list_of hl hm fun h0=>?_
   rw[hce]at hel;have key:∀i,i<len→∃u tx,base≤(a.add (i*s.sz)).block∧u.length=s.sz∧(∀j,j<s.sz→W.cell? ((a.add (i*s.sz)).add j)=u[j]?)∧Rep W (fun _=>True) s u [tx]:=by
    intro i hi;have h1:=hel i hi;rw[List.getElem?_eq_getElem (by omega)]at h1
    obtain⟨u,hu1,hu2⟩:=Option.bind_eq_some_iff.1 h1;obtain⟨q1,q2,q3⟩:=World.cells?_some hu1;obtain⟨tx,htx⟩:=(uc8 s n e [] 0 u hFs).1 hone _ hu2;exact⟨u,tx,q1,q2,q3,htx⟩
   obtain⟨u0,tx0,_,hl0,hc0,hr0⟩:=key 0 h0;have h1:=hc0 0 hpos;rw[List.getElem?_eq_getElem (by omega)]at h1
   have hs:a.spot=none:=by simpa[Addr.add]using World.cell?_spot h1
   obtain⟨b,o,spot⟩:=a;simp only at hs;subst hs;refine⟨b,o,rfl,trivial,by have:=ulu h1;simpa[Addr.add]using this,fun i hi=>?_⟩
   obtain⟨u,tx,_,hl2,hc2,hr2⟩:=key i hi;refine⟨u,tx,fun j y hy=>?_,hr2⟩
   have hj:j<s.sz:=by rw[←hl2];exact(List.getElem?_eq_some_iff.1 hy).1
   have:=hc2 j hj;rw[hy]at this;rw[Addr.add_lit,Addr.add_lit]at this;exact this
 | .st f,F,t,fs,off,cs,hF=>by
  refine⟨fun _ x hx=>?_,fun h=>by cases h⟩
  obtain⟨fs',hu,hce,hfo,hFf⟩:=hF;obtain⟨xs,n,rfl,_,hl,hxl,hf⟩:=DataW.trod_struct hu hx;rw[hce]at hl;obtain⟨tr,htr⟩:=(uc8 f n 0 fs'.toList 0 cs hFf).2 hfo (fun fd hfd=>by
   obtain⟨i,hi,hfi⟩:=List.mem_iff_getElem.1 hfd;have h1:=hf i fd (by rw[←hfi];simp at hi;simp[hi])
   rw[List.getElem?_eq_getElem (by rw[hxl];simpa using hi)]at h1
   exact⟨_,h1⟩) (by omega)
  rw[List.drop_zero]at htr;exact⟨_,tr,rfl,htr⟩
 | .and s f,F,t,fs,off,cs,hF=>by
  refine⟨fun h=>(by cases h),fun _ hall hl=>?_⟩
  obtain⟨fd,rest,rfl,ho,hce,hone,hfo,hFs,hFf⟩:=hF;obtain⟨y,hy⟩:=hall fd (List.mem_cons_self);rw[ho,hce]at hy;obtain⟨tx,htx⟩:=(uc8 s F fd.type [] 0 _ hFs).1 hone _ hy;obtain⟨tr,htr⟩:=(uc8 f F 0 rest (off+s.sz) cs hFf).2 hfo (fun g hg=>hall g (List.mem_cons_of_mem _ hg)) (by rw[hl];simp[Shape.sz];omega)
  refine⟨tx::tr,_,_,tx,tr,?_,rfl,htx,htr⟩;rw[←List.drop_drop,List.take_append_drop]
end
theorem ubq{N:Nat}:Shape.sz (ugd N)=5:=by
 show Shape.sz .big+(Shape.sz (uC N)+(0))=_
 rw[um];rfl
theorem ufz{N:Nat}:Shape.sz (uus N)=6:=by
 show Shape.sz .int+(Shape.sz .big+(Shape.sz (uC N)+(0)))=_
 rw[um];rfl
theorem ugi{N:Nat}:Shape.sz (uus N)=6:=by
 show Shape.sz .int+(Shape.sz .big+(Shape.sz (uC N)+(0)))=_
 rw[um];rfl
theorem uc9{N:Nat}:Shape.sz (ugp N)=3:=by
 show Shape.sz .int+(Shape.sz (.list (uus N))+(Shape.sz (.list (ugd N))+(0)))=_
 rfl
theorem ub4{N:Nat}:Shape.sz (uxo N)=13:=by
 show Shape.sz axS+(Shape.sz .big+(Shape.sz (uC N)+(Shape.sz (.list .big)+(Shape.sz (.list .big)+(0)))))=_
 rw[uh,um];rfl
theorem ufn{N:Nat}:Shape.sz (ur2 N)=11:=by
 show Shape.sz .int+(Shape.sz .int+(Shape.sz .bool+(Shape.sz (.list (ugd N))+(Shape.sz (.list (ugd N))+(Shape.sz (.list (ugp N))+(Shape.sz (.list (uus N))+(Shape.sz (.list (ugd N))+(Shape.sz (.list .int)+(Shape.sz (.list .big)+(Shape.sz (.list (.list (uxo N)))+(0)))))))))))=_
 rfl
theorem uvp{N:Nat}:Shape.sz (uj2 N)=9:=by
 show Shape.sz .bool+(Shape.sz uM+(Shape.sz (.list ut)+(Shape.sz (uaw N)+(Shape.sz (.list (ur2 N))+(Shape.sz (.list uW)+(0))))))=_
 rw[ud,uu];rfl
set_option maxRecDepth 10000 in
theorem ump(F:Nat):Fit F uH 219 [] 0:=by
 refine⟨_,Tryz.underlying219,(show _=2 by kernel_rfl).trans ubw.symm,rfl,?_⟩
 refine⟨_,_,rfl,(by first|rfl|simp[Shape.sz,uw,ud,uA,uu,uj,um,uh]),by kernel_rfl,rfl,rfl,Tryz.underlying3,?_⟩
 refine⟨_,_,rfl,(by first|rfl|simp[Shape.sz,uw,ud,uA,uu,uj,um,uh]),by kernel_rfl,rfl,rfl,Tryz.underlying2,?_⟩
 rfl
set_option maxRecDepth 10000 in
theorem ug4(F:Nat):Fit F uX 148 [] 0:=by
 refine⟨_,Tryz.underlying148,(show _=2 by kernel_rfl).trans uw.symm,rfl,?_⟩
 refine⟨_,_,rfl,(by first|rfl|simp[Shape.sz,uw,ud,uA,uu,uj,um,uh]),by kernel_rfl,rfl,rfl,Tryz.underlying2,?_⟩
 refine⟨_,_,rfl,(by first|rfl|simp[Shape.sz,uw,ud,uA,uu,uj,um,uh]),by kernel_rfl,rfl,rfl,⟨_,Tryz.underlying146,(show _=2 by kernel_rfl).trans ubw.symm,rfl,by rw[ubw];decide,(ump ((F-1)-1))⟩,?_⟩
 rfl
set_option maxRecDepth 10000 in
theorem ukn(F:Nat):Fit F ut 105 [] 0:=by
 refine⟨_,Tryz.underlying105,(show _=2 by kernel_rfl).trans ua9.symm,rfl,?_⟩
 refine⟨_,_,rfl,(by first|rfl|simp[Shape.sz,uw,ud,uA,uu,uj,um,uh]),by kernel_rfl,rfl,rfl,⟨_,Tryz.underlying103,(show _=2 by kernel_rfl).trans uw.symm,rfl,by rw[uw];decide,(ug4 ((F-1)-1))⟩,?_⟩
 refine⟨_,_,rfl,(by first|rfl|simp[Shape.sz,uw,ud,uA,uu,uj,um,uh]),by kernel_rfl,rfl,rfl,⟨_,Tryz.underlying103,(show _=2 by kernel_rfl).trans uw.symm,rfl,by rw[uw];decide,(ug4 ((F-1)-1))⟩,?_⟩
 rfl
set_option maxRecDepth 10000 in
theorem up2(F:Nat):Fit F uM 25 [] 0:=by
 refine⟨_,Tryz.underlying25,(show _=2 by kernel_rfl).trans ud.symm,rfl,?_⟩
 refine⟨_,_,rfl,(by first|rfl|simp[Shape.sz,uw,ud,uA,uu,uj,um,uh]),by kernel_rfl,rfl,rfl,⟨_,Tryz.underlying23,by kernel_rfl,rfl,by decide,Tryz.underlying2⟩,?_⟩
 refine⟨_,_,rfl,(by first|rfl|simp[Shape.sz,uw,ud,uA,uu,uj,um,uh]),by kernel_rfl,rfl,rfl,⟨_,Tryz.underlying23,by kernel_rfl,rfl,by decide,Tryz.underlying2⟩,?_⟩
 rfl
set_option maxRecDepth 10000 in
theorem us2:∀(N F:Nat) (h:F≤N),Fit F (ua1 N) 116 [] 0
 | 0,F,h=>(show F=0 by omega)
 | N+1,F,h=>by
  refine⟨_,Tryz.underlying116,(show _=3 by kernel_rfl).trans (uA (n:=N+1)).symm,rfl,?_⟩
  refine⟨_,_,rfl,(by first|rfl|simp[Shape.sz,uw,ud,uA,uu,uj,um,uh]),by kernel_rfl,rfl,rfl,Tryz.underlying3,?_⟩
  refine⟨_,_,rfl,(by first|rfl|simp[Shape.sz,uw,ud,uA,uu,uj,um,uh]),by kernel_rfl,rfl,rfl,Tryz.underlying3,?_⟩
  refine⟨_,_,rfl,(by first|rfl|simp[Shape.sz,uw,ud,uA,uu,uj,um,uh]),by kernel_rfl,rfl,rfl,⟨_,Tryz.underlying114,(show _=3 by kernel_rfl).trans uA.symm,ul1,by rw[uA];decide,(us2 N ((F-1)-1) (by omega))⟩,?_⟩
  rfl
set_option maxRecDepth 10000 in
theorem us3(N F:Nat)(h:F≤N):Fit F (uae N) 118 [] 0:=by
 refine⟨_,Tryz.underlying118,(show _=4 by kernel_rfl).trans (ucr (n:=N)).symm,rfl,?_⟩
 refine⟨_,_,rfl,(by first|rfl|simp[Shape.sz,uw,ud,uA,uu,uj,um,uh]),(show _=3 by kernel_rfl).trans uA.symm,ul1,rfl,(us2 N (F-1) (by omega)),?_⟩
 refine⟨_,_,rfl,(by first|rfl|simp[Shape.sz,uw,ud,uA,uu,uj,um,uh]),by kernel_rfl,rfl,rfl,⟨_,Tryz.underlying61,by kernel_rfl,rfl,by decide,Tryz.underlying3⟩,?_⟩
 rfl
set_option maxRecDepth 10000 in
theorem uvq(N F:Nat)(h:F≤N):Fit F (uaw N) 30 [] 0:=by
 refine⟨_,Tryz.underlying30,(show _=3 by kernel_rfl).trans (uu (n:=N)).symm,rfl,?_⟩
 refine⟨_,_,rfl,(by first|rfl|simp[Shape.sz,uw,ud,uA,uu,uj,um,uh]),by kernel_rfl,rfl,rfl,⟨_,Tryz.underlying27,by kernel_rfl,rfl,Nat.zero_lt_one,⟨_,Tryz.underlying61,by kernel_rfl,rfl,by decide,Tryz.underlying3⟩⟩,?_⟩
 refine⟨_,_,rfl,(by first|rfl|simp[Shape.sz,uw,ud,uA,uu,uj,um,uh]),by kernel_rfl,rfl,rfl,⟨_,Tryz.underlying27,by kernel_rfl,rfl,Nat.zero_lt_one,⟨_,Tryz.underlying61,by kernel_rfl,rfl,by decide,Tryz.underlying3⟩⟩,?_⟩
 refine⟨_,_,rfl,(by first|rfl|simp[Shape.sz,uw,ud,uA,uu,uj,um,uh]),by kernel_rfl,rfl,rfl,⟨_,Tryz.underlying28,(show _=4 by kernel_rfl).trans ucr.symm,rfl,by rw[ucr];decide,(us3 N ((F-1)-1) (by omega))⟩,?_⟩
 rfl
set_option maxRecDepth 10000 in
theorem uko:∀(N F:Nat) (h:F≤N),Fit F (uy N) 143 [] 0
 | 0,F,h=>(show F=0 by omega)
 | N+1,F,h=>by
  refine⟨_,Tryz.underlying143,(show _=2 by kernel_rfl).trans (uj (n:=N+1)).symm,rfl,?_⟩
  refine⟨_,_,rfl,(by first|rfl|simp[Shape.sz,uw,ud,uA,uu,uj,um,uh]),by kernel_rfl,rfl,rfl,Tryz.underlying3,?_⟩
  refine⟨_,_,rfl,(by first|rfl|simp[Shape.sz,uw,ud,uA,uu,uj,um,uh]),by kernel_rfl,rfl,rfl,⟨_,Tryz.underlying141,(show _=2 by kernel_rfl).trans uj.symm,ugq,by rw[uj];decide,(uko N ((F-1)-1) (by omega))⟩,?_⟩
  rfl
set_option maxRecDepth 10000 in
theorem up3(N F:Nat)(h:F≤N):Fit F (uO N) 145 [] 0:=by
 refine⟨_,Tryz.underlying145,(show _=3 by kernel_rfl).trans (ub2 (n:=N)).symm,rfl,?_⟩
 refine⟨_,_,rfl,(by first|rfl|simp[Shape.sz,uw,ud,uA,uu,uj,um,uh]),by kernel_rfl,rfl,rfl,Tryz.underlying3,?_⟩
 refine⟨_,_,rfl,(by first|rfl|simp[Shape.sz,uw,ud,uA,uu,uj,um,uh]),(show _=2 by kernel_rfl).trans uj.symm,ugq,rfl,(uko N (F-1) (by omega)),?_⟩
 rfl
set_option maxRecDepth 10000 in
theorem uvr(F:Nat):Fit F ua5 150 [] 0:=by
 refine⟨_,Tryz.underlying150,(show _=3 by kernel_rfl).trans udz.symm,rfl,?_⟩
 refine⟨_,_,rfl,(by first|rfl|simp[Shape.sz,uw,ud,uA,uu,uj,um,uh]),(show _=2 by kernel_rfl).trans uw.symm,rfl,rfl,(ug4 (F-1)),?_⟩
 refine⟨_,_,rfl,(by first|rfl|simp[Shape.sz,uw,ud,uA,uu,uj,um,uh]),by kernel_rfl,rfl,rfl,Tryz.underlying3,?_⟩
 rfl
set_option maxRecDepth 10000 in
theorem ugj(N F:Nat)(h:F≤N):Fit F (uC N) 80 [] 0:=by
 refine⟨_,Tryz.underlying80,(show _=2 by kernel_rfl).trans (um (n:=N)).symm,rfl,?_⟩
 refine⟨_,_,rfl,(by first|rfl|simp[Shape.sz,uw,ud,uA,uu,uj,um,uh]),by kernel_rfl,rfl,rfl,⟨_,Tryz.underlying77,(show _=3 by kernel_rfl).trans ub2.symm,rfl,by rw[ub2];decide,(up3 N ((F-1)-1) (by omega))⟩,?_⟩
 refine⟨_,_,rfl,(by first|rfl|simp[Shape.sz,uw,ud,uA,uu,uj,um,uh]),by kernel_rfl,rfl,rfl,⟨_,Tryz.underlying78,(show _=3 by kernel_rfl).trans udz.symm,rfl,by rw[udz];decide,(uvr ((F-1)-1))⟩,?_⟩
 rfl
set_option maxRecDepth 10000 in
theorem ugk(N F:Nat)(h:F≤N):Fit F (ugd N) 139 [] 0:=by
 refine⟨_,Tryz.underlying139,(show _=5 by kernel_rfl).trans (ubq (N:=N)).symm,rfl,?_⟩
 refine⟨_,_,rfl,(by first|rfl|simp[Shape.sz,uw,ud,uA,uu,uj,um,uh]),by kernel_rfl,rfl,rfl,rfl,?_⟩
 refine⟨_,_,rfl,(by first|rfl|simp[Shape.sz,uw,ud,uA,uu,uj,um,uh]),(show _=2 by kernel_rfl).trans um.symm,rfl,rfl,(ugj N (F-1) (by omega)),?_⟩
 rfl
set_option maxRecDepth 10000 in
theorem uxx(N F:Nat)(h:F≤N):Fit F (uus N) 89 [] 0:=by
 refine⟨_,Tryz.underlying89,(show _=6 by kernel_rfl).trans (ufz (N:=N)).symm,rfl,?_⟩
 refine⟨_,_,rfl,(by first|rfl|simp[Shape.sz,uw,ud,uA,uu,uj,um,uh]),by kernel_rfl,rfl,rfl,Tryz.underlying3,?_⟩
 refine⟨_,_,rfl,(by first|rfl|simp[Shape.sz,uw,ud,uA,uu,uj,um,uh]),by kernel_rfl,rfl,rfl,rfl,?_⟩
 refine⟨_,_,rfl,(by first|rfl|simp[Shape.sz,uw,ud,uA,uu,uj,um,uh]),(show _=2 by kernel_rfl).trans um.symm,rfl,rfl,(ugj N (F-1) (by omega)),?_⟩
 rfl
set_option maxRecDepth 10000 in
theorem uvs(N F:Nat)(h:F≤N):Fit F (uus N) 82 [] 0:=by
 refine⟨_,Tryz.underlying82,(show _=6 by kernel_rfl).trans (ugi (N:=N)).symm,rfl,?_⟩
 refine⟨_,_,rfl,(by first|rfl|simp[Shape.sz,uw,ud,uA,uu,uj,um,uh]),by kernel_rfl,rfl,rfl,Tryz.underlying3,?_⟩
 refine⟨_,_,rfl,(by first|rfl|simp[Shape.sz,uw,ud,uA,uu,uj,um,uh]),by kernel_rfl,rfl,rfl,rfl,?_⟩
 refine⟨_,_,rfl,(by first|rfl|simp[Shape.sz,uw,ud,uA,uu,uj,um,uh]),(show _=2 by kernel_rfl).trans um.symm,rfl,rfl,(ugj N (F-1) (by omega)),?_⟩
 rfl
set_option maxRecDepth 10000 in
theorem up4(N F:Nat)(h:F≤N):Fit F (ugp N) 87 [] 0:=by
 refine⟨_,Tryz.underlying87,(show _=3 by kernel_rfl).trans (uc9 (N:=N)).symm,rfl,?_⟩
 refine⟨_,_,rfl,(by first|rfl|simp[Shape.sz,uw,ud,uA,uu,uj,um,uh]),by kernel_rfl,rfl,rfl,Tryz.underlying3,?_⟩
 refine⟨_,_,rfl,(by first|rfl|simp[Shape.sz,uw,ud,uA,uu,uj,um,uh]),by kernel_rfl,rfl,rfl,⟨_,Tryz.underlying85,(show _=6 by kernel_rfl).trans ufz.symm,rfl,by rw[ufz];decide,(uxx N ((F-1)-1) (by omega))⟩,?_⟩
 refine⟨_,_,rfl,(by first|rfl|simp[Shape.sz,uw,ud,uA,uu,uj,um,uh]),by kernel_rfl,rfl,rfl,⟨_,Tryz.underlying58,(show _=5 by kernel_rfl).trans ubq.symm,rfl,by rw[ubq];decide,(ugk N ((F-1)-1) (by omega))⟩,?_⟩
 rfl
set_option maxRecDepth 10000 in
theorem us4(F:Nat):Fit F axS 152 [] 0:=by
 refine⟨_,Tryz.underlying152,(show _=6 by kernel_rfl).trans uh.symm,rfl,?_⟩
 refine⟨_,_,rfl,(by first|rfl|simp[Shape.sz,uw,ud,uA,uu,uj,um,uh]),by kernel_rfl,rfl,rfl,Tryz.underlying3,?_⟩
 refine⟨_,_,rfl,(by first|rfl|simp[Shape.sz,uw,ud,uA,uu,uj,um,uh]),(show _=2 by kernel_rfl).trans uw.symm,rfl,rfl,(ug4 (F-1)),?_⟩
 refine⟨_,_,rfl,(by first|rfl|simp[Shape.sz,uw,ud,uA,uu,uj,um,uh]),(show _=2 by kernel_rfl).trans uw.symm,rfl,rfl,(ug4 (F-1)),?_⟩
 refine⟨_,_,rfl,(by first|rfl|simp[Shape.sz,uw,ud,uA,uu,uj,um,uh]),by kernel_rfl,rfl,rfl,Tryz.underlying3,?_⟩
 rfl
set_option maxRecDepth 10000 in
theorem ukp(N F:Nat)(h:F≤N):Fit F (uxo N) 154 [] 0:=by
 refine⟨_,Tryz.underlying154,(show _=13 by kernel_rfl).trans (ub4 (N:=N)).symm,rfl,?_⟩
 refine⟨_,_,rfl,(by first|rfl|simp[Shape.sz,uw,ud,uA,uu,uj,um,uh]),(show _=6 by kernel_rfl).trans uh.symm,rfl,rfl,(us4 (F-1)),?_⟩
 refine⟨_,_,rfl,(by first|rfl|simp[Shape.sz,uw,ud,uA,uu,uj,um,uh]),by kernel_rfl,rfl,rfl,rfl,?_⟩
 refine⟨_,_,rfl,(by first|rfl|simp[Shape.sz,uw,ud,uA,uu,uj,um,uh]),(show _=2 by kernel_rfl).trans um.symm,rfl,rfl,(ugj N (F-1) (by omega)),?_⟩
 refine⟨_,_,rfl,(by first|rfl|simp[Shape.sz,uw,ud,uA,uu,uj,um,uh]),by kernel_rfl,rfl,rfl,⟨_,Tryz.underlying62,by kernel_rfl,rfl,by decide,rfl⟩,?_⟩
 refine⟨_,_,rfl,(by first|rfl|simp[Shape.sz,uw,ud,uA,uu,uj,um,uh]),by kernel_rfl,rfl,rfl,⟨_,Tryz.underlying62,by kernel_rfl,rfl,by decide,rfl⟩,?_⟩
 rfl
set_option maxRecDepth 10000 in
theorem uvt(N F:Nat)(h:F≤N):Fit F (ur2 N) 65 [] 0:=by
 refine⟨_,Tryz.underlying65,(show _=11 by kernel_rfl).trans (ufn (N:=N)).symm,rfl,?_⟩
 refine⟨_,_,rfl,(by first|rfl|simp[Shape.sz,uw,ud,uA,uu,uj,um,uh]),by kernel_rfl,rfl,rfl,Tryz.underlying3,?_⟩
 refine⟨_,_,rfl,(by first|rfl|simp[Shape.sz,uw,ud,uA,uu,uj,um,uh]),by kernel_rfl,rfl,rfl,Tryz.underlying3,?_⟩
 refine⟨_,_,rfl,(by first|rfl|simp[Shape.sz,uw,ud,uA,uu,uj,um,uh]),by kernel_rfl,rfl,rfl,Tryz.underlying4,?_⟩
 refine⟨_,_,rfl,(by first|rfl|simp[Shape.sz,uw,ud,uA,uu,uj,um,uh]),by kernel_rfl,rfl,rfl,⟨_,Tryz.underlying58,(show _=5 by kernel_rfl).trans ubq.symm,rfl,by rw[ubq];decide,(ugk N ((F-1)-1) (by omega))⟩,?_⟩
 refine⟨_,_,rfl,(by first|rfl|simp[Shape.sz,uw,ud,uA,uu,uj,um,uh]),by kernel_rfl,rfl,rfl,⟨_,Tryz.underlying58,(show _=5 by kernel_rfl).trans ubq.symm,rfl,by rw[ubq];decide,(ugk N ((F-1)-1) (by omega))⟩,?_⟩
 refine⟨_,_,rfl,(by first|rfl|simp[Shape.sz,uw,ud,uA,uu,uj,um,uh]),by kernel_rfl,rfl,rfl,⟨_,Tryz.underlying59,(show _=3 by kernel_rfl).trans uc9.symm,rfl,by rw[uc9];decide,(up4 N ((F-1)-1) (by omega))⟩,?_⟩
 refine⟨_,_,rfl,(by first|rfl|simp[Shape.sz,uw,ud,uA,uu,uj,um,uh]),by kernel_rfl,rfl,rfl,⟨_,Tryz.underlying60,(show _=6 by kernel_rfl).trans ugi.symm,rfl,by rw[ugi];decide,(uvs N ((F-1)-1) (by omega))⟩,?_⟩
 refine⟨_,_,rfl,(by first|rfl|simp[Shape.sz,uw,ud,uA,uu,uj,um,uh]),by kernel_rfl,rfl,rfl,⟨_,Tryz.underlying58,(show _=5 by kernel_rfl).trans ubq.symm,rfl,by rw[ubq];decide,(ugk N ((F-1)-1) (by omega))⟩,?_⟩
 refine⟨_,_,rfl,(by first|rfl|simp[Shape.sz,uw,ud,uA,uu,uj,um,uh]),by kernel_rfl,rfl,rfl,⟨_,Tryz.underlying61,by kernel_rfl,rfl,by decide,Tryz.underlying3⟩,?_⟩
 refine⟨_,_,rfl,(by first|rfl|simp[Shape.sz,uw,ud,uA,uu,uj,um,uh]),by kernel_rfl,rfl,rfl,⟨_,Tryz.underlying62,by kernel_rfl,rfl,by decide,rfl⟩,?_⟩
 refine⟨_,_,rfl,(by first|rfl|simp[Shape.sz,uw,ud,uA,uu,uj,um,uh]),by kernel_rfl,rfl,rfl,⟨_,Tryz.underlying63,by kernel_rfl,rfl,Nat.zero_lt_one,⟨_,Tryz.underlying90,(show _=13 by kernel_rfl).trans ub4.symm,rfl,by rw[ub4];decide,(ukp N (((F-1)-1)-1) (by omega))⟩⟩,?_⟩
 rfl
set_option maxRecDepth 10000 in
theorem us5(F:Nat):Fit F uW 68 [] 0:=by
 refine⟨_,Tryz.underlying68,(show _=2 by kernel_rfl).trans udh.symm,rfl,?_⟩
 refine⟨_,_,rfl,(by first|rfl|simp[Shape.sz,uw,ud,uA,uu,uj,um,uh]),by kernel_rfl,rfl,rfl,Tryz.underlying3,?_⟩
 refine⟨_,_,rfl,(by first|rfl|simp[Shape.sz,uw,ud,uA,uu,uj,um,uh]),by kernel_rfl,rfl,rfl,Tryz.underlying3,?_⟩
 rfl
set_option maxRecDepth 10000 in
theorem uvu(N F:Nat)(h:F≤N):Fit F (uj2 N) 34 [] 0:=by
 refine⟨_,Tryz.underlying34,(show _=9 by kernel_rfl).trans (uvp (N:=N)).symm,rfl,?_⟩
 refine⟨_,_,rfl,(by first|rfl|simp[Shape.sz,uw,ud,uA,uu,uj,um,uh]),by kernel_rfl,rfl,rfl,Tryz.underlying4,?_⟩
 refine⟨_,_,rfl,(by first|rfl|simp[Shape.sz,uw,ud,uA,uu,uj,um,uh]),(show _=2 by kernel_rfl).trans ud.symm,rfl,rfl,(up2 (F-1)),?_⟩
 refine⟨_,_,rfl,(by first|rfl|simp[Shape.sz,uw,ud,uA,uu,uj,um,uh]),by kernel_rfl,rfl,rfl,⟨_,Tryz.underlying26,(show _=2 by kernel_rfl).trans ua9.symm,rfl,by rw[ua9];decide,(ukn ((F-1)-1))⟩,?_⟩
 refine⟨_,_,rfl,(by first|rfl|simp[Shape.sz,uw,ud,uA,uu,uj,um,uh]),(show _=3 by kernel_rfl).trans uu.symm,rfl,rfl,(uvq N (F-1) (by omega)),?_⟩
 refine⟨_,_,rfl,(by first|rfl|simp[Shape.sz,uw,ud,uA,uu,uj,um,uh]),by kernel_rfl,rfl,rfl,⟨_,Tryz.underlying31,(show _=11 by kernel_rfl).trans ufn.symm,rfl,by rw[ufn];decide,(uvt N ((F-1)-1) (by omega))⟩,?_⟩
 refine⟨_,_,rfl,(by first|rfl|simp[Shape.sz,uw,ud,uA,uu,uj,um,uh]),by kernel_rfl,rfl,rfl,⟨_,Tryz.underlying32,(show _=2 by kernel_rfl).trans udh.symm,rfl,by rw[udh];decide,(us5 ((F-1)-1))⟩,?_⟩
 rfl
theorem us6{H:Type}{enc:TypeId×Value→H}{W:World}{base:Nat}{spare:Nat→Bool}{held:Bool}{v:Value}{d:DataW H}{p:List MemPlace}(h:DataW.Trod enc Tryz.prog W base spare held 34 v d p) :
 ∃N t,Rep W (fun _=>True) (uj2 N) v.cells.toList [t]:=by
 obtain⟨N,hN⟩:=h;obtain⟨t,ht⟩:=(uc8 (uj2 N) N 34 [] 0 _ (uvu N N (Nat.le_refl _))).1 rfl _ hN;exact⟨N,t,ht⟩
end Go.Proofs.YtellcholbkoakaaGreatDoor
