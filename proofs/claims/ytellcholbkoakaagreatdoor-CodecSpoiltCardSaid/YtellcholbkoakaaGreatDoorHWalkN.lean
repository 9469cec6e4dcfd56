/-
  The walks of rational's FromInt, Small and plus.
-/
import Derived.Test.YtellcholbkoakaaGreatDoorHWalkI
import Derived.Test.YtellcholbkoakaaGreatDoorHMem
import Derived.Test.YtellcholbkoakaaGreatDoorHWalkA
import Derived.Test.YtellcholbkoakaaGreatDoorHRegion
import Derived.Deep.DeepCutAuto
import Derived.Deep.CutBlock
namespace Go.Proofs.YtellcholbkoakaaGreatDoor
open Go.RowKit AC
set_option linter.unusedVariables false
set_option linter.unusedSimpArgs false
theorem ulk(w:World)(o:Obj):Below w.heap.size w (w.alloc o):=(Below.refl _ _).alloc (Nat.le_refl _) o
theorem ufk{w:World}{lo:Nat}{v:Value}{q:Rat}(h:RatR w lo v q){g:Nat}(hg:g<lo)(x y z:Value) :
 RatR (((w.setCell ⟨g,0,none⟩ x).setCell ⟨g,1,none⟩ y).setCell ⟨g,2,none⟩ z) lo v q:=by
 obtain⟨vn,vd,rfl,h1,h2⟩:=h;exact⟨vn,vd,rfl,uT h1 hg x y z,uT h2 hg x y z⟩
theorem RatV.form{w:World}{lo:Nat}{v:Value}{K:Nat}{q:Rat}(h:RatV w lo v K q) :
 ∃s A k c A' k' c',v = .agg #[.bool s,.slice A k c,.slice A' k' c']:=by
 obtain⟨neg,kn,kd,fn,fd,vn,vd,rfl,h1,h2,_⟩:=h;obtain⟨A,c,rfl⟩:=h1.len;obtain⟨A',c',rfl⟩:=h2.len;exact⟨neg,A,kn,c,A',kd,c',rfl⟩
def uz4(w:World)(q:Rat):Ending→World→Prop:=Ret fun v2 w'=>RatR w' w.heap.size v2 q∧Below w.heap.size w w'
def uAs(q:Rat):Int:=q.num.sign
def LimbsH(w:World)(lo hi:Nat)(v:Value)(k:Nat)(f:Nat→Nat):Prop:=
 (∀i,i<k→f i<4294967296)∧∃A c,v = .slice A k c∧k≤c∧c≤maxLen ∧
  (0<k→∃b off,A=some ⟨b,off,none⟩∧lo≤b∧b<hi∧∀i,i<k→w.cell? ⟨b,off+i,none⟩=some (.int .u32 ((f i:Nat):Int)))
theorem LimbsH.keep{w w':World}{lo hi:Nat}{v:Value}{k:Nat}{f:Nat→Nat}(h:LimbsH w lo hi v k f)(hk:∀b,lo≤b→b<hi→w'.heap[b]? = w.heap[b]?):LimbsH w' lo hi v k f:=by
 obtain⟨h1,A,c,rfl,h2,h3,h4⟩:=h;refine⟨h1,A,c,rfl,h2,h3,fun h0=>?_⟩
 obtain⟨b,off,rfl,h5,h6,h7⟩:=h4 h0;exact⟨b,off,rfl,h5,h6,fun i hi=>(World.cell?_of_block (a:=⟨b,off+i,none⟩) (hk b h5 h6)).trans (h7 i hi)⟩
theorem LimbsH.limbs{w:World}{lo hi:Nat}{v:Value}{k:Nat}{f:Nat→Nat}(h:LimbsH w lo hi v k f)(hh:hi≤w.heap.size):Limbs w lo v k f:=by
 obtain⟨h1,A,c,rfl,h2,h3,h4⟩:=h;refine⟨h1,A,c,rfl,h2,h3,fun h0=>?_⟩
 obtain⟨b,off,rfl,h5,h6,h7⟩:=h4 h0;exact⟨b,off,rfl,h5,by omega,h7⟩
def LH(w:World)(lo hi K:Nat)(q:Rat)(v:Value):Prop:=
 ∃neg n d A c A' c',v = .agg #[.bool neg,.slice A (dl n) c,.slice A' (dl d) c']∧LimbsH w lo hi (.slice A (dl n) c) (dl n) (dg n)∧LimbsH w lo hi (.slice A' (dl d) c') (dl d) (dg d) ∧
  d≠0∧dl n≤K+1∧dl d≤K+1∧q=mkRat (sg neg n) d
theorem LH.keep{w w':World}{lo hi K:Nat}{q:Rat}{v:Value}(h:LH w lo hi K q v)(hk:∀b,lo≤b→b<hi→w'.heap[b]? = w.heap[b]?):LH w' lo hi K q v:=by
 obtain⟨neg,n,d,A,c,A',c',rfl,h1,h2,h3⟩:=h;exact⟨neg,n,d,A,c,A',c',rfl,h1.keep hk,h2.keep hk,h3⟩
def uyz:Array Value:=#[.bool false,.slice none 0 0,.slice none 0 0]
structure MI (w:World) (va vb:Value) (K K':Nat) (q q':Rat) (d:Nat→Bool) (f g lo1 hi1 lo2 hi2:Nat) (s5 s6 s7 s8 s9 s10:Value) (x:World):Prop where
 below:Below w.heap.size w x
 c0:d 0=true→s7=va
 c2:d 2=true→s9=vb
 c1:d 1=true→w.heap.size≤lo1∧hi1≤x.heap.size∧LH x lo1 hi1 K q s8
 c3:d 3=true→w.heap.size≤lo2∧hi2≤x.heap.size∧LH x lo2 hi2 K' q' s10
 c4:d 4=true→s5 = .pointer (some ⟨f,0,none⟩)∧w.heap.size≤f∧Bk x f 291 (if d 6 then s8.cells else uyz)
 c5:d 5=true→s6 = .pointer (some ⟨g,0,none⟩)∧w.heap.size≤g∧Bk x g 291 (if d 7 then s10.cells else uyz)
 n41:d 4=true→d 1=true→f<lo1∨hi1≤f
 n43:d 4=true→d 3=true→f<lo2∨hi2≤f
 n51:d 5=true→d 1=true→g<lo1∨hi1≤g
 n53:d 5=true→d 3=true→g<lo2∨hi2≤g
 n45:d 4=true→d 5=true→f≠g
 o6:d 6=true→d 1=true∧d 3=true∧d 4=true∧d 5=true
 o7:d 7=true→d 6=true
section
variable {w:World} {va vb:Value} {K K':Nat} {q q':Rat} {d:Nat→Bool} {f g lo1 hi1 lo2 hi2:Nat} {s5 s6 s7 s8 s9 s10:Value} {x x':World}
theorem MI.later(h:MI w va vb K K' q q' d f g lo1 hi1 lo2 hi2 s5 s6 s7 s8 s9 s10 x)(hb:Below x.heap.size x x'):MI w va vb K K' q q' d f g lo1 hi1 lo2 hi2 s5 s6 s7 s8 s9 s10 x' where
 below:=h.below.trans (hb.mono h.below.size)
 c0:=h.c0
 c2:=h.c2
 c1:=fun e=>⟨(h.c1 e).1,Nat.le_trans (h.c1 e).2.1 hb.size,(h.c1 e).2.2.keep fun b _ h2=>hb.block b (Nat.lt_of_lt_of_le h2 (h.c1 e).2.1)⟩
 c3:=fun e=>⟨(h.c3 e).1,Nat.le_trans (h.c3 e).2.1 hb.size,(h.c3 e).2.2.keep fun b _ h2=>hb.block b (Nat.lt_of_lt_of_le h2 (h.c3 e).2.1)⟩
 c4:=fun e=>⟨(h.c4 e).1,(h.c4 e).2.1,(h.c4 e).2.2.below hb (h.c4 e).2.2.lt⟩
 c5:=fun e=>⟨(h.c5 e).1,(h.c5 e).2.1,(h.c5 e).2.2.below hb (h.c5 e).2.2.lt⟩
 n41:=h.n41
 n43:=h.n43
 n51:=h.n51
 n53:=h.n53
 n45:=h.n45
 o6:=h.o6
 o7:=h.o7
theorem uc6(x:World)(b':Nat)(p y z:Value):(((x.setCell ⟨b',0,none⟩ p).setCell ⟨b',1,none⟩ y).setCell ⟨b',2,none⟩ z).heap.size=x.heap.size:=by simp[World.setCell]
end
def uy0(q q':Rat):Int:=uAs (q-q')
def RatH(w:World)(lo hi:Nat)(v:Value)(q:Rat):Prop:=
 ∃vn vd,v = .agg #[.bool (decide (q.num<0)),vn,vd]∧LimbsH w lo hi vn (dl q.num.natAbs) (dg q.num.natAbs)∧LimbsH w lo hi vd (dl q.den) (dg q.den)
theorem RatH.keep{w w':World}{lo hi:Nat}{v:Value}{q:Rat}(h:RatH w lo hi v q)(hk:∀b,lo≤b→b<hi→w'.heap[b]? = w.heap[b]?):RatH w' lo hi v q:=by
 obtain⟨vn,vd,rfl,h1,h2⟩:=h;exact⟨vn,vd,rfl,h1.keep hk,h2.keep hk⟩
theorem RatH.below{w w':World}{lo hi:Nat}{v:Value}{q:Rat}(h:RatH w lo hi v q)(hh:hi≤w.heap.size)(hb:Below w.heap.size w w'):RatH w' lo hi v q:=
 h.keep fun b _ hb2=>hb.block b (by omega)
theorem RatH.alloc{w:World}{lo hi:Nat}{v:Value}{q:Rat}(h:RatH w lo hi v q)(hh:hi≤w.heap.size)(o:Obj):RatH (w.alloc o) lo hi v q:=
 h.below hh (ulk w o)
def uAf(n:Int):Nat→Rat
 | 0=>1
 | k+1=>uAf n k*mkRat (n-k) (k+1)
def RatsV(w:World)(lo:Nat)(v:Value)(k K:Nat)(r:Nat→Rat):Prop:=
 ∃A c,v = .slice A k c∧k≤c∧c≤maxLen∧(0<k→∃b off,A=some ⟨b,off,none⟩∧lo≤b∧b<w.heap.size ∧
  ∀i,i<k→∃s An kn cn Ad kd cd,w.cell? ⟨b,off+i*3,none⟩=some (.bool s)∧w.cell? ⟨b,off+i*3+1,none⟩=some (.slice An kn cn)∧w.cell? ⟨b,off+i*3+2,none⟩=some (.slice Ad kd cd) ∧
   RatV w lo (.agg #[.bool s,.slice An kn cn,.slice Ad kd cd]) K (r i))
theorem RatsV.below{w w':World}{lo:Nat}{v:Value}{k K:Nat}{r:Nat→Rat}(h:RatsV w lo v k K r)(hb:Below w.heap.size w w'):RatsV w' lo v k K r:=by
 obtain⟨A,c,rfl,h1,h2,h3⟩:=h;refine⟨A,c,rfl,h1,h2,fun h0=>?_⟩
 obtain⟨b,off,rfl,h4,h5,h6⟩:=h3 h0;refine⟨b,off,rfl,h4,Nat.lt_of_lt_of_le h5 hb.size,fun i hi=>?_⟩
 obtain⟨s,An,kn,cn,Ad,kd,cd,e1,e2,e3,e4⟩:=h6 i hi;exact⟨s,An,kn,cn,Ad,kd,cd,(hb.cell (p:=⟨b,_,none⟩) h5).trans e1,(hb.cell (p:=⟨b,_,none⟩) h5).trans e2,(hb.cell (p:=⟨b,_,none⟩) h5).trans e3,e4.below hb⟩
def upw(r:Nat→Rat)(n:Int):Nat→Rat
 | 0=>0
 | k+1=>upw r n k+r k*uAf n k
def RowQ(w:World)(b k n:Nat)(r:Nat→Rat):Prop:=
 ∃f:Nat→Value,w.rowIs b 76 (k*3) f∧∀j,j<n→∃s An kn cn Ad kd cd,f (j*3) = .bool s∧f (j*3+1) = .slice An kn cn∧f (j*3+2) = .slice Ad kd cd∧RatR w (b+1) (.agg #[.bool s,.slice An kn cn,.slice Ad kd cd]) (r j)
section
variable {w w':World} {b k n:Nat} {r:Nat→Rat}
theorem RowQ.lt(h:RowQ w b k n r):b<w.heap.size:=by obtain⟨f,h1,_⟩:=h;exact h1.lt
theorem RowQ.below(h:RowQ w b k n r)(hb:Below w.heap.size w w'):RowQ w' b k n r:=by
 obtain⟨f,h1,h2⟩:=h;refine⟨f,h1.of_block (hb.block b h1.lt),fun j hj=>?_⟩
 obtain⟨s,An,kn,cn,Ad,kd,cd,e1,e2,e3,e4⟩:=h2 j hj;exact⟨s,An,kn,cn,Ad,kd,cd,e1,e2,e3,e4.below hb⟩
theorem RowQ.frozen(h:RowQ w b k n r)(i:Nat):w.frozen? ⟨b,i,none⟩=false:=by
 obtain⟨f,h1,_⟩:=h;exact h1.frozen i
theorem RowQ.store(h:RowQ w b k n r){s:Bool}{An Ad:Option Addr}{kn cn kd cd:Nat}(hr:RatR w (b+1) (.agg #[.bool s,.slice An kn cn,.slice Ad kd cd]) (r n)) :
 RowQ (((w.setCell ⟨b,n*3,none⟩ (.bool s)).setCell ⟨b,n*3+1,none⟩ (.slice An kn cn)).setCell ⟨b,n*3+2,none⟩ (.slice Ad kd cd)) b k (n+1) r:=by
 obtain⟨f,h1,h2⟩:=h;have keep:∀v q,RatR w (b+1) v q→RatR (((w.setCell ⟨b,n*3,none⟩ (.bool s)).setCell ⟨b,n*3+1,none⟩ (.slice An kn cn)).setCell ⟨b,n*3+2,none⟩ (.slice Ad kd cd)) (b+1) v q:=by
  rintro v q⟨vn,vd,rfl,g1,g2⟩;exact⟨vn,vd,rfl,((Limbs.setCell g1 (by simp) _).setCell (by simp) _).setCell (by simp) _,((Limbs.setCell g2 (by simp) _).setCell (by simp) _).setCell (by simp) _⟩
 refine⟨_,((h1.set (n*3) (.bool s)).set (n*3+1) (.slice An kn cn)).set (n*3+2) (.slice Ad kd cd),fun j hj=>?_⟩
 rcases Nat.lt_or_ge j n with hjn|hjn
 ·obtain⟨s',An',kn',cn',Ad',kd',cd',e1,e2,e3,e4⟩:=h2 j hjn
  refine⟨s',An',kn',cn',Ad',kd',cd',?_,?_,?_,keep _ _ e4⟩
  ·rw[if_neg (by omega),if_neg (by omega),if_neg (by omega)];exact e1
  ·rw[if_neg (by omega),if_neg (by omega),if_neg (by omega)];exact e2
  ·rw[if_neg (by omega),if_neg (by omega),if_neg (by omega)];exact e3
 ·obtain rfl:j=n:=by omega
  refine⟨s,An,kn,cn,Ad,kd,cd,?_,?_,?_,keep _ _ hr⟩
  ·rw[if_neg (by omega),if_neg (by omega),if_pos rfl]
  ·rw[if_neg (by omega),if_pos rfl]
  ·rw[if_pos rfl]
theorem RowQ.toV(h:RowQ w b k n r){lo K:Nat}(hn:n≤k)(hl:lo≤b)(hk:k≤4294967296)(hK:∀j,j<n→sz (r j)≤K):RatsV w lo (.slice (some ⟨b,0,none⟩) n k) n K r:=by
 have hlt:=h.lt;obtain⟨f,h1,h2⟩:=h;refine⟨_,k,rfl,hn,by unfold maxLen;omega,fun _=>⟨b,0,rfl,hl,hlt,fun i hi=>?_⟩⟩
 obtain⟨s,An,kn,cn,Ad,kd,cd,e1,e2,e3,e4⟩:=h2 i hi;refine⟨s,An,kn,cn,Ad,kd,cd,?_,?_,?_,(e4.toV (hK i hi)).lower (by omega)⟩
 ·rw[Nat.zero_add,h1.cell (by omega),e1]
 ·rw[Nat.zero_add,h1.cell (by omega),e2]
 ·rw[Nat.zero_add,h1.cell (by omega),e3]
end
theorem RatsV.at_{w wr:World}{lo:Nat}{A:Option Addr}{c k K:Nat}{r:Nat→Rat}(h:RatsV w lo (.slice A k c) k K r)(hb:Below w.heap.size w wr){i:Nat}(hi:i<k) :
 ∃b off s An kn cn Ad kd cd,A=some ⟨b,off,none⟩∧b<w.heap.size∧wr.cell? ⟨b,off+i*3,none⟩=some (.bool s)∧wr.cell? ⟨b,off+i*3+1,none⟩=some (.slice An kn cn)∧wr.cell? ⟨b,off+i*3+2,none⟩=some (.slice Ad kd cd) ∧
  RatV wr lo (.agg #[.bool s,.slice An kn cn,.slice Ad kd cd]) K (r i):=by
 obtain⟨A',c',e,_,_,h3⟩:=h;injection e with e1 e2 e3;subst e1;obtain⟨b,off,rfl,h4,h5,h6⟩:=h3 (by omega)
 obtain⟨s,An,kn,cn,Ad,kd,cd,g1,g2,g3,g4⟩:=h6 i hi;exact⟨b,off,s,An,kn,cn,Ad,kd,cd,rfl,h5,(hb.cell (p:=⟨b,_,none⟩) h5).trans g1,(hb.cell (p:=⟨b,_,none⟩) h5).trans g2,(hb.cell (p:=⟨b,_,none⟩) h5).trans g3,g4.below hb⟩
theorem RatsV.form{w:World}{lo:Nat}{v:Value}{k K:Nat}{r:Nat→Rat}(h:RatsV w lo v k K r):∃A c,v = .slice A k c∧k≤c∧c≤9223372036854775807:=by
 obtain⟨A,c,rfl,h1,h2,_⟩:=h;unfold maxLen at h2;exact⟨A,c,rfl,h1,by omega⟩
theorem RatsV.size{w:World}{lo:Nat}{v:Value}{k K:Nat}{r:Nat→Rat}(h:RatsV w lo v k K r){i:Nat}(hi:i<k):sz (r i)≤K+1:=by
 obtain⟨A,c,rfl,h1,h2,_⟩:=id h;obtain⟨_,_,_,_,_,_,_,_,_,_,_,_,_,_,h5⟩:=h.at_ (Below.refl _ _) hi;exact h5.size
def LimbsP(w:World)(S:Nat→Prop)(v:Value)(k:Nat)(f:Nat→Nat):Prop:=
 (∀i,i<k→f i<4294967296)∧∃A c,v = .slice A k c∧k≤c∧c≤maxLen ∧
  (0<k→∃b off,A=some ⟨b,off,none⟩∧S b∧b<w.heap.size∧∀i,i<k→w.cell? ⟨b,off+i,none⟩=some (.int .u32 ((f i:Nat):Int)))
def RatVP(w:World)(S:Nat→Prop)(v:Value)(K:Nat)(q:Rat):Prop:=
 ∃(neg:Bool) (kn kd:Nat) (fn fd:Nat→Nat) (vn vd:Value),v = .agg #[.bool neg,vn,vd]∧LimbsP w S vn kn fn∧LimbsP w S vd kd fd∧kn≤K∧kd≤K∧q=mkRat (sg neg (vs fn kn)) (vs fd kd)
def RatsP(w:World)(S:Nat→Prop)(v:Value)(k K:Nat)(r:Nat→Rat):Prop:=
 ∃A c,v = .slice A k c∧k≤c∧c≤maxLen∧(0<k→∃b off,A=some ⟨b,off,none⟩∧S b∧b<w.heap.size ∧
  ∀i,i<k→∃s An kn cn Ad kd cd,w.cell? ⟨b,off+i*3,none⟩=some (.bool s)∧w.cell? ⟨b,off+i*3+1,none⟩=some (.slice An kn cn)∧w.cell? ⟨b,off+i*3+2,none⟩=some (.slice Ad kd cd) ∧
   RatVP w S (.agg #[.bool s,.slice An kn cn,.slice Ad kd cd]) K (r i))
theorem RatVP.toV{w:World}{lo:Nat}{v:Value}{K:Nat}{q:Rat}(h:RatVP w (lo ≤ ·) v K q):RatV w lo v K q:=h
theorem RatsP.toV{w:World}{lo:Nat}{v:Value}{k K:Nat}{r:Nat→Rat}(h:RatsP w (lo ≤ ·) v k K r):RatsV w lo v k K r:=h
section
variable {w w':World} {S S':Nat→Prop} {v:Value} {k K K':Nat} {f:Nat→Nat} {q:Rat} {r:Nat→Rat}
theorem LimbsP.keep(h:LimbsP w S v k f)(hs:w.heap.size≤w'.heap.size)(hk:∀b,S b→b<w.heap.size→w'.heap[b]? = w.heap[b]? ∧ S' b):LimbsP w' S' v k f:=by
 obtain⟨h1,A,c,rfl,h2,h3,h4⟩:=h;refine⟨h1,A,c,rfl,h2,h3,fun h0=>?_⟩
 obtain⟨b,off,rfl,h5,h6,h7⟩:=h4 h0;exact⟨b,off,rfl,(hk b h5 h6).2,by omega,fun i hi=>(World.cell?_of_block (a:=⟨b,off+i,none⟩) (hk b h5 h6).1).trans (h7 i hi)⟩
theorem RatVP.keep(h:RatVP w S v K q)(hs:w.heap.size≤w'.heap.size)(hk:∀b,S b→b<w.heap.size→w'.heap[b]? = w.heap[b]? ∧ S' b):RatVP w' S' v K q:=by
 obtain⟨neg,kn,kd,fn,fd,vn,vd,rfl,h1,h2,h3⟩:=h;exact⟨neg,kn,kd,fn,fd,vn,vd,rfl,h1.keep hs hk,h2.keep hs hk,h3⟩
theorem RatVP.more(h:RatVP w S v K q)(hK:K≤K'):RatVP w S v K' q:=by
 obtain⟨neg,kn,kd,fn,fd,vn,vd,rfl,h1,h2,h3,h4,h5⟩:=h;exact⟨neg,kn,kd,fn,fd,vn,vd,rfl,h1,h2,Nat.le_trans h3 hK,Nat.le_trans h4 hK,h5⟩
theorem RatsP.keep(h:RatsP w S v k K r)(hs:w.heap.size≤w'.heap.size)(hk:∀b,S b→b<w.heap.size→w'.heap[b]? = w.heap[b]? ∧ S' b):RatsP w' S' v k K r:=by
 obtain⟨A,c,rfl,h1,h2,h3⟩:=h;refine⟨A,c,rfl,h1,h2,fun h0=>?_⟩
 obtain⟨b,off,rfl,h4,h5,h6⟩:=h3 h0;refine⟨b,off,rfl,(hk b h4 h5).2,by omega,fun i hi=>?_⟩
 obtain⟨s,An,kn,cn,Ad,kd,cd,e1,e2,e3,e4⟩:=h6 i hi;exact⟨s,An,kn,cn,Ad,kd,cd,(World.cell?_of_block (a:=⟨b,_,none⟩) (hk b h4 h5).1).trans e1,(World.cell?_of_block (a:=⟨b,_,none⟩) (hk b h4 h5).1).trans e2,(World.cell?_of_block (a:=⟨b,_,none⟩) (hk b h4 h5).1).trans e3,e4.keep hs hk⟩
theorem RatsP.more(h:RatsP w S v k K r)(hK:K≤K'):RatsP w S v k K' r:=by
 obtain⟨A,c,rfl,h1,h2,h3⟩:=h;refine⟨A,c,rfl,h1,h2,fun h0=>?_⟩
 obtain⟨b,off,rfl,h4,h5,h6⟩:=h3 h0;refine⟨b,off,rfl,h4,h5,fun i hi=>?_⟩
 obtain⟨s,An,kn,cn,Ad,kd,cd,e1,e2,e3,e4⟩:=h6 i hi;exact⟨s,An,kn,cn,Ad,kd,cd,e1,e2,e3,e4.more hK⟩
theorem RatsP.below(h:RatsP w S v k K r)(hb:Below w.heap.size w w'):RatsP w' S v k K r:=h.keep hb.size fun b hS hlt=>⟨hb.block b hlt,hS⟩
theorem RatVP.below(h:RatVP w S v K q)(hb:Below w.heap.size w w'):RatVP w' S v K q:=h.keep hb.size fun b hS hlt=>⟨hb.block b hlt,hS⟩
theorem RatsP.any(h:RatsP w S v k K r):RatsV w 0 v k K r:=h.keep (Nat.le_refl _) fun b _ _=>⟨rfl,Nat.zero_le _⟩
def RowN(w:World)(b k n K:Nat)(r:Nat→Rat):Prop:=
 ∃f:Nat→Value,w.rowIs b 76 (k*3) f∧∀j,j<n→∃s An kn cn Ad kd cd,f (j*3) = .bool s∧f (j*3+1) = .slice An kn cn∧f (j*3+2) = .slice Ad kd cd∧RatVP w (· ≠ b) (.agg #[.bool s,.slice An kn cn,.slice Ad kd cd]) K (r j)
end
section
variable {w w':World} {b k n K:Nat} {r:Nat→Rat}
theorem RowN.lt(h:RowN w b k n K r):b<w.heap.size:=by obtain⟨f,h1,_⟩:=h;exact h1.lt
theorem RowN.below(h:RowN w b k n K r)(hb:Below w.heap.size w w'):RowN w' b k n K r:=by
 obtain⟨f,h1,h2⟩:=h;refine⟨f,h1.of_block (hb.block b h1.lt),fun j hj=>?_⟩
 obtain⟨s,An,kn,cn,Ad,kd,cd,e1,e2,e3,e4⟩:=h2 j hj;exact⟨s,An,kn,cn,Ad,kd,cd,e1,e2,e3,e4.below hb⟩
theorem RowN.frozen(h:RowN w b k n K r)(i:Nat):w.frozen? ⟨b,i,none⟩=false:=by
 obtain⟨f,h1,_⟩:=h;exact h1.frozen i
theorem ug1(x:World)(b' i j l:Nat)(p y z:Value)(k:Nat)(hk:k≠b'):(((x.setCell ⟨b',i,none⟩ p).setCell ⟨b',j,none⟩ y).setCell ⟨b',l,none⟩ z).heap[k]? = x.heap[k]? :=by
 rw[Below.heap_setCell _ _ _ _ hk,Below.heap_setCell _ _ _ _ hk,Below.heap_setCell _ _ _ _ hk]
theorem RatVP.setAt3{v:Value}{q:Rat}(h:RatVP w (· ≠ b) v K q)(i j l:Nat)(x y z:Value):RatVP (((w.setCell ⟨b,i,none⟩ x).setCell ⟨b,j,none⟩ y).setCell ⟨b,l,none⟩ z) (· ≠ b) v K q:=
 h.keep (by simp[World.setCell]) fun k hk _=>⟨ug1 w b i j l x y z k hk,hk⟩
theorem RatsP.setAt3{v:Value}(h:RatsP w (· ≠ b) v k K r)(i j l:Nat)(x y z:Value):RatsP (((w.setCell ⟨b,i,none⟩ x).setCell ⟨b,j,none⟩ y).setCell ⟨b,l,none⟩ z) (· ≠ b) v k K r:=
 h.keep (by simp[World.setCell]) fun k hk _=>⟨ug1 w b i j l x y z k hk,hk⟩
theorem RowN.store(h:RowN w b k n K r){s:Bool}{An Ad:Option Addr}{kn cn kd cd:Nat}(hr:RatVP w (· ≠ b) (.agg #[.bool s,.slice An kn cn,.slice Ad kd cd]) K (r n)) :
 RowN (((w.setCell ⟨b,n*3,none⟩ (.bool s)).setCell ⟨b,n*3+1,none⟩ (.slice An kn cn)).setCell ⟨b,n*3+2,none⟩ (.slice Ad kd cd)) b k (n+1) K r:=by
 obtain⟨f,h1,h2⟩:=h;refine⟨_,((h1.set (n*3) (.bool s)).set (n*3+1) (.slice An kn cn)).set (n*3+2) (.slice Ad kd cd),fun j hj=>?_⟩
 rcases Nat.lt_or_ge j n with hjn|hjn
 ·obtain⟨s',An',kn',cn',Ad',kd',cd',e1,e2,e3,e4⟩:=h2 j hjn
  refine⟨s',An',kn',cn',Ad',kd',cd',?_,?_,?_,e4.setAt3 _ _ _ _ _ _⟩
  ·rw[if_neg (by omega),if_neg (by omega),if_neg (by omega)];exact e1
  ·rw[if_neg (by omega),if_neg (by omega),if_neg (by omega)];exact e2
  ·rw[if_neg (by omega),if_neg (by omega),if_neg (by omega)];exact e3
 ·obtain rfl:j=n:=by omega
  refine⟨s,An,kn,cn,Ad,kd,cd,?_,?_,?_,hr.setAt3 _ _ _ _ _ _⟩
  ·rw[if_neg (by omega),if_neg (by omega),if_pos rfl]
  ·rw[if_neg (by omega),if_pos rfl]
  ·rw[if_pos rfl]
theorem RowN.toV(h:RowN w b k n K r)(hn:n≤k)(hk:k≤4294967296):RatsV w 0 (.slice (some ⟨b,0,none⟩) n k) n K r:=by
 have hlt:=h.lt;obtain⟨f,h1,h2⟩:=h;refine⟨_,k,rfl,hn,by unfold maxLen;omega,fun _=>⟨b,0,rfl,Nat.zero_le _,hlt,fun i hi=>?_⟩⟩
 obtain⟨s,An,kn,cn,Ad,kd,cd,e1,e2,e3,e4⟩:=h2 i hi;refine⟨s,An,kn,cn,Ad,kd,cd,?_,?_,?_,e4.keep (Nat.le_refl _) fun b _ _=>⟨rfl,Nat.zero_le _⟩⟩
 ·rw[Nat.zero_add,h1.cell (by omega),e1]
 ·rw[Nat.zero_add,h1.cell (by omega),e2]
 ·rw[Nat.zero_add,h1.cell (by omega),e3]
end
theorem RatsP.part{w:World}{S:Nat→Prop}{b off m c K:Nat}{r:Nat→Rat}(h:RatsP w S (.slice (some ⟨b,off,none⟩) (m+1) c) (m+1) K r)(c':Nat)(h1:m≤c')(h2:c'≤c) :
 RatsP w S (.slice (some ⟨b,off,none⟩) m c') m K r:=by
 obtain⟨A',c0,e,h3,h4,h5⟩:=h;injection e with e1 e2 e3;subst e3;obtain⟨b',off',e4,h6,h7,h8⟩:=h5 (by omega)
 subst e1;injection e4 with e4;injection e4 with e5 e6;subst e5;subst e6;exact⟨_,c',rfl,h1,by omega,fun _=>⟨b,off,rfl,h6,h7,fun i hi=>h8 i (by omega)⟩⟩
theorem RatsP.first{w:World}{S:Nat→Prop}{A:Option Addr}{m c K:Nat}{r:Nat→Rat}(h:RatsP w S (.slice A (m+1) c) (m+1) K r) :
 ∃b off s An kn cn Ad kd cd,A=some ⟨b,off,none⟩∧S b∧b<w.heap.size∧m+1≤c∧c≤9223372036854775807∧w.cell? ⟨b,off,none⟩=some (.bool s)∧w.cell? ⟨b,off+1,none⟩=some (.slice An kn cn)∧w.cell? ⟨b,off+2,none⟩=some (.slice Ad kd cd) ∧
  RatVP w S (.agg #[.bool s,.slice An kn cn,.slice Ad kd cd]) K (r 0):=by
 obtain⟨A',c0,e,h3,h4,h5⟩:=h;injection e with e1 e2 e3;subst e3;subst e1;obtain⟨b,off,rfl,h6,h7,h8⟩:=h5 (by omega)
 obtain⟨s,An,kn,cn,Ad,kd,cd,g1,g2,g3,g4⟩:=h8 0 (by omega)
 unfold maxLen at h4;rw[Nat.zero_mul,Nat.add_zero]at g1 g2 g3;exact⟨b,off,s,An,kn,cn,Ad,kd,cd,rfl,h6,h7,h3,by omega,g1,g2,g3,g4⟩
def AboveR(w:World)(n k:Nat)(p r:Nat→Rat)(e:Ending)(w':World):Prop:=
 ∃(i:Nat) (t:Bool),e = .returned (.tuple #[.int .i64 i,.bool t])∧(t=true→i<k∧uy0 (upw p i n) (r i)<0)∧(∀j,j<(if t then i else k)→0≤uy0 (upw p j n) (r j))∧Below w.heap.size w w'
theorem AboveR.no{w w':World}{n k:Nat}{p r:Nat→Rat}(h:∀j,j<k→0≤uy0 (upw p j n) (r j))(hb:Below w.heap.size w w'):AboveR w n k p r (.returned (.tuple #[.int .i64 0,.bool false])) w':=
 ⟨0,false,rfl,(fun h=>by cases h),h,hb⟩
theorem AboveR.yes{w w':World}{n k:Nat}{p r:Nat→Rat}{i:Nat}(h:∀j,j<i→0≤uy0 (upw p j n) (r j))(hi:i<k)(hl:uy0 (upw p i n) (r i)<0)(hb:Below w.heap.size w w'):AboveR w n k p r (.returned (.tuple #[.int .i64 i,.bool true])) w':=
 ⟨i,true,rfl,fun _=>⟨hi,hl⟩,h,hb⟩
end Go.Proofs.YtellcholbkoakaaGreatDoor
