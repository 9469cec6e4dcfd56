/-
  The reader: its state, sign, at.
-/
import Derived.Test.YtellcholbkoakaaGreatDoorHCRep
import Derived.WalkKit
import Derived.WalkSpells
import Derived.WalkLawsBesides
import Derived.RegionTactic
import Derived.ChangeAlike
import Derived.Deep.QuietTactic
import Derived.BigQuiet
import Derived.Outline
import Derived.Lib.Hide
import Derived.LoopTactic
import Derived.Shelf.Abstract
import Derived.Laws.EntriesVeiled
import Derived.Deep.AppendLies
namespace Go.Proofs.YtellcholbkoakaaGreatDoor
open Go.Lib (hid)
open Go.RowKit AC
set_option linter.unusedVariables false
set_option linter.unusedSimpArgs false
def Rst(w:World)(br:Nat)(str:ByteArray)(o:Option (List UInt8)):Prop:=
 ∃(pos:Nat) (bad:Bool),Bk w br 48 #[.string str,.int .i64 pos,.bool bad]∧pos≤str.size∧str.size≤262144∧(o=if bad then none else some (str.data.toList.drop pos))∧Gl w∧GN≤br
theorem Rst.lt{w:World}{br:Nat}{str:ByteArray}{o:Option (List UInt8)}(h:Rst w br str o):br<w.heap.size:=by
 obtain⟨pos,bad,h,_⟩:=h;exact h.lt
theorem Rst.gl{w:World}{br:Nat}{str:ByteArray}{o:Option (List UInt8)}(h:Rst w br str o):Gl w∧GN≤br:=by
 obtain⟨pos,bad,_,_,_,_,h⟩:=h;exact h
theorem Rst.fr{S:Nat→Prop}{w w':World}{br:Nat}{str:ByteArray}{o:Option (List UInt8)}(h:Rst w br str o)(f:Fr S w w')(hS:¬S br)(hG:∀k,k<GN→¬S k):Rst w' br str o:=by
 obtain⟨pos,bad,h,h1,h2,h3,h4,h5⟩:=h;exact⟨pos,bad,h.fr f hS,h1,h2,h3,h4.fr f hG,h5⟩
theorem Rst.below{w w':World}{br:Nat}{str:ByteArray}{o:Option (List UInt8)}(h:Rst w br str o)(f:Below w.heap.size w w'):Rst w' br str o:=
 h.fr ((Fr.refl (fun _=>False) w).below f) (fun h=>h) (fun _ _ h=>h)
theorem Rst.alloc{w:World}{br:Nat}{str:ByteArray}{o:Option (List UInt8)}(h:Rst w br str o)(x:Obj):Rst (w.alloc x) br str o:=
 h.below ((Below.refl _ _).alloc (Nat.le_refl _) x)
theorem Rst.drewN{w:World}{br:Nat}{str:ByteArray}{o:Option (List UInt8)}(h:Rst w br str o)(n:Nat):Rst (w.drewN n) br str o:=h
theorem Rst.cell{w:World}{br:Nat}{str:ByteArray}{o:Option (List UInt8)}(h:Rst w br str o):w.cell? ⟨br,2,none⟩=some (.bool o.isNone):=by
 obtain⟨pos,bad,h,_,_,ho,_⟩:=h;rw[h.cell 2,ho];cases bad<;>rfl
theorem Rst.short{w:World}{br:Nat}{str:ByteArray}{r:List UInt8}(h:Rst w br str (some r)):r.length≤262144:=by
 obtain⟨pos,bad,h,h1,h2,ho,_⟩:=h;cases bad with
 | true=>simp at ho
 | false=>
  simp at ho;rw[ho];simp;omega
theorem Rst.spoil{w:World}{br:Nat}{str:ByteArray}{o:Option (List UInt8)}(h:Rst w br str o):Rst (w.setCell ⟨br,2,none⟩ (.bool true)) br str none:=by
 obtain⟨pos,bad,h,h1,h2,ho,h4,h5⟩:=h;exact⟨pos,true,h.set 2 _,h1,h2,rfl,h4.set h5 _ _,h5⟩
theorem Rst.frozen{w:World}{br:Nat}{str:ByteArray}{o:Option (List UInt8)}(h:Rst w br str o)(i:Nat):w.frozen? ⟨br,i,none⟩=false:=by
 obtain⟨pos,bad,h,_⟩:=h;exact h.frozen i
def uz3(br:Nat)(str:ByteArray)(o:Option (List UInt8))(w:World)(e:Ending)(w':World):Prop:=
 e = .returned (.tuple #[])∧Rst w' br str o∧Fr (· = br) w w'
def uyv(b:Bool)(w:World)(e:Ending)(w':World):Prop:=e = .returned (.bool b)∧Qt w w'
theorem uiz{l:List UInt8}{pos:Nat}(h:l.length≤pos):l.drop pos=[]:=List.drop_eq_nil_of_le h
theorem drop_at{s:ByteArray}{pos:Nat}(h:pos<s.size):s.data.toList.drop pos=s[pos]::s.data.toList.drop (pos+1):=by
 have hl:pos<s.data.toList.length:=by simpa using h
 rw[List.drop_eq_getElem_cons hl];rfl
set_option maxHeartbeats 1000000 in
theorem ucg(w:World)(br:Nat)(str:ByteArray)(o:Option (List UInt8))(b:UInt8)(n:Int)(hb:n=(b.toNat:Int))(h:Rst w br str o) :
 Calls Tryz.prog 87 #[.pointer (some ⟨br,0,none⟩),.int .u8 n] w (uz3 br str (want b o) w):=by
 obtain⟨pos,bad,hk,h1,h2,rfl,hgl,hgn⟩:=h;have HG:=hid hgl;clear hgl;have c0:=hk.cell 0;have c1:=hk.cell 1;have c2:=hk.cell 2;have f1:=hk.frozen 1;have f2:=hk.frozen 2;simp only[gq]at c0 c1 c2;have HK:=hid hk;have HB:=hid hb;clear hk hb;cases bad with
 | true=>
  go_enter Tryz.func87,Tryz.ntmps87
  go_wp2;go_quiet (fail)
  go_wp2;go_end0
  exact⟨rfl,⟨pos,true,(HK.out.drewN _).set 2 _,h1,h2,rfl,(HG.out.drewN _).set hgn _ _,hgn⟩,((Fr.refl _ _).drewN _).wr _ _⟩
 | false=>
  by_cases hlt:pos<str.size
  ·have d1:decide (str.size≤pos)=false:=by simp;omega
   have hw:str.data.toList.drop pos=str[pos]::str.data.toList.drop (pos+1):=drop_at hlt;have HW:=hid hw;clear hw;by_cases hc:((str[pos].toNat:Int)=n)
   ·have e1:(((str[pos].toNat:Int)) != n)=false:=by simp[hc]
    have hx:str[pos]=b:=by
     have:=HB.out;apply UInt8.toNat_inj.1;omega
    have HX:=hid hx;have HC:=hid hc;clear hx hc;go_enter Tryz.func87,Tryz.ntmps87
    go_wp2;go_quiet (fail)
    go_wp2;go_end0
    refine⟨rfl,⟨pos+1,false,(HK.out.drewN _).set 1 _,by omega,h2,?_,(HG.out.drewN _).set hgn _ _,hgn⟩,((Fr.refl _ _).drewN _).wr _ _⟩
    simp only[Bool.false_eq_true,if_false];rw[HW.out,HX.out,ue9]
   ·have e1:(((str[pos].toNat:Int)) != n)=true:=by simp[hc]
    have hx:str[pos]≠b:=by
     intro e;apply hc;rw[e,HB.out]
    have HX:=hid hx;have HC:=hid hc;clear hx hc;go_enter Tryz.func87,Tryz.ntmps87
    go_wp2;go_quiet (fail)
    go_wp2;go_end0
    refine⟨rfl,⟨pos,true,(HK.out.drewN _).set 2 _,h1,h2,?_,(HG.out.drewN _).set hgn _ _,hgn⟩,((Fr.refl _ _).drewN _).wr _ _⟩;simp only[Bool.false_eq_true,if_false,if_true];rw[HW.out,ulm _ HX.out]
  ·have d1:decide (str.size≤pos)=true:=by simp;omega
   have hw:str.data.toList.drop pos=[]:=uiz (by simp;omega)
   have HW:=hid hw;clear hw;go_enter Tryz.func87,Tryz.ntmps87
   go_wp2;go_quiet (fail)
   go_wp2;go_end0
   refine⟨rfl,⟨pos,true,(HK.out.drewN _).set 2 _,h1,h2,?_,(HG.out.drewN _).set hgn _ _,hgn⟩,((Fr.refl _ _).drewN _).wr _ _⟩;simp only[Bool.false_eq_true,if_false,if_true];rw[HW.out,uuv]
def ui0(b:UInt8)(o:Option (List UInt8)):Bool:=match o with
 | some (c::_)=>c==b
 | _=>false
set_option maxHeartbeats 1000000 in
theorem ulv(w:World)(br:Nat)(str:ByteArray)(o:Option (List UInt8))(b:UInt8)(n:Int)(hb:n=(b.toNat:Int))(h:Rst w br str o) :
 Calls Tryz.prog 92 #[.pointer (some ⟨br,0,none⟩),.int .u8 n] w (uyv (ui0 b o) w):=by
 obtain⟨pos,bad,hk,h1,h2,rfl,hgl,hgn⟩:=h;have HG:=hid hgl;clear hgl;have c0:=hk.cell 0;have c1:=hk.cell 1;have c2:=hk.cell 2;simp only[gq]at c0 c1 c2;have HB:=hid hb;clear hk hb;cases bad with
 | true=>
  go_enter Tryz.func92,Tryz.ntmps92
  go_wp2;go_quiet (fail)
  go_wp2;go_ret
  exact⟨rfl,Qt.of _ _⟩
 | false=>
  by_cases hlt:pos<str.size
  ·have d1:decide (pos<str.size)=true:=by simp;omega
   have hw:str.data.toList.drop pos=str[pos]::str.data.toList.drop (pos+1):=drop_at hlt;have HW:=hid hw;clear hw;by_cases hc:((str[pos].toNat:Int)=n)
   ·have e1:(((str[pos].toNat:Int))==n)=true:=by simp[hc]
    have hx:str[pos]=b:=by
     have:=HB.out;apply UInt8.toNat_inj.1;omega
    have HX:=hid hx;have HC:=hid hc;clear hx hc;go_enter Tryz.func92,Tryz.ntmps92
    go_wp2;go_quiet (fail)
    go_wp2;go_ret
    refine⟨?_,Qt.of _ _⟩;simp only[Bool.false_eq_true,if_false];rw[HW.out,HX.out];simp[ui0]
   ·have e1:(((str[pos].toNat:Int))==n)=false:=by simp[hc]
    have hx:str[pos]≠b:=by
     intro e;apply hc;rw[e,HB.out]
    have HX:=hid hx;have HC:=hid hc;clear hx hc;go_enter Tryz.func92,Tryz.ntmps92
    go_wp2;go_quiet (fail)
    go_wp2;go_ret
    refine⟨?_,Qt.of _ _⟩;simp only[Bool.false_eq_true,if_false];rw[HW.out];have:=HX.out;simp[ui0,this]
  ·have d1:decide (pos<str.size)=false:=by simp;omega
   have hw:str.data.toList.drop pos=[]:=uiz (by simp;omega)
   have HW:=hid hw;clear hw;go_enter Tryz.func92,Tryz.ntmps92
   go_wp2;go_quiet (fail)
   go_wp2;go_ret
   refine⟨?_,Qt.of _ _⟩;simp only[Bool.false_eq_true,if_false];rw[HW.out];rfl
def RPost(s:Shape)(br:Nat)(str:ByteArray)(o:Option (List UInt8))(w:World)(e:Ending)(w':World):Prop:=
 ∃v,e = .returned (uas s v)∧Ty s v∧Rst w' br str (rd s 0 o)∧Fr (· = br) w w'∧∀r r',o=some r→rd s 0 o=some r'→∃t,r=t++r'∧Rep w' (w.heap.size ≤ ·) s v [t]
def Reads(g:FuncId)(s:Shape)(L:Nat):Prop:=
 ∀(w:World) (br:Nat) (str:ByteArray) (o:Option (List UInt8)),Rst w br str o→(∀r,o=some r→r.length≤L)→Calls Tryz.prog g #[.pointer (some ⟨br,0,none⟩)] w (RPost s br str o w)
def CloPost(s:Shape)(T:TypeId)(off br bt:Nat)(str:ByteArray)(r:List UInt8)(cs:Array Value)(w:World)(e:Ending)(w':World):Prop:=
 e = .returned (.tuple #[])∧∃v,Ty s v∧Bk w' bt T (splice cs off v)∧Rst w' br str (rd s 0 (some r))∧Fr (fun b=>b=br∨b=bt) w w' ∧
  ∀r',rd s 0 (some r)=some r'→∃t,r=t++r'∧Rep w' (w.heap.size ≤ ·) s v [t]
def uP(k:FuncId)(s:Shape)(L:Nat)(T:TypeId)(off:Nat):Prop:=
 Enters Tryz.prog k∧∀(w:World) (br bv bt:Nat) (str:ByteArray) (r:List UInt8) (cs:Array Value),Rst w br str (some r)→r.length<L→Bk w bv 46 #[.pointer (some ⟨br,0,none⟩)]→Bk w bt T cs→off+s.sz≤cs.size→bt≠br→bv≠br→bv≠bt→GN≤bt →
  Calls Tryz.prog k #[.pointer (some ⟨bv,0,none⟩),.pointer (some ⟨bt,0,none⟩)] w (CloPost s T off br bt str r cs w)
def uxq(ks:List FuncId)(bv bt:Nat):Array Value:=(ks.map fun k=>Value.func (.func k) #[] #[.pointer (some ⟨bv,0,none⟩),.pointer (some ⟨bt,0,none⟩)]).toArray
theorem ulw{ks:List FuncId}{bv bt i:Nat}{k:FuncId}(h:ks[i]? = some k):(uxq ks bv bt)[i]? = some (Value.func (.func k) #[] #[.pointer (some ⟨bv,0,none⟩),.pointer (some ⟨bt,0,none⟩)]):=by
 simp[uxq,h]
def uxr(ss:List Shape)(T:TypeId)(br bt:Nat)(str:ByteArray)(o:Option (List UInt8))(w:World)(e:Ending)(w':World):Prop:=
 e = .returned (.tuple #[])∧∃vs,Tys ss vs∧Bk w' bt T vs.flatten.toArray∧Rst w' br str (rd (.st (ubd ss)) 0 o)∧Fr (fun b=>b=br∨b=bt) w w' ∧
  ∀r r',o=some r→rd (.st (ubd ss)) 0 o=some r'→∃t,r=t++r'∧Rep w' (w.heap.size ≤ ·) (.st (ubd ss)) vs.flatten [t]
def FInv(ss:List Shape)(T:TypeId)(br bt:Nat)(str:ByteArray)(o:Option (List UInt8))(w:World)(k:Nat)(o':Option (List UInt8))(wr:World):Prop:=
 ∃vs,Tys ss vs∧Bk wr bt T vs.flatten.toArray∧Rst wr br str o'∧Fr (fun b=>b=br∨b=bt) w wr∧rd (ubd (ss.drop k)) k o'=rd (ubd ss) 0 (want 40 o) ∧
  ∀r',o'=some r'→∃ts,o=some (40::(ube ts k++r'))∧Reps wr (w.heap.size ≤ ·) ss vs ts k
theorem ur3:∀ss:List Shape,(ubd ss).sz=(ss.map Shape.sz).sum
 | []=>rfl
 | a::l=>by simp[ubd,Shape.sz,ur3 l]
section
variable {ss:List Shape} {T:TypeId} {br bt:Nat} {str:ByteArray} {o o':Option (List UInt8)} {w wr w':World} {k:Nat}
theorem FInv.start{vs:List (List Value)}(hvs:Tys ss vs)(ht:Bk w bt T vs.flatten.toArray)(hbr:bt≠br)(h:Rst w' br str (want 40 o))(f:Fr (· = br) w w'):FInv ss T br bt str o w 0 (want 40 o) w':=by
 refine⟨vs,hvs,ht.fr f hbr,h,f.mono fun x hx=> .inl hx,by rw[List.drop_zero],fun r' hr=>⟨fun _=>[],?_,fun i s v hi=>absurd hi (by omega)⟩⟩
 exact ual hr
theorem ulx{s:Shape}(hs:ss[k]? = some s)(o':Option (List UInt8)):rd (ubd (ss.drop k)) k o'=rd (ubd (ss.drop (k+1))) (k+1) (rd s 0 (if k=0 then o' else want 32 o')):=by
 obtain⟨hk,rfl⟩:=List.getElem?_eq_some_iff.1 hs;rw[List.drop_eq_getElem_cons hk];rfl
theorem FInv.bad{s:Shape}(hs:ss[k]? = some s)(h:FInv ss T br bt str o w k o' wr)(h2:Rst w' br str none)(f:Fr (· = br) wr w')(hbr:bt≠br)(he:(if k=0 then o' else want 32 o')=none):uxr ss T br bt str o w (.returned (.tuple #[])) w':=by
 obtain⟨vs,h1,hb,hr,hf,hrd,ht⟩:=h;rw[ulx hs,he,udc,udc]at hrd;have e:rd (.st (ubd ss)) 0 o=none:=by unfold rd;rw[←hrd];rfl
 refine⟨rfl,vs,h1,hb.fr f hbr,?_,hf.then (f) (fun x hx=> .inl (.inl hx)),fun r r' _ e'=>?_⟩
 ·rw[e];exact h2
 ·rw[e]at e';cases e'
theorem FInv.last(hk:k=ss.length)(h:FInv ss T br bt str o w k o' wr)(hpos:0<k)(h2:Rst w' br str (want 41 o'))(f:Fr (· = br) wr w')(hbr:bt≠br)(hlt:br<w.heap.size):uxr ss T br bt str o w (.returned (.tuple #[])) w':=by
 obtain⟨vs,h1,hb,hr,hf,hrd,ht⟩:=h;rw[hk,List.drop_length]at hrd;have e:rd (.st (ubd ss)) 0 o=want 41 o':=by
  show want 41 (rd (ubd ss) 0 (want 40 o))=_
  rw[←hrd];rfl
 refine⟨rfl,vs,h1,hb.fr f hbr,?_,hf.then f (fun x hx=> .inl (.inl hx)),fun r r' ho e'=>?_⟩
 ·rw[e];exact h2
 ·rw[e]at e'
  obtain⟨ts,ho',hR⟩:=ht _ (ual e');rw[ho]at ho';injection ho' with ho';refine⟨par ts k,?_,?_⟩
  ·rw[ho'];simp[par]
  ·refine⟨(List.range ss.length).map ts,?_,Reps.all h1.len ((hk▸hR).fr f fun x hx e=>?_)⟩
   ·congr 1
    rw[List.length_map,List.length_range,hk];refine uju fun i hi=>?_
    simp[List.getD,hi]
   ·have hx':w.heap.size≤x:=hx
    have e':x=br:=e;omega
theorem FInv.space(h:FInv ss T br bt str o w k o' wr)(hbr:bt≠br)(f:Fr (· = br) wr w'):Bk wr bt T=Bk wr bt T:=rfl
theorem FInv.next{s:Shape}(hs:ss[k]? = some s)(h:FInv ss T br bt str o w k o' wr){w1:World}(f1:Fr (· = br) wr w1)(hbr:bt≠br)(hlt:br<w.heap.size)(hlt2:bt<w.heap.size){r:List UInt8}(he:(if k=0 then o' else want 32 o')=some r){e:Ending}{cs:Array Value}(hcs:Bk wr bt T cs)
 (hc:CloPost s T (uq ss k) br bt str r cs w1 e w'):e = .returned (.tuple #[])∧FInv ss T br bt str o w (k+1) (rd s 0 (some r)) w':=by
 obtain⟨vs,h1,hb,hr,hf,hrd,ht⟩:=h;obtain⟨e0,v,hv,hbk,hst,hfr,htx⟩:=hc;refine⟨e0,vs.set k v,h1.set hs hv,?_,hst,?_,?_,?_⟩
 ·have hq:cs=vs.flatten.toArray:=by
   unfold Bk at hb hcs;rw[hb]at hcs;injection hcs with hcs;injection hcs with hcs;exact hcs.symm
  have:=h1.splice hs hv [];simp only[List.length_nil,Nat.zero_add,List.nil_append]at this;rw[hq,this]at hbk;exact hbk
 ·exact(hf.then f1 (fun x hx=> .inl (.inl hx))).then hfr (fun x hx=> .inl hx)
 ·rw[←hrd,ulx hs,he]
 ·intro r' hr'
  obtain⟨t,ht1,ht2⟩:=htx r' hr';have hfw:w.heap.size≤w1.heap.size:=Nat.le_trans hf.size f1.size;have hk:k<vs.length:=by rw[h1.len];exact(List.getElem?_eq_some_iff.1 hs).1
  have hD:∀x,w.heap.size≤x→¬(x=br∨x=bt):=fun x hx e=>by omega
  have main:∀(r0:List UInt8) (ts:Nat→List UInt8),o=some (40::(ube ts k++r0))→r0=(if k=0 then r else 32::r)→Reps wr (w.heap.size ≤ ·) ss vs ts k→∃ts,o=some (40::(ube ts (k+1)++r'))∧Reps w' (w.heap.size ≤ ·) ss (vs.set k v) ts (k+1):=by
   intro r0 ts ho hr0 hR;refine⟨fun i=>if i=k then t else ts i,?_,?_⟩
   ·rw[ho,hr0,ht1]
    rcases Nat.eq_zero_or_pos k with h0|h0
    ·subst h0;simp[ube]
    ·have hbody:ube (fun i=>if i=k then t else ts i) k=ube ts k:=uca fun i hi=>if_neg (by omega)
     rw[ubf _ h0,hbody,if_neg (by omega)]
     simp
   ·intro i s' v' hi e1 e2
    by_cases hik:i=k
    ·subst hik
     rw[hs]at e1;injection e1 with e1;subst e1;rw[List.getElem?_set_self hk]at e2;injection e2 with e2;subst e2;simp only[if_true];exact ht2.sub fun b hb _=>Nat.le_trans hfw hb
    ·rw[List.getElem?_set_ne (fun e=>hik e.symm)]at e2
     simp only[if_neg hik];exact((hR i s' v' (by omega) e1 e2).fr f1 fun x hx e=>hD x hx (.inl e)).fr hfr hD
  by_cases h0:k=0
  ·rw[if_pos h0]at he
   obtain⟨ts,ho,hR⟩:=ht r he;exact main r ts ho (by rw[if_pos h0]) hR
  ·rw[if_neg h0]at he
   obtain⟨ts,ho,hR⟩:=ht _ (ual he);exact main _ ts ho (by rw[if_neg h0]) hR
end
set_option maxHeartbeats 2000000 in
theorem uU(ss:List Shape)(ks:List FuncId)(T:TypeId)(L:Nat)(hl:ks.length=ss.length)(h0:0<ss.length)(hn:ss.length≤100)(hclo:∀i k s,ks[i]? = some k→ss[i]? = some s→uP k s L T (uq ss i))
 (w:World) (br bv bt bl:Nat) (str:ByteArray) (o:Option (List UInt8)) (vs:List (List Value)) (h:Rst w br str o) (hL:∀r,o=some r→r.length≤L)
 (hv:Bk w bv 46 #[.pointer (some ⟨br,0,none⟩)]) (ht:Bk w bt T vs.flatten.toArray) (hvs:Tys ss vs) (hbl:Bk w bl 1 (uxq ks bv bt)) (d1:bt≠br) (d2:bv≠br) (d3:bv≠bt) (d4:bl≠br) (d5:bl≠bt) (d6:GN≤bt) :
 Calls Tryz.prog 31 #[.pointer (some ⟨br,0,none⟩),.slice (some ⟨bl,0,none⟩) ss.length ss.length] w (uxr ss T br bt str o w):=by
 have HR:=hid h;have hbrlt:=h.lt;have hbtlt:=ht.lt;have HV:=hid hv;have HT:=hid ht;have HB:=hid hbl;have HL:=hid hL;have HS:=hid hvs;have HK:=hid hl;have HC:=hid hclo;clear h hv ht hbl hL hvs hl hclo;obtain⟨n,hN⟩:∃n,ss.length=n:=⟨_,rfl⟩;rw[hN]at h0 hn ⊢;have HN:=hid hN;clear hN;go_enter Tryz.func31,Tryz.ntmps31
 go_wp2_with fail
 refine(ucg _ br str o 40 40 rfl HR.out).mono ?_;rintro e w1⟨rfl,hr1,hf1⟩;have I0:=FInv.start HS.out HT.out d1 hr1 hf1;go_wp2;go_loopw [10] (fun iv wr=>∃(k:Nat) (o':Option (List UInt8)),k≤n∧iv = .int .i64 k∧Hid (FInv ss T br bt str o w k o' wr)) (fun iv _=>n-(intOf iv).toNat)
 case atStart=>exact⟨0,_,by omega,rfl,I0⟩
 case round=>
  obtain⟨k,o',hk,rfl,hI⟩:=hrel;clear I0 hr1 hf1;have hfI:Fr (fun b=>b=br∨b=bt) w wr:=by obtain⟨_,_,_,_,h,_⟩:=hI.out;exact h
  have hrI:Rst wr br str o':=by obtain⟨_,_,_,h,_,_⟩:=hI.out;exact h
  by_cases hlt:k<n
  ·have hks:k<ss.length:=by rw[HN.out];exact hlt
   obtain⟨s,hs⟩:∃s,ss[k]? = some s:=⟨_,List.getElem?_eq_getElem hks⟩;obtain⟨g,hg⟩:∃g,ks[k]? = some g:=⟨_,List.getElem?_eq_getElem (by rw[HK.out];exact hks)⟩
   obtain⟨he,hclo⟩:=HC.out k g s hg hs;unfold Enters at he;have hbl':Bk wr bl 1 (uxq ks bv bt):=HB.out.fr hfI (by rintro(h|h);exact d4 h;exact d5 h)
   have hv':Bk wr bv 46 #[.pointer (some ⟨br,0,none⟩)]:=HV.out.fr hfI (by rintro(h|h);exact d2 h;exact d3 h)
   have cb:=hbl'.cell k;rw[ulw hg]at cb;have HS':=hid hs;have HBL:=hid hbl';have HV':=hid hv';have HFI:=hid hfI;have HRI:=hid hrI;have HCL:=hid hclo;have hcs:∃cs,Bk wr bt T cs∧uq ss k+s.sz≤cs.size:=by
    obtain⟨vs',q1,q2,_⟩:=hI.out;refine⟨_,q2,?_⟩;have:=q1.ty.len;rw[ur3]at this;rw[List.size_toArray,this];have e3:ss=ss.take k++s::ss.drop (k+1):=by
     obtain⟨hk',rfl⟩:=List.getElem?_eq_some_iff.1 hs;rw[←List.drop_eq_getElem_cons hk',List.take_append_drop]
    have e4:(ss.map Shape.sz).sum=uq ss k+(s.sz+((ss.drop (k+1)).map Shape.sz).sum):=by
     conv=>lhs;rw[e3]
     simp[uq]
    omega
   obtain⟨cs,hcs,hsz⟩:=hcs;have HCS:=hid hcs;clear hs hbl' hv' hfI hrI hclo hcs;by_cases hk0:k=0
   ·subst hk0
    have c2:=HRI.out.cell;cases o' with
    | none=>
     go_wp2;go_end0
     exact FInv.bad HS'.out hI.out HRI.out (Fr.refl _ _) d1 rfl
    | some r=>
     have hlen:r.length<L:=by
      obtain⟨_,_,_,_,_,_,h6⟩:=hI.out;obtain⟨ts,h7,_⟩:=h6 r rfl;have:=HL.out _ h7;simp at this;omega
     go_wp2_with fail
     refine(HCL.out _ br bv bt str r cs HRI.out hlen HV'.out HCS.out hsz d1 d2 d3 d6).mono ?_;intro e w2 hpost;obtain⟨rfl,hI2⟩:=FInv.next HS'.out hI.out (Fr.refl _ _) d1 hbrlt hbtlt rfl HCS.out hpost;have HI2:=hid hI2;clear hI2 hpost;go_wp2;go_roundw
     case rel=>exact⟨1,_,by omega,by go_num,HI2⟩
     case measure=>simp[intOf];omega
   ·have hkp:decide (0<(k:Int))=true:=by simp;omega
    have hkz:((k:Int)==0)=false:=by simp;omega
    go_wp2_with fail
    refine(ucg _ br str o' 32 32 rfl HRI.out).mono ?_;rintro e w2⟨rfl,hr2,hf2⟩;have c2:=hr2.cell;have cb2:=(HBL.out.fr hf2 d4).cell k;rw[ulw (by assumption)]at cb2
    have HR2:=hid hr2;have HF2:=hid hf2;clear hr2 hf2;cases ho2:want 32 o' with
    | none=>
     rw[ho2]at c2 HR2;have HO2:=hid ho2;clear ho2;go_wp2;go_end0
     exact FInv.bad HS'.out hI.out HR2.out HF2.out d1 (by rw[if_neg hk0];exact HO2.out)
    | some r=>
     rw[ho2]at c2 HR2;have HO2:=hid ho2;clear ho2;have hlen:r.length<L:=by
      obtain⟨_,_,_,_,_,_,h6⟩:=hI.out;obtain⟨ts,h7,_⟩:=h6 _ (ual HO2.out);have:=HL.out _ h7;simp at this;omega
     go_wp2_with fail
     refine(HCL.out _ br bv bt str r cs HR2.out hlen (HV'.out.fr HF2.out d2) (HCS.out.fr HF2.out d1) hsz d1 d2 d3 d6).mono ?_;intro e w3 hpost;obtain⟨rfl,hI2⟩:=FInv.next HS'.out hI.out HF2.out d1 hbrlt hbtlt (by rw[if_neg hk0];exact HO2.out) HCS.out hpost
     have HI2:=hid hI2;clear hI2 hpost;go_wp2;go_roundw
     case rel=>exact⟨k+1,_,by omega,by go_num,HI2⟩
     case measure=>simp[intOf];omega
  ·obtain rfl:k=n:=by omega
   have HRI:=hid hrI;clear hrI hfI;go_wp2_with fail
   refine(ucg _ br str o' 41 41 rfl HRI.out).mono ?_;rintro e w2⟨rfl,hr2,hf2⟩;go_wp2;go_end0
   exact FInv.last HN.out.symm hI.out h0 hr2 hf2 d1 hbrlt
theorem Fr.toGrown{br:Nat}{a b:World}(h:Fr (· = br) a b):a.grownBy b (some br):=
 ⟨h.os,h.tape,h.output,h.size,fun k hk hne=>h.block k hk fun e=>hne (by rw[e])⟩
def ub1:Value→Nat
 | .slice _ n _=>n
 | _=>0
def udf(us:Nat→List Value)(n:Nat):List Value:=(List.range n).flatMap us
theorem ubj(us:Nat→List Value)(n:Nat):udf us (n+1)=udf us n++us n:=by simp[udf,List.range_succ,List.flatMap_append]
theorem uew{us us':Nat→List Value}:∀ {n:Nat},(∀i,i<n→us i=us' i)→udf us n=udf us' n
 | 0,_=>rfl
 | n+1,h=>by rw[ubj,ubj,uew fun i hi=>h i (by omega),h n (by omega)]
theorem uj3{us:Nat→List Value}{sz:Nat}:∀ {n:Nat},(∀i,i<n→(us i).length=sz)→(udf us n).length=n*sz
 | 0,_=>by simp[udf]
 | n+1,h=>by rw[ubj,List.length_append,uj3 fun i hi=>h i (by omega),h n (by omega),Nat.succ_mul]
theorem ugh{us:Nat→List Value}{sz:Nat}:∀ {n i j:Nat} {x:Value},(∀i,i<n→(us i).length=sz)→i<n→(us i)[j]? = some x→(udf us n)[i*sz+j]? = some x
 | 0,i,j,x,h,hi,_=>absurd hi (by omega)
 | n+1,i,j,x,h,hi,hx=>by
  have hj:j<sz:=by rw[←h i hi];exact(List.getElem?_eq_some_iff.1 hx).1
  have hl:=uj3 (n:=n) fun i hi=>h i (by omega)
  rw[ubj];rcases Nat.lt_or_ge i n with h1|h1
  ·have:i*sz+j<(udf us n).length:=by
    rw[hl];have:(i+1)*sz≤n*sz:=Nat.mul_le_mul_right sz h1;rw[Nat.succ_mul]at this;omega
   rw[List.getElem?_append_left this];exact ugh (fun i hi=>h i (by omega)) h1 hx
  ·obtain rfl:i=n:=by omega
   rw[List.getElem?_append_right (by omega),hl,show i*sz+j-i*sz=j by omega]
   exact hx
theorem Ty.one:∀ {s:Shape} {l:List Value},Ty s l→∀u∈l,u.oneCell'=true
 | .int,_,⟨n,h,_⟩,u,hu=>by subst h;simp at hu;subst hu;rfl
 | .bool,_,⟨n,h⟩,u,hu=>by subst h;simp at hu;subst hu;rfl
 | .rat,_,⟨b,A,k,c,A',k',c',h⟩,u,hu=>by subst h;simp at hu;rcases hu with rfl|rfl|rfl<;>rfl
 | .big,_,⟨b,A,k,c,A',k',c',h⟩,u,hu=>by subst h;simp at hu;rcases hu with rfl|rfl|rfl<;>rfl
 | .no s,_,h,u,hu=>Ty.one (s:=s) h u hu
 | .fin,_,h,u,hu=>by cases h;simp at hu
 | .list s,_,⟨A,k,c,h⟩,u,hu=>by subst h;simp at hu;subst hu;rfl
 | .st f,_,h,u,hu=>Ty.one (s:=f) h u hu
 | .and s f,_,⟨l1,l2,h,h1,h2⟩,u,hu=>by
  subst h;rcases List.mem_append.1 hu with h|h
  ·exact Ty.one h1 u h
  ·exact Ty.one h2 u h
theorem uJ(w2:World){ops:Array Oper}{rest:List Oper}{op:Oper}{a:Act}{Q:Exit→Act→World→Prop}(hgd:op.guard=none)(sl x:Operand)(t e:TypeId)
 (ho:op.op = .call { callee:= .builtin .append,args:=#[sl,x],argTypes:=#[t,t] })
 (ht:Tryz.prog.underlying t=some (.slice e)) (sz bytes:Nat) (hinfo:(Tryz.prog.info? e).map (fun i=>(i.size,i.bytes,i.zero.map fun z=>z.cells.size))=some (sz,bytes,some sz)) (hsz:0<sz) (hby:bytes≤4096)
 (base:Nat) (lv:Value) (n:Nat) (xs v:List Value) (hs:a.eval sl=lv) (hown:w2.ownsRow base e sz lv n xs) (hx:a.eval x = .slice (some ⟨w2.heap.size,0,none⟩) 1 1) (hv:v.length=sz) (h1:∀u∈v,u.oneCell'=true)
 (hn:n≤100000000) (hbase:base≤w2.heap.size)
 (h:∀g cap w3,w3.ownsRow base e sz (.slice (some ⟨g,0,none⟩) (n+1) cap) (n+1) (xs++v)→(w2.alloc (.cells v.toArray e)).grownBy w3 lv.ownBlock→(lv.ownBlock=some g∨g=w2.heap.size+1)→g<w3.heap.size→wpList Tryz.prog ops Q rest (a.put op.dst (.slice (some ⟨g,0,none⟩) (n+1) cap)) w3) :
 wpList Tryz.prog ops Q (op::rest) a (w2.alloc (.cells v.toArray e)):=by
 obtain⟨i,hi,hzz⟩:=Option.map_eq_some_iff.1 hinfo;simp only[Prod.mk.injEq]at hzz;obtain⟨hsize,hbytes,hzero⟩:=hzz;obtain⟨z,hz0,hzc⟩:=Option.map_eq_some_iff.1 hzero;refine wpList_append_lies _ hgd sl x t ho base e i z sz bytes ht hi hz0 hsize hbytes hzc hsz lv n xs hs (hown.alloc _) ⟨w2.heap.size,0,none⟩ 1 1 v hx (by omega) ?_ h1 (by omega) (by unfold maxLen;omega) ?_ (by simp;omega) (w2.heap.size+1) (by simp) ?_
 ·intro j u hu
  rw[Addr.add_lit,World.cell?_alloc_at _ _ _ _ rfl,Nat.zero_add];simpa using hu
 ·have:(n+1)*bytes≤100000001*4096:=Nat.mul_le_mul (by omega) hby
  omega
 ·intro g cap w3 h2 h3 h4 h5
  exact h g cap w3 h2 h3 h4 h5
def EInv(s:Shape)(e:TypeId)(br:Nat)(str:ByteArray)(o:Option (List UInt8))(w:World)(lv:Value)(n:Nat)(o':Option (List UInt8))(wr:World):Prop:=
 ∃(us:Nat→List Value) (tx:Nat→List UInt8) (fuel:Nat),wr.ownsRow w.heap.size e s.sz lv n (udf us n)∧(∀i,i<n→(us i).length=s.sz)∧Rst wr br str o'∧Fr (· = br) w wr∧rd (.list s) 0 o=want 41 (uiv (rd s 0) fuel n o')∧fuel+n≤262145 ∧
  ∀r',o'=some r'→r'.length<fuel∧o=some (40::(ube tx n++r'))∧∀i,i<n→Rep wr (fun b=>w.heap.size≤b∧some b≠lv.ownBlock) s (us i) [tx i]
section
variable {s:Shape} {e:TypeId} {br:Nat} {str:ByteArray} {o o' o1:Option (List UInt8)} {w wr w1 w2 w3:World} {lv:Value} {n:Nat}
theorem EInv.start(h0:Rst w br str o)(h:Rst w1 br str (want 40 o))(f:Fr (· = br) w w1):EInv s e br str o w (.slice none 0 0) 0 (want 40 o) w1:=by
 cases o with
 | none=>exact⟨fun _=>[],fun _=>[],0,World.ownsRow_nil _ _ _ _,fun i hi=>absurd hi (by omega),h,f,rfl,by omega,fun r' hr=>by cases hr⟩
 | some r=>
  have hl:=h0.short;refine⟨fun _=>[],fun _=>[],r.length+1,World.ownsRow_nil _ _ _ _,fun i hi=>absurd hi (by omega),h,f,rfl,by omega,fun r' hr=>?_⟩
  have:=ual hr;refine⟨?_,this,fun i hi=>absurd hi (by omega)⟩
  injection this with this;rw[this];simp;omega
theorem EInv.form(h:EInv s e br str o w lv n o' wr):∃A c,lv = .slice A n c∧n≤c∧c≤maxLen:=by
 obtain⟨us,tx,fuel,h1,_⟩:=h;rcases h1.2 with⟨rfl,rfl⟩|⟨g,cap,cur,rfl,hb,hgg,h3,h4,_⟩
 ·exact⟨none,0,rfl,Nat.le_refl _,by unfold maxLen;omega⟩
 ·exact⟨_,cap,rfl,h3,h4⟩
theorem EInv.rst(h:EInv s e br str o w lv n o' wr):Rst wr br str o':=by obtain⟨_,_,_,_,_,h,_⟩:=h;exact h
theorem EInv.fr(h:EInv s e br str o w lv n o' wr):Fr (· = br) w wr:=by obtain⟨_,_,_,_,_,_,h,_⟩:=h;exact h
theorem EInv.small(h:EInv s e br str o w lv n o' wr):n≤262145:=by obtain⟨_,_,_,_,_,_,_,_,h,_⟩:=h;omega
theorem EInv.limit(h:EInv s e br str o w lv n o' wr){L:Nat}(hL:∀r,o=some r→r.length≤L){r:List UInt8}(hr:(if n=0 then o' else want 32 o')=some r):r.length≤L:=by
 obtain⟨_,tx,_,_,_,_,_,_,_,h⟩:=h;by_cases h0:n=0
 ·rw[if_pos h0]at hr
  obtain⟨_,h1,_⟩:=h _ hr;have:=hL _ h1;simp at this;omega
 ·rw[if_neg h0]at hr
  obtain⟨_,h1,_⟩:=h _ (ual hr);have:=hL _ h1;simp at this;omega
theorem EInv.own(h:EInv s e br str o w lv n o' wr)(hlt:br<w.heap.size)(f1:Fr (· = br) wr w1):∃xs,w1.ownsRow w.heap.size e s.sz lv n xs:=by
 obtain⟨us,tx,fuel,h1,_⟩:=h;refine⟨_,h1.kept f1.toGrown ?_⟩;cases hb:lv.ownBlock with
 | none=>exact .inl rfl
 | some g=>exact .inr (fun e=>by injection e with e;have:=(h1.lt g hb).1;omega)
theorem EInv.next(hone:s.one=true)(hlt:br<w.heap.size){r0:List UInt8}(h:EInv s e br str o w lv n (some r0) wr)(hat:r0.head? ≠ some 41)(f1:Fr (· = br) wr w1)(ho1:(if n=0 then some r0 else want 32 (some r0))=o1)
 {v:List Value} (hty:Ty s v) (hst:Rst w2 br str (rd s 0 o1)) (f2:Fr (· = br) w1 w2) (htx:∀r r',o1=some r→rd s 0 o1=some r'→∃t,r=t++r'∧Rep w2 (w1.heap.size ≤ ·) s v [t])
 {g cap:Nat} {xs:List Value} (hxs:w2.ownsRow w.heap.size e s.sz lv n xs) (hown:w3.ownsRow w.heap.size e s.sz (.slice (some ⟨g,0,none⟩) (n+1) cap) (n+1) (xs++v)) (hg:(w2.alloc (.cells v.toArray e)).grownBy w3 lv.ownBlock) (hgb:lv.ownBlock=some g∨g=w2.heap.size+1) (hglt:g<w3.heap.size) :
 EInv s e br str o w (.slice (some ⟨g,0,none⟩) (n+1) cap) (n+1) (rd s 0 o1) w3:=by
 obtain⟨us,tx,fuel,h1,h2,h3,h4,h5,h6,h7⟩:=h;obtain⟨h8,h9,h10⟩:=h7 r0 rfl;have f12:Fr (· = br) wr w2:=f1.trans f2
 have hlv:∀x,lv.ownBlock=some x→w.heap.size≤x∧x<wr.heap.size:=fun x hx=>h1.lt x hx
 have hxs':xs=udf us n:=by
  have h1':w2.ownsRow w.heap.size e s.sz lv n (udf us n):=h1.kept f12.toGrown (by
   cases hb:lv.ownBlock with
   | none=>exact .inl rfl
   | some g=>exact .inr (fun e=>by injection e with e;have:=(hlv g hb).1;omega))
  rcases hxs.2 with⟨_,hn0⟩|⟨g1,c1,cur1,hv1,_,hg1,_,_,_,ht1⟩
  ·subst hn0
   have a1:=hxs.1;have a2:=h1'.1;simp only[Nat.zero_mul]at a1 a2;rw[List.length_eq_zero_iff.1 a1,List.length_eq_zero_iff.1 a2]
  ·rcases h1'.2 with⟨hv2,hn0⟩|⟨g2,c2,cur2,hv2,_,hg2,_,_,_,ht2⟩
   ·subst hn0
    have a1:=hxs.1;have a2:=h1'.1;simp only[Nat.zero_mul]at a1 a2;rw[List.length_eq_zero_iff.1 a1,List.length_eq_zero_iff.1 a2]
   ·rw[hv1]at hv2
    injection hv2 with hv2 _ _;injection hv2 with hv2;injection hv2 with hv2 _ _;subst hv2;rw[hg1]at hg2;injection hg2 with hg2;injection hg2 with hg2 _;rw[←ht1,←ht2,hg2]
 subst hxs';have hsz3:w2.heap.size+1≤w3.heap.size:=by have:=hg.size;simpa using this
 have hrst3:Rst w3 br str (rd s 0 o1):=by
  obtain⟨pos,bad,hk,q1,q2,q3,q4,q5⟩:=hst;refine⟨pos,bad,(hk.alloc _).grown hg ?_,q1,q2,q3,(q4.alloc (.cells v.toArray e)).keep (fun k hk'=>hg.block k ?_ ?_) hg.size,q5⟩
  ·intro e
   have:=(hlv br e.symm).1;omega
  ·exact Nat.lt_of_lt_of_le hk' (q4.alloc (.cells v.toArray e)).2.2.2.2
  ·intro e
   have:=(hlv k e.symm).1;omega
 have hfr3:Fr (· = br) w w3:=((h4.trans f12).alloc _).grown hg fun x hx=> .inr (hlv x hx).1
 obtain⟨f,rfl⟩:∃f,fuel=f+1:=⟨fuel-1,by omega⟩
 have hold:∀b,b<w2.heap.size→some b≠lv.ownBlock→w3.heap[b]? = w2.heap[b]? :=fun b hb hne=>(hg.block b (by simp;omega) hne).trans (Below.heap_alloc w2 _ b hb)
 have hne':∀b,b<w2.heap.size→some b≠lv.ownBlock→some b≠(Value.slice (some ⟨g,0,none⟩) (n+1) cap).ownBlock:=by
  intro b hb hne e;have e':b=g:=by simpa[Value.ownBlock]using e
  subst e';rcases hgb with h|h
  ·exact hne h.symm
  ·omega
 obtain⟨t,ht⟩:∃t,∀r',rd s 0 o1=some r'→∃r,o1=some r∧r=t++r'∧r'.length<r.length∧Rep w2 (w1.heap.size ≤ ·) s v [t]:=by
  cases hrd:rd s 0 o1 with
  | none=>exact⟨[],fun r' h=>by cases h⟩
  | some r'=>
   obtain⟨r,hr,hrl⟩:=uln s 0 o1 r' hrd;rw[hone,if_pos rfl]at hrl;obtain⟨t,h1,h2⟩:=htx r r' hr hrd;exact⟨t,fun r2 hr2=>by injection hr2 with hr2;subst hr2;exact⟨r,hr,h1,by omega,h2⟩⟩
 refine⟨fun i=>if i=n then v else us i,fun i=>if i=n then t else tx i,f,?_,?_,hrst3,hfr3,?_,by omega,?_⟩
 ·have:udf (fun i=>if i=n then v else us i) (n+1)=udf us n++v:=by
   rw[ubj,uew (us':=us) fun i hi=>if_neg (by omega),if_pos rfl]
  rw[this];exact hown
 ·intro i hi
  by_cases hin:i=n
  ·simp only[hin,if_true];exact hty.len
  ·simp only[if_neg hin];exact h2 i (by omega)
 ·rw[h5,ued _ _ _ hat,ho1]
 ·intro r' hr'
  obtain⟨r,hr,hrt,hrl,hrep⟩:=ht r' hr';have hr0:r0=(if n=0 then r else 32::r):=by
   by_cases h0:n=0
   ·rw[if_pos h0]at ho1 ⊢
    rw[hr]at ho1;injection ho1
   ·rw[if_neg h0]at ho1 ⊢
    rw[hr]at ho1;have:=ual ho1;injection this
  have hrl2:r.length≤r0.length:=by rw[hr0];split<;>simp
  refine⟨by omega,?_,fun i hi=>?_⟩
  ·rw[h9,hr0,hrt]
   have hbody:ube (fun i=>if i=n then t else tx i) n=ube tx n:=uca fun i hi=>if_neg (by omega)
   rcases Nat.eq_zero_or_pos n with h0|h0
   ·subst h0;simp[ube]
   ·rw[ubf _ h0,hbody,if_neg (by omega)]
    simp
  ·by_cases hin:i=n
   ·subst hin
    simp only[if_true];refine hrep.keep fun b hb hlt=>?_
    have hb':w1.heap.size≤b:=hb;have hne:some b≠lv.ownBlock:=fun e=>by have:=(hlv b e.symm).2;have:=f1.size;omega
    exact⟨hold b hlt hne,by have:=h4.size;have:=f1.size;omega,hne' b hlt hne⟩
   ·simp only[if_neg hin]
    refine((h10 i (by omega)).fr f12 fun x hx e=>?_).keep fun b hb hlt=>⟨hold b hlt hb.2,hb.1,hne' b hlt hb.2⟩
    have h1:w.heap.size≤x:=hx.1;have h2:x=br:=e;omega
theorem EInv.last(hlt:br<w.heap.size)(h:EInv s e br str o w lv n o' wr)(hend:o'=none∨∃r,o'=some (41::r))(h2:Rst w1 br str (want 41 o'))(f:Fr (· = br) wr w1):RPost (.list s) br str o w (.returned lv) w1:=by
 have hform:=h.form;obtain⟨us,tx,fuel,h1,h3,h4,h5,h6,h7,h8⟩:=h;have hrd:rd (.list s) 0 o=want 41 o':=by
  rw[h6];rcases hend with rfl|⟨r,rfl⟩
  ·rw[ucy]
  ·obtain⟨h9,_⟩:=h8 _ rfl
   obtain⟨f,rfl⟩:∃f,fuel=f+1:=⟨fuel-1,by omega⟩
   rw[ugm _ _ _ rfl]
 obtain⟨A,c,hlv,hnc,hcm⟩:=hform;refine⟨[lv],by rfl,⟨A,n,c,by rw[hlv]⟩,?_,h5.trans f,fun r r' ho hr'=>?_⟩
 ·rw[hrd];exact h2
 ·rw[hrd]at hr'
  have ho':=ual hr';obtain⟨_,h9,h10⟩:=h8 _ ho';rw[ho]at h9;injection h9 with h9;refine⟨par tx n,by rw[h9];simp[par],A,n,c,us,tx,by rw[hlv],hnc,hcm,rfl,fun h0=>?_,fun i hi=>?_⟩
  ·have hc:=h1.kept f.toGrown (by
    cases hb:lv.ownBlock with
    | none=>exact .inl rfl
    | some g=>exact .inr (fun e=>by injection e with e;have:=(h1.lt g hb).1;omega))
   have hcells:=fun g (hg:lv.ownBlock=some g)=>hc.cells hg
   have hlts:=hc.lt;rcases hc.2 with⟨_,hn0⟩|⟨g,cap,cur,hv,hb,hgg,_⟩
   ·omega
   ·have hA:A=some ⟨g,0,none⟩:=by rw[hv]at hlv;injection hlv with hlv;exact hlv.symm
    have hob:lv.ownBlock=some g:=by rw[hv];rfl
    refine⟨g,0,hA,hb,(hlts g hob).2,fun i hi j x hx=>?_⟩
    have:=hcells g hob (i*s.sz+j) x (ugh h3 hi hx);rw[Addr.add_lit]at this;rw[Nat.zero_add]at this ⊢;exact this
  ·refine((h10 i hi).fr f fun x hx e=>?_).sub fun b hb _=>hb.1
   have h1:w.heap.size≤x:=hx.1;have h2:x=br:=e;omega
theorem EInv.at(h:EInv s e br str o w lv n o' wr):(ui0 41 o'=true→o'=none∨∃r,o'=some (41::r))∧(ui0 41 o'=false→∀r,o'=some r→r.head? ≠ some 41):=by
 refine⟨fun ha=>?_,fun ha r hr=>?_⟩
 ·match o',ha with
  | some (c::r),ha=>
   have:c=41:=by simpa[ui0]using ha
   subst this;exact .inr ⟨r,rfl⟩
  | some [],ha=>cases ha
  | none,ha=>exact .inl rfl
 ·subst hr
  match r,ha with
  | [],_=>simp
  | c::r,ha=>
   have:c≠41:=by simpa[ui0]using ha
   simpa using this
end
theorem ug{v:List Value}(h:Ty .int v):∃zn,v=[.int .i64 zn]:=by obtain⟨n,rfl,_⟩:=h;exact⟨n,rfl⟩
theorem ua8{v:List Value}(h:Ty .bool v):∃zb,v=[.bool zb]:=h
theorem uay{v:List Value}(h:Ty .rat v):∃zb zA zk zc zD zl zd,v=[.bool zb,.slice zA zk zc,.slice zD zl zd]:=h
theorem ua{s:Shape}{v:List Value}(h:Ty (.list s) v):∃zA zk zc,v=[.slice zA zk zc]:=h
theorem uly:Shape.one uH=true:=rfl
theorem ubw:Shape.sz uH=2:=rfl
theorem ulz(l:List Value):uas uH l = .agg l.toArray:=rfl
theorem ua2{v:List Value}(h:Ty uX v):∃a0 a1 a3 a2,v=[.int .i64 a0,.slice a1 a3 a2]:=by
 obtain⟨l0,_,rfl,h0,l1,_,rfl,h1,rfl⟩:=h;obtain⟨a0,rfl⟩:=ug h0;obtain⟨a1,a3,a2,rfl⟩:=ua h1;exact⟨a0,a1,a3,a2,rfl⟩
theorem ufc:Ty uX [.int .i64 0,.slice none 0 0]:=⟨[.int .i64 0],[.slice none 0 0],rfl,⟨0,rfl,by omega,by omega⟩,⟨[.slice none 0 0],[],rfl,⟨none,0,0,rfl⟩,rfl⟩⟩
theorem uxs:Shape.one uX=true:=rfl
theorem uw:Shape.sz uX=2:=rfl
theorem ubg(l:List Value):uas uX l = .agg l.toArray:=rfl
theorem uj4:Shape.one ut=true:=rfl
theorem ua9:Shape.sz ut=2:=rfl
theorem uj5(l:List Value):uas ut l = .agg l.toArray:=rfl
theorem uch{v:List Value}(h:Ty uM v):∃a0 a2 a1 a3 a5 a4,v=[.slice a0 a2 a1,.slice a3 a5 a4]:=by
 obtain⟨l0,_,rfl,h0,l1,_,rfl,h1,rfl⟩:=h;obtain⟨a0,a2,a1,rfl⟩:=ua h0;obtain⟨a3,a5,a4,rfl⟩:=ua h1;exact⟨a0,a2,a1,a3,a5,a4,rfl⟩
theorem ul0:Ty uM [.slice none 0 0,.slice none 0 0]:=⟨[.slice none 0 0],[.slice none 0 0],rfl,⟨none,0,0,rfl⟩,⟨[.slice none 0 0],[],rfl,⟨none,0,0,rfl⟩,rfl⟩⟩
theorem ud:Shape.sz uM=2:=rfl
theorem uic(l:List Value):uas uM l = .agg l.toArray:=rfl
theorem uek{n:Nat}{v:List Value}(h:Ty (ua1 n) v):∃a0 a1 a2 a4 a3,v=[.int .i64 a0,.int .i64 a1,.slice a2 a4 a3]:=by
 cases n with
 | zero=>
  obtain⟨l0,_,rfl,h0,l1,_,rfl,h1,l2,_,rfl,h2,rfl⟩:=h;obtain⟨a0,rfl⟩:=ug h0;obtain⟨a1,rfl⟩:=ug h1;obtain⟨a2,a4,a3,rfl⟩:=ua h2;exact⟨a0,a1,a2,a4,a3,rfl⟩
 | succ n=>
  obtain⟨l0,_,rfl,h0,l1,_,rfl,h1,l2,_,rfl,h2,rfl⟩:=h;obtain⟨a0,rfl⟩:=ug h0;obtain⟨a1,rfl⟩:=ug h1;obtain⟨a2,a4,a3,rfl⟩:=ua h2;exact⟨a0,a1,a2,a4,a3,rfl⟩
theorem uu4:∀ {n:Nat},Ty (ua1 n) [.int .i64 0,.int .i64 0,.slice none 0 0]
 | 0=>⟨[.int .i64 0],[.int .i64 0,.slice none 0 0],rfl,⟨0,rfl,by omega,by omega⟩,⟨[.int .i64 0],[.slice none 0 0],rfl,⟨0,rfl,by omega,by omega⟩,⟨[.slice none 0 0],[],rfl,⟨none,0,0,rfl⟩,rfl⟩⟩⟩
 | n+1=>⟨[.int .i64 0],[.int .i64 0,.slice none 0 0],rfl,⟨0,rfl,by omega,by omega⟩,⟨[.int .i64 0],[.slice none 0 0],rfl,⟨0,rfl,by omega,by omega⟩,⟨[.slice none 0 0],[],rfl,⟨none,0,0,rfl⟩,rfl⟩⟩⟩
theorem ul1:∀ {n:Nat},Shape.one (ua1 n)=true
 | 0=>rfl
 | n+1=>rfl
theorem uA:∀ {n:Nat},Shape.sz (ua1 n)=3
 | 0=>rfl
 | n+1=>rfl
theorem udg:∀ {n:Nat} (l:List Value),uas (ua1 n) l = .agg l.toArray
 | 0,_=>rfl
 | n+1,_=>rfl
theorem ur4{n:Nat}:Shape.one (uae n)=true:=rfl
theorem ucr{n:Nat}:Shape.sz (uae n)=4:=by
 show Shape.sz (ua1 n)+(Shape.sz (.list .int)+(0))=_
 rw[uA];rfl
theorem ur5{n:Nat}(l:List Value):uas (uae n) l = .agg l.toArray:=rfl
theorem udy{n:Nat}{v:List Value}(h:Ty (uaw n) v):∃a0 a2 a1 a3 a5 a4 a6 a8 a7,v=[.slice a0 a2 a1,.slice a3 a5 a4,.slice a6 a8 a7]:=by
 obtain⟨l0,_,rfl,h0,l1,_,rfl,h1,l2,_,rfl,h2,rfl⟩:=h;obtain⟨a0,a2,a1,rfl⟩:=ua h0;obtain⟨a3,a5,a4,rfl⟩:=ua h1;obtain⟨a6,a8,a7,rfl⟩:=ua h2;exact⟨a0,a2,a1,a3,a5,a4,a6,a8,a7,rfl⟩
theorem ur6{n:Nat}:Ty (uaw n) [.slice none 0 0,.slice none 0 0,.slice none 0 0]:=⟨[.slice none 0 0],[.slice none 0 0,.slice none 0 0],rfl,⟨none,0,0,rfl⟩,⟨[.slice none 0 0],[.slice none 0 0],rfl,⟨none,0,0,rfl⟩,⟨[.slice none 0 0],[],rfl,⟨none,0,0,rfl⟩,rfl⟩⟩⟩
theorem uu{n:Nat}:Shape.sz (uaw n)=3:=rfl
theorem ui1{n:Nat}(l:List Value):uas (uaw n) l = .agg l.toArray:=rfl
theorem ubz{n:Nat}{v:List Value}(h:Ty (uy n) v):∃a0 a1 a3 a2,v=[.int .i64 a0,.slice a1 a3 a2]:=by
 cases n with
 | zero=>
  obtain⟨l0,_,rfl,h0,l1,_,rfl,h1,rfl⟩:=h;obtain⟨a0,rfl⟩:=ug h0;obtain⟨a1,a3,a2,rfl⟩:=ua h1;exact⟨a0,a1,a3,a2,rfl⟩
 | succ n=>
  obtain⟨l0,_,rfl,h0,l1,_,rfl,h1,rfl⟩:=h;obtain⟨a0,rfl⟩:=ug h0;obtain⟨a1,a3,a2,rfl⟩:=ua h1;exact⟨a0,a1,a3,a2,rfl⟩
theorem upk:∀ {n:Nat},Ty (uy n) [.int .i64 0,.slice none 0 0]
 | 0=>⟨[.int .i64 0],[.slice none 0 0],rfl,⟨0,rfl,by omega,by omega⟩,⟨[.slice none 0 0],[],rfl,⟨none,0,0,rfl⟩,rfl⟩⟩
 | n+1=>⟨[.int .i64 0],[.slice none 0 0],rfl,⟨0,rfl,by omega,by omega⟩,⟨[.slice none 0 0],[],rfl,⟨none,0,0,rfl⟩,rfl⟩⟩
theorem ugq:∀ {n:Nat},Shape.one (uy n)=true
 | 0=>rfl
 | n+1=>rfl
theorem uj:∀ {n:Nat},Shape.sz (uy n)=2
 | 0=>rfl
 | n+1=>rfl
theorem ubp:∀ {n:Nat} (l:List Value),uas (uy n) l = .agg l.toArray
 | 0,_=>rfl
 | n+1,_=>rfl
theorem upl{n:Nat}:Shape.one (uO n)=true:=rfl
theorem ub2{n:Nat}:Shape.sz (uO n)=3:=by
 show Shape.sz .int+(Shape.sz (uy n)+(0))=_
 rw[uj];rfl
theorem upm{n:Nat}(l:List Value):uas (uO n) l = .agg l.toArray:=rfl
theorem uu5:Shape.one ua5=true:=rfl
theorem udz:Shape.sz ua5=3:=by
 show Shape.sz uX+(Shape.sz .int+(0))=_
 rw[uw];rfl
theorem uu6(l:List Value):uas ua5 l = .agg l.toArray:=rfl
theorem uaj{n:Nat}{v:List Value}(h:Ty (uC n) v):∃a0 a2 a1 a3 a5 a4,v=[.slice a0 a2 a1,.slice a3 a5 a4]:=by
 obtain⟨l0,_,rfl,h0,l1,_,rfl,h1,rfl⟩:=h;obtain⟨a0,a2,a1,rfl⟩:=ua h0;obtain⟨a3,a5,a4,rfl⟩:=ua h1;exact⟨a0,a2,a1,a3,a5,a4,rfl⟩
theorem ufd{n:Nat}:Ty (uC n) [.slice none 0 0,.slice none 0 0]:=⟨[.slice none 0 0],[.slice none 0 0],rfl,⟨none,0,0,rfl⟩,⟨[.slice none 0 0],[],rfl,⟨none,0,0,rfl⟩,rfl⟩⟩
theorem um{n:Nat}:Shape.sz (uC n)=2:=rfl
theorem uau{n:Nat}(l:List Value):uas (uC n) l = .agg l.toArray:=rfl
theorem uu7{n:Nat}:Shape.one (un n)=true:=rfl
theorem ugr{n:Nat}:Shape.sz (un n)=5:=by
 show Shape.sz .rat+(Shape.sz (uC n)+(0))=_
 rw[um];rfl
theorem uu8{n:Nat}(l:List Value):uas (un n) l = .agg l.toArray:=rfl
theorem ur7{n:Nat}:Shape.one (uan n)=true:=rfl
theorem uel{n:Nat}:Shape.sz (uan n)=6:=by
 show Shape.sz .int+(Shape.sz .rat+(Shape.sz (uC n)+(0)))=_
 rw[um];rfl
theorem ur8{n:Nat}(l:List Value):uas (uan n) l = .agg l.toArray:=rfl
theorem upn{n:Nat}:Shape.one (uD n)=true:=rfl
theorem ud0{n:Nat}:Shape.sz (uD n)=3:=rfl
theorem upo{n:Nat}(l:List Value):uas (uD n) l = .agg l.toArray:=rfl
theorem ufe{v:List Value}(h:Ty axS v):∃a0 a1 a2 a4 a3 a5 a6 a8 a7 a9,v=[.int .i64 a0,.int .i64 a1,.slice a2 a4 a3,.int .i64 a5,.slice a6 a8 a7,.int .i64 a9]:=by
 obtain⟨l0,_,rfl,h0,l1,_,rfl,h1,l2,_,rfl,h2,l3,_,rfl,h3,rfl⟩:=h;obtain⟨a0,rfl⟩:=ug h0;obtain⟨a1,a2,a4,a3,rfl⟩:=ua2 h1;obtain⟨a5,a6,a8,a7,rfl⟩:=ua2 h2;obtain⟨a9,rfl⟩:=ug h3;exact⟨a0,a1,a2,a4,a3,a5,a6,a8,a7,a9,rfl⟩
theorem upp:Ty axS [.int .i64 0,.int .i64 0,.slice none 0 0,.int .i64 0,.slice none 0 0,.int .i64 0]:=⟨[.int .i64 0],[.int .i64 0,.slice none 0 0,.int .i64 0,.slice none 0 0,.int .i64 0],rfl,⟨0,rfl,by omega,by omega⟩,⟨[.int .i64 0,.slice none 0 0],[.int .i64 0,.slice none 0 0,.int .i64 0],rfl,ufc,⟨[.int .i64 0,.slice none 0 0],[.int .i64 0],rfl,ufc,⟨[.int .i64 0],[],rfl,⟨0,rfl,by omega,by omega⟩,rfl⟩⟩⟩⟩
theorem uh:Shape.sz axS=6:=by
 show Shape.sz .int+(Shape.sz uX+(Shape.sz uX+(Shape.sz .int+(0))))=_
 rw[uw];rfl
theorem uj6(l:List Value):uas axS l = .agg l.toArray:=rfl
theorem uj7{n:Nat}:Shape.one (uax n)=true:=rfl
theorem uci{n:Nat}:Shape.sz (uax n)=13:=by
 show Shape.sz axS+(Shape.sz .rat+(Shape.sz (uC n)+(Shape.sz (.list .rat)+(Shape.sz (.list .rat)+(0)))))=_
 rw[uh,um];rfl
theorem uj8{n:Nat}(l:List Value):uas (uax n) l = .agg l.toArray:=rfl
theorem ur9{n:Nat}{v:List Value}(h:Ty (uac n) v):∃a0 a4 a5 a6 a8 a7 a9 b1 b0 b2 b4 b3 b5 b7 b6 b8 c0 b9 c1 c3 c2 c4 c6 c5 a1 a3 a2,v=[.int .i64 a0,.int .i64 a4,.bool a5,.slice a6 a8 a7,.slice a9 b1 b0,.slice b2 b4 b3,.slice b5 b7 b6,.slice b8 c0 b9,.slice c1 c3 c2,.slice c4 c6 c5,.slice a1 a3 a2]:=by
 obtain⟨l0,_,rfl,h0,l1,_,rfl,h1,l2,_,rfl,h2,l3,_,rfl,h3,l4,_,rfl,h4,l5,_,rfl,h5,l6,_,rfl,h6,l7,_,rfl,h7,l8,_,rfl,h8,l9,_,rfl,h9,c8,_,rfl,c7,rfl⟩:=h;obtain⟨a0,rfl⟩:=ug h0;obtain⟨a4,rfl⟩:=ug h1;obtain⟨a5,rfl⟩:=ua8 h2;obtain⟨a6,a8,a7,rfl⟩:=ua h3;obtain⟨a9,b1,b0,rfl⟩:=ua h4;obtain⟨b2,b4,b3,rfl⟩:=ua h5;obtain⟨b5,b7,b6,rfl⟩:=ua h6;obtain⟨b8,c0,b9,rfl⟩:=ua h7;obtain⟨c1,c3,c2,rfl⟩:=ua h8;obtain⟨c4,c6,c5,rfl⟩:=ua h9;obtain⟨a1,a3,a2,rfl⟩:=ua c7;exact⟨a0,a4,a5,a6,a8,a7,a9,b1,b0,b2,b4,b3,b5,b7,b6,b8,c0,b9,c1,c3,c2,c4,c6,c5,a1,a3,a2,rfl⟩
theorem uu9{n:Nat}:Shape.one (uac n)=true:=rfl
theorem ugs{n:Nat}:Shape.sz (uac n)=11:=rfl
theorem ui2{n:Nat}(l:List Value):uas (uac n) l = .agg l.toArray:=rfl
theorem usa:Shape.one uW=true:=rfl
theorem udh:Shape.sz uW=2:=rfl
theorem usb(l:List Value):uas uW l = .agg l.toArray:=rfl
theorem ud1{n:Nat}{v:List Value}(h:Ty (ubb n) v):∃a0 a1 a3 a2 a4 a6 a5 a7 a9 a8 b0 b2 b1 b3 b5 b4 b6 b8 b7 b9 c1 c0 c2 c4 c3,v=[.bool a0,.slice a1 a3 a2,.slice a4 a6 a5,.slice a7 a9 a8,.slice b0 b2 b1,.slice b3 b5 b4,.slice b6 b8 b7,.slice b9 c1 c0,.slice c2 c4 c3]:=by
 obtain⟨l0,_,rfl,h0,l1,_,rfl,h1,l2,_,rfl,h2,l3,_,rfl,h3,l4,_,rfl,h4,l5,_,rfl,h5,rfl⟩:=h;obtain⟨a0,rfl⟩:=ua8 h0;obtain⟨a1,a3,a2,a4,a6,a5,rfl⟩:=uch h1;obtain⟨a7,a9,a8,rfl⟩:=ua h2;obtain⟨b0,b2,b1,b3,b5,b4,b6,b8,b7,rfl⟩:=udy h3;obtain⟨b9,c1,c0,rfl⟩:=ua h4;obtain⟨c2,c4,c3,rfl⟩:=ua h5;exact⟨a0,a1,a3,a2,a4,a6,a5,a7,a9,a8,b0,b2,b1,b3,b5,b4,b6,b8,b7,b9,c1,c0,c2,c4,c3,rfl⟩
theorem uva{n:Nat}(l:List Value):uas (ubb n) l = .agg l.toArray:=rfl
theorem uo(x:Value):uas .int [x]=x:=rfl
theorem ub9(x:Value):uas .bool [x]=x:=rfl
theorem uaz(l:List Value):uas .rat l = .agg l.toArray:=rfl
theorem ue(s:Shape)(x:Value):uas (.list s) [x]=x:=rfl
def ElR(g:FuncId)(args:Array Value)(s:Shape)(L br:Nat)(str:ByteArray)(w:World):Prop:=
 Enters Tryz.prog g∧∀(W:World) (o:Option (List UInt8)),Fr (· = br) w W→Rst W br str o→(∀r,o=some r→r.length≤L)→Calls Tryz.prog g args W (RPost s br str o W)
theorem ElR.of{g:FuncId}{s:Shape}{L:Nat}(he:Enters Tryz.prog g)(h:Reads g s L)(br:Nat)(str:ByteArray)(w:World):ElR g #[.pointer (some ⟨br,0,none⟩)] s L br str w:=
 ⟨he,fun W o _ hr hl=>h W br str o hr hl⟩
theorem Reads.mono{g:FuncId}{s:Shape}{L L':Nat}(h:Reads g s L)(hl:L'≤L):Reads g s L':=fun w br str o hr hL=>h w br str o hr fun r hr'=>Nat.le_trans (hL r hr') hl
theorem CloPost.of{s:Shape}{T:TypeId}{off br bt:Nat}{str:ByteArray}{r:List UInt8}{cs:Array Value}{w w1 w2:World}{v:List Value}(hty:Ty s v)(hst:Rst w1 br str (rd s 0 (some r)))(hf:Fr (· = br) w w1)
 (htx:∀r0 r',some r=some r0→rd s 0 (some r)=some r'→∃t,r0=t++r'∧Rep w1 (w.heap.size ≤ ·) s v [t]) (hbk:Bk w2 bt T (splice cs off v)) (f2:Fr (· = bt) w1 w2) (hbt:bt<w.heap.size) (d:bt≠br) (dg:GN≤bt) :
 CloPost s T off br bt str r cs w (.returned (.tuple #[])) w2:=by
 refine⟨rfl,v,hty,hbk,hst.fr f2 (fun e=>d e.symm) (fun k hk e=>by have h4:k=bt:=e;omega),(hf.mono fun x hx=> .inl hx).then f2 (fun x hx=> .inl (.inr hx)),fun r' hr'=>?_⟩
 obtain⟨t,h1,h2⟩:=htx r r' rfl hr';exact⟨t,h1,h2.fr f2 fun x hx e=>by have h3:w.heap.size≤x:=hx;have h4:x=bt:=e;omega⟩
theorem ElR.meth{g:FuncId}{s:Shape}{L:Nat}(he:Enters Tryz.prog g)(h:Reads g s L)(br:Nat)(str:ByteArray)(w:World):ElR g (#[.pointer (some ⟨br,0,none⟩)] ++ #[]) s L br str w:=by
 have:=ElR.of he h br str w;simpa using this
theorem lim{r:List UInt8}{L:Nat}(h:r.length<L):∀r',some r=some r'→r'.length≤L-1:=fun r' hr=>by injection hr with hr;subst hr;omega
theorem Bk.new'{w:World}{k:Nat}(h:w.heap.size=k)(t:TypeId)(cs:Array Value):Bk (w.alloc (.cells cs t)) k t cs:=by subst h;exact AC.Bk.new w t cs
theorem RPost.ofF{ss:List Shape}{br bt:Nat}{str:ByteArray}{o:Option (List UInt8)}{w w0 w1 w2:World}{vs:List (List Value)}(f0:Fr (· = br) w w0)(htys:Tys ss vs)(hst:Rst w1 br str (rd (.st (ubd ss)) 0 o))(f1:Fr (fun b=>b=br∨b=bt) w0 w1)
 (htx:∀r r',o=some r→rd (.st (ubd ss)) 0 o=some r'→∃t,r=t++r'∧Rep w1 (w0.heap.size ≤ ·) (.st (ubd ss)) vs.flatten [t]) (f2:Fr (· = bt) w1 w2) (hbt:w.heap.size≤bt) (hbt2:bt<w0.heap.size) (hbr:br<w.heap.size) {l:List Value} (hl:l=vs.flatten) :
 RPost (.st (ubd ss)) br str o w (.returned (.agg l.toArray)) w2:=by
 subst hl;refine⟨vs.flatten,rfl,htys.ty,hst.fr f2 (fun e=>by have h4:br=bt:=e;omega) (fun k hk e=>by have h4:k=bt:=e;have:=hst.gl.2;omega),?_,fun r r' ho hr'=>?_⟩
 ·refine(f0.then f1 (fun x hx=>?_)).then f2 (fun x hx=>?_)
  ·rcases hx with hx|hx
   ·exact .inl hx
   ·exact .inr (by omega)
  ·have h4:x=bt:=hx
   exact .inr (by omega)
 ·obtain⟨t,h1,h2⟩:=htx r r' ho hr'
  refine⟨t,h1,(h2.fr f2 fun x hx e=>?_).sub fun b hb _=>?_⟩
  ·have h3:w0.heap.size≤x:=hx
   have h4:x=bt:=e;omega
  ·have h3:w0.heap.size≤b:=hb
   have:=f0.size;show w.heap.size≤b
   omega
end Go.Proofs.YtellcholbkoakaaGreatDoor
