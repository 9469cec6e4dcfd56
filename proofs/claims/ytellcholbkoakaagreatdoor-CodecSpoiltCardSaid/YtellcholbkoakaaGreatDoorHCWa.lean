/-
  The writer: its builder, its text.
-/
import Derived.Test.YtellcholbkoakaaGreatDoorHCRep
import Derived.WalkKit
import Derived.WalkSpells
import Derived.WalkLawsBesides
import Derived.RegionTactic
import Derived.ChangeAlike
import Derived.BigRegion
import Derived.Lib.Builder
import Derived.Lib.AppendStr
import Derived.Lib.UnsafeStr
import Derived.Laws.Externs
import Derived.Lib.Hide
import Derived.Test.YtellcholbkoakaaGreatDoorHCRa
import Derived.LoopTactic
import Derived.Shelf.Abstract
import Derived.Laws.EntriesVeiled
namespace Go.Proofs.YtellcholbkoakaaGreatDoor
open Go.Lib (hid)
open Go.RowKit AC
set_option linter.unusedVariables false
set_option linter.unusedSimpArgs false
theorem usg:(Tryz.prog.info? 5).map (fun i=>(i.zero,i.size,i.bytes))=some (some (.int .u8 0),1,1):=by kernel_rfl
theorem uod:(Tryz.prog.info? 95).map (fun i=>i.size)=some 2:=by kernel_rfl
theorem uvc:liesAt Tryz.prog Tryz.prog.depth 97 (3/Tryz.prog.cellsOf 97) 0 95 1=true:=by kernel_rfl
def Bst(w:World)(bw:Nat)(l:List UInt8)(full:Bool):Prop:=
 ∃p v,Bk w bw 97 #[p,v,.bool full]∧(p = .pointer none∨p = .pointer (some ⟨bw,0,none⟩))∧w.ownsRow (bw+1) 5 1 v l.length (Lib.byteCells l)
def Wfr(bw:Nat)(w w':World):Prop:=
 Below bw w w'∧∀(b:Nat) (cs:Array Value) (T:TypeId),b≠bw→T≠5→Bk w b T cs→Bk w' b T cs
theorem Wfr.refl(bw:Nat)(w:World):Wfr bw w w:=⟨Below.refl _ _,fun _ _ _ _ _ h=>h⟩
theorem Wfr.trans{bw:Nat}{a b c:World}(h:Wfr bw a b)(k:Wfr bw b c):Wfr bw a c:=
 ⟨h.1.trans k.1,fun b cs T hb hT h'=>k.2 b cs T hb hT (h.2 b cs T hb hT h')⟩
theorem Wfr.drew{bw:Nat}{a b:World}(h:Wfr bw a b):Wfr bw a b.drew:=⟨h.1.drew,fun b cs T hb hT h'=>h.2 b cs T hb hT h'⟩
theorem Wfr.alloc{bw:Nat}{a b:World}(h:Wfr bw a b)(hb:bw≤b.heap.size)(o:Obj):Wfr bw a (b.alloc o):=by
 refine⟨h.1.alloc hb o,fun k cs T hk hT h'=>?_⟩
 have h1:=h.2 k cs T hk hT h';exact(Below.heap_alloc b o k h1.lt).trans h1
theorem Wfr.below{bw:Nat}{a b c:World}(h:Wfr bw a b)(k:Below b.heap.size b c)(hb:bw≤b.heap.size):Wfr bw a c:=
 ⟨h.1.trans (k.mono hb),fun b' cs T hb' hT h'=>by
  have h1:=h.2 b' cs T hb' hT h';exact(k.block b' h1.lt).trans h1⟩
theorem Wfr.setCell{bw:Nat}{a b:World}(h:Wfr bw a b)(i:Nat)(u:Value):Wfr bw a (b.setCell ⟨bw,i,none⟩ u):=by
 refine⟨h.1.setCell (Nat.le_refl _) u,fun k cs T hk hT h'=>?_⟩
 exact(Below.heap_setCell b ⟨bw,i,none⟩ u k hk).trans (h.2 k cs T hk hT h')
theorem Wfr.grown{bw:Nat}{a b c:World}(h:Wfr bw a b)(hb:bw≤b.heap.size){v:Value}{n:Nat}{xs:List Value}(hown:b.ownsRow (bw+1) 5 1 v n xs)(hg:b.grownBy c v.ownBlock):Wfr bw a c:=by
 refine⟨h.1.grown hg hb fun g hgv=>?_,fun k cs T hk hT h'=>?_⟩
 ·have:=(hown.lt g hgv).1;omega
 ·have h1:=h.2 k cs T hk hT h'
  exact(hg.block k h1.lt (fun e=>Lib.ownBlock_ne hown h1 hT e.symm)).trans h1
theorem Bk.set{w:World}{b:Nat}{t:TypeId}{cs:Array Value}(h:Bk w b t cs)(i:Nat)(u:Value):Bk (w.setCell ⟨b,i,none⟩ u) b t (cs.setIfInBounds i u):=by
 unfold Bk at *;simp[World.setCell,Array.getElem?_modify,h]
theorem uck{w:World}{base n b i:Nat}{v u:Value}{xs:List Value}{T:TypeId}{cs:Array Value}(h:w.ownsRow base 5 1 v n xs)(hb:Bk w b T cs)(hT:T≠5):(w.setCell ⟨b,i,none⟩ u).ownsRow base 5 1 v n xs:=
 h.kept (row:=some b) ⟨rfl,rfl,rfl,by simp[World.setCell],fun k _ hk=>Below.heap_setCell _ _ _ _ (fun e=>hk (by simp[e]))⟩ (Or.inr (Lib.ownBlock_ne h hb hT))
theorem Bst.lt{w:World}{bw:Nat}{l:List UInt8}{full:Bool}(h:Bst w bw l full):bw<w.heap.size:=by
 obtain⟨p,v,h1,_⟩:=h;exact h1.lt
set_option maxHeartbeats 1000000 in
set_option maxRecDepth 100000 in
theorem ui3(w:World)(bw:Nat)(l:List UInt8)(full:Bool)(h:Bst w bw l full) :
 Calls Tryz.prog 284 #[.pointer (some ⟨bw,0,none⟩)] w fun e w'=>e = .returned (.tuple #[])∧Wfr bw w w'∧∃v,Bk w' bw 97 #[.pointer (some ⟨bw,0,none⟩),v,.bool full]∧w'.ownsRow (bw+1) 5 1 v l.length (Lib.byteCells l):=by
 obtain⟨p,v,hk,hp,hown⟩:=h;obtain⟨j,hj,hjs⟩:=Option.map_eq_some_iff.1 uod;have c0:=hk.cell 0;have f0:=hk.frozen 0;have hsh:w.shape? bw=some (97,3):=by unfold Bk at hk;simp[World.shape?,hk]
 simp only[gq]at c0;rcases hp with rfl|rfl
 ·have HK:=hid hk
  have HO:=hid hown;clear hk hown;go_enter Tryz.func284,Tryz.ntmps284
  go_wp2;rw[Lib.run_to_unsafe w ⟨bw,0,none⟩ Tryz.underlying93 Tryz.underlying298 hj (by rw[hjs];decide) hsh (Nat.zero_lt_succ 2)]
  simp only[Result.andThen];rw[Oper.upon_value];go_wp2;rw[run_callFunc_extern Tryz.func329 (by kernel_rfl) (by kernel_rfl) (by kernel_rfl) (e:=Extern.AbiNoEscape.same) (by kernel_rfl)]
  rw[Lib.run_noEscape];simp only[Result.andThen];rw[Oper.upon_value];go_wp2;rw[Lib.run_from_unsafe w ⟨bw,0,none⟩ Tryz.underlying298 Tryz.underlying93 hj hsh uvc];simp only[Result.andThen];rw[Oper.upon_value];go_wp2;go_end0
  exact⟨rfl,(Wfr.refl _ _).setCell _ _,v,HK.out.set 0 _,uck HO.out HK.out (by decide)⟩
 ·have HK:=hid hk
  have HO:=hid hown;clear hk hown;go_enter Tryz.func284,Tryz.ntmps284
  go_wp2;rw[Lib.run_neq_ptr_same w _ Tryz.underlying93 hj];go_wp2;go_end0
  exact⟨rfl,Wfr.refl _ _,v,HK.out,HO.out⟩
theorem ui4{w:World}{base:Nat}{e:TypeId}{v:Value}{n:Nat}{xs:List Value}(hown:w.ownsRow base e 1 v n xs):∃ao cap,v = .slice ao n cap:=by
 rcases hown.2 with⟨hv,h0⟩|⟨g,cap,cur,hv,_⟩
 ·exact⟨none,0,by rw[hv,h0]⟩
 ·exact⟨_,_,hv⟩
set_option maxHeartbeats 1000000 in
theorem uoe(w:World)(bw:Nat)(l:List UInt8)(full:Bool)(h:Bst w bw l full) :
 Calls Tryz.prog 221 #[.pointer (some ⟨bw,0,none⟩)] w fun e w'=>e = .returned (.int .i64 l.length)∧w=w':=by
 obtain⟨p,v,hk,hp,hown⟩:=h;obtain⟨ao,cap,rfl⟩:=ui4 hown;have c1:=hk.cell 1;simp only[gq]at c1;clear hk hp hown;go_enter Tryz.func221,Tryz.ntmps221
 go_wp2;go_ret
 exact⟨rfl,rfl⟩
set_option maxHeartbeats 1000000 in
theorem ugv(w:World)(bw:Nat)(l:List UInt8)(full:Bool)(s:ByteArray)(h:Bst w bw l full)(hlen:l.length+s.size≤262144) :
 Calls Tryz.prog 222 #[.pointer (some ⟨bw,0,none⟩),.string s] w fun e w'=>e = .returned (.tuple #[.int .i64 s.size,.nilIface])∧Wfr bw w w'∧Bst w' bw (l++s.data.toList) full:=by
 obtain⟨i0,hi,hz0,hz1,hz2⟩:=info_parts usg;have hlt:=h.lt;have H:=hid h;clear h;go_enter Tryz.func222,Tryz.ntmps222
 go_wp2_with fail
 refine(ui3 _ bw l full H.out).mono ?_;rintro e w1⟨rfl,hfr,v,hk,hown⟩;have c1:=hk.cell 1;simp only[gq]at c1;have hw1:=hk.lt;have HF:=hid hfr;have HK:=hid hk;clear hfr hk;go_wp2_with (at_builtin;refine Lib.wpList_append_own_string _ rfl _ _ 44 9 rfl (bw+1) 5 i0 Tryz.underlying44 Tryz.underlying9 hi hz0 hz1 hz2 _ _ _ rfl hown s rfl ?c3 ?c4 ?c5 ?_)
 case c3=>unfold maxLen;omega
 case c4=>omega
 case c5=>omega
 intro v' w2 hown' hgrow _;have hk2:Bk w2 bw 97 #[.pointer (some ⟨bw,0,none⟩),v,.bool full]:=(hgrow.block bw hw1 (fun e=>Lib.ownBlock_ne hown HK.out (by decide) e.symm)).trans HK.out
 have d1:=hk2.cell 1;simp only[gq]at d1;have f1:=hk2.frozen 1;obtain⟨ao,cap,rfl⟩:=ui4 hown';have HK2:=hid hk2;have HO:=hid hown';have HG:=hid (HF.out.grown (by omega) hown hgrow)
 clear hk2 hown' hgrow hown c1;go_wp2;go_ret2
 refine⟨rfl,HG.out.setCell _ _,_,_,HK2.out.set 1 _,.inr rfl,?_⟩;have h3:=uck (i:=1) (u:= .slice ao (l.length+s.size) cap) HO.out HK2.out (by decide)
 rw[Lib.strCells_eq,←Lib.byteCells_append]at h3;have h4:(l++s.data.toList).length=l.length+s.size:=by simp
 rw[h4];exact h3
theorem uof:Tryz.prog.cellsOf 5=1:=by kernel_rfl
set_option maxHeartbeats 1000000 in
set_option maxRecDepth 100000 in
theorem ul3(w:World)(bw:Nat)(l:List UInt8)(full:Bool)(h:Bst w bw l full)(h0:l≠[])(hl:l.length≤262144) :
 Calls Tryz.prog 30 #[.pointer (some ⟨bw,0,none⟩)] w fun e w'=>e = .returned (.string ⟨l.toArray⟩)∧Below bw w w':=by
 obtain⟨p,v,hk,hp,hown⟩:=h;have hl0:l.length≠0:=by simpa using h0
 obtain⟨g,cap,cur,rfl,hbg,hg,hnc,hcm,hcs,htake⟩:∃g cap cur,v = .slice (some ⟨g,0,none⟩) l.length cap∧bw+1≤g∧w.heap[g]? = some (.cells cur 5 (0,0))∧l.length≤cap∧cap≤maxLen∧cur.size=cap*1∧cur.toList.take (l.length*1)=Lib.byteCells l:=by
  rcases hown.2 with⟨_,hz⟩|⟨g,cap,cur,hv,r⟩
  ·exact absurd hz hl0
  ·exact⟨g,cap,cur,hv,r⟩
 have c1:=hk.drew.cell 1;simp only[gq]at c1;have hSD:(Builtin.unsafeSliceData_ #[44] 164 #[.slice (some ⟨g,0,none⟩) l.length cap]).run Tryz.prog w.drew = .ok (.pointer (some ⟨g,0,none⟩)) w.drew:=
  Lib.run_unsafeSliceData_row _ _ _ _ _ _ (by omega)
 have hUS:(Builtin.unsafeString_ #[164,3] 9 #[.pointer (some ⟨g,0,none⟩),.int .i64 l.length]).run Tryz.prog w.drew = .ok (.string ⟨l.toArray⟩) (w.drew.freeze ⟨g,0,none⟩ l.length):=by
  refine Lib.run_unsafeString_row w.drew 164 3 9 5 Tryz.underlying164 uof g cur.size (by have hg':w.drew.heap[g]? = some (.cells cur 5 (0,0)):=hg;simp[World.shape?,hg']) l h0 (by omega) (by omega) ?_
  intro j x hx;have:=hown.cells (g:=g) rfl j (.int .u8 x.toNat) (by simp[Lib.byteCells,hx])
  exact this
 clear hk hown hg htake hp;go_enter Tryz.func30,Tryz.ntmps30
 go_wp2;go_region
 all_goals (go_wp2;go_ret;exact⟨rfl,Lib.below_freeze (Below.drew (Below.refl bw w)) (p:=⟨g,0,none⟩) (Nat.le_of_succ_le hbg) _⟩)
def Wst(w:World)(bw:Nat)(o:Option (List UInt8)):Prop:=
 (match o with
 | none=>∃l,Bst w bw l true
 | some l=>Bst w bw l false∧l.length≤262144)∧Gl w∧GN≤bw
def ul4(bw:Nat)(w:World)(o:Option (List UInt8))(e:Ending)(w':World):Prop:=
 e = .returned (.tuple #[])∧Wst w' bw o∧Wfr bw w w'
theorem Wst.lt{w:World}{bw:Nat}{o:Option (List UInt8)}(h:Wst w bw o):bw<w.heap.size:=by
 cases o with
 | none=>obtain⟨⟨l,h⟩,_⟩:=h;exact h.lt
 | some l=>exact h.1.1.lt
theorem Bst.fill{w:World}{bw:Nat}{l:List UInt8}{full:Bool}(h:Bst w bw l full):Bst (w.setCell ⟨bw,2,none⟩ (.bool true)) bw l true:=by
 obtain⟨p,v,hk,hp,hown⟩:=h;exact⟨p,v,hk.set 2 _,hp,uck hown hk (by decide)⟩
def uyw(o:Option (List UInt8)):Bool:=o.isNone
theorem Wst.cell{w:World}{bw:Nat}{o:Option (List UInt8)}(h:Wst w bw o):w.cell? ⟨bw,2,none⟩=some (.bool (uyw o)):=by
 cases o with
 | none=>obtain⟨⟨l,p,v,hk,_⟩,_⟩:=h;exact hk.cell 2
 | some l=>obtain⟨⟨⟨p,v,hk,_⟩,_⟩,_⟩:=h;exact hk.cell 2
theorem Wst.short{w:World}{bw:Nat}{l:List UInt8}(h:Wst w bw (some l)):l.length≤262144:=h.1.2
theorem Gl.wfr{w w':World}{bw:Nat}(h:Gl w)(f:Wfr bw w w')(hb:GN≤bw):Gl w':=h.keep (fun k hk=>f.1.block k (by omega)) f.1.size
theorem Bst.below{w w':World}{bw:Nat}{l:List UInt8}{full:Bool}(h:Bst w bw l full)(hb:Below w.heap.size w w'):Bst w' bw l full:=by
 obtain⟨p,v,hk,hp,hown⟩:=h;exact⟨p,v,hk.below hb hk.lt,hp,hown.kept (row:=none) (World.grownBy.ofBelow hb none) (by cases v.ownBlock<;>simp)⟩
theorem Wst.below{w w':World}{bw:Nat}{o:Option (List UInt8)}(h:Wst w bw o)(hb:Below w.heap.size w w'):Wst w' bw o:=by
 cases o with
 | none=>obtain⟨⟨l,h⟩,h2,h3⟩:=h;exact⟨⟨l,h.below hb⟩,h2.below hb,h3⟩
 | some l=>obtain⟨⟨h,h1⟩,h2,h3⟩:=h;exact⟨⟨h.below hb,h1⟩,h2.below hb,h3⟩
theorem Wst.alloc{w:World}{bw:Nat}{o:Option (List UInt8)}(h:Wst w bw o)(x:Obj):Wst (w.alloc x) bw o:=h.below ((Below.refl _ _).alloc (Nat.le_refl _) x)
set_option maxHeartbeats 2000000 in
theorem uaf(w:World)(bw:Nat)(o:Option (List UInt8))(s:ByteArray)(h:Wst w bw o)(hs:s.size≤1000000000) :
 Calls Tryz.prog 142 #[.pointer (some ⟨bw,0,none⟩),.string s] w (ul4 bw w (put o s.data.toList)):=by
 have hlt:=h.lt;cases o with
 | none=>
  obtain⟨⟨l,h⟩,hgl,hgn⟩:=h;have HGL:=hid hgl;clear hgl;have c2:w.cell? ⟨bw,2,none⟩=some (.bool true):=by obtain⟨p,v,hk,_⟩:=h;exact hk.cell 2
  have f2:w.frozen? ⟨bw,2,none⟩=false:=by obtain⟨p,v,hk,_⟩:=h;exact hk.frozen 2
  have H:=hid h;clear h;go_enter Tryz.func142,Tryz.ntmps142
  go_wp2;go_end0
  exact⟨rfl,⟨⟨l,H.out.fill⟩,HGL.out.set hgn _ _,hgn⟩,(Wfr.refl _ _).setCell _ _⟩
 | some l=>
  obtain⟨⟨h,hl⟩,hgl,hgn⟩:=h;have HGL:=hid hgl;clear hgl;have c2:w.cell? ⟨bw,2,none⟩=some (.bool false):=by obtain⟨p,v,hk,_⟩:=h;exact hk.cell 2
  have f2:w.frozen? ⟨bw,2,none⟩=false:=by obtain⟨p,v,hk,_⟩:=h;exact hk.frozen 2
  have H:=hid h;have hsz:s.data.toList.length=s.size:=by simp
  have HS:=hid hsz;clear h hsz;by_cases hfit:l.length+s.size≤262144
  ·have hd:decide ((262144:Int)<(l.length:Int)+(s.size:Int))=false:=by simp;omega
   go_enter Tryz.func142,Tryz.ntmps142
   go_wp2_with fail
   refine(uoe _ bw l false H.out).mono ?_;rintro e w1⟨rfl,rfl⟩;go_wp2_with fail
   refine(ugv _ bw l false s H.out hfit).mono ?_;rintro e w1⟨rfl,hfr,hb⟩;go_wp2;go_end0
   refine⟨rfl,?_,hfr⟩;rw[ugf (by rw[HS.out];exact hfit)]
   exact⟨⟨hb,by rw[List.length_append,HS.out];exact hfit⟩,HGL.out.wfr hfr hgn,hgn⟩
  ·have hd:decide ((262144:Int)<(l.length:Int)+(s.size:Int))=true:=by simp;omega
   go_enter Tryz.func142,Tryz.ntmps142
   go_wp2_with fail
   refine(uoe _ bw l false H.out).mono ?_;rintro e w1⟨rfl,rfl⟩;go_wp2;go_end0
   refine⟨rfl,?_,(Wfr.refl _ _).setCell _ _⟩;rw[ue8 (by rw[HS.out];exact hfit)]
   exact⟨⟨l,H.out.fill⟩,HGL.out.set hgn _ _,hgn⟩
theorem uvd:liesAt Tryz.prog Tryz.prog.depth 95 (2/Tryz.prog.cellsOf 95) 0 95 1=true:=by kernel_rfl
def Dst(w:World)(bw:Nat)(l:List UInt8):Prop:=
 ∃p v,Bk w bw 95 #[p,v]∧(p = .pointer none∨p = .pointer (some ⟨bw,0,none⟩))∧w.ownsRow (bw+1) 5 1 v l.length (Lib.byteCells l)
theorem Dst.lt{w:World}{bw:Nat}{l:List UInt8}(h:Dst w bw l):bw<w.heap.size:=by
 obtain⟨p,v,h1,_⟩:=h;exact h1.lt
theorem Dst.below{w w':World}{bw:Nat}{l:List UInt8}(h:Dst w bw l)(hb:Below w.heap.size w w'):Dst w' bw l:=by
 obtain⟨p,v,hk,hp,hown⟩:=h;exact⟨p,v,hk.below hb hk.lt,hp,hown.kept (row:=none) (World.grownBy.ofBelow hb none) (by cases v.ownBlock<;>simp)⟩
set_option maxHeartbeats 1000000 in
set_option maxRecDepth 100000 in
theorem ush(w:World)(bw:Nat)(l:List UInt8)(h:Dst w bw l) :
 Calls Tryz.prog 284 #[.pointer (some ⟨bw,0,none⟩)] w fun e w'=>e = .returned (.tuple #[])∧Wfr bw w w'∧∃v,Bk w' bw 95 #[.pointer (some ⟨bw,0,none⟩),v]∧w'.ownsRow (bw+1) 5 1 v l.length (Lib.byteCells l):=by
 obtain⟨p,v,hk,hp,hown⟩:=h;obtain⟨j,hj,hjs⟩:=Option.map_eq_some_iff.1 uod;have c0:=hk.cell 0;have f0:=hk.frozen 0;have hsh:w.shape? bw=some (95,2):=by unfold Bk at hk;simp[World.shape?,hk]
 simp only[gq]at c0;rcases hp with rfl|rfl
 ·have HK:=hid hk
  have HO:=hid hown;clear hk hown;go_enter Tryz.func284,Tryz.ntmps284
  go_wp2;rw[Lib.run_to_unsafe w ⟨bw,0,none⟩ Tryz.underlying93 Tryz.underlying298 hj (by rw[hjs];decide) hsh (Nat.zero_lt_succ 1)]
  simp only[Result.andThen];rw[Oper.upon_value];go_wp2;rw[run_callFunc_extern Tryz.func329 (by kernel_rfl) (by kernel_rfl) (by kernel_rfl) (e:=Extern.AbiNoEscape.same) (by kernel_rfl)]
  rw[Lib.run_noEscape];simp only[Result.andThen];rw[Oper.upon_value];go_wp2;rw[Lib.run_from_unsafe w ⟨bw,0,none⟩ Tryz.underlying298 Tryz.underlying93 hj hsh uvd];simp only[Result.andThen];rw[Oper.upon_value];go_wp2;go_end0
  exact⟨rfl,(Wfr.refl _ _).setCell _ _,v,HK.out.set 0 _,uck HO.out HK.out (by decide)⟩
 ·have HK:=hid hk
  have HO:=hid hown;clear hk hown;go_enter Tryz.func284,Tryz.ntmps284
  go_wp2;rw[Lib.run_neq_ptr_same w _ Tryz.underlying93 hj];go_wp2;go_end0
  exact⟨rfl,Wfr.refl _ _,v,HK.out,HO.out⟩
set_option maxHeartbeats 1000000 in
theorem ufu(w:World)(bw:Nat)(l:List UInt8)(s:ByteArray)(h:Dst w bw l)(hlen:l.length+s.size≤262144) :
 Calls Tryz.prog 222 #[.pointer (some ⟨bw,0,none⟩),.string s] w fun e w'=>e = .returned (.tuple #[.int .i64 s.size,.nilIface])∧Wfr bw w w'∧Dst w' bw (l++s.data.toList):=by
 obtain⟨i0,hi,hz0,hz1,hz2⟩:=info_parts usg;have hlt:=h.lt;have H:=hid h;clear h;go_enter Tryz.func222,Tryz.ntmps222
 go_wp2_with fail
 refine(ush _ bw l H.out).mono ?_;rintro e w1⟨rfl,hfr,v,hk,hown⟩;have c1:=hk.cell 1;simp only[gq]at c1;have hw1:=hk.lt;have HF:=hid hfr;have HK:=hid hk;clear hfr hk;go_wp2_with (at_builtin;refine Lib.wpList_append_own_string _ rfl _ _ 44 9 rfl (bw+1) 5 i0 Tryz.underlying44 Tryz.underlying9 hi hz0 hz1 hz2 _ _ _ rfl hown s rfl ?c3 ?c4 ?c5 ?_)
 case c3=>unfold maxLen;omega
 case c4=>omega
 case c5=>omega
 intro v' w2 hown' hgrow _;have hk2:Bk w2 bw 95 #[.pointer (some ⟨bw,0,none⟩),v]:=(hgrow.block bw hw1 (fun e=>Lib.ownBlock_ne hown HK.out (by decide) e.symm)).trans HK.out
 have d1:=hk2.cell 1;simp only[gq]at d1;have f1:=hk2.frozen 1;obtain⟨ao,cap,rfl⟩:=ui4 hown';have HK2:=hid hk2;have HO:=hid hown';have HG:=hid (HF.out.grown (by omega) hown hgrow)
 clear hk2 hown' hgrow hown c1;go_wp2;go_ret2
 refine⟨rfl,HG.out.setCell _ _,_,_,HK2.out.set 1 _,.inr rfl,?_⟩;have h3:=uck (i:=1) (u:= .slice ao (l.length+s.size) cap) HO.out HK2.out (by decide)
 rw[Lib.strCells_eq,←Lib.byteCells_append]at h3;have h4:(l++s.data.toList).length=l.length+s.size:=by simp
 rw[h4];exact h3
set_option maxHeartbeats 1000000 in
set_option maxRecDepth 100000 in
theorem ul5(w:World)(bw:Nat)(l:List UInt8)(h:Dst w bw l)(h0:l≠[])(hl:l.length≤262144) :
 Calls Tryz.prog 30 #[.pointer (some ⟨bw,0,none⟩)] w fun e w'=>e = .returned (.string ⟨l.toArray⟩)∧Below bw w w':=by
 obtain⟨p,v,hk,hp,hown⟩:=h;have hl0:l.length≠0:=by simpa using h0
 obtain⟨g,cap,cur,rfl,hbg,hg,hnc,hcm,hcs,htake⟩:∃g cap cur,v = .slice (some ⟨g,0,none⟩) l.length cap∧bw+1≤g∧w.heap[g]? = some (.cells cur 5 (0,0))∧l.length≤cap∧cap≤maxLen∧cur.size=cap*1∧cur.toList.take (l.length*1)=Lib.byteCells l:=by
  rcases hown.2 with⟨_,hz⟩|⟨g,cap,cur,hv,r⟩
  ·exact absurd hz hl0
  ·exact⟨g,cap,cur,hv,r⟩
 have c1:=hk.drew.cell 1;simp only[gq]at c1;have hSD:(Builtin.unsafeSliceData_ #[44] 164 #[.slice (some ⟨g,0,none⟩) l.length cap]).run Tryz.prog w.drew = .ok (.pointer (some ⟨g,0,none⟩)) w.drew:=
  Lib.run_unsafeSliceData_row _ _ _ _ _ _ (by omega)
 have hUS:(Builtin.unsafeString_ #[164,3] 9 #[.pointer (some ⟨g,0,none⟩),.int .i64 l.length]).run Tryz.prog w.drew = .ok (.string ⟨l.toArray⟩) (w.drew.freeze ⟨g,0,none⟩ l.length):=by
  refine Lib.run_unsafeString_row w.drew 164 3 9 5 Tryz.underlying164 uof g cur.size (by have hg':w.drew.heap[g]? = some (.cells cur 5 (0,0)):=hg;simp[World.shape?,hg']) l h0 (by omega) (by omega) ?_
  intro j x hx;have:=hown.cells (g:=g) rfl j (.int .u8 x.toNat) (by simp[Lib.byteCells,hx])
  exact this
 clear hk hown hg htake hp;go_enter Tryz.func30,Tryz.ntmps30
 go_wp2;go_region
 all_goals (go_wp2;go_ret;exact⟨rfl,Lib.below_freeze (Below.drew (Below.refl bw w)) (p:=⟨g,0,none⟩) (Nat.le_of_succ_le hbg) _⟩)
def uk(g:FuncId)(s:Shape):Prop:=
 ∀(w:World) (bw:Nat) (o:Option (List UInt8)) (v:List Value) (t:List UInt8),Wst w bw o→Rep w (· < bw) s v [t]→Calls Tryz.prog g #[.pointer (some ⟨bw,0,none⟩),uas s v] w (ul4 bw w (put o t))
def ElW(g:FuncId)(fi ca:Array Value)(s:Shape)(bw:Nat)(w:World):Prop:=
 Enters Tryz.prog g∧∀(W:World) (o:Option (List UInt8)) (v:List Value) (t:List UInt8),Wfr bw w W→Wst W bw o→Rep W (· < bw) s v [t]→Calls Tryz.prog g (fi ++ #[uas s v]++ca) W (ul4 bw W (put o t))
theorem ElW.meth{g:FuncId}{s:Shape}(he:Enters Tryz.prog g)(h:uk g s)(bw:Nat)(w:World):ElW g #[.pointer (some ⟨bw,0,none⟩)] #[] s bw w:=
 ⟨he,fun W o v t _ hw hr=>by simpa using h W bw o v t hw hr⟩
theorem Rep.wfr{w w':World}{bw:Nat}{s:Shape}{v:List Value}{ts:List (List UInt8)}(h:Rep w (· < bw) s v ts)(f:Wfr bw w w'):Rep w' (· < bw) s v ts:=
 Rep.keep (fun b hb _=>⟨f.1.block b hb,hb⟩) h
theorem Rep.allocW{w:World}{D:Nat→Prop}{s:Shape}{v:List Value}{ts:List (List UInt8)}(h:Rep w D s v ts)(x:Obj):Rep (w.alloc x) D s v ts:=h.below ((Below.refl _ _).alloc (Nat.le_refl _) x)
theorem Reps.allocW{w:World}{D:Nat→Prop}{ss:List Shape}{vs:List (List Value)}{ts:Nat→List UInt8}{n:Nat}(h:Reps w D ss vs ts n)(x:Obj):Reps (w.alloc x) D ss vs ts n:=fun i s v hi e1 e2=>(h i s v hi e1 e2).allocW x
theorem Wfr.allocs{bw:Nat}{a b:World}(h:Wfr bw a b)(hb:bw<b.heap.size)(o:Obj):Wfr bw a (b.alloc o):=h.alloc (by omega) o
def LInv(o:Option (List UInt8))(tx:Nat→List UInt8)(bw:Nat)(w:World)(k:Nat)(wr:World):Prop:=Wst wr bw (listed o tx k)∧Wfr bw w wr
section
variable {o:Option (List UInt8)} {tx:Nat→List UInt8} {bw k n:Nat} {w wr w1 w2 w3:World}
theorem LInv.start(h:Wst w1 bw (put o [40]))(f:Wfr bw w w1):LInv o tx bw w 0 w1:=⟨h,f⟩
theorem LInv.full(h:LInv o tx bw w k wr)(hk:k≤n)(hf:listed o tx k=none)(f:Wfr bw wr w1)(h1:Wst w1 bw none):ul4 bw w (put o (par tx n)) (.returned (.tuple #[])) w1:=by
 refine⟨rfl,?_,h.2.trans f⟩;rw[ull o tx hk hf];exact h1
theorem LInv.first(h:LInv o tx bw w 0 wr)(f:Wfr bw wr w1)(h1:Wst w1 bw (put (listed o tx 0) (tx 0))):LInv o tx bw w 1 w1:=by
 rw[uf3]at h1;exact⟨h1,h.2.trans f⟩
theorem LInv.next(h:LInv o tx bw w k wr)(hk:0<k)(f:Wfr bw wr w1)(h1:Wst w1 bw (put (put (listed o tx k) [32]) (tx k))):LInv o tx bw w (k+1) w1:=by
 rw[ugl _ _ hk]at h1;exact⟨h1,h.2.trans f⟩
theorem LInv.last(h:LInv o tx bw w k wr)(f:Wfr bw wr w1)(h1:Wst w1 bw (put (listed o tx k) [41])):ul4 bw w (put o (par tx k)) (.returned (.tuple #[])) w1:=by
 rw[uh6]at h1;exact⟨rfl,h1,h.2.trans f⟩
end
def uQ(k:FuncId)(s:Shape)(T:TypeId)(off:Nat):Prop:=
 Enters Tryz.prog k∧∀(w:World) (bw bv bt:Nat) (o:Option (List UInt8)) (cs:Array Value) (v:List Value) (t:List UInt8),Wst w bw o→Bk w bv 92 #[.pointer (some ⟨bw,0,none⟩)]→Bk w bt T cs→bv≠bw→bt≠bw →
  (∀j x,v[j]? = some x→cs[off+j]? = some x)→Rep w (· < bw) s v [t]→Calls Tryz.prog k #[.pointer (some ⟨bv,0,none⟩),.pointer (some ⟨bt,0,none⟩)] w (ul4 bw w (put o t))
theorem Tys.flat_at:∀ {ss:List Shape} {vs:List (List Value)},Tys ss vs→∀ {i:Nat} {v:List Value},vs[i]? = some v→∀j x,v[j]? = some x→vs.flatten[uq ss i+j]? = some x
 | s::l,_,⟨u,r,rfl,h1,h2⟩,0,v,e,j,x,hx=>by
  simp at e;subst e;have hj:=(List.getElem?_eq_some_iff.1 hx).1;simp only[uq,List.take_zero,List.map_nil,List.sum_nil,Nat.zero_add,List.flatten_cons];rw[List.getElem?_append_left hj];exact hx
 | s::l,_,⟨u,r,rfl,h1,h2⟩,i+1,v,e,j,x,hx=>by
  have:=Tys.flat_at h2 (by simpa using e) j x hx
  have hu:=h1.len;have ho:uq (s::l) (i+1)=s.sz+uq l i:=by simp[uq]
  rw[ho,List.flatten_cons,List.getElem?_append_right (by omega),hu,show s.sz+uq l i+j-s.sz=uq l i+j by omega]
  exact this
 | [],_,h,i,v,e,_,_,_=>by cases h;simp at e
set_option maxHeartbeats 1000000 in
theorem uhb(w:World)(g:FuncId)(bv bt bw:Nat)(o:Option (List UInt8))(t:List UInt8)(he:Enters Tryz.prog g)(h:Calls Tryz.prog g #[.pointer (some ⟨bv,0,none⟩),.pointer (some ⟨bt,0,none⟩)] w (ul4 bw w (put o t))) :
 Calls Tryz.prog 141 #[.func (.func g) #[] #[.pointer (some ⟨bv,0,none⟩),.pointer (some ⟨bt,0,none⟩)]] w (ul4 bw w (put o t)):=by
 unfold Enters at he;have H:=hid h;clear h;go_enter Tryz.func141,Tryz.ntmps141
 go_wp2_with fail
 refine H.out.mono ?_;rintro e w1⟨rfl,hp⟩;go_wp2;go_end0
 exact⟨rfl,hp⟩
set_option maxHeartbeats 2000000 in
theorem uth(ss:List Shape)(ks:List FuncId)(T:TypeId)(hT:T≠5)(hl:ks.length=ss.length)(hn:ss.length≤100)(hclo:∀i k s,ks[i]? = some k→ss[i]? = some s→uQ k s T (uq ss i))
 (w:World) (bw bv bt bl:Nat) (o:Option (List UInt8)) (vs:List (List Value)) (ts:Nat→List UInt8) (h:Wst w bw o) (h0:0<ss.length)
 (hv:Bk w bv 92 #[.pointer (some ⟨bw,0,none⟩)]) (ht:Bk w bt T vs.flatten.toArray) (hvs:Tys ss vs) (hrep:Reps w (· < bw) ss vs ts ss.length) (hbl:Bk w bl 1 (uxq ks bv bt)) (d1:bt≠bw) (d2:bv≠bw) (d4:bl≠bw) :
 Calls Tryz.prog 140 #[.pointer (some ⟨bw,0,none⟩),.slice (some ⟨bl,0,none⟩) ss.length ss.length,.func (.func 141) #[] #[]] w (ul4 bw w (put o (par ts ss.length))):=by
 have HW:=hid h;have hbw:=h.lt;have HV:=hid hv;have HT:=hid ht;have HB:=hid hbl;have HS:=hid hvs;have HK:=hid hl;have HC:=hid hclo;have HR:=hid hrep;clear h hv ht hbl hvs hl hclo hrep;obtain⟨n,hN⟩:∃n,ss.length=n:=⟨_,rfl⟩;rw[hN]at h0 hn ⊢;have HN:=hid hN;clear hN;go_enter Tryz.func140,Tryz.ntmps140
 go_wp2_with fail
 refine(uaf _ bw o ⟨#[40]⟩ HW.out (by decide)).mono ?_
 rintro e w1⟨rfl,hr1,hf1⟩;have I0:=hid (LInv.start (tx:=ts) hr1 hf1);clear hr1 hf1;go_wp2;go_loopw [12] (fun iv wr=>∃(k:Nat),k≤n∧iv = .int .i64 k∧Hid (LInv o ts bw w k wr)) (fun iv _=>n-(intOf iv).toNat)
 case atStart=>exact⟨0,by omega,rfl,I0⟩
 case round=>
  obtain⟨k,hk,rfl,hI⟩:=hrel;clear I0;have c2:=hI.out.1.cell;by_cases hlt:k<n
  ·have hks:k<ss.length:=by rw[HN.out];exact hlt
   obtain⟨s,hs⟩:∃s,ss[k]? = some s:=⟨_,List.getElem?_eq_getElem hks⟩;obtain⟨g,hg⟩:∃g,ks[k]? = some g:=⟨_,List.getElem?_eq_getElem (by rw[HK.out];exact hks)⟩
   obtain⟨v,hv⟩:∃v,vs[k]? = some v:=⟨_,List.getElem?_eq_getElem (by rw[HS.out.len];exact hks)⟩
   obtain⟨he,hclo⟩:=HC.out k g s hg hs;have hrk:=HR.out k s v hks hs hv;have hcs:=HS.out.flat_at hv;have hbl':Bk wr bl 1 (uxq ks bv bt):=hI.out.2.2 _ _ _ d4 (by decide) HB.out
   have hbv':=hI.out.2.2 _ _ _ d2 (by decide) HV.out
   have hbt':=hI.out.2.2 _ _ _ d1 hT HT.out;have cb:=hbl'.cell k;rw[ulw hg]at cb;have HE:=hid he;have HCL:=hid hclo;have HBV:=hid hbv';have HBT:=hid hbt';have HRK:=hid (hrk.wfr hI.out.2);have HCS:=hid hcs;clear he hclo hbv' hbt' hrk hcs hbl' hs hg hv;cases hf:listed o ts k with
   | none=>
    rw[hf]at c2;have HF:=hid hf;clear hf;go_wp2;go_end0
    exact hI.out.full (n:=n) (by omega) HF.out (Wfr.refl _ _) (by have:=hI.out.1;rw[HF.out]at this;exact this)
   | some l=>
    rw[hf]at c2;have HF:=hid hf;clear hf;by_cases hk0:k=0
    ·subst hk0
     go_wp2_with fail
     refine(uhb _ g bv bt bw _ (ts 0) HE.out (HCL.out _ bw bv bt _ _ v (ts 0) hI.out.1 HBV.out HBT.out d2 d1 (fun j x hx=>by rw[List.getElem?_toArray];exact HCS.out j x hx) HRK.out)).mono ?_
     rintro e w2⟨rfl,hw2,hf2⟩;have HI2:=hid (hI.out.first hf2 hw2);clear hw2 hf2;go_wp2;go_roundw
     case rel=>exact⟨1,by omega,by go_num,HI2⟩
     case measure=>simp[intOf];omega
    ·have hkp:decide (0<(k:Int))=true:=by simp;omega
     go_wp2_with fail
     refine(uaf _ bw (listed o ts k) ⟨#[32]⟩ hI.out.1 (by decide)).mono ?_
     rintro e w2⟨rfl,hw2,hf2⟩;have HW2:=hid hw2;have HF2:=hid hf2;clear hw2 hf2;go_wp2_with fail
     refine(uhb _ g bv bt bw _ (ts k) HE.out (HCL.out _ bw bv bt _ _ v (ts k) HW2.out (HF2.out.2 _ _ _ d2 (by decide) HBV.out) (HF2.out.2 _ _ _ d1 hT HBT.out) d2 d1 (fun j x hx=>by rw[List.getElem?_toArray];exact HCS.out j x hx) (HRK.out.wfr HF2.out))).mono ?_
     rintro e w3⟨rfl,hw3,hf3⟩;have HI2:=hid (hI.out.next (by omega) (HF2.out.trans hf3) hw3)
     clear hw3 hf3;go_wp2;go_roundw
     case rel=>exact⟨k+1,by omega,by go_num,HI2⟩
     case measure=>simp[intOf];omega
  ·obtain rfl:k=n:=by omega
   go_wp2_with fail
   refine(uaf _ bw (listed o ts k) ⟨#[41]⟩ hI.out.1 (by decide)).mono ?_
   rintro e w2⟨rfl,hr2,hf2⟩;go_wp2;go_end0
   exact hI.out.last hf2 hr2
set_option maxHeartbeats 1000000 in
theorem uL(ss:List Shape)(ks:List FuncId)(T:TypeId)(hT:T≠5)(hl:ks.length=ss.length)(hn:ss.length≤100)(hclo:∀i k s,ks[i]? = some k→ss[i]? = some s→uQ k s T (uq ss i))
 (w:World) (bw bv bt bl:Nat) (o:Option (List UInt8)) (vs:List (List Value)) (ts:Nat→List UInt8) (h:Wst w bw o) (h0:0<ss.length)
 (hv:Bk w bv 92 #[.pointer (some ⟨bw,0,none⟩)]) (ht:Bk w bt T vs.flatten.toArray) (hvs:Tys ss vs) (hrep:Reps w (· < bw) ss vs ts ss.length) (hbl:Bk w bl 1 (uxq ks bv bt)) (d1:bt≠bw) (d2:bv≠bw) (d4:bl≠bw) :
 Calls Tryz.prog 71 #[.pointer (some ⟨bw,0,none⟩),.slice (some ⟨bl,0,none⟩) ss.length ss.length] w (ul4 bw w (put o (par ts ss.length))):=by
 have H:=hid (uth ss ks T hT hl hn hclo w bw bv bt bl o vs ts h h0 hv ht hvs hrep hbl d1 d2 d4);clear h hv ht hbl hvs hl hclo hrep;go_enter Tryz.func71,Tryz.ntmps71
 go_wp2_with fail
 refine H.out.mono ?_;rintro e w1⟨rfl,hp⟩;go_wp2;go_end0
 exact⟨rfl,hp⟩
end Go.Proofs.YtellcholbkoakaaGreatDoor
