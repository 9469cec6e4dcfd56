/-
 Both readers leave certificates with the same text: SameCert;the law CodecParses.
-/
import Derived.Test.YtellcholbkoakaaGreatDoorHVm
import Derived.Test.YtellcholbkoakaaGreatDoorHTg
import Derived.Test.YtellcholbkoakaaGreatDoorHTh
import Derived.Test.YtellcholbkoakaaGreatDoorHCAs
import Derived.Test.YtellcholbkoakaaGreatDoorHCRep
namespace Go.Proofs.YtellcholbkoakaaGreatDoor
open Go.Lib (hid)
open Go.RowKit AC
set_option linter.unusedVariables false
set_option linter.unusedSimpArgs false
def uut(l:List UInt8):List UInt8:=if 262144<l.length then uby [40,41]else if rd (ubb NN) 0 (some l)=some []then l else uby [40,41]
def uzx(l:List UInt8):Int:=if 262144<l.length then 9 else if rd (ubb NN) 0 (some l)=some []then 0 else 2
theorem ujt(l:List UInt8):(uut l).length≤MX:=by
 have h:(uby [40,41]).length=31:=rfl;unfold uut MX;split
 ·omega
 ·split<;>omega
theorem CPPost.key{l:List UInt8}{w w':World}{e:Ending}(h:CPPost l w e w'):∃v,e = .returned (.tuple #[.agg v.toArray,.int .i64 (uzx l)])∧Rep w' (fun _=>True) (ubb NN) v [uut l]∧Below w.heap.size w w':=by
 have hz:Rep w' (fun _=>True) (ubb NN) uf2 [uby [40,41]]:=uo7 _ _ NN _ _ (udp _ _ _)
 unfold uut uzx;rcases h with⟨h1,rfl,hb⟩|⟨h1,h2,rfl,hb⟩|⟨h1,h2,v,rfl,hr,hb⟩
 ·rw[if_pos h1,if_pos h1];exact⟨uf2,rfl,hz,hb⟩
 ·rw[if_neg (by omega),if_neg h2,if_neg (by omega),if_neg h2];exact⟨uf2,rfl,hz,hb⟩
 ·rw[if_neg (by omega),if_pos h2,if_neg (by omega),if_pos h2];exact⟨v,rfl,hr.sub fun _ _ _=>trivial,hb⟩
theorem ulj(n:Nat)(w:World)(D:Nat→Prop)(v:List Value)(t:List UInt8)(a0:Rep w D (ubb n) v [t])(hl:t.length≤MX):Calls Tryz.prog 21 #[.agg v.toArray] w (CFPost t w):=uuo n (uzv n) w D v t a0 hl
set_option maxHeartbeats 8000000 in
set_option maxRecDepth 100000 in
theorem uec(w:World)(D D':Nat→Prop)(v v':List Value)(t:List UInt8)(h:Rep w D (ubb NN) v [t])(h':Rep w D' (ubb NN) v' [t])(hl:t.length≤MX) :
 Calls Tryz.prog 8 #[.agg v.toArray,.agg v'.toArray] w (ujs w):=by
 obtain⟨c5,c6,c8,c7,c9,d1,d0,d2,d4,d3,d5,d7,d6,d8,e0,d9,e1,e3,e2,e4,e6,e5,e7,e9,e8,rfl⟩:=ud1 h.ty;obtain⟨a0,a1,a3,a2,a4,a6,a5,a7,a9,a8,b0,b2,b1,b3,b5,b4,b6,b8,b7,b9,c1,c0,c2,c4,c3,rfl⟩:=ud1 h'.ty;have HR:=hid h;have f7:=hid h';have HL:=hid hl;clear h h' hl;show Calls Tryz.prog 8 #[.agg #[.bool c5,.slice c6 c8 c7,.slice c9 d1 d0,.slice d2 d4 d3,.slice d5 d7 d6,.slice d8 e0 d9,.slice e1 e3 e2,.slice e4 e6 e5,.slice e7 e9 e8],.agg #[.bool a0,.slice a1 a3 a2,.slice a4 a6 a5,.slice a7 a9 a8,.slice b0 b2 b1,.slice b3 b5 b4,.slice b6 b8 b7,.slice b9 c1 c0,.slice c2 c4 c3]] w _
 go_enter Tryz.func8,Tryz.ntmps8
 go_upto_region 1 with(fail)
 obtain⟨C,hC⟩:∃C,C=(w.alloc (.cells #[.bool c5,.slice c6 c8 c7,.slice c9 d1 d0,.slice d2 d4 d3,.slice d5 d7 d6,.slice d8 e0 d9,.slice e1 e3 e2,.slice e4 e6 e5,.slice e7 e9 e8] 34)).alloc (.cells #[.bool a0,.slice a1 a3 a2,.slice a4 a6 a5,.slice a7 a9 a8,.slice b0 b2 b1,.slice b3 b5 b4,.slice b6 b8 b7,.slice b9 c1 c0,.slice c2 c4 c3] 34):=⟨_,rfl⟩;have f0:Hid (Below w.heap.size w C):=by rw[hC];exact uur _ _ _
 have HX:Hid (Bk C w.heap.size 34 #[.bool c5,.slice c6 c8 c7,.slice c9 d1 d0,.slice d2 d4 d3,.slice d5 d7 d6,.slice d8 e0 d9,.slice e1 e3 e2,.slice e4 e6 e5,.slice e7 e9 e8]):=by rw[hC];exact(Bk.new _ _ _).alloc _
 have HY:Hid (Bk C (w.heap.size+1) 34 #[.bool a0,.slice a1 a3 a2,.slice a4 a6 a5,.slice a7 a9 a8,.slice b0 b2 b1,.slice b3 b5 b4,.slice b6 b8 b7,.slice b9 c1 c0,.slice c2 c4 c3]):=by rw[hC];exact Bk.two _ _ _ _
 obtain⟨f9,_,_⟩:=HX.out.facts;rw[←hC];clear hC;obtain⟨X,hX⟩:∃X:ByteArray,(⟨(if t.length≤262144 then t else []).toArray⟩:ByteArray)=X:=⟨_,rfl⟩
 obtain⟨Y,hY⟩:∃Y:Int,(if t.length≤262144 then(0:Int)else 9)=Y:=⟨_,rfl⟩
 have f3:=hid hX;have f4:=hid hY;clear hX hY;go_wp2_with fail
 refine(show Calls _ _ #[.agg #[.bool c5,.slice c6 c8 c7,.slice c9 d1 d0,.slice d2 d4 d3,.slice d5 d7 d6,.slice d8 e0 d9,.slice e1 e3 e2,.slice e4 e6 e5,.slice e7 e9 e8]] _ _ from ulj NN _ D [.bool c5,.slice c6 c8 c7,.slice c9 d1 d0,.slice d2 d4 d3,.slice d5 d7 d6,.slice d8 e0 d9,.slice e1 e3 e2,.slice e4 e6 e5,.slice e7 e9 e8] t (HR.out.below f0.out) HL.out).mono ?_
 rintro e w2⟨rfl,f2⟩;rw[f3.out,f4.out];have f1:=hid (f0.out.trans (f2.mono f0.out.size));have f8:=hid (HY.out.below f2 HY.out.lt);obtain⟨g0,_,_⟩:=f8.out.facts;clear f2 f9;go_wp2_with fail
 refine(show Calls _ _ #[.agg #[.bool a0,.slice a1 a3 a2,.slice a4 a6 a5,.slice a7 a9 a8,.slice b0 b2 b1,.slice b3 b5 b4,.slice b6 b8 b7,.slice b9 c1 c0,.slice c2 c4 c3]] _ _ from ulj NN _ D' [.bool a0,.slice a1 a3 a2,.slice a4 a6 a5,.slice a7 a9 a8,.slice b0 b2 b1,.slice b3 b5 b4,.slice b6 b8 b7,.slice b9 c1 c0,.slice c2 c4 c3] t (f7.out.below f1.out) HL.out).mono ?_
 rintro e w3⟨rfl,f5⟩;rw[f3.out,f4.out];have f6:=hid (f1.out.trans (f5.mono f1.out.size));clear f5 g0;go_wp2;go_ret
 exact⟨rfl,f6.out⟩
end Go.Proofs.YtellcholbkoakaaGreatDoor
