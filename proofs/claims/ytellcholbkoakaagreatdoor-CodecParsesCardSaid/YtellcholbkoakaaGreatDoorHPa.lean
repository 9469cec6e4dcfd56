/-
 Both readers leave certificates with the same text: SameCert;the law CodecParses.
-/
import Derived.Test.YtellcholbkoakaaGreatDoorHVm
import Derived.Test.YtellcholbkoakaaGreatDoorHTg
import Derived.Test.YtellcholbkoakaaGreatDoorHTh
import Derived.Test.YtellcholbkoakaaGreatDoorHW0
import Derived.Test.YtellcholbkoakaaGreatDoorCards
import Derived.Test.YtellcholbkoakaaGreatDoorTie
import Derived.Test.YtellcholbkoakaaGreatDoorHFm
import Derived.SevenTiedAt
import Derived.ChangeMaps5
import Derived.ChangeOld
import Derived.ShutString
import Derived.Below
import Derived.Carry
import Derived.Test.YtellcholbkoakaaGreatDoorHParsesE
namespace Go.Proofs.YtellcholbkoakaaGreatDoor
open Go.Lib (hid)
open Go.RowKit AC
set_option linter.unusedVariables false
set_option linter.unusedSimpArgs false
def keyT(l:List UInt8):List UInt8:=if 262144<l.length then certTxt [40,41]else if rd (certS NN) 0 (some l)=some []then l else certTxt [40,41]
def keyC(l:List UInt8):Int:=if 262144<l.length then 9 else if rd (certS NN) 0 (some l)=some []then 0 else 2
theorem keyT_len(l:List UInt8):(keyT l).length≤MX:=by
 have h:(certTxt [40,41]).length=31:=rfl;unfold keyT MX;split
 ·omega
 ·split<;>omega
theorem CPPost.key{l:List UInt8}{w w':World}{e:Ending}(h:CPPost l w e w'):∃v,e = .returned (.tuple #[.agg v.toArray,.int .i64 (keyC l)])∧Rep w' (fun _=>True) (certS NN) v [keyT l]∧Below w.heap.size w w':=by
 have hz:Rep w' (fun _=>True) (certS NN) zcert [certTxt [40,41]]:=rep_cert _ _ NN _ _ (rep_nil _ _ _)
 unfold keyT keyC;rcases h with⟨h1,rfl,hb⟩|⟨h1,h2,rfl,hb⟩|⟨h1,h2,v,rfl,hr,hb⟩
 ·rw[if_pos h1,if_pos h1];exact⟨zcert,rfl,hz,hb⟩
 ·rw[if_neg (by omega),if_neg h2,if_neg (by omega),if_neg h2];exact⟨zcert,rfl,hz,hb⟩
 ·rw[if_neg (by omega),if_pos h2,if_neg (by omega),if_pos h2];exact⟨v,rfl,hr.sub fun _ _ _=>trivial,hb⟩
theorem t_FormatS(n:Nat)(w:World)(D:Nat→Prop)(v:List Value)(t:List UInt8)(hrep:Rep w D (certS n) v [t])(hl:t.length≤MX):Calls Tryz.prog 21 #[.agg v.toArray] w (CFPost t w):=t_FormatH n (t_node n) w D v t hrep hl
set_option maxHeartbeats 8000000 in
set_option maxRecDepth 100000 in
theorem sameCert_any(w:World)(D D':Nat→Prop)(v v':List Value)(t:List UInt8)(h:Rep w D (certS NN) v [t])(h':Rep w D' (certS NN) v' [t])(hl:t.length≤MX) :
 Calls Tryz.prog 8 #[.agg v.toArray,.agg v'.toArray] w (YesPost w):=by
 obtain⟨z0b,z1A,z1k,z1c,z2A,z2k,z2c,z3A,z3k,z3c,z4A,z4k,z4c,z5A,z5k,z5c,z6A,z6k,z6c,z7A,z7k,z7c,z8A,z8k,z8c,rfl⟩:=ty_cert h.ty;obtain⟨y0b,y1A,y1k,y1c,y2A,y2k,y2c,y3A,y3k,y3c,y4A,y4k,y4c,y5A,y5k,y5c,y6A,y6k,y6c,y7A,y7k,y7c,y8A,y8k,y8c,rfl⟩:=ty_cert h'.ty;have HR:=hid h;have HR':=hid h';have HL:=hid hl;clear h h' hl;show Calls Tryz.prog 8 #[.agg #[.bool z0b,.slice z1A z1k z1c,.slice z2A z2k z2c,.slice z3A z3k z3c,.slice z4A z4k z4c,.slice z5A z5k z5c,.slice z6A z6k z6c,.slice z7A z7k z7c,.slice z8A z8k z8c],.agg #[.bool y0b,.slice y1A y1k y1c,.slice y2A y2k y2c,.slice y3A y3k y3c,.slice y4A y4k y4c,.slice y5A y5k y5c,.slice y6A y6k y6c,.slice y7A y7k y7c,.slice y8A y8k y8c]] w _
 go_enter Tryz.func8,Tryz.ntmps8
 go_upto_region 1 with(fail)
 obtain⟨C,hC⟩:∃C,C=(w.alloc (.cells #[.bool z0b,.slice z1A z1k z1c,.slice z2A z2k z2c,.slice z3A z3k z3c,.slice z4A z4k z4c,.slice z5A z5k z5c,.slice z6A z6k z6c,.slice z7A z7k z7c,.slice z8A z8k z8c] 34)).alloc (.cells #[.bool y0b,.slice y1A y1k y1c,.slice y2A y2k y2c,.slice y3A y3k y3c,.slice y4A y4k y4c,.slice y5A y5k y5c,.slice y6A y6k y6c,.slice y7A y7k y7c,.slice y8A y8k y8c] 34):=⟨_,rfl⟩;have HB0:Hid (Below w.heap.size w C):=by rw[hC];exact bel2 _ _ _
 have HX:Hid (Bk C w.heap.size 34 #[.bool z0b,.slice z1A z1k z1c,.slice z2A z2k z2c,.slice z3A z3k z3c,.slice z4A z4k z4c,.slice z5A z5k z5c,.slice z6A z6k z6c,.slice z7A z7k z7c,.slice z8A z8k z8c]):=by rw[hC];exact(Bk.new _ _ _).alloc _
 have HY:Hid (Bk C (w.heap.size+1) 34 #[.bool y0b,.slice y1A y1k y1c,.slice y2A y2k y2c,.slice y3A y3k y3c,.slice y4A y4k y4c,.slice y5A y5k y5c,.slice y6A y6k y6c,.slice y7A y7k y7c,.slice y8A y8k y8c]):=by rw[hC];exact Bk.two _ _ _ _
 obtain⟨hcx,_,_⟩:=HX.out.facts;rw[←hC];clear hC;obtain⟨X,hX⟩:∃X:ByteArray,(⟨(if t.length≤262144 then t else []).toArray⟩:ByteArray)=X:=⟨_,rfl⟩
 obtain⟨Y,hY⟩:∃Y:Int,(if t.length≤262144 then(0:Int)else 9)=Y:=⟨_,rfl⟩
 have HXX:=hid hX;have HYY:=hid hY;clear hX hY;go_wp2_with fail
 refine(show Calls _ _ #[.agg #[.bool z0b,.slice z1A z1k z1c,.slice z2A z2k z2c,.slice z3A z3k z3c,.slice z4A z4k z4c,.slice z5A z5k z5c,.slice z6A z6k z6c,.slice z7A z7k z7c,.slice z8A z8k z8c]] _ _ from t_FormatS NN _ D [.bool z0b,.slice z1A z1k z1c,.slice z2A z2k z2c,.slice z3A z3k z3c,.slice z4A z4k z4c,.slice z5A z5k z5c,.slice z6A z6k z6c,.slice z7A z7k z7c,.slice z8A z8k z8c] t (HR.out.below HB0.out) HL.out).mono ?_
 rintro e w2⟨rfl,hb2⟩;rw[HXX.out,HYY.out];have HB2:=hid (HB0.out.trans (hb2.mono HB0.out.size));have HY2:=hid (HY.out.below hb2 HY.out.lt);obtain⟨hcy,_,_⟩:=HY2.out.facts;clear hb2 hcx;go_wp2_with fail
 refine(show Calls _ _ #[.agg #[.bool y0b,.slice y1A y1k y1c,.slice y2A y2k y2c,.slice y3A y3k y3c,.slice y4A y4k y4c,.slice y5A y5k y5c,.slice y6A y6k y6c,.slice y7A y7k y7c,.slice y8A y8k y8c]] _ _ from t_FormatS NN _ D' [.bool y0b,.slice y1A y1k y1c,.slice y2A y2k y2c,.slice y3A y3k y3c,.slice y4A y4k y4c,.slice y5A y5k y5c,.slice y6A y6k y6c,.slice y7A y7k y7c,.slice y8A y8k y8c] t (HR'.out.below HB2.out) HL.out).mono ?_
 rintro e w3⟨rfl,hb3⟩;rw[HXX.out,HYY.out];have HB3:=hid (HB2.out.trans (hb3.mono HB2.out.size));clear hb3 hcy;go_wp2;go_ret
 exact⟨rfl,HB3.out⟩
set_option maxHeartbeats 8000000 in
set_option maxRecDepth 100000 in
theorem parses_any(w:World)(s:ByteArray)(hs:s.size≤9223372036854775807)(hg:Gl w):Calls Tryz.prog 3 #[.string s] w (YesPost w):=by
 have HG:=hid hg;clear hg;go_enter Tryz.func3,Tryz.ntmps3
 go_wp2_with fail
 refine(csanez_any _ HG.out).mono ?_;rintro e w1⟨rfl,hb1⟩;have HB1:=hid hb1;have HG1:=hid (HG.out.below hb1);clear hb1;by_cases h3:3000<s.size∧s.size≤262144
 ·have d1:decide ((3000:Int)<(s.size:Int))=true:=decide_eq_true (by omega)
  have d2:decide ((s.size:Int)≤262144)=true:=decide_eq_true (by omega)
  clear h3;go_wp2;go_ret
  exact⟨rfl,HB1.out⟩
 obtain⟨l,hl⟩:∃l,s.data.toList=l:=⟨_,rfl⟩;have HL:=hid hl;obtain⟨K,hK⟩:∃K,keyC l=K:=⟨_,rfl⟩;have HK:=hid hK;clear hl hK;have key:∀(p q:Bool),decide ((3000:Int)<(s.size:Int))=p→decide ((s.size:Int)≤262144)=q→(p=false∨(p=true∧q=false)):=by
  rintro p q rfl rfl;simp only[decide_eq_false_iff_not,decide_eq_true_eq];omega
 have hpq:=key _ _ rfl rfl;obtain⟨p,hp⟩:∃p,decide ((3000:Int)<(s.size:Int))=p:=⟨_,rfl⟩;obtain⟨q,hq⟩:∃q,decide ((s.size:Int)≤262144)=q:=⟨_,rfl⟩;rw[hp,hq]at hpq;clear key h3;have fin:∀ {wa:World} {ee:Ending} {w2:World},CPPost l wa ee w2→∃z0b z1A z1k z1c z2A z2k z2c z3A z3k z3c z4A z4k z4c z5A z5k z5c z6A z6k z6c z7A z7k z7c z8A z8k z8c,ee = .returned (.tuple #[.agg #[.bool z0b,.slice z1A z1k z1c,.slice z2A z2k z2c,.slice z3A z3k z3c,.slice z4A z4k z4c,.slice z5A z5k z5c,.slice z6A z6k z6c,.slice z7A z7k z7c,.slice z8A z8k z8c],.int .i64 K])∧Rep w2 (fun _=>True) (certS NN) [.bool z0b,.slice z1A z1k z1c,.slice z2A z2k z2c,.slice z3A z3k z3c,.slice z4A z4k z4c,.slice z5A z5k z5c,.slice z6A z6k z6c,.slice z7A z7k z7c,.slice z8A z8k z8c] [keyT l]∧Below wa.heap.size wa w2:=by
  intro wa ee w2 h;obtain⟨v,rfl,hr,hb⟩:=h.key;obtain⟨z0b,z1A,z1k,z1c,z2A,z2k,z2c,z3A,z3k,z3c,z4A,z4k,z4c,z5A,z5k,z5c,z6A,z6k,z6c,z7A,z7k,z7c,z8A,z8k,z8c,rfl⟩:=ty_cert hr.ty;exact⟨_,_,_,_,_,_,_,_,_,_,_,_,_,_,_,_,_,_,_,_,_,_,_,_,_,by rw[HK.out],hr,hb⟩
 rcases hpq with rfl|⟨rfl,rfl⟩
 all_goals
  go_wp2_with fail
  refine(parseC_any _ s HG1.out).mono ?_;intro e w2 h;rw[HL.out]at h;obtain⟨z0b,z1A,z1k,z1c,z2A,z2k,z2c,z3A,z3k,z3c,z4A,z4k,z4c,z5A,z5k,z5c,z6A,z6k,z6c,z7A,z7k,z7c,z8A,z8k,z8c,rfl,hr,hb⟩:=fin h;have HR:=hid hr;have HB2:=hid (HB1.out.trans (hb.mono HB1.out.size));have HX:=hid (Bk.new w2 34 #[.bool z0b,.slice z1A z1k z1c,.slice z2A z2k z2c,.slice z3A z3k z3c,.slice z4A z4k z4c,.slice z5A z5k z5c,.slice z6A z6k z6c,.slice z7A z7k z7c,.slice z8A z8k z8c]);clear hr hb h;go_wp2_with fail
  refine(v_Parse _ s).mono ?_;intro e w3 h;rw[HL.out]at h;obtain⟨y0b,y1A,y1k,y1c,y2A,y2k,y2c,y3A,y3k,y3c,y4A,y4k,y4c,y5A,y5k,y5c,y6A,y6k,y6c,y7A,y7k,y7c,y8A,y8k,y8c,rfl,hr,hb⟩:=fin h;have HR2:=hid (HR.out.below (((Below.refl w2.heap.size w2).alloc (Nat.le_refl _) (.cells #[.bool z0b,.slice z1A z1k z1c,.slice z2A z2k z2c,.slice z3A z3k z3c,.slice z4A z4k z4c,.slice z5A z5k z5c,.slice z6A z6k z6c,.slice z7A z7k z7c,.slice z8A z8k z8c] 34)).trans (hb.mono (by simp))))
  have HB3:=hid ((HB2.out.alloc HB2.out.size (.cells #[.bool z0b,.slice z1A z1k z1c,.slice z2A z2k z2c,.slice z3A z3k z3c,.slice z4A z4k z4c,.slice z5A z5k z5c,.slice z6A z6k z6c,.slice z7A z7k z7c,.slice z8A z8k z8c] 34)).trans (hb.mono (by have:=HB2.out.size;simp;omega)))
  have HX3:=hid ((HX.out.below hb HX.out.lt).alloc (.cells #[.bool y0b,.slice y1A y1k y1c,.slice y2A y2k y2c,.slice y3A y3k y3c,.slice y4A y4k y4c,.slice y5A y5k y5c,.slice y6A y6k y6c,.slice y7A y7k y7c,.slice y8A y8k y8c] 34));have HR3:=hid hr;obtain⟨hcx,_,_⟩:=HX3.out.facts;clear hr hb h;go_wp2_with fail
  refine(show Calls _ _ #[.agg #[.bool z0b,.slice z1A z1k z1c,.slice z2A z2k z2c,.slice z3A z3k z3c,.slice z4A z4k z4c,.slice z5A z5k z5c,.slice z6A z6k z6c,.slice z7A z7k z7c,.slice z8A z8k z8c],.agg #[.bool y0b,.slice y1A y1k y1c,.slice y2A y2k y2c,.slice y3A y3k y3c,.slice y4A y4k y4c,.slice y5A y5k y5c,.slice y6A y6k y6c,.slice y7A y7k y7c,.slice y8A y8k y8c]] _ _ from sameCert_any _ _ _ [.bool z0b,.slice z1A z1k z1c,.slice z2A z2k z2c,.slice z3A z3k z3c,.slice z4A z4k z4c,.slice z5A z5k z5c,.slice z6A z6k z6c,.slice z7A z7k z7c,.slice z8A z8k z8c] [.bool y0b,.slice y1A y1k y1c,.slice y2A y2k y2c,.slice y3A y3k y3c,.slice y4A y4k y4c,.slice y5A y5k y5c,.slice y6A y6k y6c,.slice y7A y7k y7c,.slice y8A y8k y8c] (keyT l) (HR2.out.below ((Below.refl _ _).alloc (Nat.le_refl _) _)) (HR3.out.below ((Below.refl _ _).alloc (Nat.le_refl _) _)) (keyT_len l)).mono ?_
  rintro e w4⟨rfl,hb4⟩;have HB4:=hid ((HB3.out.alloc HB3.out.size (.cells #[.bool y0b,.slice y1A y1k y1c,.slice y2A y2k y2c,.slice y3A y3k y3c,.slice y4A y4k y4c,.slice y5A y5k y5c,.slice y6A y6k y6c,.slice y7A y7k y7c,.slice y8A y8k y8c] 34)).trans (hb4.mono (by have:=HB3.out.size;simp;omega)))
  clear hb4;go_wp2;go_ret
  exact⟨rfl,HB4.out⟩
end Go.Proofs.YtellcholbkoakaaGreatDoor
/-
  Every text is accepted or refused as by the reference, and the certificates have equal texts: the law CodecParses returns true for every string and leaves its argument as it was.
  Conditions: the listed package-level variables hold what the program's text lays (the card ties them).
-/
namespace Go.Proofs.YtellcholbkoakaaGreatDoor.codecParsesDone
open Go.ChangeShapes Go.WideShapes Go.ChangeAt Go.RowKit AC
open Go.ChangeMaps (open_string shut_string)
set_option linter.unusedVariables false
set_option linter.unusedSimpArgs false
set_option maxRecDepth 100000 in
theorem lifted(os:Os)(started:os.Started)(H:Type)(enc:TypeId×Value→H) :
 ReturnsInHanded {} Tryz.checked os 3 .any (fun w args=>(Rows.codecParsesSpec.pre enc Tryz.prog Tryz.f3 [] false w args∧laidMetH Tryz.prog laidL w)∧sizedMet enc Tryz.prog Tryz.f3 (OpenSpec.ofChange Rows.codecParsesSpec) false w args)
  (Rows.codecParsesSpec.post enc Tryz.prog Tryz.f3 false true false false):=by
 refine returnsIn_listed (C:=Tryz.checked) (X:=fun w _=>laidMetH Tryz.prog laidL w) (fun _ _ _ hh h=>h.of_heap hh) own started (by kernel_rfl) Tryz.func3
  (ChangeSpec.witness_at (enc:=enc) (C:=Tryz.checked) (os:=os) (X:=fun w _=>laidMetH Tryz.prog laidL w) false (World.laidAll Tryz.prog os laidL) #[.string ⟨#[]⟩] 8 (World.laidAll_os _ _ _) (by kernel_rfl) (by kernel_rfl) (by kernel_rfl) (by kernel_rfl) (by kernel_rfl) (met os _)) ?_
 intro W base args ds gs before hval0 hW hsz hL hsh;have hval:∀(j:Nat) t v,Tryz.f3.params[j]? = some t→args[j]? = some v→Value.okWide Tryz.prog W .any base t v:=hval0;have hW':=hW;obtain⟨p,q,hA0,hV,rfl,_,_⟩:=hW;have hA:DataW.TrodAll enc Tryz.prog W 0 (fun _=>true) true Tryz.f3.params.toList args.toList ds p:=hA0
 rw[Tryz.params3]at hA hval;obtain⟨v0,d0,rfl,rfl,h0⟩:=trodAll_one hA;obtain⟨rfl,rfl⟩:=trodVars_none hV;obtain⟨s,rfl,rfl,rfl,hs⟩:=open_string Tryz.underlying9 (hval 0 9 v0 rfl rfl) h0;simp only[List.append_nil]at hW';have hgl:=gl_of hL hsh;clear hA0 hval0;refine(parses_any W s hs hgl).mono fun e W' ⟨he,bel⟩=>?_
 subst he;exact⟨_,rfl,_,_,_,[],_,[],hW',trodAll_mk1 (shut_bool Tryz.underlying4 _),(trodAll_mk1 (shut_string Tryz.underlying9 hs)),rfl,bel.frame _,fun h=>by cases h⟩
end Go.Proofs.YtellcholbkoakaaGreatDoor.codecParsesDone
/-
  Every text is accepted or refused as by the reference, and the certificates have equal texts: the law CodecParses returns true for every string and leaves its argument as it was.
  Conditions: the listed package-level variables hold what the program's text lays (the card ties them).
-/
namespace Go.Proofs.YtellcholbkoakaaGreatDoor.codecParsesDone
open Go.ChangeShapes Go.WideShapes Go.ChangeAt Go.RowKit AC
open Go.ChangeMaps (open_string shut_string)
set_option linter.unusedVariables false
set_option linter.unusedSimpArgs false
theorem over:Rows.codecParsesRow.holds Tryz.pinned (OpenSpec.ofChange Rows.codecParsesSpec):=
 OpenClaim.holds_of_wide 3 Tryz.f3 rfl rfl rfl rfl rfl rfl rfl ⟨rfl,rfl,rfl,rfl,rfl⟩ rfl rfl rfl rfl rfl (by kernel_rfl) Tryz.func3 closed
  (of_decide_eq_true (by kernel_rfl)) (by unfold Func.isWrapper;first|(rw[if_pos (by decide +kernel)];kernel_rfl)|(rw[if_neg (by decide +kernel)];exact⟨rfl,rfl⟩))
  (fun os started H enc _=>lifted os started H enc)
end Go.Proofs.YtellcholbkoakaaGreatDoor.codecParsesDone
