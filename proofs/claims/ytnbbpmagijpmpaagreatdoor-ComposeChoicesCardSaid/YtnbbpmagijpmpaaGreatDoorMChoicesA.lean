/-
  For every context, every list of bounds and both kinds the law ComposeChoices returns true and leaves its arguments as they were.
  Conditions: the listed package-level variables hold what the program's text lays (the card ties them).
-/
import Derived.Test.YtnbbpmagijpmpaaGreatDoorCards
import Derived.Test.YtnbbpmagijpmpaaGreatDoorTie
import Derived.Test.YtnbbpmagijpmpaaGreatDoorMEz
import Derived.Test.YtnbbpmagijpmpaaGreatDoorMYu
import Derived.SevenTiedAt
import Derived.ChangeMaps5
import Derived.ChangeOld
import Derived.ShutString
import Derived.Below
import Derived.Carry
set_option linter.unusedVariables false
set_option linter.unusedSimpArgs false
namespace Go.Proofs.YtnbbpmagijpmpaaGreatDoor.composeChoicesDone
open Go.ChangeShapes Go.WideShapes Go.ChangeAt Go.RowKit AC
set_option maxRecDepth 100000
theorem lifted(os:Os)(b0:os.Started)(H:Type)(enc:TypeId×Value->H) :
 ReturnsInHanded {} Tryz.checked os 3 .any (fun w args=>(Rows.composeChoicesSpec.pre enc Tryz.prog Tryz.f3 [] false w args/\laidMetH Tryz.prog vB8 w)/\sizedMet enc Tryz.prog Tryz.f3 (OpenSpec.ofChange Rows.composeChoicesSpec) false w args)
  (Rows.composeChoicesSpec.post enc Tryz.prog Tryz.f3 false true false false):=by
 refine uhk (C:=Tryz.checked) (X:=fun w _=>laidMetH Tryz.prog vB8 w) (fun _ _ _ hh h=>h.of_heap hh) own b0 (by kernel_rfl) Tryz.func3
  (ChangeSpec.witness_at (enc:=enc) (C:=Tryz.checked) (os:=os) (X:=fun w _=>laidMetH Tryz.prog vB8 w) false (World.laidAll Tryz.prog os vB8) #[.agg #[.slice none 0 0,.slice none 0 0,.int .i64 0,.int .i64 0,.slice none 0 0],.slice none 0 0,.bool false] 8 (World.laidAll_os _ _ _) (by kernel_rfl) (by kernel_rfl) (by kernel_rfl) (by kernel_rfl) (by kernel_rfl) (met os _)) ?_
 intro W base args ds gs b1 a4 hW b7 hL a7;have a0:∀(j:Nat) t v,Tryz.f3.params[j]? = some t->args[j]? = some v->Value.okWide Tryz.prog W .any base t v:=a4;have a3:=hW;obtain⟨p,q,a2,hV,rfl,_,_⟩:=hW;have hA:DataW.TrodAll enc Tryz.prog W 0 (fun _=>true) true Tryz.f3.params.toList args.toList ds p:=a2
 rw[Tryz.params3]at hA a0;obtain⟨v0,b8,d0,b3,p0,q0,b6,rfl,rfl,h0,r0⟩:=trodAll_cons hA;obtain⟨v1,b9,d1,b4,p1,q1,rfl,rfl,rfl,h1,r1⟩:=trodAll_cons r0;obtain⟨v2,c0,d2,b5,p2,q2,rfl,rfl,rfl,h2,r2⟩:=trodAll_cons r1;obtain⟨rfl,rfl,rfl⟩:=trodAll_nil r2;obtain rfl:args = #[v0,v1,v2]:=by cases args;simp_all
 obtain⟨rfl,rfl⟩:=trodVars_none hV;obtain⟨cs,rfl,_⟩:=okWide_struct Tryz.underlying27 (a0 0 27 v0 rfl rfl);obtain⟨A,k,c,rfl⟩:=okWide_slice Tryz.underlying28 (a0 1 28 v1 rfl rfl);have k0:=h0;have k1:=h1;have a8:∀x∈p0,x.block<W.heap.size:=by obtain⟨m,hm⟩:=k0;exact DataW.trod_lt m _ _ _ hm
 have a9:∀x∈p1,x.block<W.heap.size:=by obtain⟨m,hm⟩:=k1;exact DataW.trod_lt m _ _ _ hm
 obtain⟨f0,g0⟩:=h0;obtain⟨f1,g1⟩:=h1;obtain⟨X,hX⟩:=uB4 g0;obtain⟨A',k',c',l,e,hl⟩:=uyf g1;have a5:(Value.agg cs).cells.toList=cs.toList:=rfl;rw[a5]at hX;injection e with e _;injection e with e1 e2 e3;subst e1;subst e2;subst e3;obtain⟨b2,rfl,rfl,rfl⟩:=open_bool Tryz.underlying4 (a0 2 4 v2 rfl rfl) h2;simp only[List.append_nil]at a3;have a6:=uId hL a7;clear a2 a4;refine(uqr b2 l cs.toList _ _ _ W (hX.sub fun b hb _=>hb) (hl.sub fun b hb _=>hb) a6).mono fun e W' ⟨he,a1⟩=>?_
 subst he;exact⟨_,rfl,_,_,_,[],_,[],a3,trodAll_mk1 (shut_bool Tryz.underlying4 _),(trodAll_cons_mk (Below.trod laidOut (by kernel_rfl) (of_decide_eq_true (by kernel_rfl)) k0 a1 a8) (trodAll_cons_mk (Below.trod laidOut (by kernel_rfl) (of_decide_eq_true (by kernel_rfl)) k1 a1 a9) (trodAll_cons_mk (shut_bool Tryz.underlying4 _) trodAll_mk0))),rfl,a1.frame _,fun h=>by cases h⟩
end Go.Proofs.YtnbbpmagijpmpaaGreatDoor.composeChoicesDone
