/-
  From a row's hypotheses to what the walks want of the package-level variables; a world that fits.
-/
import Derived.Test.YtellcholbkoakaaGreatDoorRows
import Derived.Test.YtellcholbkoakaaGreatDoorHCRep
import Derived.Shelf.Vars
import Derived.Stop.LaidErr
import Derived.LaidLaws
import Derived.LaidHandle
import Derived.SizedLaws
import Derived.HandedShaped
import Derived.Handed
import Derived.Lay
import Derived.RowKit
import Derived.ProofKit
import Derived.OpenShut
import Derived.Test.YtellcholbkoakaaGreatDoorHKh
import Derived.Test.YtellcholbkoakaaGreatDoorHTg
import Derived.Test.YtellcholbkoakaaGreatDoorHTh
import Derived.Test.YtellcholbkoakaaGreatDoorHCAs
import Derived.Test.YtellcholbkoakaaGreatDoorHPa
import Derived.Test.YtellcholbkoakaaGreatDoorHRegion
import Derived.Laws.Strings3
import Derived.Laws.Concat
import Derived.Laws.IdiomStrings
import Derived.Test.YtellcholbkoakaaGreatDoorCards
import Derived.Test.YtellcholbkoakaaGreatDoorTie
import Derived.Test.YtellcholbkoakaaGreatDoorHOpen
import Derived.SevenTiedAt
import Derived.ChangeMaps5
import Derived.ChangeOld
import Derived.ShutString
import Derived.Below
import Derived.Carry
import Derived.Test.YtellcholbkoakaaGreatDoorHSpoiltE
namespace Go.Proofs.YtellcholbkoakaaGreatDoor
open Go.Lib (hid)
open Go.RowKit AC
set_option linter.unusedVariables false
set_option linter.unusedSimpArgs false
def laidL:List (String×DataW Unit):=[("math/bits.deBruijn32tab",Rows.laid_math_bits_deBruijn32tab),("math/bits.deBruijn64tab",Rows.laid_math_bits_deBruijn64tab),("internal/strconv.uint64pow10",Rows.laid_internal_strconv_uint64pow10),("strconv.ErrRange",Rows.laid_strconv_ErrRange),("strconv.ErrSyntax",Rows.laid_strconv_ErrSyntax)]
theorem uAm:Tryz.prog.globalNamed "internal/strconv.uint64pow10" = some 3:=by kernel_rfl
theorem uz0:(Tryz.prog.globals[3]?).map (·.type)=some 328:=by kernel_rfl
theorem gER:Tryz.prog.globalNamed "strconv.ErrRange" = some 2:=by kernel_rfl
theorem uAn:(Tryz.prog.globals[2]?).map (·.type)=some 238:=by kernel_rfl
theorem gES:Tryz.prog.globalNamed "strconv.ErrSyntax" = some 1:=by kernel_rfl
theorem uAo:(Tryz.prog.globals[1]?).map (·.type)=some 238:=by kernel_rfl
theorem cEs:Tryz.prog.cellsOf 344=1:=by kernel_rfl
theorem uAd:Tryz.prog.cellsOf 9=1:=by kernel_rfl
theorem uAp:Tryz.prog.cellsOf 233=1:=by kernel_rfl
theorem uAq:Tryz.prog.cellsOf 328=20:=by kernel_rfl
theorem uAe : "*" ++ "errors.errorString" = "*errors.errorString" :=by decide
theorem uyu(u:TypeId)(h:Tryz.prog.typeName? 3 u=some "*errors.errorString"):u=342:=
 typeName_ptr_named (nm:= "errors.errorString") (by rw[uAe];kernel_rfl) (by kernel_rfl) (by decide) u (by rw[uAe];exact h)
theorem uAr:((begin Tryz.prog (fun _ _=>0) default).world.heap[0]?).bind Obj.row? = some (#[.int .i64 0],3):=by kernel_rfl
theorem uz1:(((begin Tryz.prog (fun _ _=>0) default).world.heap[GN-1]?).bind Obj.row?).isSome=true:=by kernel_rfl
theorem uz2{W:World}(hL:laidMetH Tryz.prog laidL W)(hs:W.ShapedOpen Tryz.prog):Gl W:=by
 have h':laidMet Tryz.prog laidL W:=hL;have h3:=h'.tail.tail;have h4:=h3.tail;have h5:=h4.tail;refine⟨Lib.tabIs_of_head uAm uz0 Tryz.underlying328 Tryz.underlying233 uAp uAq h3,?_,?_,?_,?_⟩
 ·obtain⟨a,s,hv,_⟩:=laid_sentinel h5 gES uAo Tryz.underlying238 uyu Tryz.underlying342 Tryz.underlying344 rfl rfl Tryz.underlying9 cEs uAd
  exact⟨_,_,hv⟩
 ·obtain⟨a,s,hv,_⟩:=laid_sentinel h4 gER uAn Tryz.underlying238 uyu Tryz.underlying342 Tryz.underlying344 rfl rfl Tryz.underlying9 cEs uAd
  exact⟨_,_,hv⟩
 ·exact cell_of_shapedOpen_int hs (by rw[uxp];decide) uAr rfl (by kernel_rfl) (by kernel_rfl) Tryz.underlying3
 ·obtain⟨⟨zero,t⟩,h0⟩:=Option.isSome_iff_exists.1 uz1
  obtain⟨cs,hh,_⟩:=hs.1 (GN-1) zero t (by rw[uxp];decide) h0
  have:=(Array.getElem?_eq_some_iff.1 hh).1;have:0<GN:=by decide
  omega
theorem uge{H:Type}{enc:TypeId×Value→H}{a:Assume}{C:Checked}{os:Os}{f:FuncId}{fn:Func}{s:ChangeSpec}{conds:List PathCond}{apart fresh handsOn again:Bool}{X:World→Array Value→Prop}
 (hX:∀(w w':World) (args:Array Value),w.heap=w'.heap→X w args→X w' args)
 (own:ownKnob C.prog.godebug=none) (started:os.Started) (noInit:C.prog.inits.idxOf? f=none) (hfn:C.prog.funcs[f]? = some fn)
 (witness:∃(w:World) (tape:Tape) (i:Input),w.os=os∧(w.forCall tape i).Shaped C.prog∧i.vars=[]∧Input.okWide C.prog (w.forCall tape i) .any w.heap.size f i ∧
  ((s.pre enc C.prog fn conds apart (w.forCall tape i).memory i.args∧X (w.forCall tape i).memory i.args)∧sizedMet enc C.prog fn (OpenSpec.ofChange s) apart (w.forCall tape i).memory i.args)∧a.holds C.prog (lone (Frame.enter C.prog f i.args .normal) [] (w.forCall tape i)))
 (contract:∀(W:World) (base:Nat) (args:Array Value) (ds gs:List (DataW H)) (before:List MemPlace),
  (∀(j:Nat) t v,fn.params[j]? = some t→args[j]? = some v→Value.okWide C.prog W .any base t v) →
  DataW.Whole enc C.prog fn.params.toList s.vars apart W args.toList ds gs before →
  (DataW.weightsEach C.prog (fn.params.toList++s.plain.varTypes C.prog) (ds++gs)).all (· ≤ reachBytes)=true→X W args→W.ShapedOpen C.prog →
  Calls C.prog f args W fun e W'=>∃v,e = .returned v∧s.post enc C.prog fn apart fresh handsOn again W args v W') :
 ReturnsInHanded a C os f .any (fun w args=>(s.pre enc C.prog fn conds apart w args∧X w args)∧sizedMet enc C.prog fn (OpenSpec.ofChange s) apart w args) (s.post enc C.prog fn apart fresh handsOn again):=by
 refine returnsInHanded_of_calls own started noInit witness ?_;intro w tape i _ hsh _ hok hpre _;obtain⟨_,_,_,fn',hfn',_,_,_,_,hval⟩:=hok;have e:fn'=fn:=Option.some.inj (hfn'.symm.trans hfn);subst e;obtain⟨⟨⟨ds,gs,before,hw,hc⟩,hx⟩,hz⟩:=hpre;have hw':=DataW.Whole.of_heap (w':=w.forCall tape i) (by rfl) hw
 refine(contract (w.forCall tape i) w.heap.size i.args ds gs before hval hw' (hz.weights hw) (hX _ _ _ (by rfl) hx) hsh).mono fun e W' ⟨v,he,hp⟩=>?_
 subst he;exact ChangeSpec.post_blind hp
theorem own:ownKnob Tryz.prog.godebug=none:=by kernel_rfl
theorem met(os:Os)(args:Array Value):laidMetH Tryz.prog laidL ((World.laidAll Tryz.prog os laidL).forCall (fun _ _=>0) ⟨#[],args,[]⟩).memory:=
 laidMet_laidAll args (by kernel_rfl) (by kernel_rfl)
theorem uw2{n:Nat}{v:List Value}(h:Ty (uj2 n) v):∃a0 a1 a3 a2 a4 a6 a5 a7 a9 a8 b0 b2 b1 b3 b5 b4 b6 b8 b7 b9 c1 c0 c2 c4 c3,v=[.bool a0,.slice a1 a3 a2,.slice a4 a6 a5,.slice a7 a9 a8,.slice b0 b2 b1,.slice b3 b5 b4,.slice b6 b8 b7,.slice b9 c1 c0,.slice c2 c4 c3]:=by
 obtain⟨l0,_,rfl,h0,l1,_,rfl,h1,l2,_,rfl,h2,l3,_,rfl,h3,l4,_,rfl,h4,l5,_,rfl,h5,rfl⟩:=h;obtain⟨a0,rfl⟩:=ua8 h0;obtain⟨a1,a3,a2,a4,a6,a5,rfl⟩:=uch h1;obtain⟨a7,a9,a8,rfl⟩:=ua h2;obtain⟨b0,b2,b1,b3,b5,b4,b6,b8,b7,rfl⟩:=udy h3;obtain⟨b9,c1,c0,rfl⟩:=ua h4;obtain⟨c2,c4,c3,rfl⟩:=ua h5;exact⟨a0,a1,a3,a2,a4,a6,a5,a7,a9,a8,b0,b2,b1,b3,b5,b4,b6,b8,b7,b9,c1,c0,c2,c4,c3,rfl⟩
theorem uuq{w:World}{D:Nat→Prop}{n:Nat}{v:List Value}{t:List UInt8}(h:Rep w D (ubb n) v [t]):0<t.length:=by
 obtain⟨tx,ht,_⟩:=h;injection ht with ht _;subst ht;simp[par]
set_option maxHeartbeats 16000000 in
set_option maxRecDepth 100000 in
theorem urq(n:Nat)(w:World)(D:Nat→Prop)(v:List Value)(t:List UInt8)(n9:Rep w D (uj2 n) v [t])(at_ n1 b:Int)(p7:0≤at_)(p8:at_≤65535)(p9:0≤n1)(q0:n1≤255)(p3:0≤b)(m9:b≤255)(hg:Gl w) :
 Calls Tryz.prog 4 #[.agg v.toArray,.int .u16 at_,.int .u8 n1,.int .u8 b] w (ujs w):=by
 obtain⟨bb,rfl⟩:∃bb:UInt8,b=(bb.toNat:Int):=⟨UInt8.ofNat b.toNat,by simp;omega⟩
 obtain⟨f9,j0,j2,j1,j3,j5,j4,j6,j8,j7,j9,k7,k6,k8,l0,k9,l1,l3,l2,l4,l6,l5,l7,l9,l8,rfl⟩:=uw2 n9.ty;have HR:=hid n9;have HG:=hid hg;clear n9 hg p3 m9;show Calls Tryz.prog 4 #[.agg #[.bool f9,.slice j0 j2 j1,.slice j3 j5 j4,.slice j6 j8 j7,.slice j9 k7 k6,.slice k8 l0 k9,.slice l1 l3 l2,.slice l4 l6 l5,.slice l7 l9 l8],.int .u16 at_,.int .u8 n1,.int .u8 (bb.toNat:Int)] w _
 go_enter Tryz.func4,Tryz.ntmps4
 go_upto_region 1 with(fail)
 obtain⟨C,hC⟩:∃C,C=w.alloc (.cells #[.bool f9,.slice j0 j2 j1,.slice j3 j5 j4,.slice j6 j8 j7,.slice j9 k7 k6,.slice k8 l0 k9,.slice l1 l3 l2,.slice l4 l6 l5,.slice l7 l9 l8] 34):=⟨_,rfl⟩;have n5:Hid (Below w.heap.size w C):=by rw[hC];exact(Below.refl _ _).alloc (Nat.le_refl _) _
 have o0:Hid (Bk C w.heap.size 34 #[.bool f9,.slice j0 j2 j1,.slice j3 j5 j4,.slice j6 j8 j7,.slice j9 k7 k6,.slice k8 l0 k9,.slice l1 l3 l2,.slice l4 l6 l5,.slice l7 l9 l8]):=by rw[hC];exact Bk.new _ _ _
 have o9:=hid (HG.out.below n5.out);rw[←hC];clear hC;go_wp2_with fail
 refine(uup _ o9.out).mono ?_;rintro e w1⟨rfl,m9⟩;have n2:=hid (n5.out.trans (m9.mono n5.out.size));have n6:=hid (o0.out.below m9 o0.out.lt);obtain⟨p4,_,_⟩:=n6.out.facts;have p6:=hid (HG.out.below n2.out);clear m9;go_wp2_with fail
 refine(show Calls _ _ #[.agg #[.bool f9,.slice j0 j2 j1,.slice j3 j5 j4,.slice j6 j8 j7,.slice j9 k7 k6,.slice k8 l0 k9,.slice l1 l3 l2,.slice l4 l6 l5,.slice l7 l9 l8]] _ _ from uvw n w _ D [.bool f9,.slice j0 j2 j1,.slice j3 j5 j4,.slice j6 j8 j7,.slice j9 k7 k6,.slice k8 l0 k9,.slice l1 l3 l2,.slice l4 l6 l5,.slice l7 l9 l8] t HR.out n2.out).mono ?_
 rintro e w2⟨bk,rfl,hT,n7⟩;have m0:=hid (n2.out.trans (n7.mono n2.out.size));have o8:=hid (n6.out.below n7 n6.out.lt);obtain⟨o3,_,_⟩:=o8.out.facts;have o1:=hid (HG.out.below m0.out);clear n7 p4;cases bk with
 | false=>
  clear hT;go_wp2;go_ret
  exact⟨rfl,m0.out⟩
 | true=>
  have HT:=hid (hT rfl);clear hT;by_cases hl:t.length≤262144
  ·obtain⟨X,hX⟩:∃X:ByteArray,(⟨t.toArray⟩:ByteArray)=X:=⟨_,rfl⟩
   have o6:X.size=t.length:=by rw[←hX];simp[ByteArray.size]
   have o5:=uuq HT.out.1;have HX:=hid hX;have m5:=hid hl;have p0:=hid o6;have HP:=hid o5;clear hX hl o6 o5;go_wp2_with fail
   refine(show Calls _ _ #[.agg #[.bool f9,.slice j0 j2 j1,.slice j3 j5 j4,.slice j6 j8 j7,.slice j9 k7 k6,.slice k8 l0 k9,.slice l1 l3 l2,.slice l4 l6 l5,.slice l7 l9 l8]] _ _ from ue7 n _ D [.bool f9,.slice j0 j2 j1,.slice j3 j5 j4,.slice j6 j8 j7,.slice j9 k7 k6,.slice k8 l0 k9,.slice l1 l3 l2,.slice l4 l6 l5,.slice l7 l9 l8] t (HT.out.1.below m0.out) o1.out).mono ?_
   rintro e w5⟨rfl,n0⟩;rw[if_pos m5.out,if_pos m5.out,HX.out];have m3:=hid (m0.out.trans (n0.mono m0.out.size));clear n0 o3;have k1:¬(X.size:Int)=0:=by have:=p0.out;have:=HP.out;omega
   have k0:decide ((X.size:Int)=0)=false:=decide_eq_false k1;have k2:¬X=ByteArray.empty:=fun h=>k1 (by rw[h];rfl)
   by_cases h3:3000<X.size
   ·have k3:decide ((3000:Int)<(X.size:Int))=true:=decide_eq_true (by omega)
    have k5:0<X.size:=by omega
    have k4:decide ((0:Int)<(X.size:Int))=true:=decide_eq_true (by omega)
    go_wp2;go_ret
    exact⟨rfl,m3.out⟩
   ·have k3:decide ((3000:Int)<(X.size:Int))=false:=decide_eq_false (by omega)
    have q2:X.size≤3000:=by omega
    have p5:(0:Int)<X.size:=by omega
    obtain⟨i,hi⟩:∃i,at_%(X.size:Int)=i:=⟨_,rfl⟩;obtain⟨q,hq⟩:∃q,n1%3=q:=⟨_,rfl⟩;have q1:0≤i:=hi▸Int.emod_nonneg _ k1;have hi1:i<X.size:=hi▸Int.emod_lt_of_pos _ p5;have kb:((X.size:Int)==0)=false:=by rw[beq_eq_false_iff_ne];exact k1
    go_wp2_with fail
    all_goals (try simp only[hi,hq,kb,k3])
    all_goals clear hi hq kb k0 k1 k2 k3 h3
    ·rename_i z1
     clear z1;refine uv (by kernel_rfl) (by kernel_rfl) [65,66,67,68,69,70,71,72,73,74,75,76] 3 (by kernel_rfl) (fun io v x=>match io with
      | 0=>v = .string X
      | 1=>v = .int .i64 i
      | 2=>∃r:ByteArray,v = .string r∧r.size≤3000
      | 3=>v = .int .u8 (bb.toNat:Int)
      | 4=>∃n,v = .slice (some ⟨n,0,none⟩) 1 1∧Bk x n 5 #[.int .u8 (bb.toNat:Int)]
      | 5=>∃r:ByteArray,v = .string r∧r.size≤3000
      | 6=>∃r:ByteArray,v = .string r∧r.size≤6000
      | 7=>v = .string X
      | 8=>v = .int .i64 i
      | 9=>v = .int .i64 (i+1)
      | 10=>∃r:ByteArray,v = .string r∧r.size≤3000
      | _=>∃r:ByteArray,v = .string r∧r.size≤9000) ?_ ?_ ?_
     ·intro io v x x' a2 h hb
      rcases io with _|_|_|_|_|_|_|_|_|_|_|io
      ·exact h
      ·exact h
      ·exact h
      ·exact h
      ·exact h.imp fun n hn=>⟨hn.1,hn.2.below hb hn.2.lt⟩
      ·exact h
      ·exact h
      ·exact h
      ·exact h
      ·exact h
      ·exact h
      ·exact h
     ·intro io oo S x ho a2 f8 a1
      rcases io with _|_|_|_|_|_|_|_|_|_|_|_|io
      ·cases ho
       refine uB rfl rfl fun KK a0=>?_
       have HK:=hid a0;clear a0 a1 a2;simp only[uF,Act.put,List.setIfInBounds_toArray,List.set_cons_succ,List.set_cons_zero,List.getD_cons_zero,List.getD_cons_succ,Nat.zero_add,Nat.reduceAdd]at HK ⊢;go_wp2;exact HK.out _ _ ⟨_,rfl,rfl,Below.refl _ _⟩
      ·cases ho
       refine uB rfl rfl fun KK a0=>?_
       have HK:=hid a0;clear a0 a1 a2;simp only[uF,Act.put,List.setIfInBounds_toArray,List.set_cons_succ,List.set_cons_zero,List.getD_cons_zero,List.getD_cons_succ,Nat.zero_add,Nat.reduceAdd]at HK ⊢;go_wp2;exact HK.out _ _ ⟨_,rfl,rfl,Below.refl _ _⟩
      ·cases ho
       have h0:S 0 = .string X:=a1 0 (by kernel_rfl) (by decide)
       have h1:S 1 = .int .i64 i:=a1 1 (by kernel_rfl) (by decide)
       refine uB rfl rfl fun KK a0=>?_
       have HK:=hid a0;clear a0 a1 a2;simp only[uF,Act.put,List.setIfInBounds_toArray,List.set_cons_succ,List.set_cons_zero,List.getD_cons_zero,List.getD_cons_succ,Nat.zero_add,Nat.reduceAdd]at HK ⊢;generalize S 0=t0 at *;subst h0;generalize S 1=t1 at *;subst h1;go_wp2;exact HK.out _ _ ⟨_,rfl,⟨_,rfl,by simp[ByteArray.size_extract];omega⟩,Below.refl _ _⟩
      ·cases ho
       refine uB rfl rfl fun KK a0=>?_
       have HK:=hid a0;clear a0 a1 a2;simp only[uF,Act.put,List.setIfInBounds_toArray,List.set_cons_succ,List.set_cons_zero,List.getD_cons_zero,List.getD_cons_succ,Nat.zero_add,Nat.reduceAdd]at HK ⊢;go_wp2;exact HK.out _ _ ⟨_,rfl,rfl,Below.refl _ _⟩
      ·cases ho
       have h3:S 3 = .int .u8 (bb.toNat:Int):=a1 3 (by kernel_rfl) (by decide)
       refine uB rfl rfl fun KK a0=>?_
       have HK:=hid a0;clear a0 a1 a2;simp only[uF,Act.put,List.setIfInBounds_toArray,List.set_cons_succ,List.set_cons_zero,List.getD_cons_zero,List.getD_cons_succ,Nat.zero_add,Nat.reduceAdd]at HK ⊢;generalize S 3=t3 at *;subst h3;go_wp2;exact HK.out _ _ ⟨_,rfl,⟨_,rfl,Bk.new _ _ _⟩,(Below.refl _ _).alloc (Nat.le_refl _) _⟩
      ·cases ho
       have h4:∃n,(S 4) = .slice (some ⟨n,0,none⟩) 1 1∧Bk x n 5 #[.int .u8 (bb.toNat:Int)]:=a1 4 (by kernel_rfl) (by decide)
       obtain⟨n4,e4,b4⟩:=h4;have n8:=run_convert_bytes_back (P:=Tryz.prog) x 44 9 5 ⟨n4,0,none⟩ 1 [bb] Tryz.underlying44 Tryz.underlying5 Tryz.underlying9 (fun j hj=>by have h0:j=0:=(by simp at hj;omega);subst h0;rw[Addr.add_lit,Nat.zero_add,b4.cell 0];rfl)
       simp only[List.length_cons,List.length_nil,Nat.zero_add]at n8;refine uB rfl rfl fun KK a0=>?_
       have HK:=hid a0;clear a0 a1 a2;simp only[uF,Act.put,List.setIfInBounds_toArray,List.set_cons_succ,List.set_cons_zero,List.getD_cons_zero,List.getD_cons_succ,Nat.zero_add,Nat.reduceAdd]at HK ⊢;generalize S 4=t4 at *;subst e4;go_wp2;exact HK.out _ _ ⟨_,rfl,⟨_,rfl,show(1:Nat)≤3000 by omega⟩,Below.refl _ _⟩
      ·cases ho
       have h2:∃r:ByteArray,(S 2) = .string r∧r.size≤3000:=a1 2 (by kernel_rfl) (by decide)
       have h5:∃r:ByteArray,(S 5) = .string r∧r.size≤3000:=a1 5 (by kernel_rfl) (by decide)
       obtain⟨ra,ea,ha⟩:=h2;obtain⟨rb,eb,hb⟩:=h5;have n3:¬ra.size+rb.size>9223372036854775807:=by omega
       refine uB rfl rfl fun KK a0=>?_
       have HK:=hid a0;clear a0 a1 a2;simp only[uF,Act.put,List.setIfInBounds_toArray,List.set_cons_succ,List.set_cons_zero,List.getD_cons_zero,List.getD_cons_succ,Nat.zero_add,Nat.reduceAdd]at HK ⊢;generalize S 2=t2 at *;subst ea;generalize S 5=t5 at *;subst eb;go_wp2;exact HK.out _ _ ⟨_,rfl,⟨_,rfl,by simp[ByteArray.size_append];omega⟩,Below.refl _ _⟩
      ·cases ho
       refine uB rfl rfl fun KK a0=>?_
       have HK:=hid a0;clear a0 a1 a2;simp only[uF,Act.put,List.setIfInBounds_toArray,List.set_cons_succ,List.set_cons_zero,List.getD_cons_zero,List.getD_cons_succ,Nat.zero_add,Nat.reduceAdd]at HK ⊢;go_wp2;exact HK.out _ _ ⟨_,rfl,rfl,Below.refl _ _⟩
      ·cases ho
       refine uB rfl rfl fun KK a0=>?_
       have HK:=hid a0;clear a0 a1 a2;simp only[uF,Act.put,List.setIfInBounds_toArray,List.set_cons_succ,List.set_cons_zero,List.getD_cons_zero,List.getD_cons_succ,Nat.zero_add,Nat.reduceAdd]at HK ⊢;go_wp2;exact HK.out _ _ ⟨_,rfl,rfl,Below.refl _ _⟩
      ·cases ho
       have h8:S 8 = .int .i64 i:=a1 8 (by kernel_rfl) (by decide)
       refine uB rfl rfl fun KK a0=>?_
       have HK:=hid a0;clear a0 a1 a2;simp only[uF,Act.put,List.setIfInBounds_toArray,List.set_cons_succ,List.set_cons_zero,List.getD_cons_zero,List.getD_cons_succ,Nat.zero_add,Nat.reduceAdd]at HK ⊢;generalize S 8=t8 at *;subst h8;go_wp2;exact HK.out _ _ ⟨_,rfl,rfl,Below.refl _ _⟩
      ·cases ho
       have h7:S 7 = .string X:=a1 7 (by kernel_rfl) (by decide)
       have h9:S 9 = .int .i64 (i+1):=a1 9 (by kernel_rfl) (by decide)
       refine uB rfl rfl fun KK a0=>?_
       have HK:=hid a0;clear a0 a1 a2;simp only[uF,Act.put,List.setIfInBounds_toArray,List.set_cons_succ,List.set_cons_zero,List.getD_cons_zero,List.getD_cons_succ,Nat.zero_add,Nat.reduceAdd]at HK ⊢;generalize S 7=t7 at *;subst h7;generalize S 9=t9 at *;subst h9;go_wp2;exact HK.out _ _ ⟨_,rfl,⟨_,rfl,by simp[ByteArray.size_extract];omega⟩,Below.refl _ _⟩
      ·cases ho
       have h6:∃r:ByteArray,(S 6) = .string r∧r.size≤6000:=a1 6 (by kernel_rfl) (by decide)
       have p2:∃r:ByteArray,(S 10) = .string r∧r.size≤3000:=a1 10 (by kernel_rfl) (by decide)
       obtain⟨ra,ea,ha⟩:=h6;obtain⟨rb,eb,hb⟩:=p2;have n3:¬ra.size+rb.size>9223372036854775807:=by omega
       refine uB rfl rfl fun KK a0=>?_
       have HK:=hid a0;clear a0 a1 a2;simp only[uF,Act.put,List.setIfInBounds_toArray,List.set_cons_succ,List.set_cons_zero,List.getD_cons_zero,List.getD_cons_succ,Nat.zero_add,Nat.reduceAdd]at HK ⊢;generalize S 6=t6 at *;subst ea;generalize S 10=t10 at *;subst eb;go_wp2;exact HK.out _ _ ⟨_,rfl,⟨_,rfl,by simp[ByteArray.size_append];omega⟩,Below.refl _ _⟩
      ·exact absurd a2 (by simp)
     ·intro S x f8 hF
      have g0:S 0 = .string X:=hF 0 (by decide)
      have g1:S 1 = .int .i64 i:=hF 1 (by decide)
      have g2:∃r:ByteArray,(S 2) = .string r∧r.size≤3000:=hF 2 (by decide)
      have g3:S 3 = .int .u8 (bb.toNat:Int):=hF 3 (by decide)
      have g4:∃n,(S 4) = .slice (some ⟨n,0,none⟩) 1 1∧Bk x n 5 #[.int .u8 (bb.toNat:Int)]:=hF 4 (by decide)
      have g5:∃r:ByteArray,(S 5) = .string r∧r.size≤3000:=hF 5 (by decide)
      have g6:∃r:ByteArray,(S 6) = .string r∧r.size≤6000:=hF 6 (by decide)
      have g7:S 7 = .string X:=hF 7 (by decide)
      have g8:S 8 = .int .i64 i:=hF 8 (by decide)
      have g9:S 9 = .int .i64 (i+1):=hF 9 (by decide)
      have o2:∃r:ByteArray,(S 10) = .string r∧r.size≤3000:=hF 10 (by decide)
      have p1:∃r:ByteArray,(S 11) = .string r∧r.size≤9000:=hF 11 (by decide)
      clear hF;simp only[uF,Act.put,List.setIfInBounds_toArray,List.set_cons_succ,List.set_cons_zero,List.getD_cons_zero,List.getD_cons_succ,Nat.zero_add,Nat.reduceAdd,List.length_cons,List.length_nil,List.drop_succ_cons,List.drop_zero];generalize S 0=t0 at *;subst g0;generalize S 1=t1 at *;subst g1;generalize S 2=t2 at *;generalize S 3=t3 at *;subst g3;generalize S 4=t4 at *;generalize S 5=t5 at *;generalize S 6=t6 at *;generalize S 7=t7 at *;subst g7;generalize S 8=t8 at *;subst g8;generalize S 9=t9 at *;subst g9;generalize S 10=t10 at *;generalize S 11=t11 at *;obtain⟨Y,eY,hY⟩:=p1;subst eY;have f7:=hid (m3.out.trans (f8.mono m3.out.size));clear f8;obtain⟨l,hl⟩:∃l,Y.data.toList=l:=⟨_,rfl⟩;have HL:=hid hl;obtain⟨K,hK⟩:∃K,uzx l=K:=⟨_,rfl⟩;have HK:=hid hK;clear hl hK;have m1:∀ {wa:World} {ee:Ending} {w2:World},CPPost l wa ee w2→∃a3 a4 a6 a5 a7 a9 a8 b0 b2 b1 b3 b6 b5 b7 b9 b8 c0 c2 c1 c3 c5 c4 c6 c8 c7,ee = .returned (.tuple #[.agg #[.bool a3,.slice a4 a6 a5,.slice a7 a9 a8,.slice b0 b2 b1,.slice b3 b6 b5,.slice b7 b9 b8,.slice c0 c2 c1,.slice c3 c5 c4,.slice c6 c8 c7],.int .i64 K])∧Rep w2 (fun _=>True) (ubb NN) [.bool a3,.slice a4 a6 a5,.slice a7 a9 a8,.slice b0 b2 b1,.slice b3 b6 b5,.slice b7 b9 b8,.slice c0 c2 c1,.slice c3 c5 c4,.slice c6 c8 c7] [uut l]∧Below wa.heap.size wa w2:=by
       intro wa ee w2 h;obtain⟨v,rfl,hr,hb⟩:=h.key;obtain⟨a3,a4,a6,a5,a7,a9,a8,b0,b2,b1,b3,b6,b5,b7,b9,b8,c0,c2,c1,c3,c5,c4,c6,c8,c7,rfl⟩:=ud1 hr.ty;exact⟨_,_,_,_,_,_,_,_,_,_,_,_,_,_,_,_,_,_,_,_,_,_,_,_,_,by rw[HK.out],hr,hb⟩
      go_wp2_with fail
      refine(uda _ Y (HG.out.below f7.out)).mono ?_;intro e wq h;rw[HL.out]at h;obtain⟨a3,a4,a6,a5,a7,a9,a8,b0,b2,b1,b3,b6,b5,b7,b9,b8,c0,c2,c1,c3,c5,c4,c6,c8,c7,rfl,hr,hb⟩:=m1 h;have HR:=hid hr;have f5:=hid (f7.out.trans (hb.mono f7.out.size));have HX:=hid (Bk.new wq 34 #[.bool a3,.slice a4 a6 a5,.slice a7 a9 a8,.slice b0 b2 b1,.slice b3 b6 b5,.slice b7 b9 b8,.slice c0 c2 c1,.slice c3 c5 c4,.slice c6 c8 c7]);clear hr hb h;go_wp2_with fail
      refine(un8 _ Y).mono ?_;intro e wr h;rw[HL.out]at h;obtain⟨c9,d0,d2,d1,d3,d5,d4,d6,d8,d7,d9,e1,e0,e2,e5,e3,e6,e8,e7,e9,f1,f0,f2,f4,f3,rfl,hr,hb⟩:=m1 h;have m6:=hid (HR.out.below (((Below.refl wq.heap.size wq).alloc (Nat.le_refl _) (.cells #[.bool a3,.slice a4 a6 a5,.slice a7 a9 a8,.slice b0 b2 b1,.slice b3 b6 b5,.slice b7 b9 b8,.slice c0 c2 c1,.slice c3 c5 c4,.slice c6 c8 c7] 34)).trans (hb.mono (by simp))))
      have f6:=hid ((f5.out.alloc f5.out.size (.cells #[.bool a3,.slice a4 a6 a5,.slice a7 a9 a8,.slice b0 b2 b1,.slice b3 b6 b5,.slice b7 b9 b8,.slice c0 c2 c1,.slice c3 c5 c4,.slice c6 c8 c7] 34)).trans (hb.mono (by have:=f5.out.size;simp;omega)))
      have m8:=hid ((HX.out.below hb HX.out.lt).alloc (.cells #[.bool c9,.slice d0 d2 d1,.slice d3 d5 d4,.slice d6 d8 d7,.slice d9 e1 e0,.slice e2 e5 e3,.slice e6 e8 e7,.slice e9 f1 f0,.slice f2 f4 f3] 34));have m7:=hid hr;obtain⟨o4,_,_⟩:=m8.out.facts;clear hr hb h;go_wp2_with fail
      refine(show Calls _ _ #[.agg #[.bool a3,.slice a4 a6 a5,.slice a7 a9 a8,.slice b0 b2 b1,.slice b3 b6 b5,.slice b7 b9 b8,.slice c0 c2 c1,.slice c3 c5 c4,.slice c6 c8 c7],.agg #[.bool c9,.slice d0 d2 d1,.slice d3 d5 d4,.slice d6 d8 d7,.slice d9 e1 e0,.slice e2 e5 e3,.slice e6 e8 e7,.slice e9 f1 f0,.slice f2 f4 f3]] _ _ from uec _ _ _ [.bool a3,.slice a4 a6 a5,.slice a7 a9 a8,.slice b0 b2 b1,.slice b3 b6 b5,.slice b7 b9 b8,.slice c0 c2 c1,.slice c3 c5 c4,.slice c6 c8 c7] [.bool c9,.slice d0 d2 d1,.slice d3 d5 d4,.slice d6 d8 d7,.slice d9 e1 e0,.slice e2 e5 e3,.slice e6 e8 e7,.slice e9 f1 f0,.slice f2 f4 f3] (uut l) (m6.out.below ((Below.refl wr.heap.size wr).alloc (Nat.le_refl _) _)) (m7.out.below ((Below.refl wr.heap.size wr).alloc (Nat.le_refl _) _)) (ujt l)).mono ?_
      rintro e ws⟨rfl,m2⟩;have m4:=hid ((f6.out.alloc f6.out.size (.cells #[.bool c9,.slice d0 d2 d1,.slice d3 d5 d4,.slice d6 d8 d7,.slice d9 e1 e0,.slice e2 e5 e3,.slice e6 e8 e7,.slice e9 f1 f0,.slice f2 f4 f3] 34)).trans (m2.mono (by have:=f6.out.size;simp;omega)))
      clear m2;go_wp2;go_ret
      exact⟨rfl,m4.out⟩
    ·rename_i z1 z2
     clear z1 z2;refine uv (by kernel_rfl) (by kernel_rfl) [79,80,81,82,83,84,85,86] 3 (by kernel_rfl) (fun io v x=>match io with
      | 0=>v = .string X
      | 1=>v = .int .i64 i
      | 2=>∃r:ByteArray,v = .string r∧r.size≤3000
      | 3=>v = .string X
      | 4=>v = .int .i64 i
      | 5=>v = .int .i64 (i+1)
      | 6=>∃r:ByteArray,v = .string r∧r.size≤3000
      | _=>∃r:ByteArray,v = .string r∧r.size≤9000) ?_ ?_ ?_
     ·intro io v x x' a2 h hb
      rcases io with _|_|_|_|_|_|_|io
      ·exact h
      ·exact h
      ·exact h
      ·exact h
      ·exact h
      ·exact h
      ·exact h
      ·exact h
     ·intro io oo S x ho a2 f8 a1
      rcases io with _|_|_|_|_|_|_|_|io
      ·cases ho
       refine uB rfl rfl fun KK a0=>?_
       have HK:=hid a0;clear a0 a1 a2;simp only[uF,Act.put,List.setIfInBounds_toArray,List.set_cons_succ,List.set_cons_zero,List.getD_cons_zero,List.getD_cons_succ,Nat.zero_add,Nat.reduceAdd]at HK ⊢;go_wp2;exact HK.out _ _ ⟨_,rfl,rfl,Below.refl _ _⟩
      ·cases ho
       refine uB rfl rfl fun KK a0=>?_
       have HK:=hid a0;clear a0 a1 a2;simp only[uF,Act.put,List.setIfInBounds_toArray,List.set_cons_succ,List.set_cons_zero,List.getD_cons_zero,List.getD_cons_succ,Nat.zero_add,Nat.reduceAdd]at HK ⊢;go_wp2;exact HK.out _ _ ⟨_,rfl,rfl,Below.refl _ _⟩
      ·cases ho
       have h0:S 0 = .string X:=a1 0 (by kernel_rfl) (by decide)
       have h1:S 1 = .int .i64 i:=a1 1 (by kernel_rfl) (by decide)
       refine uB rfl rfl fun KK a0=>?_
       have HK:=hid a0;clear a0 a1 a2;simp only[uF,Act.put,List.setIfInBounds_toArray,List.set_cons_succ,List.set_cons_zero,List.getD_cons_zero,List.getD_cons_succ,Nat.zero_add,Nat.reduceAdd]at HK ⊢;generalize S 0=t0 at *;subst h0;generalize S 1=t1 at *;subst h1;go_wp2;exact HK.out _ _ ⟨_,rfl,⟨_,rfl,by simp[ByteArray.size_extract];omega⟩,Below.refl _ _⟩
      ·cases ho
       refine uB rfl rfl fun KK a0=>?_
       have HK:=hid a0;clear a0 a1 a2;simp only[uF,Act.put,List.setIfInBounds_toArray,List.set_cons_succ,List.set_cons_zero,List.getD_cons_zero,List.getD_cons_succ,Nat.zero_add,Nat.reduceAdd]at HK ⊢;go_wp2;exact HK.out _ _ ⟨_,rfl,rfl,Below.refl _ _⟩
      ·cases ho
       refine uB rfl rfl fun KK a0=>?_
       have HK:=hid a0;clear a0 a1 a2;simp only[uF,Act.put,List.setIfInBounds_toArray,List.set_cons_succ,List.set_cons_zero,List.getD_cons_zero,List.getD_cons_succ,Nat.zero_add,Nat.reduceAdd]at HK ⊢;go_wp2;exact HK.out _ _ ⟨_,rfl,rfl,Below.refl _ _⟩
      ·cases ho
       have h4:S 4 = .int .i64 i:=a1 4 (by kernel_rfl) (by decide)
       refine uB rfl rfl fun KK a0=>?_
       have HK:=hid a0;clear a0 a1 a2;simp only[uF,Act.put,List.setIfInBounds_toArray,List.set_cons_succ,List.set_cons_zero,List.getD_cons_zero,List.getD_cons_succ,Nat.zero_add,Nat.reduceAdd]at HK ⊢;generalize S 4=t4 at *;subst h4;go_wp2;exact HK.out _ _ ⟨_,rfl,rfl,Below.refl _ _⟩
      ·cases ho
       have h3:S 3 = .string X:=a1 3 (by kernel_rfl) (by decide)
       have h5:S 5 = .int .i64 (i+1):=a1 5 (by kernel_rfl) (by decide)
       refine uB rfl rfl fun KK a0=>?_
       have HK:=hid a0;clear a0 a1 a2;simp only[uF,Act.put,List.setIfInBounds_toArray,List.set_cons_succ,List.set_cons_zero,List.getD_cons_zero,List.getD_cons_succ,Nat.zero_add,Nat.reduceAdd]at HK ⊢;generalize S 3=t3 at *;subst h3;generalize S 5=t5 at *;subst h5;go_wp2;exact HK.out _ _ ⟨_,rfl,⟨_,rfl,by simp[ByteArray.size_extract];omega⟩,Below.refl _ _⟩
      ·cases ho
       have h2:∃r:ByteArray,(S 2) = .string r∧r.size≤3000:=a1 2 (by kernel_rfl) (by decide)
       have h6:∃r:ByteArray,(S 6) = .string r∧r.size≤3000:=a1 6 (by kernel_rfl) (by decide)
       obtain⟨ra,ea,ha⟩:=h2;obtain⟨rb,eb,hb⟩:=h6;have n3:¬ra.size+rb.size>9223372036854775807:=by omega
       refine uB rfl rfl fun KK a0=>?_
       have HK:=hid a0;clear a0 a1 a2;simp only[uF,Act.put,List.setIfInBounds_toArray,List.set_cons_succ,List.set_cons_zero,List.getD_cons_zero,List.getD_cons_succ,Nat.zero_add,Nat.reduceAdd]at HK ⊢;generalize S 2=t2 at *;subst ea;generalize S 6=t6 at *;subst eb;go_wp2;exact HK.out _ _ ⟨_,rfl,⟨_,rfl,by simp[ByteArray.size_append];omega⟩,Below.refl _ _⟩
      ·exact absurd a2 (by simp)
     ·intro S x f8 hF
      have g0:S 0 = .string X:=hF 0 (by decide)
      have g1:S 1 = .int .i64 i:=hF 1 (by decide)
      have g2:∃r:ByteArray,(S 2) = .string r∧r.size≤3000:=hF 2 (by decide)
      have g3:S 3 = .string X:=hF 3 (by decide)
      have g4:S 4 = .int .i64 i:=hF 4 (by decide)
      have g5:S 5 = .int .i64 (i+1):=hF 5 (by decide)
      have g6:∃r:ByteArray,(S 6) = .string r∧r.size≤3000:=hF 6 (by decide)
      have g7:∃r:ByteArray,(S 7) = .string r∧r.size≤9000:=hF 7 (by decide)
      clear hF;simp only[uF,Act.put,List.setIfInBounds_toArray,List.set_cons_succ,List.set_cons_zero,List.getD_cons_zero,List.getD_cons_succ,Nat.zero_add,Nat.reduceAdd,List.length_cons,List.length_nil,List.drop_succ_cons,List.drop_zero];generalize S 0=t0 at *;subst g0;generalize S 1=t1 at *;subst g1;generalize S 2=t2 at *;generalize S 3=t3 at *;subst g3;generalize S 4=t4 at *;subst g4;generalize S 5=t5 at *;subst g5;generalize S 6=t6 at *;generalize S 7=t7 at *;obtain⟨Y,eY,hY⟩:=g7;subst eY;have f7:=hid (m3.out.trans (f8.mono m3.out.size));clear f8;obtain⟨l,hl⟩:∃l,Y.data.toList=l:=⟨_,rfl⟩;have HL:=hid hl;obtain⟨K,hK⟩:∃K,uzx l=K:=⟨_,rfl⟩;have HK:=hid hK;clear hl hK;have m1:∀ {wa:World} {ee:Ending} {w2:World},CPPost l wa ee w2→∃a3 a4 a6 a5 a7 a9 a8 b0 b2 b1 b3 b6 b5 b7 b9 b8 c0 c2 c1 c3 c5 c4 c6 c8 c7,ee = .returned (.tuple #[.agg #[.bool a3,.slice a4 a6 a5,.slice a7 a9 a8,.slice b0 b2 b1,.slice b3 b6 b5,.slice b7 b9 b8,.slice c0 c2 c1,.slice c3 c5 c4,.slice c6 c8 c7],.int .i64 K])∧Rep w2 (fun _=>True) (ubb NN) [.bool a3,.slice a4 a6 a5,.slice a7 a9 a8,.slice b0 b2 b1,.slice b3 b6 b5,.slice b7 b9 b8,.slice c0 c2 c1,.slice c3 c5 c4,.slice c6 c8 c7] [uut l]∧Below wa.heap.size wa w2:=by
       intro wa ee w2 h;obtain⟨v,rfl,hr,hb⟩:=h.key;obtain⟨a3,a4,a6,a5,a7,a9,a8,b0,b2,b1,b3,b6,b5,b7,b9,b8,c0,c2,c1,c3,c5,c4,c6,c8,c7,rfl⟩:=ud1 hr.ty;exact⟨_,_,_,_,_,_,_,_,_,_,_,_,_,_,_,_,_,_,_,_,_,_,_,_,_,by rw[HK.out],hr,hb⟩
      go_wp2_with fail
      refine(uda _ Y (HG.out.below f7.out)).mono ?_;intro e wq h;rw[HL.out]at h;obtain⟨a3,a4,a6,a5,a7,a9,a8,b0,b2,b1,b3,b6,b5,b7,b9,b8,c0,c2,c1,c3,c5,c4,c6,c8,c7,rfl,hr,hb⟩:=m1 h;have HR:=hid hr;have f5:=hid (f7.out.trans (hb.mono f7.out.size));have HX:=hid (Bk.new wq 34 #[.bool a3,.slice a4 a6 a5,.slice a7 a9 a8,.slice b0 b2 b1,.slice b3 b6 b5,.slice b7 b9 b8,.slice c0 c2 c1,.slice c3 c5 c4,.slice c6 c8 c7]);clear hr hb h;go_wp2_with fail
      refine(un8 _ Y).mono ?_;intro e wr h;rw[HL.out]at h;obtain⟨c9,d0,d2,d1,d3,d5,d4,d6,d8,d7,d9,e1,e0,e2,e5,e3,e6,e8,e7,e9,f1,f0,f2,f4,f3,rfl,hr,hb⟩:=m1 h;have m6:=hid (HR.out.below (((Below.refl wq.heap.size wq).alloc (Nat.le_refl _) (.cells #[.bool a3,.slice a4 a6 a5,.slice a7 a9 a8,.slice b0 b2 b1,.slice b3 b6 b5,.slice b7 b9 b8,.slice c0 c2 c1,.slice c3 c5 c4,.slice c6 c8 c7] 34)).trans (hb.mono (by simp))))
      have f6:=hid ((f5.out.alloc f5.out.size (.cells #[.bool a3,.slice a4 a6 a5,.slice a7 a9 a8,.slice b0 b2 b1,.slice b3 b6 b5,.slice b7 b9 b8,.slice c0 c2 c1,.slice c3 c5 c4,.slice c6 c8 c7] 34)).trans (hb.mono (by have:=f5.out.size;simp;omega)))
      have m8:=hid ((HX.out.below hb HX.out.lt).alloc (.cells #[.bool c9,.slice d0 d2 d1,.slice d3 d5 d4,.slice d6 d8 d7,.slice d9 e1 e0,.slice e2 e5 e3,.slice e6 e8 e7,.slice e9 f1 f0,.slice f2 f4 f3] 34));have m7:=hid hr;obtain⟨o4,_,_⟩:=m8.out.facts;clear hr hb h;go_wp2_with fail
      refine(show Calls _ _ #[.agg #[.bool a3,.slice a4 a6 a5,.slice a7 a9 a8,.slice b0 b2 b1,.slice b3 b6 b5,.slice b7 b9 b8,.slice c0 c2 c1,.slice c3 c5 c4,.slice c6 c8 c7],.agg #[.bool c9,.slice d0 d2 d1,.slice d3 d5 d4,.slice d6 d8 d7,.slice d9 e1 e0,.slice e2 e5 e3,.slice e6 e8 e7,.slice e9 f1 f0,.slice f2 f4 f3]] _ _ from uec _ _ _ [.bool a3,.slice a4 a6 a5,.slice a7 a9 a8,.slice b0 b2 b1,.slice b3 b6 b5,.slice b7 b9 b8,.slice c0 c2 c1,.slice c3 c5 c4,.slice c6 c8 c7] [.bool c9,.slice d0 d2 d1,.slice d3 d5 d4,.slice d6 d8 d7,.slice d9 e1 e0,.slice e2 e5 e3,.slice e6 e8 e7,.slice e9 f1 f0,.slice f2 f4 f3] (uut l) (m6.out.below ((Below.refl wr.heap.size wr).alloc (Nat.le_refl _) _)) (m7.out.below ((Below.refl wr.heap.size wr).alloc (Nat.le_refl _) _)) (ujt l)).mono ?_
      rintro e ws⟨rfl,m2⟩;have m4:=hid ((f6.out.alloc f6.out.size (.cells #[.bool c9,.slice d0 d2 d1,.slice d3 d5 d4,.slice d6 d8 d7,.slice d9 e1 e0,.slice e2 e5 e3,.slice e6 e8 e7,.slice e9 f1 f0,.slice f2 f4 f3] 34)).trans (m2.mono (by have:=f6.out.size;simp;omega)))
      clear m2;go_wp2;go_ret
      exact⟨rfl,m4.out⟩
    ·rename_i z1 z2
     clear z1 z2;refine uv (by kernel_rfl) (by kernel_rfl) [52,53,54,55,56,57,58,59,60,61,62] 3 (by kernel_rfl) (fun io v x=>match io with
      | 0=>v = .string X
      | 1=>v = .int .i64 i
      | 2=>∃r:ByteArray,v = .string r∧r.size≤3000
      | 3=>v = .int .u8 (bb.toNat:Int)
      | 4=>∃n,v = .slice (some ⟨n,0,none⟩) 1 1∧Bk x n 5 #[.int .u8 (bb.toNat:Int)]
      | 5=>∃r:ByteArray,v = .string r∧r.size≤3000
      | 6=>∃r:ByteArray,v = .string r∧r.size≤6000
      | 7=>v = .string X
      | 8=>v = .int .i64 i
      | 9=>∃r:ByteArray,v = .string r∧r.size≤3000
      | _=>∃r:ByteArray,v = .string r∧r.size≤9000) ?_ ?_ ?_
     ·intro io v x x' a2 h hb
      rcases io with _|_|_|_|_|_|_|_|_|_|io
      ·exact h
      ·exact h
      ·exact h
      ·exact h
      ·exact h.imp fun n hn=>⟨hn.1,hn.2.below hb hn.2.lt⟩
      ·exact h
      ·exact h
      ·exact h
      ·exact h
      ·exact h
      ·exact h
     ·intro io oo S x ho a2 f8 a1
      rcases io with _|_|_|_|_|_|_|_|_|_|_|io
      ·cases ho
       refine uB rfl rfl fun KK a0=>?_
       have HK:=hid a0;clear a0 a1 a2;simp only[uF,Act.put,List.setIfInBounds_toArray,List.set_cons_succ,List.set_cons_zero,List.getD_cons_zero,List.getD_cons_succ,Nat.zero_add,Nat.reduceAdd]at HK ⊢;go_wp2;exact HK.out _ _ ⟨_,rfl,rfl,Below.refl _ _⟩
      ·cases ho
       refine uB rfl rfl fun KK a0=>?_
       have HK:=hid a0;clear a0 a1 a2;simp only[uF,Act.put,List.setIfInBounds_toArray,List.set_cons_succ,List.set_cons_zero,List.getD_cons_zero,List.getD_cons_succ,Nat.zero_add,Nat.reduceAdd]at HK ⊢;go_wp2;exact HK.out _ _ ⟨_,rfl,rfl,Below.refl _ _⟩
      ·cases ho
       have h0:S 0 = .string X:=a1 0 (by kernel_rfl) (by decide)
       have h1:S 1 = .int .i64 i:=a1 1 (by kernel_rfl) (by decide)
       refine uB rfl rfl fun KK a0=>?_
       have HK:=hid a0;clear a0 a1 a2;simp only[uF,Act.put,List.setIfInBounds_toArray,List.set_cons_succ,List.set_cons_zero,List.getD_cons_zero,List.getD_cons_succ,Nat.zero_add,Nat.reduceAdd]at HK ⊢;generalize S 0=t0 at *;subst h0;generalize S 1=t1 at *;subst h1;go_wp2;exact HK.out _ _ ⟨_,rfl,⟨_,rfl,by simp[ByteArray.size_extract];omega⟩,Below.refl _ _⟩
      ·cases ho
       refine uB rfl rfl fun KK a0=>?_
       have HK:=hid a0;clear a0 a1 a2;simp only[uF,Act.put,List.setIfInBounds_toArray,List.set_cons_succ,List.set_cons_zero,List.getD_cons_zero,List.getD_cons_succ,Nat.zero_add,Nat.reduceAdd]at HK ⊢;go_wp2;exact HK.out _ _ ⟨_,rfl,rfl,Below.refl _ _⟩
      ·cases ho
       have h3:S 3 = .int .u8 (bb.toNat:Int):=a1 3 (by kernel_rfl) (by decide)
       refine uB rfl rfl fun KK a0=>?_
       have HK:=hid a0;clear a0 a1 a2;simp only[uF,Act.put,List.setIfInBounds_toArray,List.set_cons_succ,List.set_cons_zero,List.getD_cons_zero,List.getD_cons_succ,Nat.zero_add,Nat.reduceAdd]at HK ⊢;generalize S 3=t3 at *;subst h3;go_wp2;exact HK.out _ _ ⟨_,rfl,⟨_,rfl,Bk.new _ _ _⟩,(Below.refl _ _).alloc (Nat.le_refl _) _⟩
      ·cases ho
       have h4:∃n,(S 4) = .slice (some ⟨n,0,none⟩) 1 1∧Bk x n 5 #[.int .u8 (bb.toNat:Int)]:=a1 4 (by kernel_rfl) (by decide)
       obtain⟨n4,e4,b4⟩:=h4;have n8:=run_convert_bytes_back (P:=Tryz.prog) x 44 9 5 ⟨n4,0,none⟩ 1 [bb] Tryz.underlying44 Tryz.underlying5 Tryz.underlying9 (fun j hj=>by have h0:j=0:=(by simp at hj;omega);subst h0;rw[Addr.add_lit,Nat.zero_add,b4.cell 0];rfl)
       simp only[List.length_cons,List.length_nil,Nat.zero_add]at n8;refine uB rfl rfl fun KK a0=>?_
       have HK:=hid a0;clear a0 a1 a2;simp only[uF,Act.put,List.setIfInBounds_toArray,List.set_cons_succ,List.set_cons_zero,List.getD_cons_zero,List.getD_cons_succ,Nat.zero_add,Nat.reduceAdd]at HK ⊢;generalize S 4=t4 at *;subst e4;go_wp2;exact HK.out _ _ ⟨_,rfl,⟨_,rfl,show(1:Nat)≤3000 by omega⟩,Below.refl _ _⟩
      ·cases ho
       have h2:∃r:ByteArray,(S 2) = .string r∧r.size≤3000:=a1 2 (by kernel_rfl) (by decide)
       have h5:∃r:ByteArray,(S 5) = .string r∧r.size≤3000:=a1 5 (by kernel_rfl) (by decide)
       obtain⟨ra,ea,ha⟩:=h2;obtain⟨rb,eb,hb⟩:=h5;have n3:¬ra.size+rb.size>9223372036854775807:=by omega
       refine uB rfl rfl fun KK a0=>?_
       have HK:=hid a0;clear a0 a1 a2;simp only[uF,Act.put,List.setIfInBounds_toArray,List.set_cons_succ,List.set_cons_zero,List.getD_cons_zero,List.getD_cons_succ,Nat.zero_add,Nat.reduceAdd]at HK ⊢;generalize S 2=t2 at *;subst ea;generalize S 5=t5 at *;subst eb;go_wp2;exact HK.out _ _ ⟨_,rfl,⟨_,rfl,by simp[ByteArray.size_append];omega⟩,Below.refl _ _⟩
      ·cases ho
       refine uB rfl rfl fun KK a0=>?_
       have HK:=hid a0;clear a0 a1 a2;simp only[uF,Act.put,List.setIfInBounds_toArray,List.set_cons_succ,List.set_cons_zero,List.getD_cons_zero,List.getD_cons_succ,Nat.zero_add,Nat.reduceAdd]at HK ⊢;go_wp2;exact HK.out _ _ ⟨_,rfl,rfl,Below.refl _ _⟩
      ·cases ho
       refine uB rfl rfl fun KK a0=>?_
       have HK:=hid a0;clear a0 a1 a2;simp only[uF,Act.put,List.setIfInBounds_toArray,List.set_cons_succ,List.set_cons_zero,List.getD_cons_zero,List.getD_cons_succ,Nat.zero_add,Nat.reduceAdd]at HK ⊢;go_wp2;exact HK.out _ _ ⟨_,rfl,rfl,Below.refl _ _⟩
      ·cases ho
       have h7:S 7 = .string X:=a1 7 (by kernel_rfl) (by decide)
       have h8:S 8 = .int .i64 i:=a1 8 (by kernel_rfl) (by decide)
       refine uB rfl rfl fun KK a0=>?_
       have HK:=hid a0;clear a0 a1 a2;simp only[uF,Act.put,List.setIfInBounds_toArray,List.set_cons_succ,List.set_cons_zero,List.getD_cons_zero,List.getD_cons_succ,Nat.zero_add,Nat.reduceAdd]at HK ⊢;generalize S 7=t7 at *;subst h7;generalize S 8=t8 at *;subst h8;go_wp2;exact HK.out _ _ ⟨_,rfl,⟨_,rfl,by simp[ByteArray.size_extract];omega⟩,Below.refl _ _⟩
      ·cases ho
       have h6:∃r:ByteArray,(S 6) = .string r∧r.size≤6000:=a1 6 (by kernel_rfl) (by decide)
       have h9:∃r:ByteArray,(S 9) = .string r∧r.size≤3000:=a1 9 (by kernel_rfl) (by decide)
       obtain⟨ra,ea,ha⟩:=h6;obtain⟨rb,eb,hb⟩:=h9;have n3:¬ra.size+rb.size>9223372036854775807:=by omega
       refine uB rfl rfl fun KK a0=>?_
       have HK:=hid a0;clear a0 a1 a2;simp only[uF,Act.put,List.setIfInBounds_toArray,List.set_cons_succ,List.set_cons_zero,List.getD_cons_zero,List.getD_cons_succ,Nat.zero_add,Nat.reduceAdd]at HK ⊢;generalize S 6=t6 at *;subst ea;generalize S 9=t9 at *;subst eb;go_wp2;exact HK.out _ _ ⟨_,rfl,⟨_,rfl,by simp[ByteArray.size_append];omega⟩,Below.refl _ _⟩
      ·exact absurd a2 (by simp)
     ·intro S x f8 hF
      have g0:S 0 = .string X:=hF 0 (by decide)
      have g1:S 1 = .int .i64 i:=hF 1 (by decide)
      have g2:∃r:ByteArray,(S 2) = .string r∧r.size≤3000:=hF 2 (by decide)
      have g3:S 3 = .int .u8 (bb.toNat:Int):=hF 3 (by decide)
      have g4:∃n,(S 4) = .slice (some ⟨n,0,none⟩) 1 1∧Bk x n 5 #[.int .u8 (bb.toNat:Int)]:=hF 4 (by decide)
      have g5:∃r:ByteArray,(S 5) = .string r∧r.size≤3000:=hF 5 (by decide)
      have g6:∃r:ByteArray,(S 6) = .string r∧r.size≤6000:=hF 6 (by decide)
      have g7:S 7 = .string X:=hF 7 (by decide)
      have g8:S 8 = .int .i64 i:=hF 8 (by decide)
      have g9:∃r:ByteArray,(S 9) = .string r∧r.size≤3000:=hF 9 (by decide)
      have o2:∃r:ByteArray,(S 10) = .string r∧r.size≤9000:=hF 10 (by decide)
      clear hF;simp only[uF,Act.put,List.setIfInBounds_toArray,List.set_cons_succ,List.set_cons_zero,List.getD_cons_zero,List.getD_cons_succ,Nat.zero_add,Nat.reduceAdd,List.length_cons,List.length_nil,List.drop_succ_cons,List.drop_zero];generalize S 0=t0 at *;subst g0;generalize S 1=t1 at *;subst g1;generalize S 2=t2 at *;generalize S 3=t3 at *;subst g3;generalize S 4=t4 at *;generalize S 5=t5 at *;generalize S 6=t6 at *;generalize S 7=t7 at *;subst g7;generalize S 8=t8 at *;subst g8;generalize S 9=t9 at *;generalize S 10=t10 at *;obtain⟨Y,eY,hY⟩:=o2;subst eY;have f7:=hid (m3.out.trans (f8.mono m3.out.size));clear f8;obtain⟨l,hl⟩:∃l,Y.data.toList=l:=⟨_,rfl⟩;have HL:=hid hl;obtain⟨K,hK⟩:∃K,uzx l=K:=⟨_,rfl⟩;have HK:=hid hK;clear hl hK;have m1:∀ {wa:World} {ee:Ending} {w2:World},CPPost l wa ee w2→∃a3 a4 a6 a5 a7 a9 a8 b0 b2 b1 b3 b6 b5 b7 b9 b8 c0 c2 c1 c3 c5 c4 c6 c8 c7,ee = .returned (.tuple #[.agg #[.bool a3,.slice a4 a6 a5,.slice a7 a9 a8,.slice b0 b2 b1,.slice b3 b6 b5,.slice b7 b9 b8,.slice c0 c2 c1,.slice c3 c5 c4,.slice c6 c8 c7],.int .i64 K])∧Rep w2 (fun _=>True) (ubb NN) [.bool a3,.slice a4 a6 a5,.slice a7 a9 a8,.slice b0 b2 b1,.slice b3 b6 b5,.slice b7 b9 b8,.slice c0 c2 c1,.slice c3 c5 c4,.slice c6 c8 c7] [uut l]∧Below wa.heap.size wa w2:=by
       intro wa ee w2 h;obtain⟨v,rfl,hr,hb⟩:=h.key;obtain⟨a3,a4,a6,a5,a7,a9,a8,b0,b2,b1,b3,b6,b5,b7,b9,b8,c0,c2,c1,c3,c5,c4,c6,c8,c7,rfl⟩:=ud1 hr.ty;exact⟨_,_,_,_,_,_,_,_,_,_,_,_,_,_,_,_,_,_,_,_,_,_,_,_,_,by rw[HK.out],hr,hb⟩
      go_wp2_with fail
      refine(uda _ Y (HG.out.below f7.out)).mono ?_;intro e wq h;rw[HL.out]at h;obtain⟨a3,a4,a6,a5,a7,a9,a8,b0,b2,b1,b3,b6,b5,b7,b9,b8,c0,c2,c1,c3,c5,c4,c6,c8,c7,rfl,hr,hb⟩:=m1 h;have HR:=hid hr;have f5:=hid (f7.out.trans (hb.mono f7.out.size));have HX:=hid (Bk.new wq 34 #[.bool a3,.slice a4 a6 a5,.slice a7 a9 a8,.slice b0 b2 b1,.slice b3 b6 b5,.slice b7 b9 b8,.slice c0 c2 c1,.slice c3 c5 c4,.slice c6 c8 c7]);clear hr hb h;go_wp2_with fail
      refine(un8 _ Y).mono ?_;intro e wr h;rw[HL.out]at h;obtain⟨c9,d0,d2,d1,d3,d5,d4,d6,d8,d7,d9,e1,e0,e2,e5,e3,e6,e8,e7,e9,f1,f0,f2,f4,f3,rfl,hr,hb⟩:=m1 h;have m6:=hid (HR.out.below (((Below.refl wq.heap.size wq).alloc (Nat.le_refl _) (.cells #[.bool a3,.slice a4 a6 a5,.slice a7 a9 a8,.slice b0 b2 b1,.slice b3 b6 b5,.slice b7 b9 b8,.slice c0 c2 c1,.slice c3 c5 c4,.slice c6 c8 c7] 34)).trans (hb.mono (by simp))))
      have f6:=hid ((f5.out.alloc f5.out.size (.cells #[.bool a3,.slice a4 a6 a5,.slice a7 a9 a8,.slice b0 b2 b1,.slice b3 b6 b5,.slice b7 b9 b8,.slice c0 c2 c1,.slice c3 c5 c4,.slice c6 c8 c7] 34)).trans (hb.mono (by have:=f5.out.size;simp;omega)))
      have m8:=hid ((HX.out.below hb HX.out.lt).alloc (.cells #[.bool c9,.slice d0 d2 d1,.slice d3 d5 d4,.slice d6 d8 d7,.slice d9 e1 e0,.slice e2 e5 e3,.slice e6 e8 e7,.slice e9 f1 f0,.slice f2 f4 f3] 34));have m7:=hid hr;obtain⟨o4,_,_⟩:=m8.out.facts;clear hr hb h;go_wp2_with fail
      refine(show Calls _ _ #[.agg #[.bool a3,.slice a4 a6 a5,.slice a7 a9 a8,.slice b0 b2 b1,.slice b3 b6 b5,.slice b7 b9 b8,.slice c0 c2 c1,.slice c3 c5 c4,.slice c6 c8 c7],.agg #[.bool c9,.slice d0 d2 d1,.slice d3 d5 d4,.slice d6 d8 d7,.slice d9 e1 e0,.slice e2 e5 e3,.slice e6 e8 e7,.slice e9 f1 f0,.slice f2 f4 f3]] _ _ from uec _ _ _ [.bool a3,.slice a4 a6 a5,.slice a7 a9 a8,.slice b0 b2 b1,.slice b3 b6 b5,.slice b7 b9 b8,.slice c0 c2 c1,.slice c3 c5 c4,.slice c6 c8 c7] [.bool c9,.slice d0 d2 d1,.slice d3 d5 d4,.slice d6 d8 d7,.slice d9 e1 e0,.slice e2 e5 e3,.slice e6 e8 e7,.slice e9 f1 f0,.slice f2 f4 f3] (uut l) (m6.out.below ((Below.refl wr.heap.size wr).alloc (Nat.le_refl _) _)) (m7.out.below ((Below.refl wr.heap.size wr).alloc (Nat.le_refl _) _)) (ujt l)).mono ?_
      rintro e ws⟨rfl,m2⟩;have m4:=hid ((f6.out.alloc f6.out.size (.cells #[.bool c9,.slice d0 d2 d1,.slice d3 d5 d4,.slice d6 d8 d7,.slice d9 e1 e0,.slice e2 e5 e3,.slice e6 e8 e7,.slice e9 f1 f0,.slice f2 f4 f3] 34)).trans (m2.mono (by have:=f6.out.size;simp;omega)))
      clear m2;go_wp2;go_ret
      exact⟨rfl,m4.out⟩
  ·have m5:=hid hl
   clear hl;go_wp2_with fail
   refine(show Calls _ _ #[.agg #[.bool f9,.slice j0 j2 j1,.slice j3 j5 j4,.slice j6 j8 j7,.slice j9 k7 k6,.slice k8 l0 k9,.slice l1 l3 l2,.slice l4 l6 l5,.slice l7 l9 l8]] _ _ from ue7 n _ D [.bool f9,.slice j0 j2 j1,.slice j3 j5 j4,.slice j6 j8 j7,.slice j9 k7 k6,.slice k8 l0 k9,.slice l1 l3 l2,.slice l4 l6 l5,.slice l7 l9 l8] t (HT.out.1.below m0.out) o1.out).mono ?_
   rintro e w3⟨rfl,n0⟩;rw[if_neg m5.out,if_neg m5.out];have o7:=hid (m0.out.trans (n0.mono m0.out.size));clear n0 o3;go_wp2;go_ret
   exact⟨rfl,o7.out⟩
theorem urr(n:Nat)(w:World)(D:Nat→Prop)(cs:Array Value)(t:List UInt8)(a7:Rep w D (uj2 n) cs.toList [t])(at_ a0 b:Int)(a1:0≤at_)(a2:at_≤65535)(a5:0≤a0)(a6:a0≤255)(a3:0≤b)(a4:b≤255)(hg:Gl w) :
 Calls Tryz.prog 4 #[.agg cs,.int .u16 at_,.int .u8 a0,.int .u8 b] w (ujs w):=by
 have:=urq n w D cs.toList t a7 at_ a0 b a1 a2 a5 a6 a3 a4 hg;simpa using this
end Go.Proofs.YtellcholbkoakaaGreatDoor
/-
  A text that differs in one byte from that of a certificate of few parts is accepted or refused as by the reference, and the certificates have equal texts: the law CodecSpoilt returns true for every certificate, place, way and byte, and leaves its arguments as they were.
  Conditions: the listed package-level variables hold what the program's text lays (the card ties them).
-/
namespace Go.Proofs.YtellcholbkoakaaGreatDoor.codecSpoiltDone
open Go.ChangeShapes Go.WideShapes Go.ChangeAt Go.RowKit AC
open Go.ChangeMaps (open_string shut_string)
set_option linter.unusedVariables false
set_option linter.unusedSimpArgs false
set_option maxRecDepth 100000 in
theorem lifted(os:Os)(started:os.Started)(H:Type)(enc:TypeId×Value→H) :
 ReturnsInHanded {} Tryz.checked os 4 .any (fun w args=>(Rows.codecSpoiltSpec.pre enc Tryz.prog Tryz.f4 [] false w args∧laidMetH Tryz.prog laidL w)∧sizedMet enc Tryz.prog Tryz.f4 (OpenSpec.ofChange Rows.codecSpoiltSpec) false w args)
  (Rows.codecSpoiltSpec.post enc Tryz.prog Tryz.f4 false true false false):=by
 refine uge (C:=Tryz.checked) (X:=fun w _=>laidMetH Tryz.prog laidL w) (fun _ _ _ hh h=>h.of_heap hh) own started (by kernel_rfl) Tryz.func4
  (ChangeSpec.witness_at (enc:=enc) (C:=Tryz.checked) (os:=os) (X:=fun w _=>laidMetH Tryz.prog laidL w) false (World.laidAll Tryz.prog os laidL) #[.agg #[.bool false,.slice none 0 0,.slice none 0 0,.slice none 0 0,.slice none 0 0,.slice none 0 0,.slice none 0 0,.slice none 0 0,.slice none 0 0],.int .u16 0,.int .u8 0,.int .u8 0] 8 (World.laidAll_os _ _ _) (by kernel_rfl) (by kernel_rfl) (by kernel_rfl) (by kernel_rfl) (by kernel_rfl) (met os _)) ?_
 intro W base args ds gs before hval0 hW hsz hL hsh;have hval:∀(j:Nat) t v,Tryz.f4.params[j]? = some t→args[j]? = some v→Value.okWide Tryz.prog W .any base t v:=hval0;have hW':=hW;obtain⟨p,q,hA0,hV,rfl,_,_⟩:=hW;have hA:DataW.TrodAll enc Tryz.prog W 0 (fun _=>true) true Tryz.f4.params.toList args.toList ds p:=hA0
 rw[Tryz.params4]at hA hval;obtain⟨v0,v1,v2,v3,d0,d1,d2,d3,p0,p1,p2,p3,rfl,rfl,rfl,h0,h1,h2,h3⟩:=trodAll_four hA;obtain⟨rfl,rfl⟩:=trodVars_none hV;obtain⟨cs,rfl,_⟩:=okWide_struct Tryz.underlying34 (hval 0 34 v0 rfl rfl);obtain⟨a1,rfl,rfl,rfl,wa⟩:=open_int Tryz.underlying40 (hval 1 40 v1 rfl rfl) h1;obtain⟨a2,rfl,rfl,rfl,wb⟩:=open_int Tryz.underlying5 (hval 2 5 v2 rfl rfl) h2;obtain⟨a3,rfl,rfl,rfl,wc⟩:=open_int Tryz.underlying5 (hval 3 5 v3 rfl rfl) h3;have bda:0≤a1∧a1≤65535:=by have e1:IntKind.u16.min=0:=rfl;have e2:IntKind.u16.max=65535:=rfl;simp[Lit.wf,e1,e2]at wa;omega
 have bdb:0≤a2∧a2≤255:=by have e1:IntKind.u8.min=0:=rfl;have e2:IntKind.u8.max=255:=rfl;simp[Lit.wf,e1,e2]at wb;omega
 have bdc:0≤a3∧a3≤255:=by have e1:IntKind.u8.min=0:=rfl;have e2:IntKind.u8.max=255:=rfl;simp[Lit.wf,e1,e2]at wc;omega
 have k0:=h0;have lt0:∀x∈p0,x.block<W.heap.size:=by obtain⟨m,hm⟩:=k0;exact DataW.trod_lt m _ _ _ hm
 obtain⟨N,t,hrep⟩:=us6 h0;have hcs:(Value.agg cs).cells.toList=cs.toList:=rfl;rw[hcs]at hrep;simp only[List.append_nil]at hW';have hgl:=uz2 hL hsh;clear hA0 hval0;refine(urr N W _ cs t hrep a1 a2 a3 bda.1 bda.2 bdb.1 bdb.2 bdc.1 bdc.2 hgl).mono fun e W' ⟨he,bel⟩=>?_
 subst he;exact⟨_,rfl,_,_,_,[],_,[],hW',trodAll_mk1 (shut_bool Tryz.underlying4 _),(trodAll_mk4 (Below.trod (show laidOutB Tryz.prog=true by kernel_rfl) (by kernel_rfl) (of_decide_eq_true (by kernel_rfl)) k0 bel lt0) (shut_int Tryz.underlying40 wa) (shut_int Tryz.underlying5 wb) (shut_int Tryz.underlying5 wc)),rfl,bel.frame _,fun h=>by cases h⟩
end Go.Proofs.YtellcholbkoakaaGreatDoor.codecSpoiltDone
/-
  A text that differs in one byte from that of a certificate of few parts is accepted or refused as by the reference, and the certificates have equal texts: the law CodecSpoilt returns true for every certificate, place, way and byte, and leaves its arguments as they were.
  Conditions: the listed package-level variables hold what the program's text lays (the card ties them).
-/
namespace Go.Proofs.YtellcholbkoakaaGreatDoor.codecSpoiltDone
open Go.ChangeShapes Go.WideShapes Go.ChangeAt Go.RowKit AC
open Go.ChangeMaps (open_string shut_string)
set_option linter.unusedVariables false
set_option linter.unusedSimpArgs false
theorem over:Rows.codecSpoiltRow.holds Tryz.pinned (OpenSpec.ofChange Rows.codecSpoiltSpec):=
 OpenClaim.holds_of_wide 4 Tryz.f4 rfl rfl rfl rfl rfl rfl rfl ⟨rfl,rfl,rfl,rfl,rfl⟩ rfl rfl rfl rfl rfl (by kernel_rfl) Tryz.func4 closed
  (of_decide_eq_true (by kernel_rfl)) (by unfold Func.isWrapper;first|(rw[if_pos (by decide +kernel)];kernel_rfl)|(rw[if_neg (by decide +kernel)];exact⟨rfl,rfl⟩))
  (fun os started H enc _=>lifted os started H enc)
end Go.Proofs.YtellcholbkoakaaGreatDoor.codecSpoiltDone
