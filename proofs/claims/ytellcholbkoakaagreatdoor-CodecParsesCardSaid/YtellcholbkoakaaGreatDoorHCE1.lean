/-
 The reader: lists,all by one proof: the code of one list,with other types.
-/
import Derived.Test.YtellcholbkoakaaGreatDoorHCRa
import Derived.Great.BuildSlice
namespace Go.Proofs.YtellcholbkoakaaGreatDoor
open Go.Lib (hid)
open Go.RowKit AC
set_option linter.unusedVariables false
set_option linter.unusedSimpArgs false
def mOp(m:Nat→Nat):Op→Op
 | .load t a=> .load (m t) a
 | .store t a v=> .store (m t) a v
 | .alloc t=> .alloc (m t)
 | .buildSlice t n p=> .buildSlice (m t) n p
 | .indexAddr t x i=> .indexAddr (m t) x i
 | .call c=> .call { c with argTypes:=c.argTypes.map m }
 | o=>o
def mOper(m:Nat→Nat)(o:Oper):Oper:= { o with op:=mOp m o.op,type:=m o.type }
def mCode(m:Nat→Nat):Code→Code
 | .region i ops d=> .region i (ops.map (mOper m)) d
 | .seq a b=> .seq (mCode m a) (mCode m b)
 | .cond c a b=> .cond c (mCode m a) (mCode m b)
 | .block i b=> .block i (mCode m b)
 | .loop b=> .loop (mCode m b)
 | c=>c
def elM(ts te tf t:Nat):Nat:=if t=65 then te else if t=31 then ts else if t=66 then tf else t
def elC(f:Func)(ts te tf:Nat):Option Code:=f.body.map (mCode (elM ts te tf))
def plain:Shape→Bool
 | .fin=>false
 | .and _ _=>false
 | .no s=>plain s
 | _=>true
theorem plain_one:∀ {s:Shape},plain s=true→s.one=true
 | .int,_=>rfl
 | .bool,_=>rfl
 | .rat,_=>rfl
 | .big,_=>rfl
 | .st _,_=>rfl
 | .list _,_=>rfl
 | .no _,_=>rfl
theorem Ty.cells:∀ {s:Shape} {l:List Value},plain s=true→Ty s l→(valOf s l).cells.toList=l
 | .int,_,_,⟨_,rfl,_⟩=>rfl
 | .bool,_,_,⟨_,rfl⟩=>rfl
 | .rat,_,_,_=>rfl
 | .big,_,_,_=>rfl
 | .st _,_,_,_=>rfl
 | .list _,_,_,⟨_,_,_,rfl⟩=>rfl
 | .no s,_,h,h1=>Ty.cells (s:=s) h h1
theorem wpList_one{ops:Array Oper}{rest:List Oper}{op:Oper}{a:Act}{w:World}{Q:Exit→Act→World→Prop}(hg:op.guard=none)(t e:TypeId)(x:Operand)(ho:op.op = .buildSlice t 1 #[(0,x)])
 (ht:Tryz.prog.underlying t=some (.slice e)) (sz bytes:Nat) (hinfo:(Tryz.prog.info? e).map (fun i=>(i.size,i.bytes,i.zero.map fun z=>z.cells.size))=some (sz,bytes,some sz)) (hz:0<sz) (hsm:sz≤4096)
 (v:List Value) (u:Value) (hx:a.eval x=u) (hu:u.cells.toList=v) (hv:v.length=sz)
 (h:wpList Tryz.prog ops Q rest (a.put op.dst (.slice (some ⟨w.heap.size,0,none⟩) 1 1)) (w.alloc (.cells v.toArray e))):wpList Tryz.prog ops Q (op::rest) a w:=by
 obtain⟨i,hi,hzz⟩:=Option.map_eq_some_iff.1 hinfo;simp only[Prod.mk.injEq]at hzz;obtain⟨hsize,_,hzero⟩:=hzz;obtain⟨z,hz0,hzc⟩:=Option.map_eq_some_iff.1 hzero;refine wpList_buildSlice hg t e 1 _ ho v.toArray i z ht hi hz0 (by rw[hsize];omega) (by rw[hsize];omega) ?_ h
 rw[hsize];have hc:u.cells.size=sz:=by rw[←hv,←hu];rfl
 have:=Great.fill_whole (s:=sz) hz [u] ((Array.range (1*sz)).map (z.cells[· % z.cells.size]!)) (by intro v hv;simp at hv;subst hv;exact hc) (by simp)
 simpa[hx,hu]using this
def ElAny(F:FuncId)(s:Shape):Prop:=∀(L:Nat) (g:FuncId) (fi ca:Array Value) (w:World) (br:Nat) (str:ByteArray) (o:Option (List UInt8)) (h:Rst w br str o) (hL:∀r,o=some r→r.length≤L) (hel:ElR g (fi++ca) s L br str w),Calls Tryz.prog F #[.pointer (some ⟨br,0,none⟩),.func (.func g) fi ca] w (RPost (.list s) br str o w)
set_option maxHeartbeats 4000000 in
set_option maxRecDepth 100000 in
theorem el_any{F:FuncId}{fn:Func}{ts te tf:Nat}(hf:Tryz.prog.funcs[F]? = some fn)(hb:fn.body=elC Tryz.f42 ts te tf)(hn:fn.ntmps=31)(hres:fn.results = #[.tmp 4])
 {s:Shape} (sz by_:Nat) (a0:sz≤4096) (hts:Tryz.prog.underlying ts=some (.slice te)) (hinfo:(Tryz.prog.info? te).map (fun i=>(i.size,i.bytes,i.zero.map fun z=>z.cells.size))=some (sz,by_,some sz)) (hz:0<sz) (hby:by_≤4096) (hsz:Shape.sz s=sz) (hpl:plain s=true) :
 ElAny F s:=by
 intro L g fi ca w br str o h hL hel;have hone:=plain_one hpl;obtain⟨he,hel⟩:=hel;unfold Enters at he;have hlt:=h.lt;have HR:=hid h;have HL:=hid hL;have HE:=hid hel;clear h hL hel;have h0:Tryz.f42.body=some _:=rfl;rw[elC,h0,Option.map_some]at hb;clear h0;simp only[mCode,mOper,mOp,List.map_toArray,List.map_cons,List.map_nil,elM,reduceIte,Nat.reduceEqDiff]at hb;refine calls_of_wp hf hb ?_;simp only[hn,List.size_toArray,List.length_cons,List.length_nil,Nat.reduceAdd,Nat.reduceSub,Array.replicate_succ,
  Array.replicate_zero,List.push_toArray,List.append_toArray,List.nil_append,List.cons_append]
 clear hb;go_wp2_with fail
 refine(rsign_any _ br str o 40 40 rfl HR.out).mono ?_;rintro e w1⟨rfl,hr1,hf1⟩;have I0:=EInv.start (s:=s) (e:=te) HR.out hr1 hf1;have HI0:=hid I0;clear I0 hr1 hf1;go_wp2;go_loopw [5] (fun lv wr=>∃(n':Nat) (o':Option (List UInt8)),Hid (EInv s te br str o w lv n' o' wr)) (fun lv _=>262146-lenOf lv)
 case atStart=>exact⟨0,_,HI0⟩
 case round=>
  obtain⟨n',o',hI⟩:=hrel;clear HI0;obtain⟨A,c,rfl,hnc,hcm⟩:=hI.out.form;have hsm:=hI.out.small;have c2:=hI.out.rst.cell;unfold maxLen at hcm;cases o' with
  | none=>
   go_wp2_with fail
   refine(rsign_any _ br str none 41 41 rfl hI.out.rst).mono ?_;rintro e w2⟨rfl,hr2,hf2⟩;go_wp2
   (try simp only[Exit.inBlock,Exit.then])
   refine bodyPost_ret (results_tmp hres _ _ _) rfl ?_;exact EInv.last hlt hI.out (.inl rfl) hr2 hf2
  | some r0=>
   cases ha:isAt 41 (some r0)with
   | true=>
    have HA:=hid ha;clear ha;go_wp2_with fail
    refine(rat_any _ br str (some r0) 41 41 rfl hI.out.rst).mono ?_;rintro e w2⟨rfl,q,rfl⟩;rw[HA.out];go_wp2_with fail
    refine(rsign_any _ br str (some r0) 41 41 rfl (hI.out.rst.drewN q)).mono ?_;rintro e w2⟨rfl,hr2,hf2⟩;go_wp2
    (try simp only[Exit.inBlock,Exit.then])
    refine bodyPost_ret (results_tmp hres _ _ _) rfl ?_;exact EInv.last hlt hI.out ((EInv.at hI.out).1 HA.out) hr2 (((Fr.refl _ _).drewN q).trans hf2)
   | false=>
    have HA:=hid ha;clear ha;have hnat:=(EInv.at hI.out).2 HA.out r0 rfl;have HN:=hid hnat;clear hnat;by_cases hn':n'=0
    ·subst hn'
     go_wp2_with fail
     refine(rat_any _ br str (some r0) 41 41 rfl hI.out.rst).mono ?_;rintro e w2⟨rfl,q,rfl⟩;rw[HA.out];go_wp2_with fail
     refine(HE.out _ (some r0) ((hI.out.fr).drewN q) (hI.out.rst.drewN q) (fun r hr=>hI.out.limit HL.out hr)).mono ?_
     rintro e w3⟨v,rfl,hty,hst,hf,htx⟩;obtain⟨xs,hown⟩:=hI.out.own hlt (((Fr.refl _ _).drewN q).trans hf);have hw3:w.heap.size≤w3.heap.size:=(hI.out.fr.trans (((Fr.refl _ _).drewN q).trans hf)).size;have hu:=Ty.cells hpl hty;have hlen:=hty.len;obtain⟨u,hue⟩:∃u,valOf s v=u:=⟨_,rfl⟩;rw[hue]at hu ⊢;clear hue;have HTY:=hid hty;have HST:=hid hst;have HFF:=hid hf;have HTX:=hid htx;clear hty hst hf htx;rw[hsz]at hown hlen;have HU:=hid hu;clear hu;go_wp2_with (first|refine wpList_one rfl ts te (.tmp 25) rfl hts sz by_ hinfo hz a0 v u rfl HU.out hlen ?_|(at_builtin;refine wpList_pushS w3 rfl _ _ ts te rfl hts sz by_ hinfo hz hby w.heap.size _ 0 xs v (by rfl) hown (by rfl) hlen HTY.out.one (by omega) hw3 ?_))
     intro g' cap w4 hown' hg hgb hglt;rw[←hsz]at hown hown';have HI2:=hid (EInv.next hone hlt hI.out HN.out ((Fr.refl _ _).drewN q) rfl HTY.out HST.out HFF.out HTX.out hown hown' hg hgb hglt);have a1:=HI2.out.small;clear hown' hg hgb hglt hown;go_wp2;go_roundw
     case rel=>exact⟨_,_,HI2⟩
     case measure=>simp[lenOf]
    ·have hkp:decide (0<n')=true:=by simp;omega
     have hn0:0<n':=by omega
     go_wp2_with fail
     refine(rat_any _ br str (some r0) 41 41 rfl hI.out.rst).mono ?_;rintro e w2⟨rfl,q,rfl⟩;rw[HA.out];go_wp2_with fail
     refine(rsign_any _ br str (some r0) 32 32 rfl (hI.out.rst.drewN q)).mono ?_;rintro e w2⟨rfl,hr2,hf2⟩;have HR2:=hid hr2;have HF2:=hid (((Fr.refl _ _).drewN q).trans hf2);clear hr2 hf2;go_wp2_with fail
     refine(HE.out _ (want 32 (some r0)) ((hI.out.fr).trans HF2.out) HR2.out (fun r hr=>hI.out.limit HL.out (by rw[if_neg hn'];exact hr))).mono ?_
     rintro e w3⟨v,rfl,hty,hst,hf,htx⟩;obtain⟨xs,hown⟩:=hI.out.own hlt (HF2.out.trans hf);have hw3:w.heap.size≤w3.heap.size:=(hI.out.fr.trans (HF2.out.trans hf)).size;have hu:=Ty.cells hpl hty;have hlen:=hty.len;obtain⟨u,hue⟩:∃u,valOf s v=u:=⟨_,rfl⟩;rw[hue]at hu ⊢;clear hue;have HTY:=hid hty;have HST:=hid hst;have HFF:=hid hf;have HTX:=hid htx;clear hty hst hf htx;rw[hsz]at hown hlen;have HU:=hid hu;clear hu;go_wp2_with (first|refine wpList_one rfl ts te (.tmp 25) rfl hts sz by_ hinfo hz a0 v u rfl HU.out hlen ?_|(at_builtin;refine wpList_pushS w3 rfl _ _ ts te rfl hts sz by_ hinfo hz hby w.heap.size _ n' xs v (by rfl) hown (by rfl) hlen HTY.out.one (by omega) hw3 ?_))
     intro g' cap w4 hown' hg hgb hglt;rw[←hsz]at hown hown';have HI2:=hid (EInv.next hone hlt hI.out HN.out HF2.out (if_neg hn') HTY.out HST.out HFF.out HTX.out hown hown' hg hgb hglt);have a1:=HI2.out.small;clear hown' hg hgb hglt hown;go_wp2;go_roundw
     case rel=>exact⟨_,_,HI2⟩
     case measure=>simp[lenOf];omega
theorem el_int64:ElAny 183 .int:=el_any (ts:=23) (te:=2) (tf:=111) Tryz.func183 (by kernel_rfl) rfl rfl 1 8 (by decide) Tryz.underlying23 (by kernel_rfl) (by decide) (by decide) rfl rfl
theorem el_int:ElAny 189 .int:=el_any (ts:=61) (te:=3) (tf:=69) Tryz.func189 (by kernel_rfl) rfl rfl 1 8 (by decide) Tryz.underlying61 (by kernel_rfl) (by decide) (by decide) rfl rfl
theorem el_rat:ElAny 205 .rat:=el_any (ts:=62) (te:=76) (tf:=185) Tryz.func205 (by kernel_rfl) rfl rfl 3 56 (by decide) Tryz.underlying62 (by kernel_rfl) (by decide) (by decide) rfl rfl
theorem el_l_int:ElAny 98 (.list .int):=el_any (ts:=27) (te:=61) (tf:=120) Tryz.func98 (by kernel_rfl) rfl rfl 1 24 (by decide) Tryz.underlying27 (by kernel_rfl) (by decide) (by decide) rfl rfl
theorem el_l_axiomUse(n:Nat):ElAny 123 (.list (axuS n)):=el_any (ts:=63) (te:=90) (tf:=180) Tryz.func123 (by kernel_rfl) rfl rfl 1 24 (by decide) Tryz.underlying63 (by kernel_rfl) (by decide) (by decide) rfl rfl
theorem el_linTerm:ElAny 187 linTermS:=el_any (ts:=146) (te:=219) (tf:=220) Tryz.func187 (by kernel_rfl) rfl rfl 2 16 (by decide) Tryz.underlying146 (by kernel_rfl) (by decide) (by decide) sz_linTerm rfl
theorem el_lin:ElAny 94 linS:=el_any (ts:=103) (te:=148) (tf:=167) Tryz.func94 (by kernel_rfl) rfl rfl 2 32 (by decide) Tryz.underlying103 (by kernel_rfl) (by decide) (by decide) sz_lin rfl
theorem el_relation:ElAny 37 relationS:=el_any (ts:=26) (te:=105) (tf:=106) Tryz.func37 (by kernel_rfl) rfl rfl 2 48 (by decide) Tryz.underlying26 (by kernel_rfl) (by decide) (by decide) sz_relation rfl
theorem el_typ(n:Nat):ElAny 264 (typS n):=el_any (ts:=114) (te:=116) (tf:=119) Tryz.func264 (by kernel_rfl) rfl rfl 3 40 (by decide) Tryz.underlying114 (by kernel_rfl) (by decide) (by decide) sz_typ (by cases n<;>rfl)
theorem el_store(n:Nat):ElAny 102 (storeS n):=el_any (ts:=28) (te:=118) (tf:=170) Tryz.func102 (by kernel_rfl) rfl rfl 4 64 (by decide) Tryz.underlying28 (by kernel_rfl) (by decide) (by decide) sz_store rfl
theorem el_index(n:Nat):ElAny 355 (indexS n):=el_any (ts:=141) (te:=143) (tf:=234) Tryz.func355 (by kernel_rfl) rfl rfl 2 32 (by decide) Tryz.underlying141 (by kernel_rfl) (by decide) (by decide) sz_index (by cases n<;>rfl)
theorem el_factor(n:Nat):ElAny 268 (factorS n):=el_any (ts:=77) (te:=145) (tf:=265) Tryz.func268 (by kernel_rfl) rfl rfl 3 40 (by decide) Tryz.underlying77 (by kernel_rfl) (by decide) (by decide) sz_factor rfl
theorem el_atom:ElAny 271 atomS:=el_any (ts:=78) (te:=150) (tf:=267) Tryz.func271 (by kernel_rfl) rfl rfl 3 40 (by decide) Tryz.underlying78 (by kernel_rfl) (by decide) (by decide) sz_atom rfl
theorem el_term(n:Nat):ElAny 109 (termS n):=el_any (ts:=58) (te:=139) (tf:=172) Tryz.func109 (by kernel_rfl) rfl rfl 5 104 (by decide) Tryz.underlying58 (by kernel_rfl) (by decide) (by decide) sz_term rfl
theorem el_use(n:Nat):ElAny 199 (useS n):=el_any (ts:=85) (te:=89) (tf:=223) Tryz.func199 (by kernel_rfl) rfl rfl 6 112 (by decide) Tryz.underlying85 (by kernel_rfl) (by decide) (by decide) sz_use rfl
theorem el_part(n:Nat):ElAny 116 (useS n):=el_any (ts:=60) (te:=82) (tf:=176) Tryz.func116 (by kernel_rfl) rfl rfl 6 112 (by decide) Tryz.underlying60 (by kernel_rfl) (by decide) (by decide) sz_use rfl
theorem el_target(n:Nat):ElAny 113 (targetS n):=el_any (ts:=59) (te:=87) (tf:=174) Tryz.func113 (by kernel_rfl) rfl rfl 3 56 (by decide) Tryz.underlying59 (by kernel_rfl) (by decide) (by decide) sz_target rfl
theorem el_axiomUse(n:Nat):ElAny 125 (axuS n):=el_any (ts:=90) (te:=154) (tf:=179) Tryz.func125 (by kernel_rfl) rfl rfl 13 232 (by decide) Tryz.underlying90 (by kernel_rfl) (by decide) (by decide) sz_axiomUse rfl
theorem el_node(n:Nat):ElAny 42 (nodeS n):=el_any (ts:=31) (te:=65) (tf:=66) Tryz.func42 (by kernel_rfl) rfl rfl 11 216 (by decide) Tryz.underlying31 (by kernel_rfl) (by decide) (by decide) sz_node rfl
theorem el_claim:ElAny 45 claimS:=el_any (ts:=32) (te:=68) (tf:=109) Tryz.func45 (by kernel_rfl) rfl rfl 2 16 (by decide) Tryz.underlying32 (by kernel_rfl) (by decide) (by decide) sz_claim rfl
end Go.Proofs.YtellcholbkoakaaGreatDoor
