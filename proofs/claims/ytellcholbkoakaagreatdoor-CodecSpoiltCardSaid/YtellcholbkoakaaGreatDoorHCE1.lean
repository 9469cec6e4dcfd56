/-
 The reader: lists,all by one proof: the code of one list,with other types.
-/
import Derived.Test.YtellcholbkoakaaGreatDoorHCRa
import Derived.Great.BuildSlice
namespace Go.Proofs.YtellcholbkoakaaGreatDoor
open Go.Lib (hid)
open Go.RowKit AC
set_option linter.unusedVariables false
set_option linter.unusedSimpArgs false
def mOp(m:Nat→Nat):Op→Op
 | .load t a=> .load (m t) a
 | .store t a v=> .store (m t) a v
 | .alloc t=> .alloc (m t)
 | .buildSlice t n p=> .buildSlice (m t) n p
 | .indexAddr t x i=> .indexAddr (m t) x i
 | .call c=> .call { c with argTypes:=c.argTypes.map m }
 | o=>o
def ux3(m:Nat→Nat)(o:Oper):Oper:= { o with op:=mOp m o.op,type:=m o.type }
def uhw(m:Nat→Nat):Code→Code
 | .region i ops d=> .region i (ops.map (ux3 m)) d
 | .seq a b=> .seq (uhw m a) (uhw m b)
 | .cond c a b=> .cond c (uhw m a) (uhw m b)
 | .block i b=> .block i (uhw m b)
 | .loop b=> .loop (uhw m b)
 | c=>c
def elM(ts te tf t:Nat):Nat:=if t=65 then te else if t=31 then ts else if t=66 then tf else t
def elC(f:Func)(ts te tf:Nat):Option Code:=f.body.map (uhw (elM ts te tf))
def utq:Shape→Bool
 | .fin=>false
 | .and _ _=>false
 | .no s=>utq s
 | _=>true
theorem utr:∀ {s:Shape},utq s=true→s.one=true
 | .int,_=>rfl
 | .bool,_=>rfl
 | .rat,_=>rfl
 | .big,_=>rfl
 | .st _,_=>rfl
 | .list _,_=>rfl
 | .no _,_=>rfl
theorem Ty.cells:∀ {s:Shape} {l:List Value},utq s=true→Ty s l→(uas s l).cells.toList=l
 | .int,_,_,⟨_,rfl,_⟩=>rfl
 | .bool,_,_,⟨_,rfl⟩=>rfl
 | .rat,_,_,_=>rfl
 | .big,_,_,_=>rfl
 | .st _,_,_,_=>rfl
 | .list _,_,_,⟨_,_,_,rfl⟩=>rfl
 | .no s,_,h,h1=>Ty.cells (s:=s) h h1
theorem uit{ops:Array Oper}{rest:List Oper}{op:Oper}{a:Act}{w:World}{Q:Exit→Act→World→Prop}(hg:op.guard=none)(t e:TypeId)(x:Operand)(ho:op.op = .buildSlice t 1 #[(0,x)])
 (ht:Tryz.prog.underlying t=some (.slice e)) (sz a2:Nat) (a3:(Tryz.prog.info? e).map (fun i=>(i.size,i.bytes,i.zero.map fun z=>z.cells.size))=some (sz,a2,some sz)) (hz:0<sz) (a6:sz≤4096)
 (v:List Value) (u:Value) (hx:a.eval x=u) (hu:u.cells.toList=v) (hv:v.length=sz)
 (h:wpList Tryz.prog ops Q rest (a.put op.dst (.slice (some ⟨w.heap.size,0,none⟩) 1 1)) (w.alloc (.cells v.toArray e))):wpList Tryz.prog ops Q (op::rest) a w:=by
 obtain⟨i,hi,a1⟩:=Option.map_eq_some_iff.1 a3;simp only[Prod.mk.injEq]at a1;obtain⟨a0,_,a5⟩:=a1;obtain⟨z,a4,a7⟩:=Option.map_eq_some_iff.1 a5;refine wpList_buildSlice hg t e 1 _ ho v.toArray i z ht hi a4 (by rw[a0];omega) (by rw[a0];omega) ?_ h
 rw[a0];have hc:u.cells.size=sz:=by rw[←hv,←hu];rfl
 have:=Great.fill_whole (s:=sz) hz [u] ((Array.range (1*sz)).map (z.cells[· % z.cells.size]!)) (by intro v hv;simp at hv;subst hv;exact hc) (by simp)
 simpa[hx,hu]using this
def ucx(F:FuncId)(s:Shape):Prop:=∀(L:Nat) (g:FuncId) (fi ca:Array Value) (w:World) (br:Nat) (str:ByteArray) (o:Option (List UInt8)) (h:Rst w br str o) (hL:∀r,o=some r→r.length≤L) (hel:ElR g (fi++ca) s L br str w),Calls Tryz.prog F #[.pointer (some ⟨br,0,none⟩),.func (.func g) fi ca] w (RPost (.list s) br str o w)
set_option maxHeartbeats 4000000 in
set_option maxRecDepth 100000 in
theorem ubk{F:FuncId}{fn:Func}{ts te tf:Nat}(hf:Tryz.prog.funcs[F]? = some fn)(hb:fn.body=elC Tryz.f42 ts te tf)(hn:fn.ntmps=31)(d3:fn.results = #[.tmp 4])
 {s:Shape} (sz a4:Nat) (d4:sz≤4096) (b9:Tryz.prog.underlying ts=some (.slice te)) (b7:(Tryz.prog.info? te).map (fun i=>(i.size,i.bytes,i.zero.map fun z=>z.cells.size))=some (sz,a4,some sz)) (hz:0<sz) (c8:a4≤4096) (b8:Shape.sz s=sz) (c5:utq s=true) :
 ucx F s:=by
 intro L g fi ca w br str o h hL b6;have d1:=utr c5;obtain⟨he,b6⟩:=b6;unfold Enters at he;have a6:=h.lt;have HR:=hid h;have HL:=hid hL;have HE:=hid b6;clear h hL b6;have h0:Tryz.f42.body=some _:=rfl;rw[elC,h0,Option.map_some]at hb;clear h0;simp only[uhw,ux3,mOp,List.map_toArray,List.map_cons,List.map_nil,elM,reduceIte,Nat.reduceEqDiff]at hb;refine calls_of_wp hf hb ?_;simp only[hn,List.size_toArray,List.length_cons,List.length_nil,Nat.reduceAdd,Nat.reduceSub,Array.replicate_succ,
  Array.replicate_zero,List.push_toArray,List.append_toArray,List.nil_append,List.cons_append]
 clear hb;go_wp2_with fail
 refine(ucg _ br str o 40 40 rfl HR.out).mono ?_;rintro e w1⟨rfl,d2,c9⟩;have I0:=EInv.start (s:=s) (e:=te) HR.out d2 c9;have c7:=hid I0;clear I0 d2 c9;go_wp2;go_loopw [5] (fun lv wr=>∃(n':Nat) (o':Option (List UInt8)),Hid (EInv s te br str o w lv n' o' wr)) (fun lv _=>262146-ub1 lv)
 case atStart=>exact⟨0,_,c7⟩
 case round=>
  obtain⟨n',o',hI⟩:=hrel;clear c7;obtain⟨A,c,rfl,e1,d7⟩:=hI.out.form;have e2:=hI.out.small;have c2:=hI.out.rst.cell;unfold maxLen at d7;cases o' with
  | none=>
   go_wp2_with fail
   refine(ucg _ br str none 41 41 rfl hI.out.rst).mono ?_;rintro e w2⟨rfl,a7,a5⟩;go_wp2
   (try simp only[Exit.inBlock,Exit.then])
   refine bodyPost_ret (results_tmp d3 _ _ _) rfl ?_;exact EInv.last a6 hI.out (.inl rfl) a7 a5
  | some r0=>
   cases ha:ui0 41 (some r0)with
   | true=>
    have HA:=hid ha;clear ha;go_wp2_with fail
    refine(ulv _ br str (some r0) 41 41 rfl hI.out.rst).mono ?_;rintro e w2⟨rfl,q,rfl⟩;rw[HA.out];go_wp2_with fail
    refine(ucg _ br str (some r0) 41 41 rfl (hI.out.rst.drewN q)).mono ?_;rintro e w2⟨rfl,a7,a5⟩;go_wp2
    (try simp only[Exit.inBlock,Exit.then])
    refine bodyPost_ret (results_tmp d3 _ _ _) rfl ?_;exact EInv.last a6 hI.out ((EInv.at hI.out).1 HA.out) a7 (((Fr.refl _ _).drewN q).trans a5)
   | false=>
    have HA:=hid ha;clear ha;have d0:=(EInv.at hI.out).2 HA.out r0 rfl;have HN:=hid d0;clear d0;by_cases c4:n'=0
    ·subst c4
     go_wp2_with fail
     refine(ulv _ br str (some r0) 41 41 rfl hI.out.rst).mono ?_;rintro e w2⟨rfl,q,rfl⟩;rw[HA.out];go_wp2_with fail
     refine(HE.out _ (some r0) ((hI.out.fr).drewN q) (hI.out.rst.drewN q) (fun r hr=>hI.out.limit HL.out hr)).mono ?_
     rintro e w3⟨v,rfl,a1,b2,hf,b3⟩;obtain⟨xs,a0⟩:=hI.out.own a6 (((Fr.refl _ _).drewN q).trans hf);have c6:w.heap.size≤w3.heap.size:=(hI.out.fr.trans (((Fr.refl _ _).drewN q).trans hf)).size;have hu:=Ty.cells c5 a1;have a2:=a1.len;obtain⟨u,b4⟩:∃u,uas s v=u:=⟨_,rfl⟩;rw[b4]at hu ⊢;clear b4;have a9:=hid a1;have c1:=hid b2;have c0:=hid hf;have c3:=hid b3;clear a1 b2 hf b3;rw[b8]at a0 a2;have HU:=hid hu;clear hu;go_wp2_with (first|refine uit rfl ts te (.tmp 25) rfl b9 sz a4 b7 hz d4 v u rfl HU.out a2 ?_|(at_builtin;refine uJ w3 rfl _ _ ts te rfl b9 sz a4 b7 hz c8 w.heap.size _ 0 xs v (by rfl) a0 (by rfl) a2 a9.out.one (by omega) c6 ?_))
     intro g' d6 w4 a3 hg b0 b1;rw[←b8]at a0 a3;have a8:=hid (EInv.next d1 a6 hI.out HN.out ((Fr.refl _ _).drewN q) rfl a9.out c1.out c0.out c3.out a0 a3 hg b0 b1);have d8:=a8.out.small;clear a3 hg b0 b1 a0;go_wp2;go_roundw
     case rel=>exact⟨_,_,a8⟩
     case measure=>simp[ub1]
    ·have d9:decide (0<n')=true:=by simp;omega
     have e0:0<n':=by omega
     go_wp2_with fail
     refine(ulv _ br str (some r0) 41 41 rfl hI.out.rst).mono ?_;rintro e w2⟨rfl,q,rfl⟩;rw[HA.out];go_wp2_with fail
     refine(ucg _ br str (some r0) 32 32 rfl (hI.out.rst.drewN q)).mono ?_;rintro e w2⟨rfl,a7,a5⟩;have d5:=hid a7;have b5:=hid (((Fr.refl _ _).drewN q).trans a5);clear a7 a5;go_wp2_with fail
     refine(HE.out _ (want 32 (some r0)) ((hI.out.fr).trans b5.out) d5.out (fun r hr=>hI.out.limit HL.out (by rw[if_neg c4];exact hr))).mono ?_
     rintro e w3⟨v,rfl,a1,b2,hf,b3⟩;obtain⟨xs,a0⟩:=hI.out.own a6 (b5.out.trans hf);have c6:w.heap.size≤w3.heap.size:=(hI.out.fr.trans (b5.out.trans hf)).size;have hu:=Ty.cells c5 a1;have a2:=a1.len;obtain⟨u,b4⟩:∃u,uas s v=u:=⟨_,rfl⟩;rw[b4]at hu ⊢;clear b4;have a9:=hid a1;have c1:=hid b2;have c0:=hid hf;have c3:=hid b3;clear a1 b2 hf b3;rw[b8]at a0 a2;have HU:=hid hu;clear hu;go_wp2_with (first|refine uit rfl ts te (.tmp 25) rfl b9 sz a4 b7 hz d4 v u rfl HU.out a2 ?_|(at_builtin;refine uJ w3 rfl _ _ ts te rfl b9 sz a4 b7 hz c8 w.heap.size _ n' xs v (by rfl) a0 (by rfl) a2 a9.out.one (by omega) c6 ?_))
     intro g' d6 w4 a3 hg b0 b1;rw[←b8]at a0 a3;have a8:=hid (EInv.next d1 a6 hI.out HN.out b5.out (if_neg c4) a9.out c1.out c0.out c3.out a0 a3 hg b0 b1);have d8:=a8.out.small;clear a3 hg b0 b1 a0;go_wp2;go_roundw
     case rel=>exact⟨_,_,a8⟩
     case measure=>simp[ub1];omega
theorem uv9:ucx 183 .int:=ubk (ts:=23) (te:=2) (tf:=111) Tryz.func183 (by kernel_rfl) rfl rfl 1 8 (by decide) Tryz.underlying23 (by kernel_rfl) (by decide) (by decide) rfl rfl
theorem uy9:ucx 189 .int:=ubk (ts:=61) (te:=3) (tf:=69) Tryz.func189 (by kernel_rfl) rfl rfl 1 8 (by decide) Tryz.underlying61 (by kernel_rfl) (by decide) (by decide) rfl rfl
theorem uza:ucx 205 .rat:=ubk (ts:=62) (te:=76) (tf:=185) Tryz.func205 (by kernel_rfl) rfl rfl 3 56 (by decide) Tryz.underlying62 (by kernel_rfl) (by decide) (by decide) rfl rfl
theorem uoy:ucx 98 (.list .int):=ubk (ts:=27) (te:=61) (tf:=120) Tryz.func98 (by kernel_rfl) rfl rfl 1 24 (by decide) Tryz.underlying27 (by kernel_rfl) (by decide) (by decide) rfl rfl
theorem ujf(n:Nat):ucx 123 (.list (uax n)):=ubk (ts:=63) (te:=90) (tf:=180) Tryz.func123 (by kernel_rfl) rfl rfl 1 24 (by decide) Tryz.underlying63 (by kernel_rfl) (by decide) (by decide) rfl rfl
theorem uqf:ucx 187 uH:=ubk (ts:=146) (te:=219) (tf:=220) Tryz.func187 (by kernel_rfl) rfl rfl 2 16 (by decide) Tryz.underlying146 (by kernel_rfl) (by decide) (by decide) ubw rfl
theorem uxd:ucx 94 uX:=ubk (ts:=103) (te:=148) (tf:=167) Tryz.func94 (by kernel_rfl) rfl rfl 2 32 (by decide) Tryz.underlying103 (by kernel_rfl) (by decide) (by decide) uw rfl
theorem umx:ucx 37 ut:=ubk (ts:=26) (te:=105) (tf:=106) Tryz.func37 (by kernel_rfl) rfl rfl 2 48 (by decide) Tryz.underlying26 (by kernel_rfl) (by decide) (by decide) ua9 rfl
theorem uzb(n:Nat):ucx 264 (ua1 n):=ubk (ts:=114) (te:=116) (tf:=119) Tryz.func264 (by kernel_rfl) rfl rfl 3 40 (by decide) Tryz.underlying114 (by kernel_rfl) (by decide) (by decide) uA (by cases n<;>rfl)
theorem uwa(n:Nat):ucx 102 (uae n):=ubk (ts:=28) (te:=118) (tf:=170) Tryz.func102 (by kernel_rfl) rfl rfl 4 64 (by decide) Tryz.underlying28 (by kernel_rfl) (by decide) (by decide) ucr rfl
theorem uwb(n:Nat):ucx 355 (uy n):=ubk (ts:=141) (te:=143) (tf:=234) Tryz.func355 (by kernel_rfl) rfl rfl 2 32 (by decide) Tryz.underlying141 (by kernel_rfl) (by decide) (by decide) uj (by cases n<;>rfl)
theorem uts(n:Nat):ucx 268 (uO n):=ubk (ts:=77) (te:=145) (tf:=265) Tryz.func268 (by kernel_rfl) rfl rfl 3 40 (by decide) Tryz.underlying77 (by kernel_rfl) (by decide) (by decide) ub2 rfl
theorem ux4:ucx 271 ua5:=ubk (ts:=78) (te:=150) (tf:=267) Tryz.func271 (by kernel_rfl) rfl rfl 3 40 (by decide) Tryz.underlying78 (by kernel_rfl) (by decide) (by decide) udz rfl
theorem ujg(n:Nat):ucx 109 (un n):=ubk (ts:=58) (te:=139) (tf:=172) Tryz.func109 (by kernel_rfl) rfl rfl 5 104 (by decide) Tryz.underlying58 (by kernel_rfl) (by decide) (by decide) ugr rfl
theorem uzc(n:Nat):ucx 199 (uan n):=ubk (ts:=85) (te:=89) (tf:=223) Tryz.func199 (by kernel_rfl) rfl rfl 6 112 (by decide) Tryz.underlying85 (by kernel_rfl) (by decide) (by decide) uel rfl
theorem ux5(n:Nat):ucx 116 (uan n):=ubk (ts:=60) (te:=82) (tf:=176) Tryz.func116 (by kernel_rfl) rfl rfl 6 112 (by decide) Tryz.underlying60 (by kernel_rfl) (by decide) (by decide) uel rfl
theorem utt(n:Nat):ucx 113 (uD n):=ubk (ts:=59) (te:=87) (tf:=174) Tryz.func113 (by kernel_rfl) rfl rfl 3 56 (by decide) Tryz.underlying59 (by kernel_rfl) (by decide) (by decide) ud0 rfl
theorem umy(n:Nat):ucx 125 (uax n):=ubk (ts:=90) (te:=154) (tf:=179) Tryz.func125 (by kernel_rfl) rfl rfl 13 232 (by decide) Tryz.underlying90 (by kernel_rfl) (by decide) (by decide) uci rfl
theorem ux6(n:Nat):ucx 42 (uac n):=ubk (ts:=31) (te:=65) (tf:=66) Tryz.func42 (by kernel_rfl) rfl rfl 11 216 (by decide) Tryz.underlying31 (by kernel_rfl) (by decide) (by decide) ugs rfl
theorem uwc:ucx 45 uW:=ubk (ts:=32) (te:=68) (tf:=109) Tryz.func45 (by kernel_rfl) rfl rfl 2 16 (by decide) Tryz.underlying32 (by kernel_rfl) (by decide) (by decide) udh rfl
end Go.Proofs.YtellcholbkoakaaGreatDoor
