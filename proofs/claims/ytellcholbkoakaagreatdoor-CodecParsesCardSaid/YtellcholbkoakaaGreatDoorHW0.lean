/-
 The codec's writer for the empty certificate alone (printed by gen_w0.py).
-/
import Derived.Test.YtellcholbkoakaaGreatDoorHCAs
import Derived.Test.YtellcholbkoakaaGreatDoorHCRep
namespace Go.Proofs.YtellcholbkoakaaGreatDoor
open Go.Lib (hid)
open Go.RowKit AC
set_option linter.unusedVariables false
set_option linter.unusedSimpArgs false
def flowZ:Shape:= .st (ands [.list (.no (.list .int)),.list (.no (.list .int)),.list (.no (storeS 0))])
def certZ:Shape:= .st (ands [.bool,metricS,.list (.no relationS),flowZ,.list (.no (nodeS 0)),.list (.no claimS)])
theorem sz_flowZ:Shape.sz flowZ=3:=rfl
theorem val_flowZ(l:List Value):valOf flowZ l = .agg l.toArray:=rfl
theorem rep_flowZ(w:World)(D:Nat→Prop):Rep w D flowZ [.slice none 0 0,.slice none 0 0,.slice none 0 0] [[40,40,41,32,40,41,32,40,41,41]]:=
 ⟨[[40,41],[40,41],[40,41]],rfl,[.slice none 0 0],[.slice none 0 0,.slice none 0 0],_,_,rfl,rfl,rep_nil _ _ _,[.slice none 0 0],[.slice none 0 0],_,_,rfl,rfl,rep_nil _ _ _,[.slice none 0 0],[],_,_,rfl,rfl,rep_nil _ _ _,rfl,rfl⟩
set_option maxHeartbeats 2000000 in
set_option maxRecDepth 100000 in
theorem l0_l_int(g:FuncId)(fi ca:Array Value)(w:World)(bw:Nat)(o:Option (List UInt8))(A:Option Addr)(m c:Nat)(t:List UInt8)(h:Wst w bw o)(hrep:Rep w (· < bw) (.list (.no (.list .int))) [.slice A m c] [t])(he:Enters Tryz.prog g) :
 Calls Tryz.prog 151 #[.pointer (some ⟨bw,0,none⟩),.slice A m c,.func (.func g) fi ca] w (WRet bw w (put o t)):=by
 unfold Enters at he;obtain⟨A',m',c',us,tx,hl,hmc,hcm,ht,hcl,hrp⟩:=hrep;injection hl with hl _;injection hl with hl1 hl2 hl3;subst hl1;subst hl2;subst hl3;injection ht with ht _;subst ht;have hbw:=h.lt;unfold maxLen at hcm;have HW:=hid h;have HCL:=hid hcl;have HRP:=hid hrp;clear h hcl hrp;go_enter Tryz.func151,Tryz.ntmps151
 go_wp2_with fail
 refine(text_any _ bw o ⟨#[40]⟩ HW.out (by decide)).mono ?_
 rintro e w1⟨rfl,hr1,hf1⟩;have I0:=hid (LInv.start (tx:=tx) hr1 hf1);clear hr1 hf1;go_wp2;go_loopw [12] (fun iv wr=>∃(k:Nat),k≤m∧iv = .int .i64 k∧Hid (LInv o tx bw w k wr)) (fun iv _=>m-(intOf iv).toNat)
 case atStart=>exact⟨0,by omega,rfl,I0⟩
 case round=>
  obtain⟨k,hk,rfl,hI⟩:=hrel;clear I0;have hbwr:bw<wr.heap.size:=by have:=hI.out.2.1.size;omega
  by_cases hlt:k<m
  ·exact absurd (HRP.out k hlt) (fun h=>h)
  ·obtain rfl:k=m:=by omega
   go_wp2_with fail
   refine(text_any _ bw (listed o tx k) ⟨#[41]⟩ hI.out.1 (by decide)).mono ?_
   rintro e w2⟨rfl,hr2,hf2⟩;go_wp2;go_end0
   exact hI.out.last hf2 hr2
set_option maxHeartbeats 2000000 in
set_option maxRecDepth 100000 in
theorem l0_relation(g:FuncId)(fi ca:Array Value)(w:World)(bw:Nat)(o:Option (List UInt8))(A:Option Addr)(m c:Nat)(t:List UInt8)(h:Wst w bw o)(hrep:Rep w (· < bw) (.list (.no relationS)) [.slice A m c] [t])(he:Enters Tryz.prog g) :
 Calls Tryz.prog 77 #[.pointer (some ⟨bw,0,none⟩),.slice A m c,.func (.func g) fi ca] w (WRet bw w (put o t)):=by
 unfold Enters at he;obtain⟨A',m',c',us,tx,hl,hmc,hcm,ht,hcl,hrp⟩:=hrep;injection hl with hl _;injection hl with hl1 hl2 hl3;subst hl1;subst hl2;subst hl3;injection ht with ht _;subst ht;have hbw:=h.lt;unfold maxLen at hcm;have HW:=hid h;have HCL:=hid hcl;have HRP:=hid hrp;clear h hcl hrp;go_enter Tryz.func77,Tryz.ntmps77
 go_wp2_with fail
 refine(text_any _ bw o ⟨#[40]⟩ HW.out (by decide)).mono ?_
 rintro e w1⟨rfl,hr1,hf1⟩;have I0:=hid (LInv.start (tx:=tx) hr1 hf1);clear hr1 hf1;go_wp2;go_loopw [12] (fun iv wr=>∃(k:Nat),k≤m∧iv = .int .i64 k∧Hid (LInv o tx bw w k wr)) (fun iv _=>m-(intOf iv).toNat)
 case atStart=>exact⟨0,by omega,rfl,I0⟩
 case round=>
  obtain⟨k,hk,rfl,hI⟩:=hrel;clear I0;have hbwr:bw<wr.heap.size:=by have:=hI.out.2.1.size;omega
  by_cases hlt:k<m
  ·exact absurd (HRP.out k hlt) (fun h=>h)
  ·obtain rfl:k=m:=by omega
   go_wp2_with fail
   refine(text_any _ bw (listed o tx k) ⟨#[41]⟩ hI.out.1 (by decide)).mono ?_
   rintro e w2⟨rfl,hr2,hf2⟩;go_wp2;go_end0
   exact hI.out.last hf2 hr2
set_option maxHeartbeats 2000000 in
set_option maxRecDepth 100000 in
theorem l0_store(g:FuncId)(fi ca:Array Value)(w:World)(bw:Nat)(o:Option (List UInt8))(A:Option Addr)(m c:Nat)(t:List UInt8)(h:Wst w bw o)(hrep:Rep w (· < bw) (.list (.no (storeS 0))) [.slice A m c] [t])(he:Enters Tryz.prog g) :
 Calls Tryz.prog 155 #[.pointer (some ⟨bw,0,none⟩),.slice A m c,.func (.func g) fi ca] w (WRet bw w (put o t)):=by
 unfold Enters at he;obtain⟨A',m',c',us,tx,hl,hmc,hcm,ht,hcl,hrp⟩:=hrep;injection hl with hl _;injection hl with hl1 hl2 hl3;subst hl1;subst hl2;subst hl3;injection ht with ht _;subst ht;have hbw:=h.lt;unfold maxLen at hcm;have HW:=hid h;have HCL:=hid hcl;have HRP:=hid hrp;clear h hcl hrp;go_enter Tryz.func155,Tryz.ntmps155
 go_wp2_with fail
 refine(text_any _ bw o ⟨#[40]⟩ HW.out (by decide)).mono ?_
 rintro e w1⟨rfl,hr1,hf1⟩;have I0:=hid (LInv.start (tx:=tx) hr1 hf1);clear hr1 hf1;go_wp2;go_loopw [12] (fun iv wr=>∃(k:Nat),k≤m∧iv = .int .i64 k∧Hid (LInv o tx bw w k wr)) (fun iv _=>m-(intOf iv).toNat)
 case atStart=>exact⟨0,by omega,rfl,I0⟩
 case round=>
  obtain⟨k,hk,rfl,hI⟩:=hrel;clear I0;have hbwr:bw<wr.heap.size:=by have:=hI.out.2.1.size;omega
  by_cases hlt:k<m
  ·exact absurd (HRP.out k hlt) (fun h=>h)
  ·obtain rfl:k=m:=by omega
   go_wp2_with fail
   refine(text_any _ bw (listed o tx k) ⟨#[41]⟩ hI.out.1 (by decide)).mono ?_
   rintro e w2⟨rfl,hr2,hf2⟩;go_wp2;go_end0
   exact hI.out.last hf2 hr2
set_option maxHeartbeats 2000000 in
set_option maxRecDepth 100000 in
theorem l0_node(g:FuncId)(fi ca:Array Value)(w:World)(bw:Nat)(o:Option (List UInt8))(A:Option Addr)(m c:Nat)(t:List UInt8)(h:Wst w bw o)(hrep:Rep w (· < bw) (.list (.no (nodeS 0))) [.slice A m c] [t])(he:Enters Tryz.prog g) :
 Calls Tryz.prog 82 #[.pointer (some ⟨bw,0,none⟩),.slice A m c,.func (.func g) fi ca] w (WRet bw w (put o t)):=by
 unfold Enters at he;obtain⟨A',m',c',us,tx,hl,hmc,hcm,ht,hcl,hrp⟩:=hrep;injection hl with hl _;injection hl with hl1 hl2 hl3;subst hl1;subst hl2;subst hl3;injection ht with ht _;subst ht;have hbw:=h.lt;unfold maxLen at hcm;have HW:=hid h;have HCL:=hid hcl;have HRP:=hid hrp;clear h hcl hrp;go_enter Tryz.func82,Tryz.ntmps82
 go_wp2_with fail
 refine(text_any _ bw o ⟨#[40]⟩ HW.out (by decide)).mono ?_
 rintro e w1⟨rfl,hr1,hf1⟩;have I0:=hid (LInv.start (tx:=tx) hr1 hf1);clear hr1 hf1;go_wp2;go_loopw [12] (fun iv wr=>∃(k:Nat),k≤m∧iv = .int .i64 k∧Hid (LInv o tx bw w k wr)) (fun iv _=>m-(intOf iv).toNat)
 case atStart=>exact⟨0,by omega,rfl,I0⟩
 case round=>
  obtain⟨k,hk,rfl,hI⟩:=hrel;clear I0;have hbwr:bw<wr.heap.size:=by have:=hI.out.2.1.size;omega
  by_cases hlt:k<m
  ·exact absurd (HRP.out k hlt) (fun h=>h)
  ·obtain rfl:k=m:=by omega
   go_wp2_with fail
   refine(text_any _ bw (listed o tx k) ⟨#[41]⟩ hI.out.1 (by decide)).mono ?_
   rintro e w2⟨rfl,hr2,hf2⟩;go_wp2;go_end0
   exact hI.out.last hf2 hr2
set_option maxHeartbeats 2000000 in
set_option maxRecDepth 100000 in
theorem l0_claim(g:FuncId)(fi ca:Array Value)(w:World)(bw:Nat)(o:Option (List UInt8))(A:Option Addr)(m c:Nat)(t:List UInt8)(h:Wst w bw o)(hrep:Rep w (· < bw) (.list (.no claimS)) [.slice A m c] [t])(he:Enters Tryz.prog g) :
 Calls Tryz.prog 85 #[.pointer (some ⟨bw,0,none⟩),.slice A m c,.func (.func g) fi ca] w (WRet bw w (put o t)):=by
 unfold Enters at he;obtain⟨A',m',c',us,tx,hl,hmc,hcm,ht,hcl,hrp⟩:=hrep;injection hl with hl _;injection hl with hl1 hl2 hl3;subst hl1;subst hl2;subst hl3;injection ht with ht _;subst ht;have hbw:=h.lt;unfold maxLen at hcm;have HW:=hid h;have HCL:=hid hcl;have HRP:=hid hrp;clear h hcl hrp;go_enter Tryz.func85,Tryz.ntmps85
 go_wp2_with fail
 refine(text_any _ bw o ⟨#[40]⟩ HW.out (by decide)).mono ?_
 rintro e w1⟨rfl,hr1,hf1⟩;have I0:=hid (LInv.start (tx:=tx) hr1 hf1);clear hr1 hf1;go_wp2;go_loopw [12] (fun iv wr=>∃(k:Nat),k≤m∧iv = .int .i64 k∧Hid (LInv o tx bw w k wr)) (fun iv _=>m-(intOf iv).toNat)
 case atStart=>exact⟨0,by omega,rfl,I0⟩
 case round=>
  obtain⟨k,hk,rfl,hI⟩:=hrel;clear I0;have hbwr:bw<wr.heap.size:=by have:=hI.out.2.1.size;omega
  by_cases hlt:k<m
  ·exact absurd (HRP.out k hlt) (fun h=>h)
  ·obtain rfl:k=m:=by omega
   go_wp2_with fail
   refine(text_any _ bw (listed o tx k) ⟨#[41]⟩ hI.out.1 (by decide)).mono ?_
   rintro e w2⟨rfl,hr2,hf2⟩;go_wp2;go_end0
   exact hI.out.last hf2 hr2
set_option maxHeartbeats 4000000 in
theorem wclz_flow_0:CloW 150 (.list (.no (.list .int))) 30 0:=by
 refine⟨enters_of Tryz.func150 (by kernel_rfl) rfl,?_⟩
 intro w bw bv bt o cs v t h hv ht d1 d2 hcs hrep;obtain⟨zA,zk,zc,rfl⟩:=ty_list hrep.ty;have cv:=hv.cell 0;simp only[gq]at cv;have e0:=(ht.cell 0).trans (hcs 0 (.slice zA zk zc) rfl);have KEY:=hid (l0_l_int 152 #[.pointer (some ⟨bw,0,none⟩)] #[] w bw o zA zk zc t h hrep (enters_of Tryz.func152 (by kernel_rfl) rfl))
 clear h hv ht hcs hrep;go_enter Tryz.func150,Tryz.ntmps150
 go_wp2_with fail
 refine KEY.out.mono ?_;rintro e w1⟨rfl,hp⟩;go_wp2;go_end0
 exact⟨rfl,hp⟩
set_option maxHeartbeats 4000000 in
theorem wclz_flow_1:CloW 153 (.list (.no (.list .int))) 30 1:=by
 refine⟨enters_of Tryz.func153 (by kernel_rfl) rfl,?_⟩
 intro w bw bv bt o cs v t h hv ht d1 d2 hcs hrep;obtain⟨zA,zk,zc,rfl⟩:=ty_list hrep.ty;have cv:=hv.cell 0;simp only[gq]at cv;have e0:=(ht.cell 1).trans (hcs 0 (.slice zA zk zc) rfl);have KEY:=hid (l0_l_int 152 #[.pointer (some ⟨bw,0,none⟩)] #[] w bw o zA zk zc t h hrep (enters_of Tryz.func152 (by kernel_rfl) rfl))
 clear h hv ht hcs hrep;go_enter Tryz.func153,Tryz.ntmps153
 go_wp2_with fail
 refine KEY.out.mono ?_;rintro e w1⟨rfl,hp⟩;go_wp2;go_end0
 exact⟨rfl,hp⟩
set_option maxHeartbeats 4000000 in
theorem wclz_flow_2:CloW 154 (.list (.no (storeS 0))) 30 2:=by
 refine⟨enters_of Tryz.func154 (by kernel_rfl) rfl,?_⟩
 intro w bw bv bt o cs v t h hv ht d1 d2 hcs hrep;obtain⟨zA,zk,zc,rfl⟩:=ty_list hrep.ty;have cv:=hv.cell 0;simp only[gq]at cv;have e0:=(ht.cell 2).trans (hcs 0 (.slice zA zk zc) rfl);have KEY:=hid (l0_store 156 #[.pointer (some ⟨bw,0,none⟩)] #[] w bw o zA zk zc t h hrep (enters_of Tryz.func156 (by kernel_rfl) rfl))
 clear h hv ht hcs hrep;go_enter Tryz.func154,Tryz.ntmps154
 go_wp2_with fail
 refine KEY.out.mono ?_;rintro e w1⟨rfl,hp⟩;go_wp2;go_end0
 exact⟨rfl,hp⟩
set_option maxHeartbeats 4000000 in
set_option maxRecDepth 100000 in
theorem wstz_flow(h0:CloW 150 (.list (.no (.list .int))) 30 0)(h1:CloW 153 (.list (.no (.list .int))) 30 1)(h2:CloW 154 (.list (.no (storeS 0))) 30 2):Writes 80 (.st (ands [(.list (.no (.list .int))),(.list (.no (.list .int))),(.list (.no (storeS 0)))])):=by
 intro w bw o v t h hrep;have hbw:=h.lt;have HC:Hid (∀i k s,([150,153,154]:List FuncId)[i]? = some k→([(.list (.no (.list .int))),(.list (.no (.list .int))),(.list (.no (storeS 0)))]:List Shape)[i]? = some s→CloW k s 30 (offs [(.list (.no (.list .int))),(.list (.no (.list .int))),(.list (.no (storeS 0)))] i)):=by
  intro i k s hk hs;rcases i with _|_|_|i
  ·simp only[gq]at hk hs;injection hk with hk;injection hs with hs;subst hk;subst hs;rw[show offs [(.list (.no (.list .int))),(.list (.no (.list .int))),(.list (.no (storeS 0)))] 0=0 from by simp[offs,Shape.sz]];exact h0
  ·simp only[gq]at hk hs;injection hk with hk;injection hs with hs;subst hk;subst hs;rw[show offs [(.list (.no (.list .int))),(.list (.no (.list .int))),(.list (.no (storeS 0)))] 1=1 from by simp[offs,Shape.sz]];exact h1
  ·simp only[gq]at hk hs;injection hk with hk;injection hs with hs;subst hk;subst hs;rw[show offs [(.list (.no (.list .int))),(.list (.no (.list .int))),(.list (.no (storeS 0)))] 2=2 from by simp[offs,Shape.sz]];exact h2
  ·simp at hk
 obtain⟨tx,ht,hf⟩:=hrep;injection ht with ht _;subst ht;obtain⟨hlen,vs,rfl,htys,hreps⟩:=Rep.split hf;rw[hlen];have HTYS:=hid htys;have HREPS:=hid hreps;have HW:=hid h;obtain⟨v0,_,rfl,t0,v1,_,rfl,t1,v2,_,rfl,t2,rfl⟩:=htys;obtain⟨z0A,z0k,z0c,rfl⟩:=ty_list t0;obtain⟨z1A,z1k,z1c,rfl⟩:=ty_list t1;obtain⟨z2A,z2k,z2c,rfl⟩:=ty_list t2;show Calls Tryz.prog 80 #[.pointer (some ⟨bw,0,none⟩),.agg #[.slice z0A z0k z0c,.slice z1A z1k z1c,.slice z2A z2k z2c]] w _
 clear h hreps hf hlen h0 h1 h2;go_enter Tryz.func80,Tryz.ntmps80
 go_wp2_with fail
 refine(wfields_any [(.list (.no (.list .int))),(.list (.no (.list .int))),(.list (.no (storeS 0)))] [150,153,154] 30 (by decide) rfl (by simp) HC.out _ bw w.heap.size (w.heap.size+1) (w.heap.size+1+1) o _ (fun i=>tx.getD i []) (((HW.out.alloc _).alloc _).alloc _) (by simp) (((Bk.new' rfl _ _).alloc _).alloc _) ((Bk.new' (by simp) _ _).alloc _) HTYS.out (((HREPS.out.allocW _).allocW _).allocW _) (Bk.new' (by simp) _ _) (by omega) (by omega) (by omega)).mono ?_
 rintro e w1⟨rfl,hw1,hf1⟩;go_wp2;go_end0
 exact⟨rfl,hw1,((((Wfr.refl _ _).allocs hbw _).allocs (by simp;omega) _).allocs (by simp;omega) _).trans hf1⟩
set_option maxHeartbeats 4000000 in
theorem wclz_cert_2:CloW 76 (.list (.no relationS)) 34 3:=by
 refine⟨enters_of Tryz.func76 (by kernel_rfl) rfl,?_⟩
 intro w bw bv bt o cs v t h hv ht d1 d2 hcs hrep;obtain⟨zA,zk,zc,rfl⟩:=ty_list hrep.ty;have cv:=hv.cell 0;simp only[gq]at cv;have e0:=(ht.cell 3).trans (hcs 0 (.slice zA zk zc) rfl);have KEY:=hid (l0_relation 78 #[.pointer (some ⟨bw,0,none⟩)] #[] w bw o zA zk zc t h hrep (enters_of Tryz.func78 (by kernel_rfl) rfl))
 clear h hv ht hcs hrep;go_enter Tryz.func76,Tryz.ntmps76
 go_wp2_with fail
 refine KEY.out.mono ?_;rintro e w1⟨rfl,hp⟩;go_wp2;go_end0
 exact⟨rfl,hp⟩
set_option maxHeartbeats 4000000 in
theorem wclz_cert_3(hg:Writes 80 flowZ):CloW 79 flowZ 34 4:=by
 refine⟨enters_of Tryz.func79 (by kernel_rfl) rfl,?_⟩
 intro w bw bv bt o cs v t h hv ht d1 d2 hcs hrep;obtain⟨z0A,z0k,z0c,z1A,z1k,z1c,z2A,z2k,z2c,rfl⟩:=ty_flow (n:=0) hrep.ty;have cv:=hv.cell 0;simp only[gq]at cv;have e0:=(ht.cell 4).trans (hcs 0 (.slice z0A z0k z0c) rfl);have e1:=(ht.cell 5).trans (hcs 1 (.slice z1A z1k z1c) rfl);have e2:=(ht.cell 6).trans (hcs 2 (.slice z2A z2k z2c) rfl);have key:=hg w bw o _ t h hrep;rw[val_flowZ]at key;have KEY:=hid key;clear key;clear h hv ht hcs hrep hg;go_enter Tryz.func79,Tryz.ntmps79
 go_wp2_with fail
 refine KEY.out.mono ?_;rintro e w1⟨rfl,hp⟩;go_wp2;go_end0
 exact⟨rfl,hp⟩
set_option maxHeartbeats 4000000 in
theorem wclz_cert_4:CloW 81 (.list (.no (nodeS 0))) 34 7:=by
 refine⟨enters_of Tryz.func81 (by kernel_rfl) rfl,?_⟩
 intro w bw bv bt o cs v t h hv ht d1 d2 hcs hrep;obtain⟨zA,zk,zc,rfl⟩:=ty_list hrep.ty;have cv:=hv.cell 0;simp only[gq]at cv;have e0:=(ht.cell 7).trans (hcs 0 (.slice zA zk zc) rfl);have KEY:=hid (l0_node 83 #[.pointer (some ⟨bw,0,none⟩)] #[] w bw o zA zk zc t h hrep (enters_of Tryz.func83 (by kernel_rfl) rfl))
 clear h hv ht hcs hrep;go_enter Tryz.func81,Tryz.ntmps81
 go_wp2_with fail
 refine KEY.out.mono ?_;rintro e w1⟨rfl,hp⟩;go_wp2;go_end0
 exact⟨rfl,hp⟩
set_option maxHeartbeats 4000000 in
theorem wclz_cert_5:CloW 84 (.list (.no claimS)) 34 8:=by
 refine⟨enters_of Tryz.func84 (by kernel_rfl) rfl,?_⟩
 intro w bw bv bt o cs v t h hv ht d1 d2 hcs hrep;obtain⟨zA,zk,zc,rfl⟩:=ty_list hrep.ty;have cv:=hv.cell 0;simp only[gq]at cv;have e0:=(ht.cell 8).trans (hcs 0 (.slice zA zk zc) rfl);have KEY:=hid (l0_claim 86 #[.pointer (some ⟨bw,0,none⟩)] #[] w bw o zA zk zc t h hrep (enters_of Tryz.func86 (by kernel_rfl) rfl))
 clear h hv ht hcs hrep;go_enter Tryz.func84,Tryz.ntmps84
 go_wp2_with fail
 refine KEY.out.mono ?_;rintro e w1⟨rfl,hp⟩;go_wp2;go_end0
 exact⟨rfl,hp⟩
set_option maxHeartbeats 4000000 in
set_option maxRecDepth 100000 in
theorem wstz_cert(h0:CloW 72 .bool 34 0)(h1:CloW 74 metricS 34 1)(h2:CloW 76 (.list (.no relationS)) 34 3)(h3:CloW 79 flowZ 34 4)(h4:CloW 81 (.list (.no (nodeS 0))) 34 7)(h5:CloW 84 (.list (.no claimS)) 34 8):Writes 29 (.st (ands [.bool,metricS,(.list (.no relationS)),flowZ,(.list (.no (nodeS 0))),(.list (.no claimS))])):=by
 intro w bw o v t h hrep;have hbw:=h.lt;have HC:Hid (∀i k s,([72,74,76,79,81,84]:List FuncId)[i]? = some k→([.bool,metricS,(.list (.no relationS)),flowZ,(.list (.no (nodeS 0))),(.list (.no claimS))]:List Shape)[i]? = some s→CloW k s 34 (offs [.bool,metricS,(.list (.no relationS)),flowZ,(.list (.no (nodeS 0))),(.list (.no claimS))] i)):=by
  intro i k s hk hs;rcases i with _|_|_|_|_|_|i
  ·simp only[gq]at hk hs;injection hk with hk;injection hs with hs;subst hk;subst hs;rw[show offs [.bool,metricS,(.list (.no relationS)),flowZ,(.list (.no (nodeS 0))),(.list (.no claimS))] 0=0 from by simp[offs,Shape.sz]];exact h0
  ·simp only[gq]at hk hs;injection hk with hk;injection hs with hs;subst hk;subst hs;rw[show offs [.bool,metricS,(.list (.no relationS)),flowZ,(.list (.no (nodeS 0))),(.list (.no claimS))] 1=1 from by simp[offs,Shape.sz]];exact h1
  ·simp only[gq]at hk hs;injection hk with hk;injection hs with hs;subst hk;subst hs;rw[show offs [.bool,metricS,(.list (.no relationS)),flowZ,(.list (.no (nodeS 0))),(.list (.no claimS))] 2=3 from by simp[offs,Shape.sz,sz_metric]];exact h2
  ·simp only[gq]at hk hs;injection hk with hk;injection hs with hs;subst hk;subst hs;rw[show offs [.bool,metricS,(.list (.no relationS)),flowZ,(.list (.no (nodeS 0))),(.list (.no claimS))] 3=4 from by simp[offs,Shape.sz,sz_metric]];exact h3
  ·simp only[gq]at hk hs;injection hk with hk;injection hs with hs;subst hk;subst hs;rw[show offs [.bool,metricS,(.list (.no relationS)),flowZ,(.list (.no (nodeS 0))),(.list (.no claimS))] 4=7 from by simp[offs,Shape.sz,sz_metric,sz_flowZ]];exact h4
  ·simp only[gq]at hk hs;injection hk with hk;injection hs with hs;subst hk;subst hs;rw[show offs [.bool,metricS,(.list (.no relationS)),flowZ,(.list (.no (nodeS 0))),(.list (.no claimS))] 5=8 from by simp[offs,Shape.sz,sz_metric,sz_flowZ]];exact h5
  ·simp at hk
 obtain⟨tx,ht,hf⟩:=hrep;injection ht with ht _;subst ht;obtain⟨hlen,vs,rfl,htys,hreps⟩:=Rep.split hf;rw[hlen];have HTYS:=hid htys;have HREPS:=hid hreps;have HW:=hid h;obtain⟨v0,_,rfl,t0,v1,_,rfl,t1,v2,_,rfl,t2,v3,_,rfl,t3,v4,_,rfl,t4,v5,_,rfl,t5,rfl⟩:=htys;obtain⟨z0b,rfl⟩:=ty_bool t0;obtain⟨z1_0A,z1_0k,z1_0c,z1_1A,z1_1k,z1_1c,rfl⟩:=ty_metric t1;obtain⟨z2A,z2k,z2c,rfl⟩:=ty_list t2;obtain⟨z3_0A,z3_0k,z3_0c,z3_1A,z3_1k,z3_1c,z3_2A,z3_2k,z3_2c,rfl⟩:=ty_flow (n:=0) t3;obtain⟨z4A,z4k,z4c,rfl⟩:=ty_list t4;obtain⟨z5A,z5k,z5c,rfl⟩:=ty_list t5;show Calls Tryz.prog 29 #[.pointer (some ⟨bw,0,none⟩),.agg #[.bool z0b,.slice z1_0A z1_0k z1_0c,.slice z1_1A z1_1k z1_1c,.slice z2A z2k z2c,.slice z3_0A z3_0k z3_0c,.slice z3_1A z3_1k z3_1c,.slice z3_2A z3_2k z3_2c,.slice z4A z4k z4c,.slice z5A z5k z5c]] w _
 clear h hreps hf hlen h0 h1 h2 h3 h4 h5;go_enter Tryz.func29,Tryz.ntmps29
 go_wp2_with fail
 refine(wfields_any [.bool,metricS,(.list (.no relationS)),flowZ,(.list (.no (nodeS 0))),(.list (.no claimS))] [72,74,76,79,81,84] 34 (by decide) rfl (by simp) HC.out _ bw w.heap.size (w.heap.size+1) (w.heap.size+1+1) o _ (fun i=>tx.getD i []) (((HW.out.alloc _).alloc _).alloc _) (by simp) (((Bk.new' rfl _ _).alloc _).alloc _) ((Bk.new' (by simp) _ _).alloc _) HTYS.out (((HREPS.out.allocW _).allocW _).allocW _) (Bk.new' (by simp) _ _) (by omega) (by omega) (by omega)).mono ?_
 rintro e w1⟨rfl,hw1,hf1⟩;go_wp2;go_end0
 exact⟨rfl,hw1,((((Wfr.refl _ _).allocs hbw _).allocs (by simp;omega) _).allocs (by simp;omega) _).trans hf1⟩
theorem w_certZ:Writes 29 certZ:=wstz_cert (wclo_cert_0 writes_boolean) (wclo_cert_1 w_metric) wclz_cert_2 (wclz_cert_3 (wstz_flow wclz_flow_0 wclz_flow_1 wclz_flow_2)) wclz_cert_4 wclz_cert_5
set_option maxHeartbeats 4000000 in
set_option maxRecDepth 100000 in
theorem formatZ_any(w:World)(D:Nat→Prop)(v:List Value)(t:List UInt8)(hrep:Rep w D certZ v [t])(hg:Gl w) :
 Calls Tryz.prog 10 #[.agg v.toArray] w (CFPost t w):=by
 have hne:t≠[]:=by
  obtain⟨tx,ht,_⟩:=hrep;injection ht with ht _;rw[ht];simp[par]
 obtain⟨z0b,a0,a1,a2,a3,a4,a5,z2A,z2k,z2c,a6,a7,a8,a9,b0,b1,b2,b3,b4,z4A,z4k,z4c,z5A,z5k,z5c,rfl⟩:=ty_cert (n:=0) hrep.ty;have HG:=hid hg;have HR:=hid hrep;have HNE:=hid hne;clear hg hrep hne;show Calls Tryz.prog 10 #[.agg #[.bool z0b,.slice a0 a1 a2,.slice a3 a4 a5,.slice z2A z2k z2c,.slice a6 a7 a8,.slice a9 b0 b1,.slice b2 b3 b4,.slice z4A z4k z4c,.slice z5A z5k z5c]] w _
 go_enter Tryz.func10,Tryz.ntmps10
 have h1:(w.alloc (.cells #[.bool z0b,.slice a0 a1 a2,.slice a3 a4 a5,.slice z2A z2k z2c,.slice a6 a7 a8,.slice a9 b0 b1,.slice b2 b3 b4,.slice z4A z4k z4c,.slice z5A z5k z5c] 34)).heap.size=w.heap.size+1:=by simp
 have hw0:=Wst.new (w.alloc (.cells #[.bool z0b,.slice a0 a1 a2,.slice a3 a4 a5,.slice z2A z2k z2c,.slice a6 a7 a8,.slice a9 b0 b1,.slice b2 b3 b4,.slice z4A z4k z4c,.slice z5A z5k z5c] 34)) (HG.out.alloc _);rw[h1]at hw0;have HW0:=hid hw0;have HR1:=hid (((HR.out.sub (D':=(· < w.heap.size+1)) (fun b _ hlt=>by show b<w.heap.size+1;omega)).allocW (.cells #[.bool z0b,.slice a0 a1 a2,.slice a3 a4 a5,.slice z2A z2k z2c,.slice a6 a7 a8,.slice a9 b0 b1,.slice b2 b3 b4,.slice z4A z4k z4c,.slice z5A z5k z5c] 34)).allocW (.cells #[.pointer none,.slice none 0 0,.bool false] 97))
 have hB:=((Below.refl w.heap.size w).alloc (Nat.le_refl _) (.cells #[.bool z0b,.slice a0 a1 a2,.slice a3 a4 a5,.slice z2A z2k z2c,.slice a6 a7 a8,.slice a9 b0 b1,.slice b2 b3 b4,.slice z4A z4k z4c,.slice z5A z5k z5c] 34)).alloc (by simp) (.cells #[.pointer none,.slice none 0 0,.bool false] 97)
 have HB:=hid hB;clear hw0 h1 hB;go_wp2_with fail
 refine(w_certZ _ (w.heap.size+1) (some []) _ t HW0.out HR1.out).mono ?_;rintro e w1⟨rfl,hw1,hf1⟩;have HB1:=hid (HB.out.trans (hf1.1.mono (by omega)))
 have hput:put (some []) t=if t.length≤262144 then some t else none:=by unfold put;simp
 rw[hput]at hw1;have hc:=hw1.cell;have HW1:=hid hw1;clear hw1 hf1 hput;by_cases hlen:t.length≤262144
 ·rw[if_pos hlen]at hc HW1
  have HLE:=hid hlen;clear hlen;go_wp2_with fail
  refine(bString_any _ (w.heap.size+1) t false HW1.out.1.1 HNE.out HLE.out).mono ?_;rintro e w2⟨rfl,hb2⟩;go_wp2;go_ret2
  exact⟨by rw[if_pos HLE.out,if_pos HLE.out];rfl,HB1.out.trans (hb2.mono (by omega))⟩
 ·rw[if_neg hlen]at hc HW1
  have HLE:=hid hlen;clear hlen;go_wp2;go_ret2
  exact⟨by rw[if_neg HLE.out,if_neg HLE.out];rfl,HB1.out⟩
theorem rep_certZ(w:World)(D:Nat→Prop)(c:Value)(ct:List UInt8)(h:Rep w D (.list (.no claimS)) [c] [ct]) :
 Rep w D certZ [.bool false,.slice none 0 0,.slice none 0 0,.slice none 0 0,.slice none 0 0,.slice none 0 0,.slice none 0 0,.slice none 0 0,c] [certTxt ct]:=by
 refine⟨[[48],[40,40,41,32,40,41,41],[40,41],[40,40,41,32,40,41,32,40,41,41],[40,41],ct],?_,?_⟩
 ·simp[par,body,certTxt,zhead]
 ·exact⟨[.bool false],_,_,_,rfl,rfl,⟨false,rfl,rfl⟩,[.slice none 0 0,.slice none 0 0],_,_,_,rfl,rfl,rep_metric w D,[.slice none 0 0],_,_,_,rfl,rfl,rep_nil _ _ _,[.slice none 0 0,.slice none 0 0,.slice none 0 0],_,_,_,rfl,rfl,rep_flowZ w D,[.slice none 0 0],_,_,_,rfl,rfl,rep_nil _ _ _,[c],[],_,_,rfl,rfl,h,rfl,rfl⟩
set_option maxHeartbeats 8000000 in
set_option maxRecDepth 100000 in
theorem csanez_any(w:World)(hg:Gl w):Calls Tryz.prog 5 #[] w (YesPost w):=by
 have HG:=hid hg;clear hg;have HC:=hid (formatZ_any w (fun _=>True) _ _ (rep_certZ w (fun _=>True) _ _ (rep_nil _ _ _)) HG.out)
 go_enter Tryz.func5,Tryz.ntmps5
 go_wp2_with fail
 refine HC.out.mono ?_;rintro e w1⟨rfl,hb1⟩;have e1:(⟨(if(certTxt [40,41]).length≤262144 then certTxt [40,41]else []).toArray⟩:ByteArray)=⟨#[40,48,32,40,40,41,32,40,41,41,32,40,41,32,40,40,41,32,40,41,32,40,41,41,32,40,41,32,40,41,41]⟩:=by decide
 have e2:(if(certTxt [40,41]).length≤262144 then(0:Int)else 9)=0:=by decide
 rw[e1,e2];have HB1:=hid hb1;have HG1:=hid (HG.out.below hb1);clear e1 e2 hb1;go_wp2_with fail
 refine(parseC_any _ _ HG1.out).mono ?_;intro e w2 hp;have e3:(⟨#[40,48,32,40,40,41,32,40,41,41,32,40,41,32,40,40,41,32,40,41,32,40,41,41,32,40,41,32,40,41,41]⟩:ByteArray).data.toList=certTxt [40,41]:=by decide
 rw[e3]at hp;clear e3;rcases hp with⟨h1,_⟩|⟨_,h1,_⟩|⟨_,_,v,rfl,hrep,hb2⟩
 ·exact absurd h1 (by decide)
 ·exact absurd rd_zero h1
 obtain⟨z0b,a0,a1,a2,a3,a4,a5,z2A,z2k,z2c,a6,a7,a8,a9,b0,b1,b2,b3,b4,z4A,z4k,z4c,z5A,z5k,z5c,rfl⟩:=ty_cert hrep.ty;have HB2:=hid (HB1.out.trans (hb2.mono HB1.out.size));have HG2:=hid (HG1.out.below hb2);clear hrep hb2;go_wp2_with fail
 refine(parseC_any _ _ (HG2.out.alloc _)).mono ?_;intro e w3 hp;have e3:((⟨#[40,48,32,40,40,41,32,40,41,41,32,40,41,32,40,40,41,32,40,41,32,40,41,41,32,40,41,32,40,41,41]⟩:ByteArray)++(⟨#[32]⟩:ByteArray)).data.toList=certTxt [40,41]++[32]:=by decide
 rw[e3]at hp;clear e3;rcases hp with⟨h1,_⟩|⟨_,_,rfl,hb3⟩|⟨_,h1,_⟩
 ·exact absurd h1 (by decide)
 rotate_left
 ·exact absurd (rd_zero_more.symm.trans h1) (by decide)
 have HB3:=hid ((HB2.out.alloc HB2.out.size (.cells #[.bool z0b,.slice a0 a1 a2,.slice a3 a4 a5,.slice z2A z2k z2c,.slice a6 a7 a8,.slice a9 b0 b1,.slice b2 b3 b4,.slice z4A z4k z4c,.slice z5A z5k z5c] 34)).trans (hb3.mono (by have:=HB2.out.size;simp;omega)))
 clear hb3;rw[zcert_eq];go_wp2;go_ret
 exact⟨rfl,HB3.out.alloc HB3.out.size _⟩
end Go.Proofs.YtellcholbkoakaaGreatDoor
