/-
  The reader and the writer: all together (printed by gen_codec.py).
-/
import Derived.Test.YtellcholbkoakaaGreatDoorHCPd
import Derived.Test.YtellcholbkoakaaGreatDoorHCK1
import Derived.Test.YtellcholbkoakaaGreatDoorHCK4
import Derived.Test.YtellcholbkoakaaGreatDoorHCX1
import Derived.Test.YtellcholbkoakaaGreatDoorHCX3
import Derived.Test.YtellcholbkoakaaGreatDoorHCQ1
import Derived.Test.YtellcholbkoakaaGreatDoorHCP1
import Derived.Test.YtellcholbkoakaaGreatDoorHCWa
import Derived.Test.YtellcholbkoakaaGreatDoorHCE1
import Derived.Deep.MidRow
import Derived.Great.Walk
import Derived.Deep.WholeRow
import Derived.Test.YtellcholbkoakaaGreatDoorHCZ1
import Derived.Test.YtellcholbkoakaaGreatDoorHCRa
import Derived.Test.YtellcholbkoakaaGreatDoorHCRep
namespace Go.Proofs.YtellcholbkoakaaGreatDoor
open Go.Lib (hid)
open Go.RowKit AC
set_option linter.unusedVariables false
set_option linter.unusedSimpArgs false
theorem clo_vac{k:FuncId}{s:Shape}{T:TypeId}{off:Nat}(he:Enters Tryz.prog k):CloR k s 0 T off:=⟨he,fun w br bv bt str r cs h hlen=>absurd hlen (by omega)⟩
theorem rd_st_nil(f:Shape)(o:Option (List UInt8))(h:∀r,o=some r→r.length≤0):rd (.st f) 0 o=none:=by
 have:want 40 o=none:=by
  cases o with
  | none=>rfl
  | some r=>have:=h r rfl;rw[List.length_eq_zero_iff.1 (by omega:r.length=0)];rfl
 unfold rd;rw[this,rd_none];rfl
theorem Reads.zero {g : FuncId} {f f' : Shape} (h : Reads g (.st f) 0) (hty : ∀ v, Ty f v → Ty f' v) : Reads g (.no (.st f')) 0 := by
  intro w br str o hr hl
  refine (h w br str o hr hl).mono ?_
  rintro e w' ⟨v, he, h1, h2, h3, h4⟩
  have hn := rd_st_nil f o hl
  refine ⟨v, he, hty v h1, ?_, h3, fun r r' _ e' => by cases e'⟩
  rw [hn] at h2
  exact h2

theorem r_linTerm(L:Nat):Reads 188 linTermS L:=st_linTerm L (clo_linTerm_0 L (reads_integer (L-1))) (clo_linTerm_1 L (reads_long (L-1)))
theorem r_lin(L:Nat):Reads 95 linS L:=st_lin L (clo_lin_0 L (reads_long (L-1))) (clo_lin_1 L (r_linTerm (L-1)))
theorem r_relation(L:Nat):Reads 38 relationS L:=st_relation L (clo_relation_0 L (r_lin (L-1))) (clo_relation_1 L (r_lin (L-1)))
theorem r_metric(L:Nat):Reads 35 metricS L:=st_metric L (clo_metric_0 L (reads_longs (L-1) (reads_long (L-1)))) (clo_metric_1 L (reads_longs (L-1) (reads_long (L-1))))
theorem r_typ_all:∀n:Nat,Reads 191 (typS n) n
 | 0=>Reads.zero (st_typ 0 0 (clo_vac (enters_of Tryz.func261 (by kernel_rfl) rfl)) (clo_vac (enters_of Tryz.func262 (by kernel_rfl) rfl)) (clo_vac (enters_of Tryz.func263 (by kernel_rfl) rfl))) (fun v h=>h)
 | n+1=>by
  have ih:=r_typ_all n;exact st_typ n (n+1) (clo_typ_0 (n+1) (reads_integer n)) (clo_typ_1 (n+1) (reads_integer n)) (clo_typ_2 n (n+1) ih)
theorem r_typ(N L:Nat)(h:L≤N):Reads 191 (typS N) L:=(r_typ_all N).mono h
theorem r_store(N L:Nat)(h:L≤N):Reads 103 (storeS N) L:=st_store N L (clo_store_0 N L (r_typ N (L-1) (by omega))) (clo_store_1 L (reads_integers (L-1) (reads_integer (L-1))))
theorem r_flow(N L:Nat)(h:L≤N):Reads 40 (flowS N) L:=st_flow N L (clo_flow_0 L (reads_integers (L-1) (reads_integer (L-1)))) (clo_flow_1 L (reads_integers (L-1) (reads_integer (L-1)))) (clo_flow_2 N L (r_store N (L-1) (by omega)))
theorem r_index_all:∀n:Nat,Reads 322 (indexS n) n
 | 0=>Reads.zero (st_index 0 0 (clo_vac (enters_of Tryz.func353 (by kernel_rfl) rfl)) (clo_vac (enters_of Tryz.func354 (by kernel_rfl) rfl))) (fun v h=>h)
 | n+1=>by
  have ih:=r_index_all n;exact st_index n (n+1) (clo_index_0 (n+1) (reads_integer n)) (clo_index_1 n (n+1) ih)
theorem r_index(N L:Nat)(h:L≤N):Reads 322 (indexS N) L:=(r_index_all N).mono h
theorem r_factor(N L:Nat)(h:L≤N):Reads 269 (factorS N) L:=st_factor N L (clo_factor_0 L (reads_integer (L-1))) (clo_factor_1 N L (r_index N (L-1) (by omega)))
theorem r_atom(L:Nat):Reads 272 atomS L:=st_atom L (clo_atom_0 L (r_lin (L-1))) (clo_atom_1 L (reads_integer (L-1)))
theorem r_mono(N L:Nat)(h:L≤N):Reads 196 (monoS N) L:=st_mono N L (clo_mono_0 N L (r_factor N (L-1) (by omega))) (clo_mono_1 L (r_atom (L-1)))
theorem r_term(N L:Nat)(h:L≤N):Reads 110 (termS N) L:=st_term N L (clo_term_0 L (reads_rat (L-1))) (clo_term_1 N L (r_mono N (L-1) (by omega)))
theorem r_use(N L:Nat)(h:L≤N):Reads 200 (useS N) L:=st_use N L (clo_use_0 L (reads_integer (L-1))) (clo_use_1 L (reads_rat (L-1))) (clo_use_2 N L (r_mono N (L-1) (by omega)))
theorem r_part(N L:Nat)(h:L≤N):Reads 117 (useS N) L:=st_part N L (clo_part_0 L (reads_integer (L-1))) (clo_part_1 L (reads_rat (L-1))) (clo_part_2 N L (r_mono N (L-1) (by omega)))
theorem r_target(N L:Nat)(h:L≤N):Reads 114 (targetS N) L:=st_target N L (clo_target_0 L (reads_integer (L-1))) (clo_target_1 N L (r_use N (L-1) (by omega))) (clo_target_2 N L (r_term N (L-1) (by omega)))
theorem r_axiom(L:Nat):Reads 207 axS L:=st_axiom L (clo_axiom_0 L (reads_integer (L-1))) (clo_axiom_1 L (r_lin (L-1))) (clo_axiom_2 L (r_lin (L-1))) (clo_axiom_3 L (reads_integer (L-1)))
theorem r_axiomUse(N L:Nat)(h:L≤N):Reads 126 (axuS N) L:=st_axiomUse N L (clo_axiomUse_0 L (r_axiom (L-1))) (clo_axiomUse_1 L (reads_rat (L-1))) (clo_axiomUse_2 N L (r_mono N (L-1) (by omega))) (clo_axiomUse_3 L (reads_rats (L-1) (reads_rat (L-1)))) (clo_axiomUse_4 L (reads_rats (L-1) (reads_rat (L-1))))
theorem r_node(N L:Nat)(h:L≤N):Reads 43 (nodeS N) L:=st_node N L (clo_node_0 L (reads_integer (L-1))) (clo_node_1 L (reads_integer (L-1))) (clo_node_2 L (reads_boolean (L-1))) (clo_node_3 N L (r_term N (L-1) (by omega))) (clo_node_4 N L (r_term N (L-1) (by omega))) (clo_node_5 N L (r_target N (L-1) (by omega))) (clo_node_6 N L (r_part N (L-1) (by omega))) (clo_node_7 N L (r_term N (L-1) (by omega))) (clo_node_8 L (reads_integers (L-1) (reads_integer (L-1)))) (clo_node_9 L (reads_rats (L-1) (reads_rat (L-1)))) (clo_node_10 N L (r_axiomUse N (L-1) (by omega)))
theorem r_claim(L:Nat):Reads 46 claimS L:=st_claim L (clo_claim_0 L (reads_integer (L-1))) (clo_claim_1 L (reads_integer (L-1)))
theorem r_cert(N L:Nat)(h:L≤N):Reads 11 (certS N) L:=st_cert N L (clo_cert_0 L (reads_boolean (L-1))) (clo_cert_1 L (r_metric (L-1))) (clo_cert_2 L (r_relation (L-1))) (clo_cert_3 N L (r_flow N (L-1) (by omega))) (clo_cert_4 N L (r_node N (L-1) (by omega))) (clo_cert_5 L (r_claim (L-1)))
theorem w_metric:Writes 75 metricS:=wst_metric (wclo_metric_0 (writes_longs writes_long)) (wclo_metric_1 (writes_longs writes_long))
def NN:Nat:=262144
def zcert:List Value:=[.bool false,.slice none 0 0,.slice none 0 0,.slice none 0 0,.slice none 0 0,.slice none 0 0,.slice none 0 0,.slice none 0 0,.slice none 0 0]
def CFPost(t:List UInt8)(w:World)(e:Ending)(w':World):Prop:=
 e = .returned (.tuple #[.string ⟨(if t.length≤262144 then t else []).toArray⟩,.int .i64 (if t.length≤262144 then 0 else 9)])∧Below w.heap.size w w'
theorem Wst.new(w:World)(hg:Gl w):Wst (w.alloc (.cells #[.pointer none,.slice none 0 0,.bool false] 97)) w.heap.size (some []):=
 ⟨⟨⟨_,_,AC.Bk.new w _ _,.inl rfl,World.ownsRow_nil _ _ _ _⟩,by simp⟩,hg.alloc _,hg.2.2.2.2⟩
def CPPost(l:List UInt8)(w:World)(e:Ending)(w':World):Prop:=
 (262144<l.length∧e = .returned (.tuple #[.agg zcert.toArray,.int .i64 9])∧Below w.heap.size w w') ∨
 (l.length≤262144∧rd (certS NN) 0 (some l)≠some []∧e = .returned (.tuple #[.agg zcert.toArray,.int .i64 2])∧Below w.heap.size w w') ∨
 (l.length≤262144∧rd (certS NN) 0 (some l)=some []∧∃v,e = .returned (.tuple #[.agg v.toArray,.int .i64 0])∧Rep w' (w.heap.size ≤ ·) (certS NN) v [l]∧Below w.heap.size w w')
theorem Rst.new(w:World)(s:ByteArray)(hs:s.size≤262144)(hg:Gl w):Rst (w.alloc (.cells #[.string s,.int .i64 0,.bool false] 48)) w.heap.size s (some s.data.toList):=
 ⟨0,false,AC.Bk.new w _ _,by omega,hs,rfl,hg.alloc _,hg.2.2.2.2⟩
set_option maxHeartbeats 8000000 in
set_option maxRecDepth 100000 in
theorem parseC_any(w:World)(s:ByteArray)(hg:Gl w):Calls Tryz.prog 6 #[.string s] w (CPPost s.data.toList w):=by
 have HG:=hid hg;clear hg;have hll:s.data.toList.length=s.size:=by simp
 have HLL:=hid hll;clear hll;by_cases hs:s.size≤262144
 ·have hd:decide ((262144:Int)<(s.size:Int))=false:=by simp;omega
  go_enter Tryz.func6,Tryz.ntmps6
  have hr0:=Rst.new (w.alloc (.cells #[.bool false,.slice none 0 0,.slice none 0 0,.slice none 0 0,.slice none 0 0,.slice none 0 0,.slice none 0 0,.slice none 0 0,.slice none 0 0] 34)) s hs (HG.out.alloc _);rw[show(w.alloc (.cells #[.bool false,.slice none 0 0,.slice none 0 0,.slice none 0 0,.slice none 0 0,.slice none 0 0,.slice none 0 0,.slice none 0 0,.slice none 0 0] 34)).heap.size=w.heap.size+1 by simp]at hr0
  have HR0:=hid hr0;have hk0:=(AC.Bk.new w 34 #[.bool false,.slice none 0 0,.slice none 0 0,.slice none 0 0,.slice none 0 0,.slice none 0 0,.slice none 0 0,.slice none 0 0,.slice none 0 0]).alloc (.cells #[.string s,.int .i64 0,.bool false] 48);have HK0:=hid hk0;have hf0:=((Fr.refl (· = w.heap.size+1) w).alloc (.cells #[.bool false,.slice none 0 0,.slice none 0 0,.slice none 0 0,.slice none 0 0,.slice none 0 0,.slice none 0 0,.slice none 0 0,.slice none 0 0] 34)).alloc (.cells #[.string s,.int .i64 0,.bool false] 48)
  have HF0:=hid hf0;clear hr0 hk0 hf0;go_wp2_with fail
  refine(r_cert NN NN (Nat.le_refl _) _ (w.heap.size+1) s (some s.data.toList) HR0.out (fun r hr=>by injection hr with hr;rw[←hr,HLL.out];exact hs)).mono ?_
  rintro e w1⟨v,rfl,hty,hst,hf,htx⟩;rw[val_cert];have HK1:=hid (HK0.out.fr hf (fun h=>by have h':w.heap.size=w.heap.size+1:=h;omega))
  have HF:=hid (HF0.out.trans hf);have b5:w.heap.size+1+1≤w1.heap.size:=by have:=hf.size;simpa using this
  have HTX:=hid htx;obtain⟨z0b,a0,a1,a2,a3,a4,a5,z2A,z2k,z2c,a6,a7,a8,a9,b0,b1,b2,b3,b4,z4A,z4k,z4c,z5A,z5k,z5c,rfl⟩:=ty_cert hty;obtain⟨pos,bad,hk,hp1,hp2,ho,hgl,hgn⟩:=hst;have HO:=hid ho;have c1:=hk.cell 1;have c2:=hk.cell 2;have k0:=HK1.out.cell 0;have g0:=HK1.out.frozen 0;have k1:=HK1.out.cell 1;have g1:=HK1.out.frozen 1;have k2:=HK1.out.cell 2;have g2:=HK1.out.frozen 2;have k3:=HK1.out.cell 3;have g3:=HK1.out.frozen 3;have k4:=HK1.out.cell 4;have g4:=HK1.out.frozen 4;have k5:=HK1.out.cell 5;have g5:=HK1.out.frozen 5;have k6:=HK1.out.cell 6;have g6:=HK1.out.frozen 6;have k7:=HK1.out.cell 7;have g7:=HK1.out.frozen 7;have k8:=HK1.out.cell 8;have g8:=HK1.out.frozen 8;simp only[gq]at c1 c2 k0 k1 k2 k3 k4 k5 k6 k7 k8;have hltw:w.heap.size<w1.heap.size:=by omega
  have hltr:w.heap.size+1<w1.heap.size:=by omega
  clear htx hf hty hk hgl ho;cases bad with
  | true=>
   go_wp2;have hb3:=(((((((((HK1.out.set 0 (.bool false)).set 1 (.slice none 0 0)).set 2 (.slice none 0 0)).set 3 (.slice none 0 0)).set 4 (.slice none 0 0)).set 5 (.slice none 0 0)).set 6 (.slice none 0 0)).set 7 (.slice none 0 0)).set 8 (.slice none 0 0)).alloc (.cells #[.bool z0b,.slice a0 a1 a2,.slice a3 a4 a5,.slice z2A z2k z2c,.slice a6 a7 a8,.slice a9 b0 b1,.slice b2 b3 b4,.slice z4A z4k z4c,.slice z5A z5k z5c] 34);have r0:=hb3.cell 0;have r1:=hb3.cell 1;have r2:=hb3.cell 2;have r3:=hb3.cell 3;have r4:=hb3.cell 4;have r5:=hb3.cell 5;have r6:=hb3.cell 6;have r7:=hb3.cell 7;have r8:=hb3.cell 8;refine bodyPost_ret (v:= .tuple #[.agg zcert.toArray,.int .i64 2]) (by simp[results,Tryz.results6,go_sem,zcert,r0,r1,r2,r3,r4,r5,r6,r7,r8]) rfl ?_
   have hfw:Fr (· = w.heap.size) w1 (((((((((w1.setCell ⟨w.heap.size,0,none⟩ (.bool false)).setCell ⟨w.heap.size,1,none⟩ (.slice none 0 0)).setCell ⟨w.heap.size,2,none⟩ (.slice none 0 0)).setCell ⟨w.heap.size,3,none⟩ (.slice none 0 0)).setCell ⟨w.heap.size,4,none⟩ (.slice none 0 0)).setCell ⟨w.heap.size,5,none⟩ (.slice none 0 0)).setCell ⟨w.heap.size,6,none⟩ (.slice none 0 0)).setCell ⟨w.heap.size,7,none⟩ (.slice none 0 0)).setCell ⟨w.heap.size,8,none⟩ (.slice none 0 0)):=((((((((((Fr.refl _ _).wr _ _).wr _ _).wr _ _).wr _ _).wr _ _).wr _ _).wr _ _).wr _ _).wr _ _)
   have hfa:=(HF.out.then hfw (fun x hx=> .inr (by have hx':x=w.heap.size:=hx;omega))).alloc (.cells #[.bool z0b,.slice a0 a1 a2,.slice a3 a4 a5,.slice z2A z2k z2c,.slice a6 a7 a8,.slice a9 b0 b1,.slice b2 b3 b4,.slice z4A z4k z4c,.slice z5A z5k z5c] 34)
   have hbel:=hfa.toBelow (n:=w.heap.size) (fun x hx=>by have hx':x=w.heap.size+1:=hx;omega) (Nat.le_refl _)
   exact .inr (.inl ⟨by rw[HLL.out];exact hs,by have:=HO.out;rw[this];simp,rfl,hbel⟩)
  | false=>
   by_cases hpos:pos=s.size
   ·subst hpos
    have hpn:(((s.size:Nat):Int) != (s.size:Int))=false:=by simp
    go_wp2;have hb3:=(((((((((HK1.out.set 0 (.bool z0b)).set 1 (.slice a0 a1 a2)).set 2 (.slice a3 a4 a5)).set 3 (.slice z2A z2k z2c)).set 4 (.slice a6 a7 a8)).set 5 (.slice a9 b0 b1)).set 6 (.slice b2 b3 b4)).set 7 (.slice z4A z4k z4c)).set 8 (.slice z5A z5k z5c)).alloc (.cells #[.bool z0b,.slice a0 a1 a2,.slice a3 a4 a5,.slice z2A z2k z2c,.slice a6 a7 a8,.slice a9 b0 b1,.slice b2 b3 b4,.slice z4A z4k z4c,.slice z5A z5k z5c] 34);have r0:=hb3.cell 0;have r1:=hb3.cell 1;have r2:=hb3.cell 2;have r3:=hb3.cell 3;have r4:=hb3.cell 4;have r5:=hb3.cell 5;have r6:=hb3.cell 6;have r7:=hb3.cell 7;have r8:=hb3.cell 8;refine bodyPost_ret (v:= .tuple #[.agg #[.bool z0b,.slice a0 a1 a2,.slice a3 a4 a5,.slice z2A z2k z2c,.slice a6 a7 a8,.slice a9 b0 b1,.slice b2 b3 b4,.slice z4A z4k z4c,.slice z5A z5k z5c],.int .i64 0]) (by simp[results,Tryz.results6,go_sem,r0,r1,r2,r3,r4,r5,r6,r7,r8]) rfl ?_
    have hfw:Fr (· = w.heap.size) w1 (((((((((w1.setCell ⟨w.heap.size,0,none⟩ (.bool z0b)).setCell ⟨w.heap.size,1,none⟩ (.slice a0 a1 a2)).setCell ⟨w.heap.size,2,none⟩ (.slice a3 a4 a5)).setCell ⟨w.heap.size,3,none⟩ (.slice z2A z2k z2c)).setCell ⟨w.heap.size,4,none⟩ (.slice a6 a7 a8)).setCell ⟨w.heap.size,5,none⟩ (.slice a9 b0 b1)).setCell ⟨w.heap.size,6,none⟩ (.slice b2 b3 b4)).setCell ⟨w.heap.size,7,none⟩ (.slice z4A z4k z4c)).setCell ⟨w.heap.size,8,none⟩ (.slice z5A z5k z5c)):=((((((((((Fr.refl _ _).wr _ _).wr _ _).wr _ _).wr _ _).wr _ _).wr _ _).wr _ _).wr _ _).wr _ _)
    have hfa:=(HF.out.then hfw (fun x hx=> .inr (by have hx':x=w.heap.size:=hx;omega))).alloc (.cells #[.bool z0b,.slice a0 a1 a2,.slice a3 a4 a5,.slice z2A z2k z2c,.slice a6 a7 a8,.slice a9 b0 b1,.slice b2 b3 b4,.slice z4A z4k z4c,.slice z5A z5k z5c] 34)
    have hbel:=hfa.toBelow (n:=w.heap.size) (fun x hx=>by have hx':x=w.heap.size+1:=hx;omega) (Nat.le_refl _)
    have hrd:rd (certS NN) 0 (some s.data.toList)=some []:=by have:=HO.out;rw[this];simp
    obtain⟨t,ht,hrep⟩:=HTX.out _ _ rfl hrd;rw[List.append_nil]at ht;refine .inr (.inr ⟨by rw[HLL.out];exact hs,hrd,_,rfl,?_,hbel⟩)
    rw[ht];refine((hrep.fr hfw (fun x hx h=>?_)).allocW _).sub (fun b hb _=>?_)
    ·have h1:((w.alloc (.cells #[.bool false,.slice none 0 0,.slice none 0 0,.slice none 0 0,.slice none 0 0,.slice none 0 0,.slice none 0 0,.slice none 0 0,.slice none 0 0] 34)).alloc (.cells #[.string s,.int .i64 0,.bool false] 48)).heap.size≤x:=hx
     have h2:x=w.heap.size:=h;simp at h1;omega
    ·have h1:((w.alloc (.cells #[.bool false,.slice none 0 0,.slice none 0 0,.slice none 0 0,.slice none 0 0,.slice none 0 0,.slice none 0 0,.slice none 0 0,.slice none 0 0] 34)).alloc (.cells #[.string s,.int .i64 0,.bool false] 48)).heap.size≤b:=hb
     simp at h1;show w.heap.size≤b
     omega
   ·have hpn:(((pos:Nat):Int) != (s.size:Int))=true:=by simp;omega
    have HPO:=hid hpos;clear hpos;go_wp2;have hb3:=(((((((((HK1.out.set 0 (.bool false)).set 1 (.slice none 0 0)).set 2 (.slice none 0 0)).set 3 (.slice none 0 0)).set 4 (.slice none 0 0)).set 5 (.slice none 0 0)).set 6 (.slice none 0 0)).set 7 (.slice none 0 0)).set 8 (.slice none 0 0)).alloc (.cells #[.bool z0b,.slice a0 a1 a2,.slice a3 a4 a5,.slice z2A z2k z2c,.slice a6 a7 a8,.slice a9 b0 b1,.slice b2 b3 b4,.slice z4A z4k z4c,.slice z5A z5k z5c] 34);have r0:=hb3.cell 0;have r1:=hb3.cell 1;have r2:=hb3.cell 2;have r3:=hb3.cell 3;have r4:=hb3.cell 4;have r5:=hb3.cell 5;have r6:=hb3.cell 6;have r7:=hb3.cell 7;have r8:=hb3.cell 8;refine bodyPost_ret (v:= .tuple #[.agg zcert.toArray,.int .i64 2]) (by simp[results,Tryz.results6,go_sem,zcert,r0,r1,r2,r3,r4,r5,r6,r7,r8]) rfl ?_
    have hfw:Fr (· = w.heap.size) w1 (((((((((w1.setCell ⟨w.heap.size,0,none⟩ (.bool false)).setCell ⟨w.heap.size,1,none⟩ (.slice none 0 0)).setCell ⟨w.heap.size,2,none⟩ (.slice none 0 0)).setCell ⟨w.heap.size,3,none⟩ (.slice none 0 0)).setCell ⟨w.heap.size,4,none⟩ (.slice none 0 0)).setCell ⟨w.heap.size,5,none⟩ (.slice none 0 0)).setCell ⟨w.heap.size,6,none⟩ (.slice none 0 0)).setCell ⟨w.heap.size,7,none⟩ (.slice none 0 0)).setCell ⟨w.heap.size,8,none⟩ (.slice none 0 0)):=((((((((((Fr.refl _ _).wr _ _).wr _ _).wr _ _).wr _ _).wr _ _).wr _ _).wr _ _).wr _ _).wr _ _)
    have hfa:=(HF.out.then hfw (fun x hx=> .inr (by have hx':x=w.heap.size:=hx;omega))).alloc (.cells #[.bool z0b,.slice a0 a1 a2,.slice a3 a4 a5,.slice z2A z2k z2c,.slice a6 a7 a8,.slice a9 b0 b1,.slice b2 b3 b4,.slice z4A z4k z4c,.slice z5A z5k z5c] 34)
    have hbel:=hfa.toBelow (n:=w.heap.size) (fun x hx=>by have hx':x=w.heap.size+1:=hx;omega) (Nat.le_refl _)
    refine .inr (.inl ⟨by rw[HLL.out];exact hs,?_,rfl,hbel⟩)
    have:=HO.out;rw[this];simp only[Bool.false_eq_true,if_false];intro e;injection e with e;have h9:=congrArg List.length e;simp at h9;have:=HPO.out;omega
 ·have hd:decide ((262144:Int)<(s.size:Int))=true:=by simp;omega
  go_enter Tryz.func6,Tryz.ntmps6
  go_wp2;refine bodyPost_ret (v:= .tuple #[.agg zcert.toArray,.int .i64 9]) (by simp[results,Tryz.results6,go_sem,zcert]) rfl ?_
  exact .inl ⟨by rw[HLL.out];omega,rfl,(Below.refl _ _).alloc (Nat.le_refl _) _⟩
theorem zcert_eq:zcert.toArray = #[.bool false,.slice none 0 0,.slice none 0 0,.slice none 0 0,.slice none 0 0,.slice none 0 0,.slice none 0 0,.slice none 0 0,.slice none 0 0]:=rfl
def YesPost(w:World)(e:Ending)(w':World):Prop:=e = .returned (.bool true)∧Below w.heap.size w w'
end Go.Proofs.YtellcholbkoakaaGreatDoor
