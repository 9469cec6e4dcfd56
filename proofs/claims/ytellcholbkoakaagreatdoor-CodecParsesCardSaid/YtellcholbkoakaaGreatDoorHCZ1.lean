/-
 The writer: structs (printed by gen_codec.py).
-/
import Derived.Test.YtellcholbkoakaaGreatDoorHCWa
import Derived.Test.YtellcholbkoakaaGreatDoorHCRa
namespace Go.Proofs.YtellcholbkoakaaGreatDoor
open Go.Lib (hid)
open Go.RowKit AC
set_option linter.unusedVariables false
set_option linter.unusedSimpArgs false
set_option maxHeartbeats 4000000 in
set_option maxRecDepth 100000 in
theorem wst_metric(h0:CloW 143 (.list .int) 25 0)(h1:CloW 145 (.list .int) 25 1):Writes 75 (.st (ands [(.list .int),(.list .int)])):=by
 intro w bw o v t h hrep;have hbw:=h.lt;have HC:Hid (∀i k s,([143,145]:List FuncId)[i]? = some k→([(.list .int),(.list .int)]:List Shape)[i]? = some s→CloW k s 25 (offs [(.list .int),(.list .int)] i)):=by
  intro i k s hk hs;rcases i with _|_|i
  ·simp only[gq]at hk hs;injection hk with hk;injection hs with hs;subst hk;subst hs;rw[show offs [(.list .int),(.list .int)] 0=0 from by simp[offs,Shape.sz]];exact h0
  ·simp only[gq]at hk hs;injection hk with hk;injection hs with hs;subst hk;subst hs;rw[show offs [(.list .int),(.list .int)] 1=1 from by simp[offs,Shape.sz]];exact h1
  ·simp at hk
 obtain⟨tx,ht,hf⟩:=hrep;injection ht with ht _;subst ht;obtain⟨hlen,vs,rfl,htys,hreps⟩:=Rep.split hf;rw[hlen];have HTYS:=hid htys;have HREPS:=hid hreps;have HW:=hid h;obtain⟨v0,_,rfl,t0,v1,_,rfl,t1,rfl⟩:=htys;obtain⟨z0A,z0k,z0c,rfl⟩:=ty_list t0;obtain⟨z1A,z1k,z1c,rfl⟩:=ty_list t1;show Calls Tryz.prog 75 #[.pointer (some ⟨bw,0,none⟩),.agg #[.slice z0A z0k z0c,.slice z1A z1k z1c]] w _
 clear h hreps hf hlen h0 h1;go_enter Tryz.func75,Tryz.ntmps75
 go_wp2_with fail
 refine(wfields_any [(.list .int),(.list .int)] [143,145] 25 (by decide) rfl (by simp) HC.out _ bw w.heap.size (w.heap.size+1) (w.heap.size+1+1) o _ (fun i=>tx.getD i []) (((HW.out.alloc _).alloc _).alloc _) (by simp) (((Bk.new' rfl _ _).alloc _).alloc _) ((Bk.new' (by simp) _ _).alloc _) HTYS.out (((HREPS.out.allocW _).allocW _).allocW _) (Bk.new' (by simp) _ _) (by omega) (by omega) (by omega)).mono ?_
 rintro e w1⟨rfl,hw1,hf1⟩;go_wp2;go_end0
 exact⟨rfl,hw1,((((Wfr.refl _ _).allocs hbw _).allocs (by simp;omega) _).allocs (by simp;omega) _).trans hf1⟩
end Go.Proofs.YtellcholbkoakaaGreatDoor
