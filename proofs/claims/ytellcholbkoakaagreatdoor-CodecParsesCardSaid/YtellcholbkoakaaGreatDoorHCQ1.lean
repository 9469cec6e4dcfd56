/-
 The writer: fields (printed by gen_codec.py).
-/
import Derived.Test.YtellcholbkoakaaGreatDoorHCP1
import Derived.Test.YtellcholbkoakaaGreatDoorHCWa
import Derived.Test.YtellcholbkoakaaGreatDoorHCE1
import Derived.Deep.MidRow
import Derived.Great.Walk
import Derived.Deep.WholeRow
namespace Go.Proofs.YtellcholbkoakaaGreatDoor
open Go.Lib (hid)
open Go.RowKit AC
set_option linter.unusedVariables false
set_option linter.unusedSimpArgs false
set_option maxHeartbeats 4000000 in
theorem wclo_metric_0(hg:Writes 144 (.list .int)):CloW 143 (.list .int) 25 0:=by
 refine⟨enters_of Tryz.func143 (by kernel_rfl) rfl,?_⟩
 intro w bw bv bt o cs v t h hv ht d1 d2 hcs hrep;obtain⟨zA,zk,zc,rfl⟩:=ty_list hrep.ty;have cv:=hv.cell 0;simp only[gq]at cv;have e0:=(ht.cell 0).trans (hcs 0 (.slice zA zk zc) rfl);have key:=hg w bw o _ t h hrep;rw[val_list]at key;have KEY:=hid key;clear key;clear h hv ht hcs hrep hg;go_enter Tryz.func143,Tryz.ntmps143
 go_wp2_with fail
 refine KEY.out.mono ?_;rintro e w1⟨rfl,hp⟩;go_wp2;go_end0
 exact⟨rfl,hp⟩
set_option maxHeartbeats 4000000 in
theorem wclo_metric_1(hg:Writes 144 (.list .int)):CloW 145 (.list .int) 25 1:=by
 refine⟨enters_of Tryz.func145 (by kernel_rfl) rfl,?_⟩
 intro w bw bv bt o cs v t h hv ht d1 d2 hcs hrep;obtain⟨zA,zk,zc,rfl⟩:=ty_list hrep.ty;have cv:=hv.cell 0;simp only[gq]at cv;have e0:=(ht.cell 1).trans (hcs 0 (.slice zA zk zc) rfl);have key:=hg w bw o _ t h hrep;rw[val_list]at key;have KEY:=hid key;clear key;clear h hv ht hcs hrep hg;go_enter Tryz.func145,Tryz.ntmps145
 go_wp2_with fail
 refine KEY.out.mono ?_;rintro e w1⟨rfl,hp⟩;go_wp2;go_end0
 exact⟨rfl,hp⟩
set_option maxHeartbeats 4000000 in
theorem wclo_cert_0(hg:Writes 73 .bool):CloW 72 .bool 34 0:=by
 refine⟨enters_of Tryz.func72 (by kernel_rfl) rfl,?_⟩
 intro w bw bv bt o cs v t h hv ht d1 d2 hcs hrep;obtain⟨zb,rfl⟩:=ty_bool hrep.ty;have cv:=hv.cell 0;simp only[gq]at cv;have e0:=(ht.cell 0).trans (hcs 0 (.bool zb) rfl);have key:=hg w bw o _ t h hrep;rw[val_bool]at key;have KEY:=hid key;clear key;clear h hv ht hcs hrep hg;go_enter Tryz.func72,Tryz.ntmps72
 go_wp2_with fail
 refine KEY.out.mono ?_;rintro e w1⟨rfl,hp⟩;go_wp2;go_end0
 exact⟨rfl,hp⟩
set_option maxHeartbeats 4000000 in
theorem wclo_cert_1(hg:Writes 75 metricS):CloW 74 metricS 34 1:=by
 refine⟨enters_of Tryz.func74 (by kernel_rfl) rfl,?_⟩
 intro w bw bv bt o cs v t h hv ht d1 d2 hcs hrep;obtain⟨z0A,z0k,z0c,z1A,z1k,z1c,rfl⟩:=ty_metric hrep.ty;have cv:=hv.cell 0;simp only[gq]at cv;have e0:=(ht.cell 1).trans (hcs 0 (.slice z0A z0k z0c) rfl);have e1:=(ht.cell 2).trans (hcs 1 (.slice z1A z1k z1c) rfl);have key:=hg w bw o _ t h hrep;rw[val_metric]at key;have KEY:=hid key;clear key;clear h hv ht hcs hrep hg;go_enter Tryz.func74,Tryz.ntmps74
 go_wp2_with fail
 refine KEY.out.mono ?_;rintro e w1⟨rfl,hp⟩;go_wp2;go_end0
 exact⟨rfl,hp⟩
set_option maxHeartbeats 4000000 in
theorem writes_longs(hg:Writes 224 .int):Writes 144 (.list .int):=by
 intro w bw o v t h hrep;obtain⟨zA,zk,zc,rfl⟩:=ty_list hrep.ty;rw[val_list];have KEY:=hid (ls_int64 224 #[.pointer (some ⟨bw,0,none⟩)] #[] w bw o zA zk zc t h hrep (ElW.meth (enters_of Tryz.func224 (by kernel_rfl) rfl) hg bw w))
 clear h hrep hg;go_enter Tryz.func144,Tryz.ntmps144
 go_wp2_with fail
 refine KEY.out.mono ?_;rintro e w1⟨rfl,hp⟩;go_wp2;go_end0
 exact⟨rfl,hp⟩
end Go.Proofs.YtellcholbkoakaaGreatDoor
