/-
  The writer: fields (printed by gen_codec.py).
-/
import Derived.Test.YtdbglgjphfkonaaGreatDoorHCP1
import Derived.Test.YtdbglgjphfkonaaGreatDoorHCP2
import Derived.Test.YtdbglgjphfkonaaGreatDoorHCP3
import Derived.Test.YtdbglgjphfkonaaGreatDoorHCP4
import Derived.Test.YtdbglgjphfkonaaGreatDoorHCP5
namespace Go.Proofs.YtdbglgjphfkonaaGreatDoor
open Go.RowKit AC
set_option linter.unusedVariables false
set_option linter.unusedSimpArgs false

set_option maxHeartbeats 1000000 in
theorem wclo_linTerm_0 (hg : Writes 103 .int) : CloW 217 .int 164 0 := by
  refine ⟨enters_of Tryz.func217 (by kernel_rfl) rfl, ?_⟩
  intro w bw bv bt o cs v t h hv ht d1 d2 hcs hrep
  obtain ⟨zn, rfl⟩ := ty_int hrep.ty
  have cv := hv.cell 0
  simp only [List.getElem?_toArray, List.getElem?_cons_zero] at cv
  have e0 := (ht.cell 0).trans (hcs 0 (.int .i64 zn) rfl)
  have key := hg w bw o _ t h hrep
  rw [val_int] at key
  have KEY := Lib.hid key
  clear key
  clear h hv ht hcs hrep hg
  go_enter Tryz.func217, Tryz.ntmps217
  go_wp2_with fail
  refine KEY.out.mono ?_
  rintro e w1 ⟨rfl, hp⟩
  go_wp2
  go_end0
  exact ⟨rfl, hp⟩

set_option maxHeartbeats 1000000 in
theorem wclo_linTerm_1 (hg : Writes 160 .int) : CloW 218 .int 164 1 := by
  refine ⟨enters_of Tryz.func218 (by kernel_rfl) rfl, ?_⟩
  intro w bw bv bt o cs v t h hv ht d1 d2 hcs hrep
  obtain ⟨zn, rfl⟩ := ty_int hrep.ty
  have cv := hv.cell 0
  simp only [List.getElem?_toArray, List.getElem?_cons_zero] at cv
  have e0 := (ht.cell 1).trans (hcs 0 (.int .i64 zn) rfl)
  have key := hg w bw o _ t h hrep
  rw [val_int] at key
  have KEY := Lib.hid key
  clear key
  clear h hv ht hcs hrep hg
  go_enter Tryz.func218, Tryz.ntmps218
  go_wp2_with fail
  refine KEY.out.mono ?_
  rintro e w1 ⟨rfl, hp⟩
  go_wp2
  go_end0
  exact ⟨rfl, hp⟩

set_option maxHeartbeats 1000000 in
theorem wclo_lin_0 (hg : Writes 160 .int) : CloW 161 .int 95 0 := by
  refine ⟨enters_of Tryz.func161 (by kernel_rfl) rfl, ?_⟩
  intro w bw bv bt o cs v t h hv ht d1 d2 hcs hrep
  obtain ⟨zn, rfl⟩ := ty_int hrep.ty
  have cv := hv.cell 0
  simp only [List.getElem?_toArray, List.getElem?_cons_zero] at cv
  have e0 := (ht.cell 0).trans (hcs 0 (.int .i64 zn) rfl)
  have key := hg w bw o _ t h hrep
  rw [val_int] at key
  have KEY := Lib.hid key
  clear key
  clear h hv ht hcs hrep hg
  go_enter Tryz.func161, Tryz.ntmps161
  go_wp2_with fail
  refine KEY.out.mono ?_
  rintro e w1 ⟨rfl, hp⟩
  go_wp2
  go_end0
  exact ⟨rfl, hp⟩

set_option maxHeartbeats 1000000 in
theorem wclo_lin_1 (hg : Writes 164 linTermS) : CloW 162 (.list linTermS) 95 1 := by
  refine ⟨enters_of Tryz.func162 (by kernel_rfl) rfl, ?_⟩
  intro w bw bv bt o cs v t h hv ht d1 d2 hcs hrep
  obtain ⟨zA, zk, zc, rfl⟩ := ty_list hrep.ty
  have cv := hv.cell 0
  simp only [List.getElem?_toArray, List.getElem?_cons_zero] at cv
  have e0 := (ht.cell 1).trans (hcs 0 (.slice zA zk zc) rfl)
  have KEY := Lib.hid (ls_linTerm 164 #[.pointer (some ⟨bw, 0, none⟩)] #[] w bw o zA zk zc t h hrep (ElW.meth (enters_of Tryz.func164 (by kernel_rfl) rfl) hg bw w))
  clear h hv ht hcs hrep hg
  go_enter Tryz.func162, Tryz.ntmps162
  go_wp2_with fail
  refine KEY.out.mono ?_
  rintro e w1 ⟨rfl, hp⟩
  go_wp2
  go_end0
  exact ⟨rfl, hp⟩

set_option maxHeartbeats 1000000 in
theorem wclo_relation_0 (hg : Writes 93 linS) : CloW 91 (.list linS) 61 0 := by
  refine ⟨enters_of Tryz.func91 (by kernel_rfl) rfl, ?_⟩
  intro w bw bv bt o cs v t h hv ht d1 d2 hcs hrep
  obtain ⟨zA, zk, zc, rfl⟩ := ty_list hrep.ty
  have cv := hv.cell 0
  simp only [List.getElem?_toArray, List.getElem?_cons_zero] at cv
  have e0 := (ht.cell 0).trans (hcs 0 (.slice zA zk zc) rfl)
  have KEY := Lib.hid (ls_lin 93 #[.pointer (some ⟨bw, 0, none⟩)] #[] w bw o zA zk zc t h hrep (ElW.meth (enters_of Tryz.func93 (by kernel_rfl) rfl) hg bw w))
  clear h hv ht hcs hrep hg
  go_enter Tryz.func91, Tryz.ntmps91
  go_wp2_with fail
  refine KEY.out.mono ?_
  rintro e w1 ⟨rfl, hp⟩
  go_wp2
  go_end0
  exact ⟨rfl, hp⟩

set_option maxHeartbeats 1000000 in
theorem wclo_relation_1 (hg : Writes 93 linS) : CloW 94 (.list linS) 61 1 := by
  refine ⟨enters_of Tryz.func94 (by kernel_rfl) rfl, ?_⟩
  intro w bw bv bt o cs v t h hv ht d1 d2 hcs hrep
  obtain ⟨zA, zk, zc, rfl⟩ := ty_list hrep.ty
  have cv := hv.cell 0
  simp only [List.getElem?_toArray, List.getElem?_cons_zero] at cv
  have e0 := (ht.cell 1).trans (hcs 0 (.slice zA zk zc) rfl)
  have KEY := Lib.hid (ls_lin 93 #[.pointer (some ⟨bw, 0, none⟩)] #[] w bw o zA zk zc t h hrep (ElW.meth (enters_of Tryz.func93 (by kernel_rfl) rfl) hg bw w))
  clear h hv ht hcs hrep hg
  go_enter Tryz.func94, Tryz.ntmps94
  go_wp2_with fail
  refine KEY.out.mono ?_
  rintro e w1 ⟨rfl, hp⟩
  go_wp2
  go_end0
  exact ⟨rfl, hp⟩

set_option maxHeartbeats 1000000 in
theorem wclo_metric_0 (hg : Writes 89 (.list .int)) : CloW 88 (.list .int) 25 0 := by
  refine ⟨enters_of Tryz.func88 (by kernel_rfl) rfl, ?_⟩
  intro w bw bv bt o cs v t h hv ht d1 d2 hcs hrep
  obtain ⟨zA, zk, zc, rfl⟩ := ty_list hrep.ty
  have cv := hv.cell 0
  simp only [List.getElem?_toArray, List.getElem?_cons_zero] at cv
  have e0 := (ht.cell 0).trans (hcs 0 (.slice zA zk zc) rfl)
  have key := hg w bw o _ t h hrep
  rw [val_list] at key
  have KEY := Lib.hid key
  clear key
  clear h hv ht hcs hrep hg
  go_enter Tryz.func88, Tryz.ntmps88
  go_wp2_with fail
  refine KEY.out.mono ?_
  rintro e w1 ⟨rfl, hp⟩
  go_wp2
  go_end0
  exact ⟨rfl, hp⟩

set_option maxHeartbeats 1000000 in
theorem wclo_metric_1 (hg : Writes 89 (.list .int)) : CloW 90 (.list .int) 25 1 := by
  refine ⟨enters_of Tryz.func90 (by kernel_rfl) rfl, ?_⟩
  intro w bw bv bt o cs v t h hv ht d1 d2 hcs hrep
  obtain ⟨zA, zk, zc, rfl⟩ := ty_list hrep.ty
  have cv := hv.cell 0
  simp only [List.getElem?_toArray, List.getElem?_cons_zero] at cv
  have e0 := (ht.cell 1).trans (hcs 0 (.slice zA zk zc) rfl)
  have key := hg w bw o _ t h hrep
  rw [val_list] at key
  have KEY := Lib.hid key
  clear key
  clear h hv ht hcs hrep hg
  go_enter Tryz.func90, Tryz.ntmps90
  go_wp2_with fail
  refine KEY.out.mono ?_
  rintro e w1 ⟨rfl, hp⟩
  go_wp2
  go_end0
  exact ⟨rfl, hp⟩

set_option maxHeartbeats 1000000 in
theorem wclo_typ_0 (hg : Writes 103 .int) : CloW 219 .int 102 0 := by
  refine ⟨enters_of Tryz.func219 (by kernel_rfl) rfl, ?_⟩
  intro w bw bv bt o cs v t h hv ht d1 d2 hcs hrep
  obtain ⟨zn, rfl⟩ := ty_int hrep.ty
  have cv := hv.cell 0
  simp only [List.getElem?_toArray, List.getElem?_cons_zero] at cv
  have e0 := (ht.cell 0).trans (hcs 0 (.int .i64 zn) rfl)
  have key := hg w bw o _ t h hrep
  rw [val_int] at key
  have KEY := Lib.hid key
  clear key
  clear h hv ht hcs hrep hg
  go_enter Tryz.func219, Tryz.ntmps219
  go_wp2_with fail
  refine KEY.out.mono ?_
  rintro e w1 ⟨rfl, hp⟩
  go_wp2
  go_end0
  exact ⟨rfl, hp⟩

set_option maxHeartbeats 1000000 in
theorem wclo_typ_1 (hg : Writes 103 .int) : CloW 220 .int 102 1 := by
  refine ⟨enters_of Tryz.func220 (by kernel_rfl) rfl, ?_⟩
  intro w bw bv bt o cs v t h hv ht d1 d2 hcs hrep
  obtain ⟨zn, rfl⟩ := ty_int hrep.ty
  have cv := hv.cell 0
  simp only [List.getElem?_toArray, List.getElem?_cons_zero] at cv
  have e0 := (ht.cell 1).trans (hcs 0 (.int .i64 zn) rfl)
  have key := hg w bw o _ t h hrep
  rw [val_int] at key
  have KEY := Lib.hid key
  clear key
  clear h hv ht hcs hrep hg
  go_enter Tryz.func220, Tryz.ntmps220
  go_wp2_with fail
  refine KEY.out.mono ?_
  rintro e w1 ⟨rfl, hp⟩
  go_wp2
  go_end0
  exact ⟨rfl, hp⟩

set_option maxHeartbeats 1000000 in
theorem wclo_typ_2 (n : Nat) (hg : Writes 167 (typS n)) : CloW 221 (.list (typS n)) 102 2 := by
  refine ⟨enters_of Tryz.func221 (by kernel_rfl) rfl, ?_⟩
  intro w bw bv bt o cs v t h hv ht d1 d2 hcs hrep
  obtain ⟨zA, zk, zc, rfl⟩ := ty_list hrep.ty
  have cv := hv.cell 0
  simp only [List.getElem?_toArray, List.getElem?_cons_zero] at cv
  have e0 := (ht.cell 2).trans (hcs 0 (.slice zA zk zc) rfl)
  have KEY := Lib.hid (ls_typ n 167 #[.pointer (some ⟨bw, 0, none⟩)] #[] w bw o zA zk zc t h hrep (ElW.meth (enters_of Tryz.func167 (by kernel_rfl) rfl) hg bw w))
  clear h hv ht hcs hrep hg
  go_enter Tryz.func221, Tryz.ntmps221
  go_wp2_with fail
  refine KEY.out.mono ?_
  rintro e w1 ⟨rfl, hp⟩
  go_wp2
  go_end0
  exact ⟨rfl, hp⟩

set_option maxHeartbeats 1000000 in
theorem wclo_store_0 (n : Nat) (hg : Writes 167 (typS n)) : CloW 166 (typS n) 104 0 := by
  refine ⟨enters_of Tryz.func166 (by kernel_rfl) rfl, ?_⟩
  intro w bw bv bt o cs v t h hv ht d1 d2 hcs hrep
  obtain ⟨z0n, z1n, z2A, z2k, z2c, rfl⟩ := ty_typ hrep.ty
  have cv := hv.cell 0
  simp only [List.getElem?_toArray, List.getElem?_cons_zero] at cv
  have e0 := (ht.cell 0).trans (hcs 0 (.int .i64 z0n) rfl)
  have e1 := (ht.cell 1).trans (hcs 1 (.int .i64 z1n) rfl)
  have e2 := (ht.cell 2).trans (hcs 2 (.slice z2A z2k z2c) rfl)
  have key := hg w bw o _ t h hrep
  rw [val_typ] at key
  have KEY := Lib.hid key
  clear key
  clear h hv ht hcs hrep hg
  go_enter Tryz.func166, Tryz.ntmps166
  go_wp2_with fail
  refine KEY.out.mono ?_
  rintro e w1 ⟨rfl, hp⟩
  go_wp2
  go_end0
  exact ⟨rfl, hp⟩

end Go.Proofs.YtdbglgjphfkonaaGreatDoor

/-
  The writer: fields (printed by gen_codec.py).
-/
namespace Go.Proofs.YtdbglgjphfkonaaGreatDoor
open Go.RowKit AC
set_option linter.unusedVariables false
set_option linter.unusedSimpArgs false

set_option maxHeartbeats 1000000 in
theorem wclo_store_1 (hg : Writes 97 (.list .int)) : CloW 168 (.list .int) 104 3 := by
  refine ⟨enters_of Tryz.func168 (by kernel_rfl) rfl, ?_⟩
  intro w bw bv bt o cs v t h hv ht d1 d2 hcs hrep
  obtain ⟨zA, zk, zc, rfl⟩ := ty_list hrep.ty
  have cv := hv.cell 0
  simp only [List.getElem?_toArray, List.getElem?_cons_zero] at cv
  have e0 := (ht.cell 3).trans (hcs 0 (.slice zA zk zc) rfl)
  have key := hg w bw o _ t h hrep
  rw [val_list] at key
  have KEY := Lib.hid key
  clear key
  clear h hv ht hcs hrep hg
  go_enter Tryz.func168, Tryz.ntmps168
  go_wp2_with fail
  refine KEY.out.mono ?_
  rintro e w1 ⟨rfl, hp⟩
  go_wp2
  go_end0
  exact ⟨rfl, hp⟩

set_option maxHeartbeats 1000000 in
theorem wclo_flow_0 (hg : Writes 97 (.list .int)) : CloW 95 (.list (.list .int)) 30 0 := by
  refine ⟨enters_of Tryz.func95 (by kernel_rfl) rfl, ?_⟩
  intro w bw bv bt o cs v t h hv ht d1 d2 hcs hrep
  obtain ⟨zA, zk, zc, rfl⟩ := ty_list hrep.ty
  have cv := hv.cell 0
  simp only [List.getElem?_toArray, List.getElem?_cons_zero] at cv
  have e0 := (ht.cell 0).trans (hcs 0 (.slice zA zk zc) rfl)
  have KEY := Lib.hid (ls_l_int 97 #[.pointer (some ⟨bw, 0, none⟩)] #[] w bw o zA zk zc t h hrep (ElW.meth (enters_of Tryz.func97 (by kernel_rfl) rfl) hg bw w))
  clear h hv ht hcs hrep hg
  go_enter Tryz.func95, Tryz.ntmps95
  go_wp2_with fail
  refine KEY.out.mono ?_
  rintro e w1 ⟨rfl, hp⟩
  go_wp2
  go_end0
  exact ⟨rfl, hp⟩

set_option maxHeartbeats 1000000 in
theorem wclo_flow_1 (hg : Writes 97 (.list .int)) : CloW 98 (.list (.list .int)) 30 1 := by
  refine ⟨enters_of Tryz.func98 (by kernel_rfl) rfl, ?_⟩
  intro w bw bv bt o cs v t h hv ht d1 d2 hcs hrep
  obtain ⟨zA, zk, zc, rfl⟩ := ty_list hrep.ty
  have cv := hv.cell 0
  simp only [List.getElem?_toArray, List.getElem?_cons_zero] at cv
  have e0 := (ht.cell 1).trans (hcs 0 (.slice zA zk zc) rfl)
  have KEY := Lib.hid (ls_l_int 97 #[.pointer (some ⟨bw, 0, none⟩)] #[] w bw o zA zk zc t h hrep (ElW.meth (enters_of Tryz.func97 (by kernel_rfl) rfl) hg bw w))
  clear h hv ht hcs hrep hg
  go_enter Tryz.func98, Tryz.ntmps98
  go_wp2_with fail
  refine KEY.out.mono ?_
  rintro e w1 ⟨rfl, hp⟩
  go_wp2
  go_end0
  exact ⟨rfl, hp⟩

set_option maxHeartbeats 1000000 in
theorem wclo_flow_2 (n : Nat) (hg : Writes 101 (storeS n)) : CloW 99 (.list (storeS n)) 30 2 := by
  refine ⟨enters_of Tryz.func99 (by kernel_rfl) rfl, ?_⟩
  intro w bw bv bt o cs v t h hv ht d1 d2 hcs hrep
  obtain ⟨zA, zk, zc, rfl⟩ := ty_list hrep.ty
  have cv := hv.cell 0
  simp only [List.getElem?_toArray, List.getElem?_cons_zero] at cv
  have e0 := (ht.cell 2).trans (hcs 0 (.slice zA zk zc) rfl)
  have KEY := Lib.hid (ls_store n 101 #[.pointer (some ⟨bw, 0, none⟩)] #[] w bw o zA zk zc t h hrep (ElW.meth (enters_of Tryz.func101 (by kernel_rfl) rfl) hg bw w))
  clear h hv ht hcs hrep hg
  go_enter Tryz.func99, Tryz.ntmps99
  go_wp2_with fail
  refine KEY.out.mono ?_
  rintro e w1 ⟨rfl, hp⟩
  go_wp2
  go_end0
  exact ⟨rfl, hp⟩

set_option maxHeartbeats 1000000 in
theorem wclo_index_0 (hg : Writes 103 .int) : CloW 284 .int 209 0 := by
  refine ⟨enters_of Tryz.func284 (by kernel_rfl) rfl, ?_⟩
  intro w bw bv bt o cs v t h hv ht d1 d2 hcs hrep
  obtain ⟨zn, rfl⟩ := ty_int hrep.ty
  have cv := hv.cell 0
  simp only [List.getElem?_toArray, List.getElem?_cons_zero] at cv
  have e0 := (ht.cell 0).trans (hcs 0 (.int .i64 zn) rfl)
  have key := hg w bw o _ t h hrep
  rw [val_int] at key
  have KEY := Lib.hid key
  clear key
  clear h hv ht hcs hrep hg
  go_enter Tryz.func284, Tryz.ntmps284
  go_wp2_with fail
  refine KEY.out.mono ?_
  rintro e w1 ⟨rfl, hp⟩
  go_wp2
  go_end0
  exact ⟨rfl, hp⟩

set_option maxHeartbeats 1000000 in
theorem wclo_index_1 (n : Nat) (hg : Writes 260 (indexS n)) : CloW 285 (.list (indexS n)) 209 1 := by
  refine ⟨enters_of Tryz.func285 (by kernel_rfl) rfl, ?_⟩
  intro w bw bv bt o cs v t h hv ht d1 d2 hcs hrep
  obtain ⟨zA, zk, zc, rfl⟩ := ty_list hrep.ty
  have cv := hv.cell 0
  simp only [List.getElem?_toArray, List.getElem?_cons_zero] at cv
  have e0 := (ht.cell 1).trans (hcs 0 (.slice zA zk zc) rfl)
  have KEY := Lib.hid (ls_index n 260 #[.pointer (some ⟨bw, 0, none⟩)] #[] w bw o zA zk zc t h hrep (ElW.meth (enters_of Tryz.func260 (by kernel_rfl) rfl) hg bw w))
  clear h hv ht hcs hrep hg
  go_enter Tryz.func285, Tryz.ntmps285
  go_wp2_with fail
  refine KEY.out.mono ?_
  rintro e w1 ⟨rfl, hp⟩
  go_wp2
  go_end0
  exact ⟨rfl, hp⟩

set_option maxHeartbeats 1000000 in
theorem wclo_factor_0 (hg : Writes 103 .int) : CloW 258 .int 211 0 := by
  refine ⟨enters_of Tryz.func258 (by kernel_rfl) rfl, ?_⟩
  intro w bw bv bt o cs v t h hv ht d1 d2 hcs hrep
  obtain ⟨zn, rfl⟩ := ty_int hrep.ty
  have cv := hv.cell 0
  simp only [List.getElem?_toArray, List.getElem?_cons_zero] at cv
  have e0 := (ht.cell 0).trans (hcs 0 (.int .i64 zn) rfl)
  have key := hg w bw o _ t h hrep
  rw [val_int] at key
  have KEY := Lib.hid key
  clear key
  clear h hv ht hcs hrep hg
  go_enter Tryz.func258, Tryz.ntmps258
  go_wp2_with fail
  refine KEY.out.mono ?_
  rintro e w1 ⟨rfl, hp⟩
  go_wp2
  go_end0
  exact ⟨rfl, hp⟩

set_option maxHeartbeats 1000000 in
theorem wclo_factor_1 (n : Nat) (hg : Writes 260 (indexS n)) : CloW 259 (indexS n) 211 1 := by
  refine ⟨enters_of Tryz.func259 (by kernel_rfl) rfl, ?_⟩
  intro w bw bv bt o cs v t h hv ht d1 d2 hcs hrep
  obtain ⟨z0n, z1A, z1k, z1c, rfl⟩ := ty_index hrep.ty
  have cv := hv.cell 0
  simp only [List.getElem?_toArray, List.getElem?_cons_zero] at cv
  have e0 := (ht.cell 1).trans (hcs 0 (.int .i64 z0n) rfl)
  have e1 := (ht.cell 2).trans (hcs 1 (.slice z1A z1k z1c) rfl)
  have key := hg w bw o _ t h hrep
  rw [val_index] at key
  have KEY := Lib.hid key
  clear key
  clear h hv ht hcs hrep hg
  go_enter Tryz.func259, Tryz.ntmps259
  go_wp2_with fail
  refine KEY.out.mono ?_
  rintro e w1 ⟨rfl, hp⟩
  go_wp2
  go_end0
  exact ⟨rfl, hp⟩

set_option maxHeartbeats 1000000 in
theorem wclo_atom_0 (hg : Writes 93 linS) : CloW 261 linS 215 0 := by
  refine ⟨enters_of Tryz.func261 (by kernel_rfl) rfl, ?_⟩
  intro w bw bv bt o cs v t h hv ht d1 d2 hcs hrep
  obtain ⟨z0n, z1A, z1k, z1c, rfl⟩ := ty_lin hrep.ty
  have cv := hv.cell 0
  simp only [List.getElem?_toArray, List.getElem?_cons_zero] at cv
  have e0 := (ht.cell 0).trans (hcs 0 (.int .i64 z0n) rfl)
  have e1 := (ht.cell 1).trans (hcs 1 (.slice z1A z1k z1c) rfl)
  have key := hg w bw o _ t h hrep
  rw [val_lin] at key
  have KEY := Lib.hid key
  clear key
  clear h hv ht hcs hrep hg
  go_enter Tryz.func261, Tryz.ntmps261
  go_wp2_with fail
  refine KEY.out.mono ?_
  rintro e w1 ⟨rfl, hp⟩
  go_wp2
  go_end0
  exact ⟨rfl, hp⟩

set_option maxHeartbeats 1000000 in
theorem wclo_atom_1 (hg : Writes 103 .int) : CloW 262 .int 215 2 := by
  refine ⟨enters_of Tryz.func262 (by kernel_rfl) rfl, ?_⟩
  intro w bw bv bt o cs v t h hv ht d1 d2 hcs hrep
  obtain ⟨zn, rfl⟩ := ty_int hrep.ty
  have cv := hv.cell 0
  simp only [List.getElem?_toArray, List.getElem?_cons_zero] at cv
  have e0 := (ht.cell 2).trans (hcs 0 (.int .i64 zn) rfl)
  have key := hg w bw o _ t h hrep
  rw [val_int] at key
  have KEY := Lib.hid key
  clear key
  clear h hv ht hcs hrep hg
  go_enter Tryz.func262, Tryz.ntmps262
  go_wp2_with fail
  refine KEY.out.mono ?_
  rintro e w1 ⟨rfl, hp⟩
  go_wp2
  go_end0
  exact ⟨rfl, hp⟩

set_option maxHeartbeats 1000000 in
theorem wclo_mono_0 (n : Nat) (hg : Writes 226 (factorS n)) : CloW 224 (.list (factorS n)) 114 0 := by
  refine ⟨enters_of Tryz.func224 (by kernel_rfl) rfl, ?_⟩
  intro w bw bv bt o cs v t h hv ht d1 d2 hcs hrep
  obtain ⟨zA, zk, zc, rfl⟩ := ty_list hrep.ty
  have cv := hv.cell 0
  simp only [List.getElem?_toArray, List.getElem?_cons_zero] at cv
  have e0 := (ht.cell 0).trans (hcs 0 (.slice zA zk zc) rfl)
  have KEY := Lib.hid (ls_factor n 226 #[.pointer (some ⟨bw, 0, none⟩)] #[] w bw o zA zk zc t h hrep (ElW.meth (enters_of Tryz.func226 (by kernel_rfl) rfl) hg bw w))
  clear h hv ht hcs hrep hg
  go_enter Tryz.func224, Tryz.ntmps224
  go_wp2_with fail
  refine KEY.out.mono ?_
  rintro e w1 ⟨rfl, hp⟩
  go_wp2
  go_end0
  exact ⟨rfl, hp⟩

set_option maxHeartbeats 1000000 in
theorem wclo_mono_1 (hg : Writes 229 atomS) : CloW 227 (.list atomS) 114 1 := by
  refine ⟨enters_of Tryz.func227 (by kernel_rfl) rfl, ?_⟩
  intro w bw bv bt o cs v t h hv ht d1 d2 hcs hrep
  obtain ⟨zA, zk, zc, rfl⟩ := ty_list hrep.ty
  have cv := hv.cell 0
  simp only [List.getElem?_toArray, List.getElem?_cons_zero] at cv
  have e0 := (ht.cell 1).trans (hcs 0 (.slice zA zk zc) rfl)
  have KEY := Lib.hid (ls_atom 229 #[.pointer (some ⟨bw, 0, none⟩)] #[] w bw o zA zk zc t h hrep (ElW.meth (enters_of Tryz.func229 (by kernel_rfl) rfl) hg bw w))
  clear h hv ht hcs hrep hg
  go_enter Tryz.func227, Tryz.ntmps227
  go_wp2_with fail
  refine KEY.out.mono ?_
  rintro e w1 ⟨rfl, hp⟩
  go_wp2
  go_end0
  exact ⟨rfl, hp⟩

end Go.Proofs.YtdbglgjphfkonaaGreatDoor

/-
  The writer: fields (printed by gen_codec.py).
-/
namespace Go.Proofs.YtdbglgjphfkonaaGreatDoor
open Go.RowKit AC
set_option linter.unusedVariables false
set_option linter.unusedSimpArgs false

set_option maxHeartbeats 1000000 in
theorem wclo_term_0 (hg : Writes 171 .rat) : CloW 170 .rat 116 0 := by
  refine ⟨enters_of Tryz.func170 (by kernel_rfl) rfl, ?_⟩
  intro w bw bv bt o cs v t h hv ht d1 d2 hcs hrep
  obtain ⟨zb, zA, zk, zc, zD, zl, zd, rfl⟩ := ty_rat hrep.ty
  have cv := hv.cell 0
  simp only [List.getElem?_toArray, List.getElem?_cons_zero] at cv
  have e0 := (ht.cell 0).trans (hcs 0 (.bool zb) rfl)
  have e1 := (ht.cell 1).trans (hcs 1 (.slice zA zk zc) rfl)
  have e2 := (ht.cell 2).trans (hcs 2 (.slice zD zl zd) rfl)
  have key := hg w bw o _ t h hrep
  rw [val_rat] at key
  have KEY := Lib.hid key
  clear key
  clear h hv ht hcs hrep hg
  go_enter Tryz.func170, Tryz.ntmps170
  go_wp2_with fail
  refine KEY.out.mono ?_
  rintro e w1 ⟨rfl, hp⟩
  go_wp2
  go_end0
  exact ⟨rfl, hp⟩

set_option maxHeartbeats 1000000 in
theorem wclo_term_1 (n : Nat) (hg : Writes 173 (monoS n)) : CloW 172 (monoS n) 116 3 := by
  refine ⟨enters_of Tryz.func172 (by kernel_rfl) rfl, ?_⟩
  intro w bw bv bt o cs v t h hv ht d1 d2 hcs hrep
  obtain ⟨z0A, z0k, z0c, z1A, z1k, z1c, rfl⟩ := ty_mono hrep.ty
  have cv := hv.cell 0
  simp only [List.getElem?_toArray, List.getElem?_cons_zero] at cv
  have e0 := (ht.cell 3).trans (hcs 0 (.slice z0A z0k z0c) rfl)
  have e1 := (ht.cell 4).trans (hcs 1 (.slice z1A z1k z1c) rfl)
  have key := hg w bw o _ t h hrep
  rw [val_mono] at key
  have KEY := Lib.hid key
  clear key
  clear h hv ht hcs hrep hg
  go_enter Tryz.func172, Tryz.ntmps172
  go_wp2_with fail
  refine KEY.out.mono ?_
  rintro e w1 ⟨rfl, hp⟩
  go_wp2
  go_end0
  exact ⟨rfl, hp⟩

set_option maxHeartbeats 1000000 in
theorem wclo_use_0 (hg : Writes 103 .int) : CloW 230 .int 172 0 := by
  refine ⟨enters_of Tryz.func230 (by kernel_rfl) rfl, ?_⟩
  intro w bw bv bt o cs v t h hv ht d1 d2 hcs hrep
  obtain ⟨zn, rfl⟩ := ty_int hrep.ty
  have cv := hv.cell 0
  simp only [List.getElem?_toArray, List.getElem?_cons_zero] at cv
  have e0 := (ht.cell 0).trans (hcs 0 (.int .i64 zn) rfl)
  have key := hg w bw o _ t h hrep
  rw [val_int] at key
  have KEY := Lib.hid key
  clear key
  clear h hv ht hcs hrep hg
  go_enter Tryz.func230, Tryz.ntmps230
  go_wp2_with fail
  refine KEY.out.mono ?_
  rintro e w1 ⟨rfl, hp⟩
  go_wp2
  go_end0
  exact ⟨rfl, hp⟩

set_option maxHeartbeats 1000000 in
theorem wclo_use_1 (hg : Writes 171 .rat) : CloW 231 .rat 172 1 := by
  refine ⟨enters_of Tryz.func231 (by kernel_rfl) rfl, ?_⟩
  intro w bw bv bt o cs v t h hv ht d1 d2 hcs hrep
  obtain ⟨zb, zA, zk, zc, zD, zl, zd, rfl⟩ := ty_rat hrep.ty
  have cv := hv.cell 0
  simp only [List.getElem?_toArray, List.getElem?_cons_zero] at cv
  have e0 := (ht.cell 1).trans (hcs 0 (.bool zb) rfl)
  have e1 := (ht.cell 2).trans (hcs 1 (.slice zA zk zc) rfl)
  have e2 := (ht.cell 3).trans (hcs 2 (.slice zD zl zd) rfl)
  have key := hg w bw o _ t h hrep
  rw [val_rat] at key
  have KEY := Lib.hid key
  clear key
  clear h hv ht hcs hrep hg
  go_enter Tryz.func231, Tryz.ntmps231
  go_wp2_with fail
  refine KEY.out.mono ?_
  rintro e w1 ⟨rfl, hp⟩
  go_wp2
  go_end0
  exact ⟨rfl, hp⟩

set_option maxHeartbeats 1000000 in
theorem wclo_use_2 (n : Nat) (hg : Writes 173 (monoS n)) : CloW 232 (monoS n) 172 4 := by
  refine ⟨enters_of Tryz.func232 (by kernel_rfl) rfl, ?_⟩
  intro w bw bv bt o cs v t h hv ht d1 d2 hcs hrep
  obtain ⟨z0A, z0k, z0c, z1A, z1k, z1c, rfl⟩ := ty_mono hrep.ty
  have cv := hv.cell 0
  simp only [List.getElem?_toArray, List.getElem?_cons_zero] at cv
  have e0 := (ht.cell 4).trans (hcs 0 (.slice z0A z0k z0c) rfl)
  have e1 := (ht.cell 5).trans (hcs 1 (.slice z1A z1k z1c) rfl)
  have key := hg w bw o _ t h hrep
  rw [val_mono] at key
  have KEY := Lib.hid key
  clear key
  clear h hv ht hcs hrep hg
  go_enter Tryz.func232, Tryz.ntmps232
  go_wp2_with fail
  refine KEY.out.mono ?_
  rintro e w1 ⟨rfl, hp⟩
  go_wp2
  go_end0
  exact ⟨rfl, hp⟩

set_option maxHeartbeats 1000000 in
theorem wclo_part_0 (hg : Writes 103 .int) : CloW 179 .int 125 0 := by
  refine ⟨enters_of Tryz.func179 (by kernel_rfl) rfl, ?_⟩
  intro w bw bv bt o cs v t h hv ht d1 d2 hcs hrep
  obtain ⟨zn, rfl⟩ := ty_int hrep.ty
  have cv := hv.cell 0
  simp only [List.getElem?_toArray, List.getElem?_cons_zero] at cv
  have e0 := (ht.cell 0).trans (hcs 0 (.int .i64 zn) rfl)
  have key := hg w bw o _ t h hrep
  rw [val_int] at key
  have KEY := Lib.hid key
  clear key
  clear h hv ht hcs hrep hg
  go_enter Tryz.func179, Tryz.ntmps179
  go_wp2_with fail
  refine KEY.out.mono ?_
  rintro e w1 ⟨rfl, hp⟩
  go_wp2
  go_end0
  exact ⟨rfl, hp⟩

set_option maxHeartbeats 1000000 in
theorem wclo_part_1 (hg : Writes 171 .rat) : CloW 180 .rat 125 1 := by
  refine ⟨enters_of Tryz.func180 (by kernel_rfl) rfl, ?_⟩
  intro w bw bv bt o cs v t h hv ht d1 d2 hcs hrep
  obtain ⟨zb, zA, zk, zc, zD, zl, zd, rfl⟩ := ty_rat hrep.ty
  have cv := hv.cell 0
  simp only [List.getElem?_toArray, List.getElem?_cons_zero] at cv
  have e0 := (ht.cell 1).trans (hcs 0 (.bool zb) rfl)
  have e1 := (ht.cell 2).trans (hcs 1 (.slice zA zk zc) rfl)
  have e2 := (ht.cell 3).trans (hcs 2 (.slice zD zl zd) rfl)
  have key := hg w bw o _ t h hrep
  rw [val_rat] at key
  have KEY := Lib.hid key
  clear key
  clear h hv ht hcs hrep hg
  go_enter Tryz.func180, Tryz.ntmps180
  go_wp2_with fail
  refine KEY.out.mono ?_
  rintro e w1 ⟨rfl, hp⟩
  go_wp2
  go_end0
  exact ⟨rfl, hp⟩

set_option maxHeartbeats 1000000 in
theorem wclo_part_2 (n : Nat) (hg : Writes 173 (monoS n)) : CloW 181 (monoS n) 125 4 := by
  refine ⟨enters_of Tryz.func181 (by kernel_rfl) rfl, ?_⟩
  intro w bw bv bt o cs v t h hv ht d1 d2 hcs hrep
  obtain ⟨z0A, z0k, z0c, z1A, z1k, z1c, rfl⟩ := ty_mono hrep.ty
  have cv := hv.cell 0
  simp only [List.getElem?_toArray, List.getElem?_cons_zero] at cv
  have e0 := (ht.cell 4).trans (hcs 0 (.slice z0A z0k z0c) rfl)
  have e1 := (ht.cell 5).trans (hcs 1 (.slice z1A z1k z1c) rfl)
  have key := hg w bw o _ t h hrep
  rw [val_mono] at key
  have KEY := Lib.hid key
  clear key
  clear h hv ht hcs hrep hg
  go_enter Tryz.func181, Tryz.ntmps181
  go_wp2_with fail
  refine KEY.out.mono ?_
  rintro e w1 ⟨rfl, hp⟩
  go_wp2
  go_end0
  exact ⟨rfl, hp⟩

set_option maxHeartbeats 1000000 in
theorem wclo_target_0 (hg : Writes 103 .int) : CloW 174 .int 121 0 := by
  refine ⟨enters_of Tryz.func174 (by kernel_rfl) rfl, ?_⟩
  intro w bw bv bt o cs v t h hv ht d1 d2 hcs hrep
  obtain ⟨zn, rfl⟩ := ty_int hrep.ty
  have cv := hv.cell 0
  simp only [List.getElem?_toArray, List.getElem?_cons_zero] at cv
  have e0 := (ht.cell 0).trans (hcs 0 (.int .i64 zn) rfl)
  have key := hg w bw o _ t h hrep
  rw [val_int] at key
  have KEY := Lib.hid key
  clear key
  clear h hv ht hcs hrep hg
  go_enter Tryz.func174, Tryz.ntmps174
  go_wp2_with fail
  refine KEY.out.mono ?_
  rintro e w1 ⟨rfl, hp⟩
  go_wp2
  go_end0
  exact ⟨rfl, hp⟩

set_option maxHeartbeats 1000000 in
theorem wclo_target_1 (n : Nat) (hg : Writes 177 (useS n)) : CloW 175 (.list (useS n)) 121 1 := by
  refine ⟨enters_of Tryz.func175 (by kernel_rfl) rfl, ?_⟩
  intro w bw bv bt o cs v t h hv ht d1 d2 hcs hrep
  obtain ⟨zA, zk, zc, rfl⟩ := ty_list hrep.ty
  have cv := hv.cell 0
  simp only [List.getElem?_toArray, List.getElem?_cons_zero] at cv
  have e0 := (ht.cell 1).trans (hcs 0 (.slice zA zk zc) rfl)
  have KEY := Lib.hid (ls_use n 177 #[.pointer (some ⟨bw, 0, none⟩)] #[] w bw o zA zk zc t h hrep (ElW.meth (enters_of Tryz.func177 (by kernel_rfl) rfl) hg bw w))
  clear h hv ht hcs hrep hg
  go_enter Tryz.func175, Tryz.ntmps175
  go_wp2_with fail
  refine KEY.out.mono ?_
  rintro e w1 ⟨rfl, hp⟩
  go_wp2
  go_end0
  exact ⟨rfl, hp⟩

set_option maxHeartbeats 1000000 in
theorem wclo_target_2 (n : Nat) (hg : Writes 108 (termS n)) : CloW 178 (.list (termS n)) 121 2 := by
  refine ⟨enters_of Tryz.func178 (by kernel_rfl) rfl, ?_⟩
  intro w bw bv bt o cs v t h hv ht d1 d2 hcs hrep
  obtain ⟨zA, zk, zc, rfl⟩ := ty_list hrep.ty
  have cv := hv.cell 0
  simp only [List.getElem?_toArray, List.getElem?_cons_zero] at cv
  have e0 := (ht.cell 2).trans (hcs 0 (.slice zA zk zc) rfl)
  have KEY := Lib.hid (ls_term n 108 #[.pointer (some ⟨bw, 0, none⟩)] #[] w bw o zA zk zc t h hrep (ElW.meth (enters_of Tryz.func108 (by kernel_rfl) rfl) hg bw w))
  clear h hv ht hcs hrep hg
  go_enter Tryz.func178, Tryz.ntmps178
  go_wp2_with fail
  refine KEY.out.mono ?_
  rintro e w1 ⟨rfl, hp⟩
  go_wp2
  go_end0
  exact ⟨rfl, hp⟩

set_option maxHeartbeats 1000000 in
theorem wclo_axiom_0 (hg : Writes 103 .int) : CloW 233 .int 132 0 := by
  refine ⟨enters_of Tryz.func233 (by kernel_rfl) rfl, ?_⟩
  intro w bw bv bt o cs v t h hv ht d1 d2 hcs hrep
  obtain ⟨zn, rfl⟩ := ty_int hrep.ty
  have cv := hv.cell 0
  simp only [List.getElem?_toArray, List.getElem?_cons_zero] at cv
  have e0 := (ht.cell 0).trans (hcs 0 (.int .i64 zn) rfl)
  have key := hg w bw o _ t h hrep
  rw [val_int] at key
  have KEY := Lib.hid key
  clear key
  clear h hv ht hcs hrep hg
  go_enter Tryz.func233, Tryz.ntmps233
  go_wp2_with fail
  refine KEY.out.mono ?_
  rintro e w1 ⟨rfl, hp⟩
  go_wp2
  go_end0
  exact ⟨rfl, hp⟩

end Go.Proofs.YtdbglgjphfkonaaGreatDoor

/-
  The writer: fields (printed by gen_codec.py).
-/
namespace Go.Proofs.YtdbglgjphfkonaaGreatDoor
open Go.RowKit AC
set_option linter.unusedVariables false
set_option linter.unusedSimpArgs false

set_option maxHeartbeats 1000000 in
theorem wclo_axiom_1 (hg : Writes 93 linS) : CloW 234 linS 132 1 := by
  refine ⟨enters_of Tryz.func234 (by kernel_rfl) rfl, ?_⟩
  intro w bw bv bt o cs v t h hv ht d1 d2 hcs hrep
  obtain ⟨z0n, z1A, z1k, z1c, rfl⟩ := ty_lin hrep.ty
  have cv := hv.cell 0
  simp only [List.getElem?_toArray, List.getElem?_cons_zero] at cv
  have e0 := (ht.cell 1).trans (hcs 0 (.int .i64 z0n) rfl)
  have e1 := (ht.cell 2).trans (hcs 1 (.slice z1A z1k z1c) rfl)
  have key := hg w bw o _ t h hrep
  rw [val_lin] at key
  have KEY := Lib.hid key
  clear key
  clear h hv ht hcs hrep hg
  go_enter Tryz.func234, Tryz.ntmps234
  go_wp2_with fail
  refine KEY.out.mono ?_
  rintro e w1 ⟨rfl, hp⟩
  go_wp2
  go_end0
  exact ⟨rfl, hp⟩

set_option maxHeartbeats 1000000 in
theorem wclo_axiom_2 (hg : Writes 93 linS) : CloW 235 linS 132 3 := by
  refine ⟨enters_of Tryz.func235 (by kernel_rfl) rfl, ?_⟩
  intro w bw bv bt o cs v t h hv ht d1 d2 hcs hrep
  obtain ⟨z0n, z1A, z1k, z1c, rfl⟩ := ty_lin hrep.ty
  have cv := hv.cell 0
  simp only [List.getElem?_toArray, List.getElem?_cons_zero] at cv
  have e0 := (ht.cell 3).trans (hcs 0 (.int .i64 z0n) rfl)
  have e1 := (ht.cell 4).trans (hcs 1 (.slice z1A z1k z1c) rfl)
  have key := hg w bw o _ t h hrep
  rw [val_lin] at key
  have KEY := Lib.hid key
  clear key
  clear h hv ht hcs hrep hg
  go_enter Tryz.func235, Tryz.ntmps235
  go_wp2_with fail
  refine KEY.out.mono ?_
  rintro e w1 ⟨rfl, hp⟩
  go_wp2
  go_end0
  exact ⟨rfl, hp⟩

set_option maxHeartbeats 1000000 in
theorem wclo_axiom_3 (hg : Writes 103 .int) : CloW 236 .int 132 5 := by
  refine ⟨enters_of Tryz.func236 (by kernel_rfl) rfl, ?_⟩
  intro w bw bv bt o cs v t h hv ht d1 d2 hcs hrep
  obtain ⟨zn, rfl⟩ := ty_int hrep.ty
  have cv := hv.cell 0
  simp only [List.getElem?_toArray, List.getElem?_cons_zero] at cv
  have e0 := (ht.cell 5).trans (hcs 0 (.int .i64 zn) rfl)
  have key := hg w bw o _ t h hrep
  rw [val_int] at key
  have KEY := Lib.hid key
  clear key
  clear h hv ht hcs hrep hg
  go_enter Tryz.func236, Tryz.ntmps236
  go_wp2_with fail
  refine KEY.out.mono ?_
  rintro e w1 ⟨rfl, hp⟩
  go_wp2
  go_end0
  exact ⟨rfl, hp⟩

set_option maxHeartbeats 1000000 in
theorem wclo_axiomUse_0 (hg : Writes 184 axS) : CloW 183 axS 134 0 := by
  refine ⟨enters_of Tryz.func183 (by kernel_rfl) rfl, ?_⟩
  intro w bw bv bt o cs v t h hv ht d1 d2 hcs hrep
  obtain ⟨z0n, z1_0n, z1_1A, z1_1k, z1_1c, z2_0n, z2_1A, z2_1k, z2_1c, z3n, rfl⟩ := ty_axiom hrep.ty
  have cv := hv.cell 0
  simp only [List.getElem?_toArray, List.getElem?_cons_zero] at cv
  have e0 := (ht.cell 0).trans (hcs 0 (.int .i64 z0n) rfl)
  have e1 := (ht.cell 1).trans (hcs 1 (.int .i64 z1_0n) rfl)
  have e2 := (ht.cell 2).trans (hcs 2 (.slice z1_1A z1_1k z1_1c) rfl)
  have e3 := (ht.cell 3).trans (hcs 3 (.int .i64 z2_0n) rfl)
  have e4 := (ht.cell 4).trans (hcs 4 (.slice z2_1A z2_1k z2_1c) rfl)
  have e5 := (ht.cell 5).trans (hcs 5 (.int .i64 z3n) rfl)
  have key := hg w bw o _ t h hrep
  rw [val_axiom] at key
  have KEY := Lib.hid key
  clear key
  clear h hv ht hcs hrep hg
  go_enter Tryz.func183, Tryz.ntmps183
  go_wp2_with fail
  refine KEY.out.mono ?_
  rintro e w1 ⟨rfl, hp⟩
  go_wp2
  go_end0
  exact ⟨rfl, hp⟩

set_option maxHeartbeats 1000000 in
theorem wclo_axiomUse_1 (hg : Writes 171 .rat) : CloW 185 .rat 134 6 := by
  refine ⟨enters_of Tryz.func185 (by kernel_rfl) rfl, ?_⟩
  intro w bw bv bt o cs v t h hv ht d1 d2 hcs hrep
  obtain ⟨zb, zA, zk, zc, zD, zl, zd, rfl⟩ := ty_rat hrep.ty
  have cv := hv.cell 0
  simp only [List.getElem?_toArray, List.getElem?_cons_zero] at cv
  have e0 := (ht.cell 6).trans (hcs 0 (.bool zb) rfl)
  have e1 := (ht.cell 7).trans (hcs 1 (.slice zA zk zc) rfl)
  have e2 := (ht.cell 8).trans (hcs 2 (.slice zD zl zd) rfl)
  have key := hg w bw o _ t h hrep
  rw [val_rat] at key
  have KEY := Lib.hid key
  clear key
  clear h hv ht hcs hrep hg
  go_enter Tryz.func185, Tryz.ntmps185
  go_wp2_with fail
  refine KEY.out.mono ?_
  rintro e w1 ⟨rfl, hp⟩
  go_wp2
  go_end0
  exact ⟨rfl, hp⟩

set_option maxHeartbeats 1000000 in
theorem wclo_axiomUse_2 (n : Nat) (hg : Writes 173 (monoS n)) : CloW 186 (monoS n) 134 9 := by
  refine ⟨enters_of Tryz.func186 (by kernel_rfl) rfl, ?_⟩
  intro w bw bv bt o cs v t h hv ht d1 d2 hcs hrep
  obtain ⟨z0A, z0k, z0c, z1A, z1k, z1c, rfl⟩ := ty_mono hrep.ty
  have cv := hv.cell 0
  simp only [List.getElem?_toArray, List.getElem?_cons_zero] at cv
  have e0 := (ht.cell 9).trans (hcs 0 (.slice z0A z0k z0c) rfl)
  have e1 := (ht.cell 10).trans (hcs 1 (.slice z1A z1k z1c) rfl)
  have key := hg w bw o _ t h hrep
  rw [val_mono] at key
  have KEY := Lib.hid key
  clear key
  clear h hv ht hcs hrep hg
  go_enter Tryz.func186, Tryz.ntmps186
  go_wp2_with fail
  refine KEY.out.mono ?_
  rintro e w1 ⟨rfl, hp⟩
  go_wp2
  go_end0
  exact ⟨rfl, hp⟩

set_option maxHeartbeats 1000000 in
theorem wclo_axiomUse_3 (hg : Writes 119 (.list .rat)) : CloW 187 (.list .rat) 134 11 := by
  refine ⟨enters_of Tryz.func187 (by kernel_rfl) rfl, ?_⟩
  intro w bw bv bt o cs v t h hv ht d1 d2 hcs hrep
  obtain ⟨zA, zk, zc, rfl⟩ := ty_list hrep.ty
  have cv := hv.cell 0
  simp only [List.getElem?_toArray, List.getElem?_cons_zero] at cv
  have e0 := (ht.cell 11).trans (hcs 0 (.slice zA zk zc) rfl)
  have key := hg w bw o _ t h hrep
  rw [val_list] at key
  have KEY := Lib.hid key
  clear key
  clear h hv ht hcs hrep hg
  go_enter Tryz.func187, Tryz.ntmps187
  go_wp2_with fail
  refine KEY.out.mono ?_
  rintro e w1 ⟨rfl, hp⟩
  go_wp2
  go_end0
  exact ⟨rfl, hp⟩

set_option maxHeartbeats 1000000 in
theorem wclo_axiomUse_4 (hg : Writes 119 (.list .rat)) : CloW 188 (.list .rat) 134 12 := by
  refine ⟨enters_of Tryz.func188 (by kernel_rfl) rfl, ?_⟩
  intro w bw bv bt o cs v t h hv ht d1 d2 hcs hrep
  obtain ⟨zA, zk, zc, rfl⟩ := ty_list hrep.ty
  have cv := hv.cell 0
  simp only [List.getElem?_toArray, List.getElem?_cons_zero] at cv
  have e0 := (ht.cell 12).trans (hcs 0 (.slice zA zk zc) rfl)
  have key := hg w bw o _ t h hrep
  rw [val_list] at key
  have KEY := Lib.hid key
  clear key
  clear h hv ht hcs hrep hg
  go_enter Tryz.func188, Tryz.ntmps188
  go_wp2_with fail
  refine KEY.out.mono ?_
  rintro e w1 ⟨rfl, hp⟩
  go_wp2
  go_end0
  exact ⟨rfl, hp⟩

set_option maxHeartbeats 1000000 in
theorem wclo_node_0 (hg : Writes 103 .int) : CloW 102 .int 72 0 := by
  refine ⟨enters_of Tryz.func102 (by kernel_rfl) rfl, ?_⟩
  intro w bw bv bt o cs v t h hv ht d1 d2 hcs hrep
  obtain ⟨zn, rfl⟩ := ty_int hrep.ty
  have cv := hv.cell 0
  simp only [List.getElem?_toArray, List.getElem?_cons_zero] at cv
  have e0 := (ht.cell 0).trans (hcs 0 (.int .i64 zn) rfl)
  have key := hg w bw o _ t h hrep
  rw [val_int] at key
  have KEY := Lib.hid key
  clear key
  clear h hv ht hcs hrep hg
  go_enter Tryz.func102, Tryz.ntmps102
  go_wp2_with fail
  refine KEY.out.mono ?_
  rintro e w1 ⟨rfl, hp⟩
  go_wp2
  go_end0
  exact ⟨rfl, hp⟩

set_option maxHeartbeats 1000000 in
theorem wclo_node_1 (hg : Writes 103 .int) : CloW 104 .int 72 1 := by
  refine ⟨enters_of Tryz.func104 (by kernel_rfl) rfl, ?_⟩
  intro w bw bv bt o cs v t h hv ht d1 d2 hcs hrep
  obtain ⟨zn, rfl⟩ := ty_int hrep.ty
  have cv := hv.cell 0
  simp only [List.getElem?_toArray, List.getElem?_cons_zero] at cv
  have e0 := (ht.cell 1).trans (hcs 0 (.int .i64 zn) rfl)
  have key := hg w bw o _ t h hrep
  rw [val_int] at key
  have KEY := Lib.hid key
  clear key
  clear h hv ht hcs hrep hg
  go_enter Tryz.func104, Tryz.ntmps104
  go_wp2_with fail
  refine KEY.out.mono ?_
  rintro e w1 ⟨rfl, hp⟩
  go_wp2
  go_end0
  exact ⟨rfl, hp⟩

set_option maxHeartbeats 1000000 in
theorem wclo_node_2 (hg : Writes 29 .bool) : CloW 105 .bool 72 2 := by
  refine ⟨enters_of Tryz.func105 (by kernel_rfl) rfl, ?_⟩
  intro w bw bv bt o cs v t h hv ht d1 d2 hcs hrep
  obtain ⟨zb, rfl⟩ := ty_bool hrep.ty
  have cv := hv.cell 0
  simp only [List.getElem?_toArray, List.getElem?_cons_zero] at cv
  have e0 := (ht.cell 2).trans (hcs 0 (.bool zb) rfl)
  have key := hg w bw o _ t h hrep
  rw [val_bool] at key
  have KEY := Lib.hid key
  clear key
  clear h hv ht hcs hrep hg
  go_enter Tryz.func105, Tryz.ntmps105
  go_wp2_with fail
  refine KEY.out.mono ?_
  rintro e w1 ⟨rfl, hp⟩
  go_wp2
  go_end0
  exact ⟨rfl, hp⟩

set_option maxHeartbeats 1000000 in
theorem wclo_node_3 (n : Nat) (hg : Writes 108 (termS n)) : CloW 106 (.list (termS n)) 72 3 := by
  refine ⟨enters_of Tryz.func106 (by kernel_rfl) rfl, ?_⟩
  intro w bw bv bt o cs v t h hv ht d1 d2 hcs hrep
  obtain ⟨zA, zk, zc, rfl⟩ := ty_list hrep.ty
  have cv := hv.cell 0
  simp only [List.getElem?_toArray, List.getElem?_cons_zero] at cv
  have e0 := (ht.cell 3).trans (hcs 0 (.slice zA zk zc) rfl)
  have KEY := Lib.hid (ls_term n 108 #[.pointer (some ⟨bw, 0, none⟩)] #[] w bw o zA zk zc t h hrep (ElW.meth (enters_of Tryz.func108 (by kernel_rfl) rfl) hg bw w))
  clear h hv ht hcs hrep hg
  go_enter Tryz.func106, Tryz.ntmps106
  go_wp2_with fail
  refine KEY.out.mono ?_
  rintro e w1 ⟨rfl, hp⟩
  go_wp2
  go_end0
  exact ⟨rfl, hp⟩

end Go.Proofs.YtdbglgjphfkonaaGreatDoor

/-
  The writer: fields (printed by gen_codec.py).
-/
namespace Go.Proofs.YtdbglgjphfkonaaGreatDoor
open Go.RowKit AC
set_option linter.unusedVariables false
set_option linter.unusedSimpArgs false

set_option maxHeartbeats 1000000 in
theorem elw_x (n : Nat) (hg : Writes 124 (axuS n)) (w : World) (bw bv : Nat) (hv : Bk w bv 48 #[.pointer (some ⟨bw, 0, none⟩)]) (d : bv ≠ bw) : ElW 122 #[] #[.pointer (some ⟨bv, 0, none⟩)] (.list (axuS n)) bw w := by
  refine ⟨enters_of Tryz.func122 (by kernel_rfl) rfl, fun W o v t hf hw hr => ?_⟩
  have cv := (hf.2 _ _ _ d (by decide) hv).cell 0
  simp only [List.getElem?_toArray, List.getElem?_cons_zero] at cv
  obtain ⟨zA, zk, zc, rfl⟩ := ty_list hr.ty
  rw [val_list]
  have KEY := Lib.hid (ls_axiomUse n 124 #[.pointer (some ⟨bw, 0, none⟩)] #[] W bw o zA zk zc t hw hr (ElW.meth (enters_of Tryz.func124 (by kernel_rfl) rfl) hg bw W))
  clear hv hf hw hr hg
  show Calls Tryz.prog 122 #[.slice zA zk zc, .pointer (some ⟨bv, 0, none⟩)] W _
  go_enter Tryz.func122, Tryz.ntmps122
  go_wp2_with fail
  refine KEY.out.mono ?_
  rintro e w1 ⟨rfl, hp⟩
  go_wp2
  go_end0
  exact ⟨rfl, hp⟩

set_option maxHeartbeats 1000000 in
theorem wclo_node_4 (n : Nat) (hg : Writes 108 (termS n)) : CloW 109 (.list (termS n)) 72 4 := by
  refine ⟨enters_of Tryz.func109 (by kernel_rfl) rfl, ?_⟩
  intro w bw bv bt o cs v t h hv ht d1 d2 hcs hrep
  obtain ⟨zA, zk, zc, rfl⟩ := ty_list hrep.ty
  have cv := hv.cell 0
  simp only [List.getElem?_toArray, List.getElem?_cons_zero] at cv
  have e0 := (ht.cell 4).trans (hcs 0 (.slice zA zk zc) rfl)
  have KEY := Lib.hid (ls_term n 108 #[.pointer (some ⟨bw, 0, none⟩)] #[] w bw o zA zk zc t h hrep (ElW.meth (enters_of Tryz.func108 (by kernel_rfl) rfl) hg bw w))
  clear h hv ht hcs hrep hg
  go_enter Tryz.func109, Tryz.ntmps109
  go_wp2_with fail
  refine KEY.out.mono ?_
  rintro e w1 ⟨rfl, hp⟩
  go_wp2
  go_end0
  exact ⟨rfl, hp⟩

set_option maxHeartbeats 1000000 in
theorem wclo_node_5 (n : Nat) (hg : Writes 112 (targetS n)) : CloW 110 (.list (targetS n)) 72 5 := by
  refine ⟨enters_of Tryz.func110 (by kernel_rfl) rfl, ?_⟩
  intro w bw bv bt o cs v t h hv ht d1 d2 hcs hrep
  obtain ⟨zA, zk, zc, rfl⟩ := ty_list hrep.ty
  have cv := hv.cell 0
  simp only [List.getElem?_toArray, List.getElem?_cons_zero] at cv
  have e0 := (ht.cell 5).trans (hcs 0 (.slice zA zk zc) rfl)
  have KEY := Lib.hid (ls_target n 112 #[.pointer (some ⟨bw, 0, none⟩)] #[] w bw o zA zk zc t h hrep (ElW.meth (enters_of Tryz.func112 (by kernel_rfl) rfl) hg bw w))
  clear h hv ht hcs hrep hg
  go_enter Tryz.func110, Tryz.ntmps110
  go_wp2_with fail
  refine KEY.out.mono ?_
  rintro e w1 ⟨rfl, hp⟩
  go_wp2
  go_end0
  exact ⟨rfl, hp⟩

set_option maxHeartbeats 1000000 in
theorem wclo_node_6 (n : Nat) (hg : Writes 115 (useS n)) : CloW 113 (.list (useS n)) 72 6 := by
  refine ⟨enters_of Tryz.func113 (by kernel_rfl) rfl, ?_⟩
  intro w bw bv bt o cs v t h hv ht d1 d2 hcs hrep
  obtain ⟨zA, zk, zc, rfl⟩ := ty_list hrep.ty
  have cv := hv.cell 0
  simp only [List.getElem?_toArray, List.getElem?_cons_zero] at cv
  have e0 := (ht.cell 6).trans (hcs 0 (.slice zA zk zc) rfl)
  have KEY := Lib.hid (ls_part n 115 #[.pointer (some ⟨bw, 0, none⟩)] #[] w bw o zA zk zc t h hrep (ElW.meth (enters_of Tryz.func115 (by kernel_rfl) rfl) hg bw w))
  clear h hv ht hcs hrep hg
  go_enter Tryz.func113, Tryz.ntmps113
  go_wp2_with fail
  refine KEY.out.mono ?_
  rintro e w1 ⟨rfl, hp⟩
  go_wp2
  go_end0
  exact ⟨rfl, hp⟩

set_option maxHeartbeats 1000000 in
theorem wclo_node_7 (n : Nat) (hg : Writes 108 (termS n)) : CloW 116 (.list (termS n)) 72 7 := by
  refine ⟨enters_of Tryz.func116 (by kernel_rfl) rfl, ?_⟩
  intro w bw bv bt o cs v t h hv ht d1 d2 hcs hrep
  obtain ⟨zA, zk, zc, rfl⟩ := ty_list hrep.ty
  have cv := hv.cell 0
  simp only [List.getElem?_toArray, List.getElem?_cons_zero] at cv
  have e0 := (ht.cell 7).trans (hcs 0 (.slice zA zk zc) rfl)
  have KEY := Lib.hid (ls_term n 108 #[.pointer (some ⟨bw, 0, none⟩)] #[] w bw o zA zk zc t h hrep (ElW.meth (enters_of Tryz.func108 (by kernel_rfl) rfl) hg bw w))
  clear h hv ht hcs hrep hg
  go_enter Tryz.func116, Tryz.ntmps116
  go_wp2_with fail
  refine KEY.out.mono ?_
  rintro e w1 ⟨rfl, hp⟩
  go_wp2
  go_end0
  exact ⟨rfl, hp⟩

set_option maxHeartbeats 1000000 in
theorem wclo_node_8 (hg : Writes 97 (.list .int)) : CloW 117 (.list .int) 72 8 := by
  refine ⟨enters_of Tryz.func117 (by kernel_rfl) rfl, ?_⟩
  intro w bw bv bt o cs v t h hv ht d1 d2 hcs hrep
  obtain ⟨zA, zk, zc, rfl⟩ := ty_list hrep.ty
  have cv := hv.cell 0
  simp only [List.getElem?_toArray, List.getElem?_cons_zero] at cv
  have e0 := (ht.cell 8).trans (hcs 0 (.slice zA zk zc) rfl)
  have key := hg w bw o _ t h hrep
  rw [val_list] at key
  have KEY := Lib.hid key
  clear key
  clear h hv ht hcs hrep hg
  go_enter Tryz.func117, Tryz.ntmps117
  go_wp2_with fail
  refine KEY.out.mono ?_
  rintro e w1 ⟨rfl, hp⟩
  go_wp2
  go_end0
  exact ⟨rfl, hp⟩

set_option maxHeartbeats 1000000 in
theorem wclo_node_9 (hg : Writes 119 (.list .rat)) : CloW 118 (.list .rat) 72 9 := by
  refine ⟨enters_of Tryz.func118 (by kernel_rfl) rfl, ?_⟩
  intro w bw bv bt o cs v t h hv ht d1 d2 hcs hrep
  obtain ⟨zA, zk, zc, rfl⟩ := ty_list hrep.ty
  have cv := hv.cell 0
  simp only [List.getElem?_toArray, List.getElem?_cons_zero] at cv
  have e0 := (ht.cell 9).trans (hcs 0 (.slice zA zk zc) rfl)
  have key := hg w bw o _ t h hrep
  rw [val_list] at key
  have KEY := Lib.hid key
  clear key
  clear h hv ht hcs hrep hg
  go_enter Tryz.func118, Tryz.ntmps118
  go_wp2_with fail
  refine KEY.out.mono ?_
  rintro e w1 ⟨rfl, hp⟩
  go_wp2
  go_end0
  exact ⟨rfl, hp⟩

set_option maxHeartbeats 1000000 in
theorem wclo_node_10 (n : Nat) (hg : Writes 124 (axuS n)) : CloW 120 (.list (.list (axuS n))) 72 10 := by
  refine ⟨enters_of Tryz.func120 (by kernel_rfl) rfl, ?_⟩
  intro w bw bv bt o cs v t h hv ht d1 d2 hcs hrep
  obtain ⟨zA, zk, zc, rfl⟩ := ty_list hrep.ty
  have cv := hv.cell 0
  simp only [List.getElem?_toArray, List.getElem?_cons_zero] at cv
  have e0 := (ht.cell 10).trans (hcs 0 (.slice zA zk zc) rfl)
  have KEY := Lib.hid (ls_l_axiomUse n 122 #[] #[.pointer (some ⟨bv, 0, none⟩)] w bw o zA zk zc t h hrep (elw_x n hg w bw bv hv d1))
  clear h hv ht hcs hrep hg
  go_enter Tryz.func120, Tryz.ntmps120
  go_wp2_with fail
  refine KEY.out.mono ?_
  rintro e w1 ⟨rfl, hp⟩
  go_wp2
  go_end0
  exact ⟨rfl, hp⟩

set_option maxHeartbeats 1000000 in
theorem wclo_claim_0 (hg : Writes 103 .int) : CloW 125 .int 76 0 := by
  refine ⟨enters_of Tryz.func125 (by kernel_rfl) rfl, ?_⟩
  intro w bw bv bt o cs v t h hv ht d1 d2 hcs hrep
  obtain ⟨zn, rfl⟩ := ty_int hrep.ty
  have cv := hv.cell 0
  simp only [List.getElem?_toArray, List.getElem?_cons_zero] at cv
  have e0 := (ht.cell 0).trans (hcs 0 (.int .i64 zn) rfl)
  have key := hg w bw o _ t h hrep
  rw [val_int] at key
  have KEY := Lib.hid key
  clear key
  clear h hv ht hcs hrep hg
  go_enter Tryz.func125, Tryz.ntmps125
  go_wp2_with fail
  refine KEY.out.mono ?_
  rintro e w1 ⟨rfl, hp⟩
  go_wp2
  go_end0
  exact ⟨rfl, hp⟩

set_option maxHeartbeats 1000000 in
theorem wclo_claim_1 (hg : Writes 103 .int) : CloW 126 .int 76 1 := by
  refine ⟨enters_of Tryz.func126 (by kernel_rfl) rfl, ?_⟩
  intro w bw bv bt o cs v t h hv ht d1 d2 hcs hrep
  obtain ⟨zn, rfl⟩ := ty_int hrep.ty
  have cv := hv.cell 0
  simp only [List.getElem?_toArray, List.getElem?_cons_zero] at cv
  have e0 := (ht.cell 1).trans (hcs 0 (.int .i64 zn) rfl)
  have key := hg w bw o _ t h hrep
  rw [val_int] at key
  have KEY := Lib.hid key
  clear key
  clear h hv ht hcs hrep hg
  go_enter Tryz.func126, Tryz.ntmps126
  go_wp2_with fail
  refine KEY.out.mono ?_
  rintro e w1 ⟨rfl, hp⟩
  go_wp2
  go_end0
  exact ⟨rfl, hp⟩

set_option maxHeartbeats 1000000 in
theorem wclo_cert_0 (hg : Writes 29 .bool) : CloW 28 .bool 34 0 := by
  refine ⟨enters_of Tryz.func28 (by kernel_rfl) rfl, ?_⟩
  intro w bw bv bt o cs v t h hv ht d1 d2 hcs hrep
  obtain ⟨zb, rfl⟩ := ty_bool hrep.ty
  have cv := hv.cell 0
  simp only [List.getElem?_toArray, List.getElem?_cons_zero] at cv
  have e0 := (ht.cell 0).trans (hcs 0 (.bool zb) rfl)
  have key := hg w bw o _ t h hrep
  rw [val_bool] at key
  have KEY := Lib.hid key
  clear key
  clear h hv ht hcs hrep hg
  go_enter Tryz.func28, Tryz.ntmps28
  go_wp2_with fail
  refine KEY.out.mono ?_
  rintro e w1 ⟨rfl, hp⟩
  go_wp2
  go_end0
  exact ⟨rfl, hp⟩

set_option maxHeartbeats 1000000 in
theorem wclo_cert_1 (hg : Writes 31 metricS) : CloW 30 metricS 34 1 := by
  refine ⟨enters_of Tryz.func30 (by kernel_rfl) rfl, ?_⟩
  intro w bw bv bt o cs v t h hv ht d1 d2 hcs hrep
  obtain ⟨z0A, z0k, z0c, z1A, z1k, z1c, rfl⟩ := ty_metric hrep.ty
  have cv := hv.cell 0
  simp only [List.getElem?_toArray, List.getElem?_cons_zero] at cv
  have e0 := (ht.cell 1).trans (hcs 0 (.slice z0A z0k z0c) rfl)
  have e1 := (ht.cell 2).trans (hcs 1 (.slice z1A z1k z1c) rfl)
  have key := hg w bw o _ t h hrep
  rw [val_metric] at key
  have KEY := Lib.hid key
  clear key
  clear h hv ht hcs hrep hg
  go_enter Tryz.func30, Tryz.ntmps30
  go_wp2_with fail
  refine KEY.out.mono ?_
  rintro e w1 ⟨rfl, hp⟩
  go_wp2
  go_end0
  exact ⟨rfl, hp⟩

set_option maxHeartbeats 1000000 in
theorem wclo_cert_2 (hg : Writes 34 relationS) : CloW 32 (.list relationS) 34 3 := by
  refine ⟨enters_of Tryz.func32 (by kernel_rfl) rfl, ?_⟩
  intro w bw bv bt o cs v t h hv ht d1 d2 hcs hrep
  obtain ⟨zA, zk, zc, rfl⟩ := ty_list hrep.ty
  have cv := hv.cell 0
  simp only [List.getElem?_toArray, List.getElem?_cons_zero] at cv
  have e0 := (ht.cell 3).trans (hcs 0 (.slice zA zk zc) rfl)
  have KEY := Lib.hid (ls_relation 34 #[.pointer (some ⟨bw, 0, none⟩)] #[] w bw o zA zk zc t h hrep (ElW.meth (enters_of Tryz.func34 (by kernel_rfl) rfl) hg bw w))
  clear h hv ht hcs hrep hg
  go_enter Tryz.func32, Tryz.ntmps32
  go_wp2_with fail
  refine KEY.out.mono ?_
  rintro e w1 ⟨rfl, hp⟩
  go_wp2
  go_end0
  exact ⟨rfl, hp⟩

end Go.Proofs.YtdbglgjphfkonaaGreatDoor

/-
  The writer: fields (printed by gen_codec.py).
-/
namespace Go.Proofs.YtdbglgjphfkonaaGreatDoor
open Go.RowKit AC
set_option linter.unusedVariables false
set_option linter.unusedSimpArgs false

set_option maxHeartbeats 1000000 in
theorem wclo_cert_3 (n : Nat) (hg : Writes 36 (flowS n)) : CloW 35 (flowS n) 34 4 := by
  refine ⟨enters_of Tryz.func35 (by kernel_rfl) rfl, ?_⟩
  intro w bw bv bt o cs v t h hv ht d1 d2 hcs hrep
  obtain ⟨z0A, z0k, z0c, z1A, z1k, z1c, z2A, z2k, z2c, rfl⟩ := ty_flow hrep.ty
  have cv := hv.cell 0
  simp only [List.getElem?_toArray, List.getElem?_cons_zero] at cv
  have e0 := (ht.cell 4).trans (hcs 0 (.slice z0A z0k z0c) rfl)
  have e1 := (ht.cell 5).trans (hcs 1 (.slice z1A z1k z1c) rfl)
  have e2 := (ht.cell 6).trans (hcs 2 (.slice z2A z2k z2c) rfl)
  have key := hg w bw o _ t h hrep
  rw [val_flow] at key
  have KEY := Lib.hid key
  clear key
  clear h hv ht hcs hrep hg
  go_enter Tryz.func35, Tryz.ntmps35
  go_wp2_with fail
  refine KEY.out.mono ?_
  rintro e w1 ⟨rfl, hp⟩
  go_wp2
  go_end0
  exact ⟨rfl, hp⟩

set_option maxHeartbeats 1000000 in
theorem wclo_cert_4 (n : Nat) (hg : Writes 39 (nodeS n)) : CloW 37 (.list (nodeS n)) 34 7 := by
  refine ⟨enters_of Tryz.func37 (by kernel_rfl) rfl, ?_⟩
  intro w bw bv bt o cs v t h hv ht d1 d2 hcs hrep
  obtain ⟨zA, zk, zc, rfl⟩ := ty_list hrep.ty
  have cv := hv.cell 0
  simp only [List.getElem?_toArray, List.getElem?_cons_zero] at cv
  have e0 := (ht.cell 7).trans (hcs 0 (.slice zA zk zc) rfl)
  have KEY := Lib.hid (ls_node n 39 #[.pointer (some ⟨bw, 0, none⟩)] #[] w bw o zA zk zc t h hrep (ElW.meth (enters_of Tryz.func39 (by kernel_rfl) rfl) hg bw w))
  clear h hv ht hcs hrep hg
  go_enter Tryz.func37, Tryz.ntmps37
  go_wp2_with fail
  refine KEY.out.mono ?_
  rintro e w1 ⟨rfl, hp⟩
  go_wp2
  go_end0
  exact ⟨rfl, hp⟩

set_option maxHeartbeats 1000000 in
theorem wclo_cert_5 (hg : Writes 42 claimS) : CloW 40 (.list claimS) 34 8 := by
  refine ⟨enters_of Tryz.func40 (by kernel_rfl) rfl, ?_⟩
  intro w bw bv bt o cs v t h hv ht d1 d2 hcs hrep
  obtain ⟨zA, zk, zc, rfl⟩ := ty_list hrep.ty
  have cv := hv.cell 0
  simp only [List.getElem?_toArray, List.getElem?_cons_zero] at cv
  have e0 := (ht.cell 8).trans (hcs 0 (.slice zA zk zc) rfl)
  have KEY := Lib.hid (ls_claim 42 #[.pointer (some ⟨bw, 0, none⟩)] #[] w bw o zA zk zc t h hrep (ElW.meth (enters_of Tryz.func42 (by kernel_rfl) rfl) hg bw w))
  clear h hv ht hcs hrep hg
  go_enter Tryz.func40, Tryz.ntmps40
  go_wp2_with fail
  refine KEY.out.mono ?_
  rintro e w1 ⟨rfl, hp⟩
  go_wp2
  go_end0
  exact ⟨rfl, hp⟩

end Go.Proofs.YtdbglgjphfkonaaGreatDoor

/-
  The writer: lists of numbers (printed by gen_codec.py).
-/
namespace Go.Proofs.YtdbglgjphfkonaaGreatDoor
open Go.RowKit AC
set_option linter.unusedVariables false
set_option linter.unusedSimpArgs false

set_option maxHeartbeats 1000000 in
theorem writes_integers (hg : Writes 103 .int) : Writes 97 (.list .int) := by
  intro w bw o v t h hrep
  obtain ⟨zA, zk, zc, rfl⟩ := ty_list hrep.ty
  rw [val_list]
  have KEY := Lib.hid (ls_int 103 #[.pointer (some ⟨bw, 0, none⟩)] #[] w bw o zA zk zc t h hrep (ElW.meth (enters_of Tryz.func103 (by kernel_rfl) rfl) hg bw w))
  clear h hrep hg
  go_enter Tryz.func97, Tryz.ntmps97
  go_wp2_with fail
  refine KEY.out.mono ?_
  rintro e w1 ⟨rfl, hp⟩
  go_wp2
  go_end0
  exact ⟨rfl, hp⟩

set_option maxHeartbeats 1000000 in
theorem writes_longs (hg : Writes 160 .int) : Writes 89 (.list .int) := by
  intro w bw o v t h hrep
  obtain ⟨zA, zk, zc, rfl⟩ := ty_list hrep.ty
  rw [val_list]
  have KEY := Lib.hid (ls_int64 160 #[.pointer (some ⟨bw, 0, none⟩)] #[] w bw o zA zk zc t h hrep (ElW.meth (enters_of Tryz.func160 (by kernel_rfl) rfl) hg bw w))
  clear h hrep hg
  go_enter Tryz.func89, Tryz.ntmps89
  go_wp2_with fail
  refine KEY.out.mono ?_
  rintro e w1 ⟨rfl, hp⟩
  go_wp2
  go_end0
  exact ⟨rfl, hp⟩

set_option maxHeartbeats 1000000 in
theorem writes_rats (hg : Writes 171 .rat) : Writes 119 (.list .rat) := by
  intro w bw o v t h hrep
  obtain ⟨zA, zk, zc, rfl⟩ := ty_list hrep.ty
  rw [val_list]
  have KEY := Lib.hid (ls_rat 171 #[.pointer (some ⟨bw, 0, none⟩)] #[] w bw o zA zk zc t h hrep (ElW.meth (enters_of Tryz.func171 (by kernel_rfl) rfl) hg bw w))
  clear h hrep hg
  go_enter Tryz.func119, Tryz.ntmps119
  go_wp2_with fail
  refine KEY.out.mono ?_
  rintro e w1 ⟨rfl, hp⟩
  go_wp2
  go_end0
  exact ⟨rfl, hp⟩

end Go.Proofs.YtdbglgjphfkonaaGreatDoor

