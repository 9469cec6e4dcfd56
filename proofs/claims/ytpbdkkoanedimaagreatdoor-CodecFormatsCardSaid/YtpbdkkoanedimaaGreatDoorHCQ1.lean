/-
 The writer: fields (printed by gen_codec.py).
-/
import Derived.Test.YtpbdkkoanedimaaGreatDoorHCP1
import Derived.Test.YtpbdkkoanedimaaGreatDoorHCP4
import Derived.Test.YtpbdkkoanedimaaGreatDoorHCP5
namespace Go.Proofs.YtpbdkkoanedimaaGreatDoor
open Go.Lib (hid)
open Go.RowKit AC
set_option linter.unusedVariables false
set_option linter.unusedSimpArgs false
set_option maxHeartbeats 4000000 in
theorem wclo_linTerm_0 (hg : Writes 112 .int) : CloW 259 .int 195 0 := by
 refine ⟨enters_of Tryz.func259 (by kernel_rfl) rfl, ?_⟩
 intro w bw bv bt o cs v t h hv ht d1 d2 hcs hrep
 obtain ⟨zn, rfl⟩ := ty_int hrep.ty
 have cv := hv.cell 0
 simp only [gq] at cv
 have e0 := (ht.cell 0).trans (hcs 0 (.int .i64 zn) rfl)
 have key := hg w bw o _ t h hrep
 rw [val_int] at key
 have KEY := hid key
 clear key
 clear h hv ht hcs hrep hg
 go_enter Tryz.func259, Tryz.ntmps259
 go_wp2_with fail
 refine KEY.out.mono ?_
 rintro e w1 ⟨rfl, hp⟩
 go_wp2
 go_end0
 exact ⟨rfl, hp⟩
set_option maxHeartbeats 4000000 in
theorem wclo_linTerm_1 (hg : Writes 192 .int) : CloW 260 .int 195 1 := by
 refine ⟨enters_of Tryz.func260 (by kernel_rfl) rfl, ?_⟩
 intro w bw bv bt o cs v t h hv ht d1 d2 hcs hrep
 obtain ⟨zn, rfl⟩ := ty_int hrep.ty
 have cv := hv.cell 0
 simp only [gq] at cv
 have e0 := (ht.cell 1).trans (hcs 0 (.int .i64 zn) rfl)
 have key := hg w bw o _ t h hrep
 rw [val_int] at key
 have KEY := hid key
 clear key
 clear h hv ht hcs hrep hg
 go_enter Tryz.func260, Tryz.ntmps260
 go_wp2_with fail
 refine KEY.out.mono ?_
 rintro e w1 ⟨rfl, hp⟩
 go_wp2
 go_end0
 exact ⟨rfl, hp⟩
set_option maxHeartbeats 4000000 in
theorem wclo_lin_0 (hg : Writes 192 .int) : CloW 193 .int 130 0 := by
 refine ⟨enters_of Tryz.func193 (by kernel_rfl) rfl, ?_⟩
 intro w bw bv bt o cs v t h hv ht d1 d2 hcs hrep
 obtain ⟨zn, rfl⟩ := ty_int hrep.ty
 have cv := hv.cell 0
 simp only [gq] at cv
 have e0 := (ht.cell 0).trans (hcs 0 (.int .i64 zn) rfl)
 have key := hg w bw o _ t h hrep
 rw [val_int] at key
 have KEY := hid key
 clear key
 clear h hv ht hcs hrep hg
 go_enter Tryz.func193, Tryz.ntmps193
 go_wp2_with fail
 refine KEY.out.mono ?_
 rintro e w1 ⟨rfl, hp⟩
 go_wp2
 go_end0
 exact ⟨rfl, hp⟩
set_option maxHeartbeats 4000000 in
theorem wclo_lin_1 (hg : Writes 196 linTermS) : CloW 194 (.list linTermS) 130 1 := by
 refine ⟨enters_of Tryz.func194 (by kernel_rfl) rfl, ?_⟩
 intro w bw bv bt o cs v t h hv ht d1 d2 hcs hrep
 obtain ⟨zA, zk, zc, rfl⟩ := ty_list hrep.ty
 have cv := hv.cell 0
 simp only [gq] at cv
 have e0 := (ht.cell 1).trans (hcs 0 (.slice zA zk zc) rfl)
 have KEY := hid (ls_linTerm 196 #[.pointer (some ⟨bw, 0, none⟩)] #[] w bw o zA zk zc t h hrep (ElW.meth (enters_of Tryz.func196 (by kernel_rfl) rfl) hg bw w))
 clear h hv ht hcs hrep hg
 go_enter Tryz.func194, Tryz.ntmps194
 go_wp2_with fail
 refine KEY.out.mono ?_
 rintro e w1 ⟨rfl, hp⟩
 go_wp2
 go_end0
 exact ⟨rfl, hp⟩
set_option maxHeartbeats 4000000 in
theorem wclo_relation_0 (hg : Writes 102 linS) : CloW 100 (.list linS) 87 0 := by
 refine ⟨enters_of Tryz.func100 (by kernel_rfl) rfl, ?_⟩
 intro w bw bv bt o cs v t h hv ht d1 d2 hcs hrep
 obtain ⟨zA, zk, zc, rfl⟩ := ty_list hrep.ty
 have cv := hv.cell 0
 simp only [gq] at cv
 have e0 := (ht.cell 0).trans (hcs 0 (.slice zA zk zc) rfl)
 have KEY := hid (ls_lin 102 #[.pointer (some ⟨bw, 0, none⟩)] #[] w bw o zA zk zc t h hrep (ElW.meth (enters_of Tryz.func102 (by kernel_rfl) rfl) hg bw w))
 clear h hv ht hcs hrep hg
 go_enter Tryz.func100, Tryz.ntmps100
 go_wp2_with fail
 refine KEY.out.mono ?_
 rintro e w1 ⟨rfl, hp⟩
 go_wp2
 go_end0
 exact ⟨rfl, hp⟩
set_option maxHeartbeats 4000000 in
theorem wclo_relation_1 (hg : Writes 102 linS) : CloW 103 (.list linS) 87 1 := by
 refine ⟨enters_of Tryz.func103 (by kernel_rfl) rfl, ?_⟩
 intro w bw bv bt o cs v t h hv ht d1 d2 hcs hrep
 obtain ⟨zA, zk, zc, rfl⟩ := ty_list hrep.ty
 have cv := hv.cell 0
 simp only [gq] at cv
 have e0 := (ht.cell 1).trans (hcs 0 (.slice zA zk zc) rfl)
 have KEY := hid (ls_lin 102 #[.pointer (some ⟨bw, 0, none⟩)] #[] w bw o zA zk zc t h hrep (ElW.meth (enters_of Tryz.func102 (by kernel_rfl) rfl) hg bw w))
 clear h hv ht hcs hrep hg
 go_enter Tryz.func103, Tryz.ntmps103
 go_wp2_with fail
 refine KEY.out.mono ?_
 rintro e w1 ⟨rfl, hp⟩
 go_wp2
 go_end0
 exact ⟨rfl, hp⟩
set_option maxHeartbeats 4000000 in
theorem wclo_metric_0 (hg : Writes 98 (.list .int)) : CloW 97 (.list .int) 24 0 := by
 refine ⟨enters_of Tryz.func97 (by kernel_rfl) rfl, ?_⟩
 intro w bw bv bt o cs v t h hv ht d1 d2 hcs hrep
 obtain ⟨zA, zk, zc, rfl⟩ := ty_list hrep.ty
 have cv := hv.cell 0
 simp only [gq] at cv
 have e0 := (ht.cell 0).trans (hcs 0 (.slice zA zk zc) rfl)
 have key := hg w bw o _ t h hrep
 rw [val_list] at key
 have KEY := hid key
 clear key
 clear h hv ht hcs hrep hg
 go_enter Tryz.func97, Tryz.ntmps97
 go_wp2_with fail
 refine KEY.out.mono ?_
 rintro e w1 ⟨rfl, hp⟩
 go_wp2
 go_end0
 exact ⟨rfl, hp⟩
set_option maxHeartbeats 4000000 in
theorem wclo_metric_1 (hg : Writes 98 (.list .int)) : CloW 99 (.list .int) 24 1 := by
 refine ⟨enters_of Tryz.func99 (by kernel_rfl) rfl, ?_⟩
 intro w bw bv bt o cs v t h hv ht d1 d2 hcs hrep
 obtain ⟨zA, zk, zc, rfl⟩ := ty_list hrep.ty
 have cv := hv.cell 0
 simp only [gq] at cv
 have e0 := (ht.cell 1).trans (hcs 0 (.slice zA zk zc) rfl)
 have key := hg w bw o _ t h hrep
 rw [val_list] at key
 have KEY := hid key
 clear key
 clear h hv ht hcs hrep hg
 go_enter Tryz.func99, Tryz.ntmps99
 go_wp2_with fail
 refine KEY.out.mono ?_
 rintro e w1 ⟨rfl, hp⟩
 go_wp2
 go_end0
 exact ⟨rfl, hp⟩
set_option maxHeartbeats 4000000 in
theorem wclo_typ_0 (hg : Writes 112 .int) : CloW 261 .int 92 0 := by
 refine ⟨enters_of Tryz.func261 (by kernel_rfl) rfl, ?_⟩
 intro w bw bv bt o cs v t h hv ht d1 d2 hcs hrep
 obtain ⟨zn, rfl⟩ := ty_int hrep.ty
 have cv := hv.cell 0
 simp only [gq] at cv
 have e0 := (ht.cell 0).trans (hcs 0 (.int .i64 zn) rfl)
 have key := hg w bw o _ t h hrep
 rw [val_int] at key
 have KEY := hid key
 clear key
 clear h hv ht hcs hrep hg
 go_enter Tryz.func261, Tryz.ntmps261
 go_wp2_with fail
 refine KEY.out.mono ?_
 rintro e w1 ⟨rfl, hp⟩
 go_wp2
 go_end0
 exact ⟨rfl, hp⟩
set_option maxHeartbeats 4000000 in
theorem wclo_typ_1 (hg : Writes 112 .int) : CloW 262 .int 92 1 := by
 refine ⟨enters_of Tryz.func262 (by kernel_rfl) rfl, ?_⟩
 intro w bw bv bt o cs v t h hv ht d1 d2 hcs hrep
 obtain ⟨zn, rfl⟩ := ty_int hrep.ty
 have cv := hv.cell 0
 simp only [gq] at cv
 have e0 := (ht.cell 1).trans (hcs 0 (.int .i64 zn) rfl)
 have key := hg w bw o _ t h hrep
 rw [val_int] at key
 have KEY := hid key
 clear key
 clear h hv ht hcs hrep hg
 go_enter Tryz.func262, Tryz.ntmps262
 go_wp2_with fail
 refine KEY.out.mono ?_
 rintro e w1 ⟨rfl, hp⟩
 go_wp2
 go_end0
 exact ⟨rfl, hp⟩
set_option maxHeartbeats 4000000 in
theorem wclo_typ_2 (n : Nat) (hg : Writes 199 (typS n)) : CloW 263 (.list (typS n)) 92 2 := by
 refine ⟨enters_of Tryz.func263 (by kernel_rfl) rfl, ?_⟩
 intro w bw bv bt o cs v t h hv ht d1 d2 hcs hrep
 obtain ⟨zA, zk, zc, rfl⟩ := ty_list hrep.ty
 have cv := hv.cell 0
 simp only [gq] at cv
 have e0 := (ht.cell 2).trans (hcs 0 (.slice zA zk zc) rfl)
 have KEY := hid (ls_typ n 199 #[.pointer (some ⟨bw, 0, none⟩)] #[] w bw o zA zk zc t h hrep (ElW.meth (enters_of Tryz.func199 (by kernel_rfl) rfl) hg bw w))
 clear h hv ht hcs hrep hg
 go_enter Tryz.func263, Tryz.ntmps263
 go_wp2_with fail
 refine KEY.out.mono ?_
 rintro e w1 ⟨rfl, hp⟩
 go_wp2
 go_end0
 exact ⟨rfl, hp⟩
set_option maxHeartbeats 4000000 in
theorem wclo_store_0 (n : Nat) (hg : Writes 199 (typS n)) : CloW 198 (typS n) 94 0 := by
 refine ⟨enters_of Tryz.func198 (by kernel_rfl) rfl, ?_⟩
 intro w bw bv bt o cs v t h hv ht d1 d2 hcs hrep
 obtain ⟨z0n, z1n, z2A, z2k, z2c, rfl⟩ := ty_typ hrep.ty
 have cv := hv.cell 0
 simp only [gq] at cv
 have e0 := (ht.cell 0).trans (hcs 0 (.int .i64 z0n) rfl)
 have e1 := (ht.cell 1).trans (hcs 1 (.int .i64 z1n) rfl)
 have e2 := (ht.cell 2).trans (hcs 2 (.slice z2A z2k z2c) rfl)
 have key := hg w bw o _ t h hrep
 rw [val_typ] at key
 have KEY := hid key
 clear key
 clear h hv ht hcs hrep hg
 go_enter Tryz.func198, Tryz.ntmps198
 go_wp2_with fail
 refine KEY.out.mono ?_
 rintro e w1 ⟨rfl, hp⟩
 go_wp2
 go_end0
 exact ⟨rfl, hp⟩
set_option maxHeartbeats 4000000 in
theorem wclo_store_1 (hg : Writes 106 (.list .int)) : CloW 200 (.list .int) 94 3 := by
 refine ⟨enters_of Tryz.func200 (by kernel_rfl) rfl, ?_⟩
 intro w bw bv bt o cs v t h hv ht d1 d2 hcs hrep
 obtain ⟨zA, zk, zc, rfl⟩ := ty_list hrep.ty
 have cv := hv.cell 0
 simp only [gq] at cv
 have e0 := (ht.cell 3).trans (hcs 0 (.slice zA zk zc) rfl)
 have key := hg w bw o _ t h hrep
 rw [val_list] at key
 have KEY := hid key
 clear key
 clear h hv ht hcs hrep hg
 go_enter Tryz.func200, Tryz.ntmps200
 go_wp2_with fail
 refine KEY.out.mono ?_
 rintro e w1 ⟨rfl, hp⟩
 go_wp2
 go_end0
 exact ⟨rfl, hp⟩
set_option maxHeartbeats 4000000 in
theorem wclo_flow_0 (hg : Writes 106 (.list .int)) : CloW 104 (.list (.list .int)) 29 0 := by
 refine ⟨enters_of Tryz.func104 (by kernel_rfl) rfl, ?_⟩
 intro w bw bv bt o cs v t h hv ht d1 d2 hcs hrep
 obtain ⟨zA, zk, zc, rfl⟩ := ty_list hrep.ty
 have cv := hv.cell 0
 simp only [gq] at cv
 have e0 := (ht.cell 0).trans (hcs 0 (.slice zA zk zc) rfl)
 have KEY := hid (ls_l_int 106 #[.pointer (some ⟨bw, 0, none⟩)] #[] w bw o zA zk zc t h hrep (ElW.meth (enters_of Tryz.func106 (by kernel_rfl) rfl) hg bw w))
 clear h hv ht hcs hrep hg
 go_enter Tryz.func104, Tryz.ntmps104
 go_wp2_with fail
 refine KEY.out.mono ?_
 rintro e w1 ⟨rfl, hp⟩
 go_wp2
 go_end0
 exact ⟨rfl, hp⟩
set_option maxHeartbeats 4000000 in
theorem wclo_flow_1 (hg : Writes 106 (.list .int)) : CloW 107 (.list (.list .int)) 29 1 := by
 refine ⟨enters_of Tryz.func107 (by kernel_rfl) rfl, ?_⟩
 intro w bw bv bt o cs v t h hv ht d1 d2 hcs hrep
 obtain ⟨zA, zk, zc, rfl⟩ := ty_list hrep.ty
 have cv := hv.cell 0
 simp only [gq] at cv
 have e0 := (ht.cell 1).trans (hcs 0 (.slice zA zk zc) rfl)
 have KEY := hid (ls_l_int 106 #[.pointer (some ⟨bw, 0, none⟩)] #[] w bw o zA zk zc t h hrep (ElW.meth (enters_of Tryz.func106 (by kernel_rfl) rfl) hg bw w))
 clear h hv ht hcs hrep hg
 go_enter Tryz.func107, Tryz.ntmps107
 go_wp2_with fail
 refine KEY.out.mono ?_
 rintro e w1 ⟨rfl, hp⟩
 go_wp2
 go_end0
 exact ⟨rfl, hp⟩
set_option maxHeartbeats 4000000 in
theorem wclo_flow_2 (n : Nat) (hg : Writes 110 (storeS n)) : CloW 108 (.list (storeS n)) 29 2 := by
 refine ⟨enters_of Tryz.func108 (by kernel_rfl) rfl, ?_⟩
 intro w bw bv bt o cs v t h hv ht d1 d2 hcs hrep
 obtain ⟨zA, zk, zc, rfl⟩ := ty_list hrep.ty
 have cv := hv.cell 0
 simp only [gq] at cv
 have e0 := (ht.cell 2).trans (hcs 0 (.slice zA zk zc) rfl)
 have KEY := hid (ls_store n 110 #[.pointer (some ⟨bw, 0, none⟩)] #[] w bw o zA zk zc t h hrep (ElW.meth (enters_of Tryz.func110 (by kernel_rfl) rfl) hg bw w))
 clear h hv ht hcs hrep hg
 go_enter Tryz.func108, Tryz.ntmps108
 go_wp2_with fail
 refine KEY.out.mono ?_
 rintro e w1 ⟨rfl, hp⟩
 go_wp2
 go_end0
 exact ⟨rfl, hp⟩
set_option maxHeartbeats 4000000 in
theorem wclo_index_0 (hg : Writes 112 .int) : CloW 345 .int 125 0 := by
 refine ⟨enters_of Tryz.func345 (by kernel_rfl) rfl, ?_⟩
 intro w bw bv bt o cs v t h hv ht d1 d2 hcs hrep
 obtain ⟨zn, rfl⟩ := ty_int hrep.ty
 have cv := hv.cell 0
 simp only [gq] at cv
 have e0 := (ht.cell 0).trans (hcs 0 (.int .i64 zn) rfl)
 have key := hg w bw o _ t h hrep
 rw [val_int] at key
 have KEY := hid key
 clear key
 clear h hv ht hcs hrep hg
 go_enter Tryz.func345, Tryz.ntmps345
 go_wp2_with fail
 refine KEY.out.mono ?_
 rintro e w1 ⟨rfl, hp⟩
 go_wp2
 go_end0
 exact ⟨rfl, hp⟩
set_option maxHeartbeats 4000000 in
theorem wclo_index_1 (n : Nat) (hg : Writes 318 (indexS n)) : CloW 346 (.list (indexS n)) 125 1 := by
 refine ⟨enters_of Tryz.func346 (by kernel_rfl) rfl, ?_⟩
 intro w bw bv bt o cs v t h hv ht d1 d2 hcs hrep
 obtain ⟨zA, zk, zc, rfl⟩ := ty_list hrep.ty
 have cv := hv.cell 0
 simp only [gq] at cv
 have e0 := (ht.cell 1).trans (hcs 0 (.slice zA zk zc) rfl)
 have KEY := hid (ls_index n 318 #[.pointer (some ⟨bw, 0, none⟩)] #[] w bw o zA zk zc t h hrep (ElW.meth (enters_of Tryz.func318 (by kernel_rfl) rfl) hg bw w))
 clear h hv ht hcs hrep hg
 go_enter Tryz.func346, Tryz.ntmps346
 go_wp2_with fail
 refine KEY.out.mono ?_
 rintro e w1 ⟨rfl, hp⟩
 go_wp2
 go_end0
 exact ⟨rfl, hp⟩
set_option maxHeartbeats 4000000 in
theorem wclo_factor_0 (hg : Writes 112 .int) : CloW 316 .int 127 0 := by
 refine ⟨enters_of Tryz.func316 (by kernel_rfl) rfl, ?_⟩
 intro w bw bv bt o cs v t h hv ht d1 d2 hcs hrep
 obtain ⟨zn, rfl⟩ := ty_int hrep.ty
 have cv := hv.cell 0
 simp only [gq] at cv
 have e0 := (ht.cell 0).trans (hcs 0 (.int .i64 zn) rfl)
 have key := hg w bw o _ t h hrep
 rw [val_int] at key
 have KEY := hid key
 clear key
 clear h hv ht hcs hrep hg
 go_enter Tryz.func316, Tryz.ntmps316
 go_wp2_with fail
 refine KEY.out.mono ?_
 rintro e w1 ⟨rfl, hp⟩
 go_wp2
 go_end0
 exact ⟨rfl, hp⟩
set_option maxHeartbeats 4000000 in
theorem wclo_factor_1 (n : Nat) (hg : Writes 318 (indexS n)) : CloW 317 (indexS n) 127 1 := by
 refine ⟨enters_of Tryz.func317 (by kernel_rfl) rfl, ?_⟩
 intro w bw bv bt o cs v t h hv ht d1 d2 hcs hrep
 obtain ⟨z0n, z1A, z1k, z1c, rfl⟩ := ty_index hrep.ty
 have cv := hv.cell 0
 simp only [gq] at cv
 have e0 := (ht.cell 1).trans (hcs 0 (.int .i64 z0n) rfl)
 have e1 := (ht.cell 2).trans (hcs 1 (.slice z1A z1k z1c) rfl)
 have key := hg w bw o _ t h hrep
 rw [val_index] at key
 have KEY := hid key
 clear key
 clear h hv ht hcs hrep hg
 go_enter Tryz.func317, Tryz.ntmps317
 go_wp2_with fail
 refine KEY.out.mono ?_
 rintro e w1 ⟨rfl, hp⟩
 go_wp2
 go_end0
 exact ⟨rfl, hp⟩
set_option maxHeartbeats 4000000 in
theorem wclo_atom_0 (hg : Writes 102 linS) : CloW 319 linS 132 0 := by
 refine ⟨enters_of Tryz.func319 (by kernel_rfl) rfl, ?_⟩
 intro w bw bv bt o cs v t h hv ht d1 d2 hcs hrep
 obtain ⟨z0n, z1A, z1k, z1c, rfl⟩ := ty_lin hrep.ty
 have cv := hv.cell 0
 simp only [gq] at cv
 have e0 := (ht.cell 0).trans (hcs 0 (.int .i64 z0n) rfl)
 have e1 := (ht.cell 1).trans (hcs 1 (.slice z1A z1k z1c) rfl)
 have key := hg w bw o _ t h hrep
 rw [val_lin] at key
 have KEY := hid key
 clear key
 clear h hv ht hcs hrep hg
 go_enter Tryz.func319, Tryz.ntmps319
 go_wp2_with fail
 refine KEY.out.mono ?_
 rintro e w1 ⟨rfl, hp⟩
 go_wp2
 go_end0
 exact ⟨rfl, hp⟩
set_option maxHeartbeats 4000000 in
theorem wclo_atom_1 (hg : Writes 112 .int) : CloW 320 .int 132 2 := by
 refine ⟨enters_of Tryz.func320 (by kernel_rfl) rfl, ?_⟩
 intro w bw bv bt o cs v t h hv ht d1 d2 hcs hrep
 obtain ⟨zn, rfl⟩ := ty_int hrep.ty
 have cv := hv.cell 0
 simp only [gq] at cv
 have e0 := (ht.cell 2).trans (hcs 0 (.int .i64 zn) rfl)
 have key := hg w bw o _ t h hrep
 rw [val_int] at key
 have KEY := hid key
 clear key
 clear h hv ht hcs hrep hg
 go_enter Tryz.func320, Tryz.ntmps320
 go_wp2_with fail
 refine KEY.out.mono ?_
 rintro e w1 ⟨rfl, hp⟩
 go_wp2
 go_end0
 exact ⟨rfl, hp⟩
set_option maxHeartbeats 4000000 in
theorem wclo_mono_0 (n : Nat) (hg : Writes 269 (factorS n)) : CloW 267 (.list (factorS n)) 64 0 := by
 refine ⟨enters_of Tryz.func267 (by kernel_rfl) rfl, ?_⟩
 intro w bw bv bt o cs v t h hv ht d1 d2 hcs hrep
 obtain ⟨zA, zk, zc, rfl⟩ := ty_list hrep.ty
 have cv := hv.cell 0
 simp only [gq] at cv
 have e0 := (ht.cell 0).trans (hcs 0 (.slice zA zk zc) rfl)
 have KEY := hid (ls_factor n 269 #[.pointer (some ⟨bw, 0, none⟩)] #[] w bw o zA zk zc t h hrep (ElW.meth (enters_of Tryz.func269 (by kernel_rfl) rfl) hg bw w))
 clear h hv ht hcs hrep hg
 go_enter Tryz.func267, Tryz.ntmps267
 go_wp2_with fail
 refine KEY.out.mono ?_
 rintro e w1 ⟨rfl, hp⟩
 go_wp2
 go_end0
 exact ⟨rfl, hp⟩
set_option maxHeartbeats 4000000 in
theorem wclo_mono_1 (hg : Writes 272 atomS) : CloW 270 (.list atomS) 64 1 := by
 refine ⟨enters_of Tryz.func270 (by kernel_rfl) rfl, ?_⟩
 intro w bw bv bt o cs v t h hv ht d1 d2 hcs hrep
 obtain ⟨zA, zk, zc, rfl⟩ := ty_list hrep.ty
 have cv := hv.cell 0
 simp only [gq] at cv
 have e0 := (ht.cell 1).trans (hcs 0 (.slice zA zk zc) rfl)
 have KEY := hid (ls_atom 272 #[.pointer (some ⟨bw, 0, none⟩)] #[] w bw o zA zk zc t h hrep (ElW.meth (enters_of Tryz.func272 (by kernel_rfl) rfl) hg bw w))
 clear h hv ht hcs hrep hg
 go_enter Tryz.func270, Tryz.ntmps270
 go_wp2_with fail
 refine KEY.out.mono ?_
 rintro e w1 ⟨rfl, hp⟩
 go_wp2
 go_end0
 exact ⟨rfl, hp⟩
set_option maxHeartbeats 4000000 in
theorem wclo_term_0 (hg : Writes 203 .rat) : CloW 202 .rat 121 0 := by
 refine ⟨enters_of Tryz.func202 (by kernel_rfl) rfl, ?_⟩
 intro w bw bv bt o cs v t h hv ht d1 d2 hcs hrep
 obtain ⟨zb, zA, zk, zc, zD, zl, zd, rfl⟩ := ty_rat hrep.ty
 have cv := hv.cell 0
 simp only [gq] at cv
 have e0 := (ht.cell 0).trans (hcs 0 (.bool zb) rfl)
 have e1 := (ht.cell 1).trans (hcs 1 (.slice zA zk zc) rfl)
 have e2 := (ht.cell 2).trans (hcs 2 (.slice zD zl zd) rfl)
 have key := hg w bw o _ t h hrep
 rw [val_rat] at key
 have KEY := hid key
 clear key
 clear h hv ht hcs hrep hg
 go_enter Tryz.func202, Tryz.ntmps202
 go_wp2_with fail
 refine KEY.out.mono ?_
 rintro e w1 ⟨rfl, hp⟩
 go_wp2
 go_end0
 exact ⟨rfl, hp⟩
set_option maxHeartbeats 4000000 in
theorem wclo_term_1 (n : Nat) (hg : Writes 205 (monoS n)) : CloW 204 (monoS n) 121 3 := by
 refine ⟨enters_of Tryz.func204 (by kernel_rfl) rfl, ?_⟩
 intro w bw bv bt o cs v t h hv ht d1 d2 hcs hrep
 obtain ⟨z0A, z0k, z0c, z1A, z1k, z1c, rfl⟩ := ty_mono hrep.ty
 have cv := hv.cell 0
 simp only [gq] at cv
 have e0 := (ht.cell 3).trans (hcs 0 (.slice z0A z0k z0c) rfl)
 have e1 := (ht.cell 4).trans (hcs 1 (.slice z1A z1k z1c) rfl)
 have key := hg w bw o _ t h hrep
 rw [val_mono] at key
 have KEY := hid key
 clear key
 clear h hv ht hcs hrep hg
 go_enter Tryz.func204, Tryz.ntmps204
 go_wp2_with fail
 refine KEY.out.mono ?_
 rintro e w1 ⟨rfl, hp⟩
 go_wp2
 go_end0
 exact ⟨rfl, hp⟩
set_option maxHeartbeats 4000000 in
theorem wclo_use_0 (hg : Writes 112 .int) : CloW 273 .int 73 0 := by
 refine ⟨enters_of Tryz.func273 (by kernel_rfl) rfl, ?_⟩
 intro w bw bv bt o cs v t h hv ht d1 d2 hcs hrep
 obtain ⟨zn, rfl⟩ := ty_int hrep.ty
 have cv := hv.cell 0
 simp only [gq] at cv
 have e0 := (ht.cell 0).trans (hcs 0 (.int .i64 zn) rfl)
 have key := hg w bw o _ t h hrep
 rw [val_int] at key
 have KEY := hid key
 clear key
 clear h hv ht hcs hrep hg
 go_enter Tryz.func273, Tryz.ntmps273
 go_wp2_with fail
 refine KEY.out.mono ?_
 rintro e w1 ⟨rfl, hp⟩
 go_wp2
 go_end0
 exact ⟨rfl, hp⟩
set_option maxHeartbeats 4000000 in
theorem wclo_use_1 (hg : Writes 203 .rat) : CloW 274 .rat 73 1 := by
 refine ⟨enters_of Tryz.func274 (by kernel_rfl) rfl, ?_⟩
 intro w bw bv bt o cs v t h hv ht d1 d2 hcs hrep
 obtain ⟨zb, zA, zk, zc, zD, zl, zd, rfl⟩ := ty_rat hrep.ty
 have cv := hv.cell 0
 simp only [gq] at cv
 have e0 := (ht.cell 1).trans (hcs 0 (.bool zb) rfl)
 have e1 := (ht.cell 2).trans (hcs 1 (.slice zA zk zc) rfl)
 have e2 := (ht.cell 3).trans (hcs 2 (.slice zD zl zd) rfl)
 have key := hg w bw o _ t h hrep
 rw [val_rat] at key
 have KEY := hid key
 clear key
 clear h hv ht hcs hrep hg
 go_enter Tryz.func274, Tryz.ntmps274
 go_wp2_with fail
 refine KEY.out.mono ?_
 rintro e w1 ⟨rfl, hp⟩
 go_wp2
 go_end0
 exact ⟨rfl, hp⟩
set_option maxHeartbeats 4000000 in
theorem wclo_use_2 (n : Nat) (hg : Writes 205 (monoS n)) : CloW 275 (monoS n) 73 4 := by
 refine ⟨enters_of Tryz.func275 (by kernel_rfl) rfl, ?_⟩
 intro w bw bv bt o cs v t h hv ht d1 d2 hcs hrep
 obtain ⟨z0A, z0k, z0c, z1A, z1k, z1c, rfl⟩ := ty_mono hrep.ty
 have cv := hv.cell 0
 simp only [gq] at cv
 have e0 := (ht.cell 4).trans (hcs 0 (.slice z0A z0k z0c) rfl)
 have e1 := (ht.cell 5).trans (hcs 1 (.slice z1A z1k z1c) rfl)
 have key := hg w bw o _ t h hrep
 rw [val_mono] at key
 have KEY := hid key
 clear key
 clear h hv ht hcs hrep hg
 go_enter Tryz.func275, Tryz.ntmps275
 go_wp2_with fail
 refine KEY.out.mono ?_
 rintro e w1 ⟨rfl, hp⟩
 go_wp2
 go_end0
 exact ⟨rfl, hp⟩
set_option maxHeartbeats 4000000 in
theorem wclo_part_0 (hg : Writes 112 .int) : CloW 211 .int 66 0 := by
 refine ⟨enters_of Tryz.func211 (by kernel_rfl) rfl, ?_⟩
 intro w bw bv bt o cs v t h hv ht d1 d2 hcs hrep
 obtain ⟨zn, rfl⟩ := ty_int hrep.ty
 have cv := hv.cell 0
 simp only [gq] at cv
 have e0 := (ht.cell 0).trans (hcs 0 (.int .i64 zn) rfl)
 have key := hg w bw o _ t h hrep
 rw [val_int] at key
 have KEY := hid key
 clear key
 clear h hv ht hcs hrep hg
 go_enter Tryz.func211, Tryz.ntmps211
 go_wp2_with fail
 refine KEY.out.mono ?_
 rintro e w1 ⟨rfl, hp⟩
 go_wp2
 go_end0
 exact ⟨rfl, hp⟩
set_option maxHeartbeats 4000000 in
theorem wclo_part_1 (hg : Writes 203 .rat) : CloW 212 .rat 66 1 := by
 refine ⟨enters_of Tryz.func212 (by kernel_rfl) rfl, ?_⟩
 intro w bw bv bt o cs v t h hv ht d1 d2 hcs hrep
 obtain ⟨zb, zA, zk, zc, zD, zl, zd, rfl⟩ := ty_rat hrep.ty
 have cv := hv.cell 0
 simp only [gq] at cv
 have e0 := (ht.cell 1).trans (hcs 0 (.bool zb) rfl)
 have e1 := (ht.cell 2).trans (hcs 1 (.slice zA zk zc) rfl)
 have e2 := (ht.cell 3).trans (hcs 2 (.slice zD zl zd) rfl)
 have key := hg w bw o _ t h hrep
 rw [val_rat] at key
 have KEY := hid key
 clear key
 clear h hv ht hcs hrep hg
 go_enter Tryz.func212, Tryz.ntmps212
 go_wp2_with fail
 refine KEY.out.mono ?_
 rintro e w1 ⟨rfl, hp⟩
 go_wp2
 go_end0
 exact ⟨rfl, hp⟩
set_option maxHeartbeats 4000000 in
theorem wclo_part_2 (n : Nat) (hg : Writes 205 (monoS n)) : CloW 213 (monoS n) 66 4 := by
 refine ⟨enters_of Tryz.func213 (by kernel_rfl) rfl, ?_⟩
 intro w bw bv bt o cs v t h hv ht d1 d2 hcs hrep
 obtain ⟨z0A, z0k, z0c, z1A, z1k, z1c, rfl⟩ := ty_mono hrep.ty
 have cv := hv.cell 0
 simp only [gq] at cv
 have e0 := (ht.cell 4).trans (hcs 0 (.slice z0A z0k z0c) rfl)
 have e1 := (ht.cell 5).trans (hcs 1 (.slice z1A z1k z1c) rfl)
 have key := hg w bw o _ t h hrep
 rw [val_mono] at key
 have KEY := hid key
 clear key
 clear h hv ht hcs hrep hg
 go_enter Tryz.func213, Tryz.ntmps213
 go_wp2_with fail
 refine KEY.out.mono ?_
 rintro e w1 ⟨rfl, hp⟩
 go_wp2
 go_end0
 exact ⟨rfl, hp⟩
set_option maxHeartbeats 4000000 in
theorem wclo_target_0 (hg : Writes 112 .int) : CloW 206 .int 71 0 := by
 refine ⟨enters_of Tryz.func206 (by kernel_rfl) rfl, ?_⟩
 intro w bw bv bt o cs v t h hv ht d1 d2 hcs hrep
 obtain ⟨zn, rfl⟩ := ty_int hrep.ty
 have cv := hv.cell 0
 simp only [gq] at cv
 have e0 := (ht.cell 0).trans (hcs 0 (.int .i64 zn) rfl)
 have key := hg w bw o _ t h hrep
 rw [val_int] at key
 have KEY := hid key
 clear key
 clear h hv ht hcs hrep hg
 go_enter Tryz.func206, Tryz.ntmps206
 go_wp2_with fail
 refine KEY.out.mono ?_
 rintro e w1 ⟨rfl, hp⟩
 go_wp2
 go_end0
 exact ⟨rfl, hp⟩
set_option maxHeartbeats 4000000 in
theorem wclo_target_1 (n : Nat) (hg : Writes 209 (useS n)) : CloW 207 (.list (useS n)) 71 1 := by
 refine ⟨enters_of Tryz.func207 (by kernel_rfl) rfl, ?_⟩
 intro w bw bv bt o cs v t h hv ht d1 d2 hcs hrep
 obtain ⟨zA, zk, zc, rfl⟩ := ty_list hrep.ty
 have cv := hv.cell 0
 simp only [gq] at cv
 have e0 := (ht.cell 1).trans (hcs 0 (.slice zA zk zc) rfl)
 have KEY := hid (ls_use n 209 #[.pointer (some ⟨bw, 0, none⟩)] #[] w bw o zA zk zc t h hrep (ElW.meth (enters_of Tryz.func209 (by kernel_rfl) rfl) hg bw w))
 clear h hv ht hcs hrep hg
 go_enter Tryz.func207, Tryz.ntmps207
 go_wp2_with fail
 refine KEY.out.mono ?_
 rintro e w1 ⟨rfl, hp⟩
 go_wp2
 go_end0
 exact ⟨rfl, hp⟩
set_option maxHeartbeats 4000000 in
theorem wclo_target_2 (n : Nat) (hg : Writes 117 (termS n)) : CloW 210 (.list (termS n)) 71 2 := by
 refine ⟨enters_of Tryz.func210 (by kernel_rfl) rfl, ?_⟩
 intro w bw bv bt o cs v t h hv ht d1 d2 hcs hrep
 obtain ⟨zA, zk, zc, rfl⟩ := ty_list hrep.ty
 have cv := hv.cell 0
 simp only [gq] at cv
 have e0 := (ht.cell 2).trans (hcs 0 (.slice zA zk zc) rfl)
 have KEY := hid (ls_term n 117 #[.pointer (some ⟨bw, 0, none⟩)] #[] w bw o zA zk zc t h hrep (ElW.meth (enters_of Tryz.func117 (by kernel_rfl) rfl) hg bw w))
 clear h hv ht hcs hrep hg
 go_enter Tryz.func210, Tryz.ntmps210
 go_wp2_with fail
 refine KEY.out.mono ?_
 rintro e w1 ⟨rfl, hp⟩
 go_wp2
 go_end0
 exact ⟨rfl, hp⟩
set_option maxHeartbeats 4000000 in
theorem wclo_axiom_0 (hg : Writes 112 .int) : CloW 276 .int 134 0 := by
 refine ⟨enters_of Tryz.func276 (by kernel_rfl) rfl, ?_⟩
 intro w bw bv bt o cs v t h hv ht d1 d2 hcs hrep
 obtain ⟨zn, rfl⟩ := ty_int hrep.ty
 have cv := hv.cell 0
 simp only [gq] at cv
 have e0 := (ht.cell 0).trans (hcs 0 (.int .i64 zn) rfl)
 have key := hg w bw o _ t h hrep
 rw [val_int] at key
 have KEY := hid key
 clear key
 clear h hv ht hcs hrep hg
 go_enter Tryz.func276, Tryz.ntmps276
 go_wp2_with fail
 refine KEY.out.mono ?_
 rintro e w1 ⟨rfl, hp⟩
 go_wp2
 go_end0
 exact ⟨rfl, hp⟩
set_option maxHeartbeats 4000000 in
theorem wclo_axiom_1 (hg : Writes 102 linS) : CloW 277 linS 134 1 := by
 refine ⟨enters_of Tryz.func277 (by kernel_rfl) rfl, ?_⟩
 intro w bw bv bt o cs v t h hv ht d1 d2 hcs hrep
 obtain ⟨z0n, z1A, z1k, z1c, rfl⟩ := ty_lin hrep.ty
 have cv := hv.cell 0
 simp only [gq] at cv
 have e0 := (ht.cell 1).trans (hcs 0 (.int .i64 z0n) rfl)
 have e1 := (ht.cell 2).trans (hcs 1 (.slice z1A z1k z1c) rfl)
 have key := hg w bw o _ t h hrep
 rw [val_lin] at key
 have KEY := hid key
 clear key
 clear h hv ht hcs hrep hg
 go_enter Tryz.func277, Tryz.ntmps277
 go_wp2_with fail
 refine KEY.out.mono ?_
 rintro e w1 ⟨rfl, hp⟩
 go_wp2
 go_end0
 exact ⟨rfl, hp⟩
set_option maxHeartbeats 4000000 in
theorem wclo_axiom_2 (hg : Writes 102 linS) : CloW 278 linS 134 3 := by
 refine ⟨enters_of Tryz.func278 (by kernel_rfl) rfl, ?_⟩
 intro w bw bv bt o cs v t h hv ht d1 d2 hcs hrep
 obtain ⟨z0n, z1A, z1k, z1c, rfl⟩ := ty_lin hrep.ty
 have cv := hv.cell 0
 simp only [gq] at cv
 have e0 := (ht.cell 3).trans (hcs 0 (.int .i64 z0n) rfl)
 have e1 := (ht.cell 4).trans (hcs 1 (.slice z1A z1k z1c) rfl)
 have key := hg w bw o _ t h hrep
 rw [val_lin] at key
 have KEY := hid key
 clear key
 clear h hv ht hcs hrep hg
 go_enter Tryz.func278, Tryz.ntmps278
 go_wp2_with fail
 refine KEY.out.mono ?_
 rintro e w1 ⟨rfl, hp⟩
 go_wp2
 go_end0
 exact ⟨rfl, hp⟩
set_option maxHeartbeats 4000000 in
theorem wclo_axiom_3 (hg : Writes 112 .int) : CloW 279 .int 134 5 := by
 refine ⟨enters_of Tryz.func279 (by kernel_rfl) rfl, ?_⟩
 intro w bw bv bt o cs v t h hv ht d1 d2 hcs hrep
 obtain ⟨zn, rfl⟩ := ty_int hrep.ty
 have cv := hv.cell 0
 simp only [gq] at cv
 have e0 := (ht.cell 5).trans (hcs 0 (.int .i64 zn) rfl)
 have key := hg w bw o _ t h hrep
 rw [val_int] at key
 have KEY := hid key
 clear key
 clear h hv ht hcs hrep hg
 go_enter Tryz.func279, Tryz.ntmps279
 go_wp2_with fail
 refine KEY.out.mono ?_
 rintro e w1 ⟨rfl, hp⟩
 go_wp2
 go_end0
 exact ⟨rfl, hp⟩
set_option maxHeartbeats 4000000 in
theorem wclo_axiomUse_0 (hg : Writes 216 axS) : CloW 215 axS 136 0 := by
 refine ⟨enters_of Tryz.func215 (by kernel_rfl) rfl, ?_⟩
 intro w bw bv bt o cs v t h hv ht d1 d2 hcs hrep
 obtain ⟨z0n, z1_0n, z1_1A, z1_1k, z1_1c, z2_0n, z2_1A, z2_1k, z2_1c, z3n, rfl⟩ := ty_axiom hrep.ty
 have cv := hv.cell 0
 simp only [gq] at cv
 have e0 := (ht.cell 0).trans (hcs 0 (.int .i64 z0n) rfl)
 have e1 := (ht.cell 1).trans (hcs 1 (.int .i64 z1_0n) rfl)
 have e2 := (ht.cell 2).trans (hcs 2 (.slice z1_1A z1_1k z1_1c) rfl)
 have e3 := (ht.cell 3).trans (hcs 3 (.int .i64 z2_0n) rfl)
 have e4 := (ht.cell 4).trans (hcs 4 (.slice z2_1A z2_1k z2_1c) rfl)
 have e5 := (ht.cell 5).trans (hcs 5 (.int .i64 z3n) rfl)
 have key := hg w bw o _ t h hrep
 rw [val_axiom] at key
 have KEY := hid key
 clear key
 clear h hv ht hcs hrep hg
 go_enter Tryz.func215, Tryz.ntmps215
 go_wp2_with fail
 refine KEY.out.mono ?_
 rintro e w1 ⟨rfl, hp⟩
 go_wp2
 go_end0
 exact ⟨rfl, hp⟩
set_option maxHeartbeats 4000000 in
theorem wclo_axiomUse_1 (hg : Writes 203 .rat) : CloW 217 .rat 136 6 := by
 refine ⟨enters_of Tryz.func217 (by kernel_rfl) rfl, ?_⟩
 intro w bw bv bt o cs v t h hv ht d1 d2 hcs hrep
 obtain ⟨zb, zA, zk, zc, zD, zl, zd, rfl⟩ := ty_rat hrep.ty
 have cv := hv.cell 0
 simp only [gq] at cv
 have e0 := (ht.cell 6).trans (hcs 0 (.bool zb) rfl)
 have e1 := (ht.cell 7).trans (hcs 1 (.slice zA zk zc) rfl)
 have e2 := (ht.cell 8).trans (hcs 2 (.slice zD zl zd) rfl)
 have key := hg w bw o _ t h hrep
 rw [val_rat] at key
 have KEY := hid key
 clear key
 clear h hv ht hcs hrep hg
 go_enter Tryz.func217, Tryz.ntmps217
 go_wp2_with fail
 refine KEY.out.mono ?_
 rintro e w1 ⟨rfl, hp⟩
 go_wp2
 go_end0
 exact ⟨rfl, hp⟩
set_option maxHeartbeats 4000000 in
theorem wclo_axiomUse_2 (n : Nat) (hg : Writes 205 (monoS n)) : CloW 218 (monoS n) 136 9 := by
 refine ⟨enters_of Tryz.func218 (by kernel_rfl) rfl, ?_⟩
 intro w bw bv bt o cs v t h hv ht d1 d2 hcs hrep
 obtain ⟨z0A, z0k, z0c, z1A, z1k, z1c, rfl⟩ := ty_mono hrep.ty
 have cv := hv.cell 0
 simp only [gq] at cv
 have e0 := (ht.cell 9).trans (hcs 0 (.slice z0A z0k z0c) rfl)
 have e1 := (ht.cell 10).trans (hcs 1 (.slice z1A z1k z1c) rfl)
 have key := hg w bw o _ t h hrep
 rw [val_mono] at key
 have KEY := hid key
 clear key
 clear h hv ht hcs hrep hg
 go_enter Tryz.func218, Tryz.ntmps218
 go_wp2_with fail
 refine KEY.out.mono ?_
 rintro e w1 ⟨rfl, hp⟩
 go_wp2
 go_end0
 exact ⟨rfl, hp⟩
set_option maxHeartbeats 4000000 in
theorem wclo_axiomUse_3 (hg : Writes 128 (.list .rat)) : CloW 219 (.list .rat) 136 11 := by
 refine ⟨enters_of Tryz.func219 (by kernel_rfl) rfl, ?_⟩
 intro w bw bv bt o cs v t h hv ht d1 d2 hcs hrep
 obtain ⟨zA, zk, zc, rfl⟩ := ty_list hrep.ty
 have cv := hv.cell 0
 simp only [gq] at cv
 have e0 := (ht.cell 11).trans (hcs 0 (.slice zA zk zc) rfl)
 have key := hg w bw o _ t h hrep
 rw [val_list] at key
 have KEY := hid key
 clear key
 clear h hv ht hcs hrep hg
 go_enter Tryz.func219, Tryz.ntmps219
 go_wp2_with fail
 refine KEY.out.mono ?_
 rintro e w1 ⟨rfl, hp⟩
 go_wp2
 go_end0
 exact ⟨rfl, hp⟩
set_option maxHeartbeats 4000000 in
theorem wclo_axiomUse_4 (hg : Writes 128 (.list .rat)) : CloW 220 (.list .rat) 136 12 := by
 refine ⟨enters_of Tryz.func220 (by kernel_rfl) rfl, ?_⟩
 intro w bw bv bt o cs v t h hv ht d1 d2 hcs hrep
 obtain ⟨zA, zk, zc, rfl⟩ := ty_list hrep.ty
 have cv := hv.cell 0
 simp only [gq] at cv
 have e0 := (ht.cell 12).trans (hcs 0 (.slice zA zk zc) rfl)
 have key := hg w bw o _ t h hrep
 rw [val_list] at key
 have KEY := hid key
 clear key
 clear h hv ht hcs hrep hg
 go_enter Tryz.func220, Tryz.ntmps220
 go_wp2_with fail
 refine KEY.out.mono ?_
 rintro e w1 ⟨rfl, hp⟩
 go_wp2
 go_end0
 exact ⟨rfl, hp⟩
set_option maxHeartbeats 4000000 in
theorem wclo_node_0 (hg : Writes 112 .int) : CloW 111 .int 55 0 := by
 refine ⟨enters_of Tryz.func111 (by kernel_rfl) rfl, ?_⟩
 intro w bw bv bt o cs v t h hv ht d1 d2 hcs hrep
 obtain ⟨zn, rfl⟩ := ty_int hrep.ty
 have cv := hv.cell 0
 simp only [gq] at cv
 have e0 := (ht.cell 0).trans (hcs 0 (.int .i64 zn) rfl)
 have key := hg w bw o _ t h hrep
 rw [val_int] at key
 have KEY := hid key
 clear key
 clear h hv ht hcs hrep hg
 go_enter Tryz.func111, Tryz.ntmps111
 go_wp2_with fail
 refine KEY.out.mono ?_
 rintro e w1 ⟨rfl, hp⟩
 go_wp2
 go_end0
 exact ⟨rfl, hp⟩
set_option maxHeartbeats 4000000 in
theorem wclo_node_1 (hg : Writes 112 .int) : CloW 113 .int 55 1 := by
 refine ⟨enters_of Tryz.func113 (by kernel_rfl) rfl, ?_⟩
 intro w bw bv bt o cs v t h hv ht d1 d2 hcs hrep
 obtain ⟨zn, rfl⟩ := ty_int hrep.ty
 have cv := hv.cell 0
 simp only [gq] at cv
 have e0 := (ht.cell 1).trans (hcs 0 (.int .i64 zn) rfl)
 have key := hg w bw o _ t h hrep
 rw [val_int] at key
 have KEY := hid key
 clear key
 clear h hv ht hcs hrep hg
 go_enter Tryz.func113, Tryz.ntmps113
 go_wp2_with fail
 refine KEY.out.mono ?_
 rintro e w1 ⟨rfl, hp⟩
 go_wp2
 go_end0
 exact ⟨rfl, hp⟩
set_option maxHeartbeats 4000000 in
theorem wclo_node_2 (hg : Writes 46 .bool) : CloW 114 .bool 55 2 := by
 refine ⟨enters_of Tryz.func114 (by kernel_rfl) rfl, ?_⟩
 intro w bw bv bt o cs v t h hv ht d1 d2 hcs hrep
 obtain ⟨zb, rfl⟩ := ty_bool hrep.ty
 have cv := hv.cell 0
 simp only [gq] at cv
 have e0 := (ht.cell 2).trans (hcs 0 (.bool zb) rfl)
 have key := hg w bw o _ t h hrep
 rw [val_bool] at key
 have KEY := hid key
 clear key
 clear h hv ht hcs hrep hg
 go_enter Tryz.func114, Tryz.ntmps114
 go_wp2_with fail
 refine KEY.out.mono ?_
 rintro e w1 ⟨rfl, hp⟩
 go_wp2
 go_end0
 exact ⟨rfl, hp⟩
set_option maxHeartbeats 4000000 in
theorem wclo_node_3 (n : Nat) (hg : Writes 117 (termS n)) : CloW 115 (.list (termS n)) 55 3 := by
 refine ⟨enters_of Tryz.func115 (by kernel_rfl) rfl, ?_⟩
 intro w bw bv bt o cs v t h hv ht d1 d2 hcs hrep
 obtain ⟨zA, zk, zc, rfl⟩ := ty_list hrep.ty
 have cv := hv.cell 0
 simp only [gq] at cv
 have e0 := (ht.cell 3).trans (hcs 0 (.slice zA zk zc) rfl)
 have KEY := hid (ls_term n 117 #[.pointer (some ⟨bw, 0, none⟩)] #[] w bw o zA zk zc t h hrep (ElW.meth (enters_of Tryz.func117 (by kernel_rfl) rfl) hg bw w))
 clear h hv ht hcs hrep hg
 go_enter Tryz.func115, Tryz.ntmps115
 go_wp2_with fail
 refine KEY.out.mono ?_
 rintro e w1 ⟨rfl, hp⟩
 go_wp2
 go_end0
 exact ⟨rfl, hp⟩
set_option maxHeartbeats 4000000 in
theorem elw_x (n : Nat) (hg : Writes 133 (axuS n)) (w : World) (bw bv : Nat) (hv : Bk w bv 76 #[.pointer (some ⟨bw, 0, none⟩)]) (d : bv ≠ bw) : ElW 131 #[] #[.pointer (some ⟨bv, 0, none⟩)] (.list (axuS n)) bw w := by
 refine ⟨enters_of Tryz.func131 (by kernel_rfl) rfl, fun W o v t hf hw hr => ?_⟩
 have cv := (hf.2 _ _ _ d (by decide) hv).cell 0
 simp only [gq] at cv
 obtain ⟨zA, zk, zc, rfl⟩ := ty_list hr.ty
 rw [val_list]
 have KEY := hid (ls_axiomUse n 133 #[.pointer (some ⟨bw, 0, none⟩)] #[] W bw o zA zk zc t hw hr (ElW.meth (enters_of Tryz.func133 (by kernel_rfl) rfl) hg bw W))
 clear hv hf hw hr hg
 show Calls Tryz.prog 131 #[.slice zA zk zc, .pointer (some ⟨bv, 0, none⟩)] W _
 go_enter Tryz.func131, Tryz.ntmps131
 go_wp2_with fail
 refine KEY.out.mono ?_
 rintro e w1 ⟨rfl, hp⟩
 go_wp2
 go_end0
 exact ⟨rfl, hp⟩
set_option maxHeartbeats 4000000 in
theorem wclo_node_4 (n : Nat) (hg : Writes 117 (termS n)) : CloW 118 (.list (termS n)) 55 4 := by
 refine ⟨enters_of Tryz.func118 (by kernel_rfl) rfl, ?_⟩
 intro w bw bv bt o cs v t h hv ht d1 d2 hcs hrep
 obtain ⟨zA, zk, zc, rfl⟩ := ty_list hrep.ty
 have cv := hv.cell 0
 simp only [gq] at cv
 have e0 := (ht.cell 4).trans (hcs 0 (.slice zA zk zc) rfl)
 have KEY := hid (ls_term n 117 #[.pointer (some ⟨bw, 0, none⟩)] #[] w bw o zA zk zc t h hrep (ElW.meth (enters_of Tryz.func117 (by kernel_rfl) rfl) hg bw w))
 clear h hv ht hcs hrep hg
 go_enter Tryz.func118, Tryz.ntmps118
 go_wp2_with fail
 refine KEY.out.mono ?_
 rintro e w1 ⟨rfl, hp⟩
 go_wp2
 go_end0
 exact ⟨rfl, hp⟩
set_option maxHeartbeats 4000000 in
theorem wclo_node_5 (n : Nat) (hg : Writes 121 (targetS n)) : CloW 119 (.list (targetS n)) 55 5 := by
 refine ⟨enters_of Tryz.func119 (by kernel_rfl) rfl, ?_⟩
 intro w bw bv bt o cs v t h hv ht d1 d2 hcs hrep
 obtain ⟨zA, zk, zc, rfl⟩ := ty_list hrep.ty
 have cv := hv.cell 0
 simp only [gq] at cv
 have e0 := (ht.cell 5).trans (hcs 0 (.slice zA zk zc) rfl)
 have KEY := hid (ls_target n 121 #[.pointer (some ⟨bw, 0, none⟩)] #[] w bw o zA zk zc t h hrep (ElW.meth (enters_of Tryz.func121 (by kernel_rfl) rfl) hg bw w))
 clear h hv ht hcs hrep hg
 go_enter Tryz.func119, Tryz.ntmps119
 go_wp2_with fail
 refine KEY.out.mono ?_
 rintro e w1 ⟨rfl, hp⟩
 go_wp2
 go_end0
 exact ⟨rfl, hp⟩
set_option maxHeartbeats 4000000 in
theorem wclo_node_6 (n : Nat) (hg : Writes 124 (useS n)) : CloW 122 (.list (useS n)) 55 6 := by
 refine ⟨enters_of Tryz.func122 (by kernel_rfl) rfl, ?_⟩
 intro w bw bv bt o cs v t h hv ht d1 d2 hcs hrep
 obtain ⟨zA, zk, zc, rfl⟩ := ty_list hrep.ty
 have cv := hv.cell 0
 simp only [gq] at cv
 have e0 := (ht.cell 6).trans (hcs 0 (.slice zA zk zc) rfl)
 have KEY := hid (ls_part n 124 #[.pointer (some ⟨bw, 0, none⟩)] #[] w bw o zA zk zc t h hrep (ElW.meth (enters_of Tryz.func124 (by kernel_rfl) rfl) hg bw w))
 clear h hv ht hcs hrep hg
 go_enter Tryz.func122, Tryz.ntmps122
 go_wp2_with fail
 refine KEY.out.mono ?_
 rintro e w1 ⟨rfl, hp⟩
 go_wp2
 go_end0
 exact ⟨rfl, hp⟩
set_option maxHeartbeats 4000000 in
theorem wclo_node_7 (n : Nat) (hg : Writes 117 (termS n)) : CloW 125 (.list (termS n)) 55 7 := by
 refine ⟨enters_of Tryz.func125 (by kernel_rfl) rfl, ?_⟩
 intro w bw bv bt o cs v t h hv ht d1 d2 hcs hrep
 obtain ⟨zA, zk, zc, rfl⟩ := ty_list hrep.ty
 have cv := hv.cell 0
 simp only [gq] at cv
 have e0 := (ht.cell 7).trans (hcs 0 (.slice zA zk zc) rfl)
 have KEY := hid (ls_term n 117 #[.pointer (some ⟨bw, 0, none⟩)] #[] w bw o zA zk zc t h hrep (ElW.meth (enters_of Tryz.func117 (by kernel_rfl) rfl) hg bw w))
 clear h hv ht hcs hrep hg
 go_enter Tryz.func125, Tryz.ntmps125
 go_wp2_with fail
 refine KEY.out.mono ?_
 rintro e w1 ⟨rfl, hp⟩
 go_wp2
 go_end0
 exact ⟨rfl, hp⟩
set_option maxHeartbeats 4000000 in
theorem wclo_node_8 (hg : Writes 106 (.list .int)) : CloW 126 (.list .int) 55 8 := by
 refine ⟨enters_of Tryz.func126 (by kernel_rfl) rfl, ?_⟩
 intro w bw bv bt o cs v t h hv ht d1 d2 hcs hrep
 obtain ⟨zA, zk, zc, rfl⟩ := ty_list hrep.ty
 have cv := hv.cell 0
 simp only [gq] at cv
 have e0 := (ht.cell 8).trans (hcs 0 (.slice zA zk zc) rfl)
 have key := hg w bw o _ t h hrep
 rw [val_list] at key
 have KEY := hid key
 clear key
 clear h hv ht hcs hrep hg
 go_enter Tryz.func126, Tryz.ntmps126
 go_wp2_with fail
 refine KEY.out.mono ?_
 rintro e w1 ⟨rfl, hp⟩
 go_wp2
 go_end0
 exact ⟨rfl, hp⟩
set_option maxHeartbeats 4000000 in
theorem wclo_node_9 (hg : Writes 128 (.list .rat)) : CloW 127 (.list .rat) 55 9 := by
 refine ⟨enters_of Tryz.func127 (by kernel_rfl) rfl, ?_⟩
 intro w bw bv bt o cs v t h hv ht d1 d2 hcs hrep
 obtain ⟨zA, zk, zc, rfl⟩ := ty_list hrep.ty
 have cv := hv.cell 0
 simp only [gq] at cv
 have e0 := (ht.cell 9).trans (hcs 0 (.slice zA zk zc) rfl)
 have key := hg w bw o _ t h hrep
 rw [val_list] at key
 have KEY := hid key
 clear key
 clear h hv ht hcs hrep hg
 go_enter Tryz.func127, Tryz.ntmps127
 go_wp2_with fail
 refine KEY.out.mono ?_
 rintro e w1 ⟨rfl, hp⟩
 go_wp2
 go_end0
 exact ⟨rfl, hp⟩
set_option maxHeartbeats 4000000 in
theorem wclo_node_10 (n : Nat) (hg : Writes 133 (axuS n)) : CloW 129 (.list (.list (axuS n))) 55 10 := by
 refine ⟨enters_of Tryz.func129 (by kernel_rfl) rfl, ?_⟩
 intro w bw bv bt o cs v t h hv ht d1 d2 hcs hrep
 obtain ⟨zA, zk, zc, rfl⟩ := ty_list hrep.ty
 have cv := hv.cell 0
 simp only [gq] at cv
 have e0 := (ht.cell 10).trans (hcs 0 (.slice zA zk zc) rfl)
 have KEY := hid (ls_l_axiomUse n 131 #[] #[.pointer (some ⟨bv, 0, none⟩)] w bw o zA zk zc t h hrep (elw_x n hg w bw bv hv d1))
 clear h hv ht hcs hrep hg
 go_enter Tryz.func129, Tryz.ntmps129
 go_wp2_with fail
 refine KEY.out.mono ?_
 rintro e w1 ⟨rfl, hp⟩
 go_wp2
 go_end0
 exact ⟨rfl, hp⟩
set_option maxHeartbeats 4000000 in
theorem wclo_claim_0 (hg : Writes 112 .int) : CloW 134 .int 99 0 := by
 refine ⟨enters_of Tryz.func134 (by kernel_rfl) rfl, ?_⟩
 intro w bw bv bt o cs v t h hv ht d1 d2 hcs hrep
 obtain ⟨zn, rfl⟩ := ty_int hrep.ty
 have cv := hv.cell 0
 simp only [gq] at cv
 have e0 := (ht.cell 0).trans (hcs 0 (.int .i64 zn) rfl)
 have key := hg w bw o _ t h hrep
 rw [val_int] at key
 have KEY := hid key
 clear key
 clear h hv ht hcs hrep hg
 go_enter Tryz.func134, Tryz.ntmps134
 go_wp2_with fail
 refine KEY.out.mono ?_
 rintro e w1 ⟨rfl, hp⟩
 go_wp2
 go_end0
 exact ⟨rfl, hp⟩
set_option maxHeartbeats 4000000 in
theorem wclo_claim_1 (hg : Writes 112 .int) : CloW 135 .int 99 1 := by
 refine ⟨enters_of Tryz.func135 (by kernel_rfl) rfl, ?_⟩
 intro w bw bv bt o cs v t h hv ht d1 d2 hcs hrep
 obtain ⟨zn, rfl⟩ := ty_int hrep.ty
 have cv := hv.cell 0
 simp only [gq] at cv
 have e0 := (ht.cell 1).trans (hcs 0 (.int .i64 zn) rfl)
 have key := hg w bw o _ t h hrep
 rw [val_int] at key
 have KEY := hid key
 clear key
 clear h hv ht hcs hrep hg
 go_enter Tryz.func135, Tryz.ntmps135
 go_wp2_with fail
 refine KEY.out.mono ?_
 rintro e w1 ⟨rfl, hp⟩
 go_wp2
 go_end0
 exact ⟨rfl, hp⟩
set_option maxHeartbeats 4000000 in
theorem wclo_cert_0 (hg : Writes 46 .bool) : CloW 45 .bool 33 0 := by
 refine ⟨enters_of Tryz.func45 (by kernel_rfl) rfl, ?_⟩
 intro w bw bv bt o cs v t h hv ht d1 d2 hcs hrep
 obtain ⟨zb, rfl⟩ := ty_bool hrep.ty
 have cv := hv.cell 0
 simp only [gq] at cv
 have e0 := (ht.cell 0).trans (hcs 0 (.bool zb) rfl)
 have key := hg w bw o _ t h hrep
 rw [val_bool] at key
 have KEY := hid key
 clear key
 clear h hv ht hcs hrep hg
 go_enter Tryz.func45, Tryz.ntmps45
 go_wp2_with fail
 refine KEY.out.mono ?_
 rintro e w1 ⟨rfl, hp⟩
 go_wp2
 go_end0
 exact ⟨rfl, hp⟩
set_option maxHeartbeats 4000000 in
theorem wclo_cert_1 (hg : Writes 48 metricS) : CloW 47 metricS 33 1 := by
 refine ⟨enters_of Tryz.func47 (by kernel_rfl) rfl, ?_⟩
 intro w bw bv bt o cs v t h hv ht d1 d2 hcs hrep
 obtain ⟨z0A, z0k, z0c, z1A, z1k, z1c, rfl⟩ := ty_metric hrep.ty
 have cv := hv.cell 0
 simp only [gq] at cv
 have e0 := (ht.cell 1).trans (hcs 0 (.slice z0A z0k z0c) rfl)
 have e1 := (ht.cell 2).trans (hcs 1 (.slice z1A z1k z1c) rfl)
 have key := hg w bw o _ t h hrep
 rw [val_metric] at key
 have KEY := hid key
 clear key
 clear h hv ht hcs hrep hg
 go_enter Tryz.func47, Tryz.ntmps47
 go_wp2_with fail
 refine KEY.out.mono ?_
 rintro e w1 ⟨rfl, hp⟩
 go_wp2
 go_end0
 exact ⟨rfl, hp⟩
set_option maxHeartbeats 4000000 in
theorem wclo_cert_2 (hg : Writes 51 relationS) : CloW 49 (.list relationS) 33 3 := by
 refine ⟨enters_of Tryz.func49 (by kernel_rfl) rfl, ?_⟩
 intro w bw bv bt o cs v t h hv ht d1 d2 hcs hrep
 obtain ⟨zA, zk, zc, rfl⟩ := ty_list hrep.ty
 have cv := hv.cell 0
 simp only [gq] at cv
 have e0 := (ht.cell 3).trans (hcs 0 (.slice zA zk zc) rfl)
 have KEY := hid (ls_relation 51 #[.pointer (some ⟨bw, 0, none⟩)] #[] w bw o zA zk zc t h hrep (ElW.meth (enters_of Tryz.func51 (by kernel_rfl) rfl) hg bw w))
 clear h hv ht hcs hrep hg
 go_enter Tryz.func49, Tryz.ntmps49
 go_wp2_with fail
 refine KEY.out.mono ?_
 rintro e w1 ⟨rfl, hp⟩
 go_wp2
 go_end0
 exact ⟨rfl, hp⟩
set_option maxHeartbeats 4000000 in
theorem wclo_cert_3 (n : Nat) (hg : Writes 53 (flowS n)) : CloW 52 (flowS n) 33 4 := by
 refine ⟨enters_of Tryz.func52 (by kernel_rfl) rfl, ?_⟩
 intro w bw bv bt o cs v t h hv ht d1 d2 hcs hrep
 obtain ⟨z0A, z0k, z0c, z1A, z1k, z1c, z2A, z2k, z2c, rfl⟩ := ty_flow hrep.ty
 have cv := hv.cell 0
 simp only [gq] at cv
 have e0 := (ht.cell 4).trans (hcs 0 (.slice z0A z0k z0c) rfl)
 have e1 := (ht.cell 5).trans (hcs 1 (.slice z1A z1k z1c) rfl)
 have e2 := (ht.cell 6).trans (hcs 2 (.slice z2A z2k z2c) rfl)
 have key := hg w bw o _ t h hrep
 rw [val_flow] at key
 have KEY := hid key
 clear key
 clear h hv ht hcs hrep hg
 go_enter Tryz.func52, Tryz.ntmps52
 go_wp2_with fail
 refine KEY.out.mono ?_
 rintro e w1 ⟨rfl, hp⟩
 go_wp2
 go_end0
 exact ⟨rfl, hp⟩
set_option maxHeartbeats 4000000 in
theorem wclo_cert_4 (n : Nat) (hg : Writes 56 (nodeS n)) : CloW 54 (.list (nodeS n)) 33 7 := by
 refine ⟨enters_of Tryz.func54 (by kernel_rfl) rfl, ?_⟩
 intro w bw bv bt o cs v t h hv ht d1 d2 hcs hrep
 obtain ⟨zA, zk, zc, rfl⟩ := ty_list hrep.ty
 have cv := hv.cell 0
 simp only [gq] at cv
 have e0 := (ht.cell 7).trans (hcs 0 (.slice zA zk zc) rfl)
 have KEY := hid (ls_node n 56 #[.pointer (some ⟨bw, 0, none⟩)] #[] w bw o zA zk zc t h hrep (ElW.meth (enters_of Tryz.func56 (by kernel_rfl) rfl) hg bw w))
 clear h hv ht hcs hrep hg
 go_enter Tryz.func54, Tryz.ntmps54
 go_wp2_with fail
 refine KEY.out.mono ?_
 rintro e w1 ⟨rfl, hp⟩
 go_wp2
 go_end0
 exact ⟨rfl, hp⟩
set_option maxHeartbeats 4000000 in
theorem wclo_cert_5 (hg : Writes 59 claimS) : CloW 57 (.list claimS) 33 8 := by
 refine ⟨enters_of Tryz.func57 (by kernel_rfl) rfl, ?_⟩
 intro w bw bv bt o cs v t h hv ht d1 d2 hcs hrep
 obtain ⟨zA, zk, zc, rfl⟩ := ty_list hrep.ty
 have cv := hv.cell 0
 simp only [gq] at cv
 have e0 := (ht.cell 8).trans (hcs 0 (.slice zA zk zc) rfl)
 have KEY := hid (ls_claim 59 #[.pointer (some ⟨bw, 0, none⟩)] #[] w bw o zA zk zc t h hrep (ElW.meth (enters_of Tryz.func59 (by kernel_rfl) rfl) hg bw w))
 clear h hv ht hcs hrep hg
 go_enter Tryz.func57, Tryz.ntmps57
 go_wp2_with fail
 refine KEY.out.mono ?_
 rintro e w1 ⟨rfl, hp⟩
 go_wp2
 go_end0
 exact ⟨rfl, hp⟩
set_option maxHeartbeats 4000000 in
theorem writes_integers (hg : Writes 112 .int) : Writes 106 (.list .int) := by
 intro w bw o v t h hrep
 obtain ⟨zA, zk, zc, rfl⟩ := ty_list hrep.ty
 rw [val_list]
 have KEY := hid (ls_int 112 #[.pointer (some ⟨bw, 0, none⟩)] #[] w bw o zA zk zc t h hrep (ElW.meth (enters_of Tryz.func112 (by kernel_rfl) rfl) hg bw w))
 clear h hrep hg
 go_enter Tryz.func106, Tryz.ntmps106
 go_wp2_with fail
 refine KEY.out.mono ?_
 rintro e w1 ⟨rfl, hp⟩
 go_wp2
 go_end0
 exact ⟨rfl, hp⟩
set_option maxHeartbeats 4000000 in
theorem writes_longs (hg : Writes 192 .int) : Writes 98 (.list .int) := by
 intro w bw o v t h hrep
 obtain ⟨zA, zk, zc, rfl⟩ := ty_list hrep.ty
 rw [val_list]
 have KEY := hid (ls_int64 192 #[.pointer (some ⟨bw, 0, none⟩)] #[] w bw o zA zk zc t h hrep (ElW.meth (enters_of Tryz.func192 (by kernel_rfl) rfl) hg bw w))
 clear h hrep hg
 go_enter Tryz.func98, Tryz.ntmps98
 go_wp2_with fail
 refine KEY.out.mono ?_
 rintro e w1 ⟨rfl, hp⟩
 go_wp2
 go_end0
 exact ⟨rfl, hp⟩
set_option maxHeartbeats 4000000 in
theorem writes_rats (hg : Writes 203 .rat) : Writes 128 (.list .rat) := by
 intro w bw o v t h hrep
 obtain ⟨zA, zk, zc, rfl⟩ := ty_list hrep.ty
 rw [val_list]
 have KEY := hid (ls_rat 203 #[.pointer (some ⟨bw, 0, none⟩)] #[] w bw o zA zk zc t h hrep (ElW.meth (enters_of Tryz.func203 (by kernel_rfl) rfl) hg bw w))
 clear h hrep hg
 go_enter Tryz.func128, Tryz.ntmps128
 go_wp2_with fail
 refine KEY.out.mono ?_
 rintro e w1 ⟨rfl, hp⟩
 go_wp2
 go_end0
 exact ⟨rfl, hp⟩
end Go.Proofs.YtpbdkkoanedimaaGreatDoor
