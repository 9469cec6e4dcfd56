/-
  The parts of a core program that hold nothing are valid.
-/
import Derived.Test.YtnbbpmagijpmpaaGreatDoorMGt
set_option linter.unusedVariables false
set_option linter.unusedSimpArgs false
namespace Go.Proofs.YtnbbpmagijpmpaaGreatDoor
open Go.Lib (hid)
open Go.RowKit AC
def ufw(A:Option Addr)(len cap:Nat):Array Value:=#[.slice A len cap,.slice none 0 0,.slice none 0 0,.slice none 0 0]
theorem TrS.nil(w:World)(D:Nat->Prop):TrS w D [] none 0 0:=⟨rfl,ab,by unfold maxLen;omega,fun h=>absurd h (by omega)⟩
theorem mk0(t e:TypeId)(ht:Tryz.prog.underlying t=some (.slice e))(sz a1:Nat)(a2:(Tryz.prog.info? e).map (fun i=>(i.size,i.bytes,i.zero.map fun z=>z.cells.size))=some (sz,a1,some sz))(w:World) :
 (Instr.makeSlice t (.int .i64 0) (.int .i64 0)).run Tryz.prog w = .ok (.slice (some ⟨w.heap.size,0,none⟩) 0 0) (w.alloc (.cells #[] e)):=by
 obtain⟨i,hi,a0⟩:=aL.1 a2;simp only[Prod.mk.injEq]at a0;obtain⟨_,_,a4⟩:=a0;obtain⟨z,a3,_⟩:=aL.1 a4;have:=run_make w t e i z ht hi a3 .i64 .i64 0 0 (by omega) (by omega) (by omega) (by omega)
 rw[show(0:Int).toNat*i.size=0 from by simp,Array.eq_empty_of_size_eq_zero (size_madeCells z.cells 0)]at this
 exact this
set_option maxHeartbeats 16000000
set_option maxRecDepth 100000
theorem utq(A:Option Addr)(len cap:Nat)(w:World):Calls Tryz.prog 82 #[.agg (ufw A len cap)] w (uY (.bool true) w):=by
 unfold ufw;have a0:=mk0 205 4 Tryz.underlying205 1 1 (by kernel_rfl)
 go_enter Tryz.func82,Tryz.ntmps82
 go_wp2_with fail
 refine wp_loop_once ?_;go_wp2_with fail
 refine wp_loop_once ?_;go_wp2;go_ret
 refine⟨rfl,?_⟩;repeat first|exact aa|refine Below.alloc ?_ (by first|(simp;done)|(simp;omega)) _|refine Below.setCell ?_ (by first|(simp;done)|(simp;omega)) _
theorem ulo(A:Option Addr)(len cap:Nat)(w:World):Calls Tryz.prog 83 #[.agg (ufw A len cap)] w (uY (.bool true) w):=by
 unfold ufw;have a0:=mk0 205 4 Tryz.underlying205 1 1 (by kernel_rfl)
 go_enter Tryz.func83,Tryz.ntmps83
 go_wp2_with fail
 refine wp_loop_once ?_;go_wp2_with fail
 refine wp_loop_once ?_;go_wp2;go_ret
 refine⟨rfl,?_⟩;repeat first|exact aa|refine Below.alloc ?_ (by first|(simp;done)|(simp;omega)) _|refine Below.setCell ?_ (by first|(simp;done)|(simp;omega)) _
theorem unk(A:Option Addr)(len cap:Nat)(w:World):Calls Tryz.prog 84 #[.agg (ufw A len cap)] w (uY (.bool true) w):=by
 unfold ufw;have a0:=mk0 205 4 Tryz.underlying205 1 1 (by kernel_rfl)
 go_enter Tryz.func84,Tryz.ntmps84
 go_wp2_with fail
 refine wp_loop_once ?_;go_wp2;go_ret
 refine⟨rfl,?_⟩;repeat first|exact aa|refine Below.alloc ?_ (by first|(simp;done)|(simp;omega)) _|refine Below.setCell ?_ (by first|(simp;done)|(simp;omega)) _
theorem upr(A:Option Addr)(len cap:Nat)(w:World):Calls Tryz.prog 81 #[.agg (ufw A len cap)] w (uY (.bool true) w):=by
 unfold ufw;have a0:∀w:World,(Instr.makeMap 196 none).run Tryz.prog w = .ok (.map (some w.heap.size)) (w.alloc (.map #[] 0)):=fun _=>rfl
 go_enter Tryz.func81,Tryz.ntmps81
 go_wp2_with fail
 refine wp_loop_once ?_;go_wp2;go_ret
 refine⟨rfl,?_⟩;repeat first|exact aa|refine Below.alloc ?_ (by first|(simp;done)|(simp;omega)) _|refine Below.setCell ?_ (by first|(simp;done)|(simp;omega)) _
theorem utr(A:Option Addr)(len cap:Nat)(w:World):Calls Tryz.prog 80 #[.agg (ufw A len cap)] w (uY (.bool true) w):=by
 unfold ufw;go_enter Tryz.func80,Tryz.ntmps80
 go_wp2_with fail
 refine(udk (fun _=>True) [] none 0 0 138 #[] _ (fun _ w'=>Below w.heap.size w w') (fun _=>False) (fun _ w' _=>TrS.nil w' _) ⟨enters_of Tryz.func138 (by kernel_rfl) rfl,fun i hi=>absurd hi (by simp)⟩ _ (aa.alloc ab _)).mono ?_
 rintro e w2(⟨rfl,hf⟩|⟨rfl,hb⟩)
 ·exact hf.elim
 ·have HB:=hid hb
  clear hb;go_wp2;go_ret
  exact⟨rfl,HB.out⟩
theorem ups(A:Option Addr)(len cap:Nat)(w:World):Calls Tryz.prog 85 #[.agg (ufw A len cap)] w (uY (.bool true) w):=by
 unfold ufw;obtain⟨C,hC⟩:∃C,C=w.alloc (.cells #[.slice A len cap,.slice none 0 0,.slice none 0 0,.slice none 0 0] 44):=⟨_,rfl⟩;have a5:Hid (Below w.heap.size w C):=by rw[hC];exact aa.alloc ab _
 have a3:Hid (Bk C w.heap.size 44 #[.slice A len cap,.slice none 0 0,.slice none 0 0,.slice none 0 0]):=by rw[hC];exact Bk.new _ _ _
 go_enter Tryz.func85,Tryz.ntmps85
 go_upto_region 1 with(fail)
 rw[<-hC];clear hC;refine uao (by kernel_rfl) (by kernel_rfl) [8,9,10,11,12,13,14] 4 (by kernel_rfl) (fun io v x=>match io with
  | 0=>v = .agg #[.slice A len cap,.slice none 0 0,.slice none 0 0,.slice none 0 0]
  | 1=>v = .pointer (some ⟨w.heap.size,1,none⟩)
  | 2=>v = .slice none 0 0
  | 3=>v = .int .i64 0
  | 4=>∃n,v = .slice (some ⟨n,0,none⟩) 0 0
  | 5=>∃n,v = .agg #[.slice A len cap,.slice none 0 0,.slice none 0 0,.slice none 0 0,.slice (some ⟨n,0,none⟩) 0 0]
  | _=>∃b,v = .pointer (some ⟨b,0,none⟩)) ?_ ?_ ?_
 ·intro io v x x' a2 h hb
  rcases io with _|_|_|_|_|_|io
  ·exact h
  ·exact h
  ·exact h
  ·exact h
  ·exact h
  ·exact h
  ·exact h
 ·intro io oo S x ho a2 a4 a1
  rcases io with _|_|_|_|_|_|_|io
  ·cases ho
   obtain⟨a6,_,_⟩:=(a3.out.below a4 a3.out.lt).facts;refine ua7 rfl rfl fun KK a0=>?_
   have HK:=hid a0;clear a0 a1 a2;simp only[uj,Act.put,List.setIfInBounds_toArray,List.set_cons_succ,List.set_cons_zero,List.getD_cons_zero,List.getD_cons_succ,Nat.zero_add,Nat.reduceAdd]at HK ⊢;go_wp2;exact HK.out _ _ ⟨_,rfl,rfl,aa⟩
  ·cases ho
   refine ua7 rfl rfl fun KK a0=>?_
   have HK:=hid a0;clear a0 a1 a2;simp only[uj,Act.put,List.setIfInBounds_toArray,List.set_cons_succ,List.set_cons_zero,List.getD_cons_zero,List.getD_cons_succ,Nat.zero_add,Nat.reduceAdd]at HK ⊢;go_wp2;exact HK.out _ _ ⟨_,rfl,rfl,aa⟩
  ·cases ho
   have h1:S 1 = .pointer (some ⟨w.heap.size,1,none⟩):=a1 1 (by kernel_rfl) (by decide)
   obtain⟨a6,_,_⟩:=(a3.out.below a4 a3.out.lt).facts;refine ua7 rfl rfl fun KK a0=>?_
   have HK:=hid a0;clear a0 a1 a2;simp only[uj,Act.put,List.setIfInBounds_toArray,List.set_cons_succ,List.set_cons_zero,List.getD_cons_zero,List.getD_cons_succ,Nat.zero_add,Nat.reduceAdd]at HK ⊢;generalize S 1=t1 at *;subst h1;go_wp2;exact HK.out _ _ ⟨_,rfl,rfl,aa⟩
  ·cases ho
   have h2:S 2 = .slice none 0 0:=a1 2 (by kernel_rfl) (by decide)
   refine ua7 rfl rfl fun KK a0=>?_
   have HK:=hid a0;clear a0 a1 a2;simp only[uj,Act.put,List.setIfInBounds_toArray,List.set_cons_succ,List.set_cons_zero,List.getD_cons_zero,List.getD_cons_succ,Nat.zero_add,Nat.reduceAdd]at HK ⊢;generalize S 2=t2 at *;subst h2;go_wp2;exact HK.out _ _ ⟨_,rfl,rfl,aa⟩
  ·cases ho
   have h3:S 3 = .int .i64 0:=a1 3 (by kernel_rfl) (by decide)
   have a8:=mk0 70 3 Tryz.underlying70 1 8 (by kernel_rfl)
   refine ua7 rfl rfl fun KK a0=>?_
   have HK:=hid a0;clear a0 a1 a2;simp only[uj,Act.put,List.setIfInBounds_toArray,List.set_cons_succ,List.set_cons_zero,List.getD_cons_zero,List.getD_cons_succ,Nat.zero_add,Nat.reduceAdd]at HK ⊢;generalize S 3=t3 at *;subst h3;go_wp2;exact HK.out _ _ ⟨_,rfl,⟨_,rfl⟩,aa.alloc ab _⟩
  ·cases ho
   have h0:S 0 = .agg #[.slice A len cap,.slice none 0 0,.slice none 0 0,.slice none 0 0]:=a1 0 (by kernel_rfl) (by decide)
   have h4:∃n,(S 4) = .slice (some ⟨n,0,none⟩) 0 0:=a1 4 (by kernel_rfl) (by decide)
   obtain⟨n4,e4⟩:=h4;refine ua7 rfl rfl fun KK a0=>?_
   have HK:=hid a0;clear a0 a1 a2;simp only[uj,Act.put,List.setIfInBounds_toArray,List.set_cons_succ,List.set_cons_zero,List.getD_cons_zero,List.getD_cons_succ,Nat.zero_add,Nat.reduceAdd]at HK ⊢;generalize S 0=t0 at *;subst h0;generalize S 4=t4 at *;subst e4;go_wp2;exact HK.out _ _ ⟨_,rfl,⟨_,rfl⟩,aa⟩
  ·cases ho
   have h5:∃n,(S 5) = .agg #[.slice A len cap,.slice none 0 0,.slice none 0 0,.slice none 0 0,.slice (some ⟨n,0,none⟩) 0 0]:=a1 5 (by kernel_rfl) (by decide)
   obtain⟨n5,e5⟩:=h5;refine ua7 rfl rfl fun KK a0=>?_
   have HK:=hid a0;clear a0 a1 a2;simp only[uj,Act.put,List.setIfInBounds_toArray,List.set_cons_succ,List.set_cons_zero,List.getD_cons_zero,List.getD_cons_succ,Nat.zero_add,Nat.reduceAdd]at HK ⊢;generalize S 5=t5 at *;subst e5;go_wp2;exact HK.out _ _ ⟨_,rfl,⟨_,rfl⟩,aa.alloc ab _⟩
  ·exact absurd a2 (by simp)
 ·intro S x a4 hF
  have g0:S 0 = .agg #[.slice A len cap,.slice none 0 0,.slice none 0 0,.slice none 0 0]:=hF 0 (by decide)
  have g1:S 1 = .pointer (some ⟨w.heap.size,1,none⟩):=hF 1 (by decide)
  have g2:S 2 = .slice none 0 0:=hF 2 (by decide)
  have g3:S 3 = .int .i64 0:=hF 3 (by decide)
  have g4:∃n,(S 4) = .slice (some ⟨n,0,none⟩) 0 0:=hF 4 (by decide)
  have g5:∃n,(S 5) = .agg #[.slice A len cap,.slice none 0 0,.slice none 0 0,.slice none 0 0,.slice (some ⟨n,0,none⟩) 0 0]:=hF 5 (by decide)
  have g6:∃b,(S 6) = .pointer (some ⟨b,0,none⟩):=hF 6 (by decide)
  clear hF;simp only[uj,Act.put,List.setIfInBounds_toArray,List.set_cons_succ,List.set_cons_zero,List.getD_cons_zero,List.getD_cons_succ,Nat.zero_add,Nat.reduceAdd,aB,aE,aC,List.drop_zero];generalize S 0=t0 at *;subst g0;generalize S 1=t1 at *;subst g1;generalize S 2=t2 at *;subst g2;generalize S 3=t3 at *;subst g3;generalize S 4=t4 at *;generalize S 5=t5 at *;generalize S 6=t6 at *;obtain⟨n4,e4⟩:=g4;subst e4;obtain⟨n5,e5⟩:=g5;subst e5;obtain⟨b6,e6⟩:=g6;subst e6;obtain⟨a6,_,_⟩:=(a3.out.below a4 a3.out.lt).facts;have a7:=hid (a5.out.trans (a4.mono a5.out.size));clear a4;go_wp2_with fail
  refine wp_loop_once ?_;go_wp2_with fail
  refine wp_loop_once ?_;go_wp2;go_ret
  exact⟨rfl,a7.out⟩
theorem uts{D:Nat->Prop}{dat:List DaD}{A:Option Addr}{dl dc:Nat}(w:World)(hD:DaS w D dat A dl dc) :
 Calls Tryz.prog 41 #[.agg (ufw A dl dc)] w (uY (.bool (vA3 dat)) w):=by
 have K1:=hid fun w=>utr A dl dc w
 have K2:=hid fun w=>upr A dl dc w
 have K3:=hid fun w=>utq A dl dc w
 have K4:=hid fun w=>ulo A dl dc w
 have K5:=hid fun w=>unk A dl dc w
 have K6:=hid fun w=>ups A dl dc w
 unfold ufw at K1 K2 K3 K4 K5 K6 ⊢;obtain⟨C,hC⟩:∃C,C=w.alloc (.cells #[.slice A dl dc,.slice none 0 0,.slice none 0 0,.slice none 0 0] 44):=⟨_,rfl⟩;have a0:Hid (Below w.heap.size w C):=by rw[hC];exact aa.alloc ab _
 have a2:Hid (Bk C w.heap.size 44 #[.slice A dl dc,.slice none 0 0,.slice none 0 0,.slice none 0 0]):=by rw[hC];exact Bk.new _ _ _
 have K0:=hid (uln C (hD.below a0.out));clear hD;generalize vA3 dat=q at *;go_enter Tryz.func41,Tryz.ntmps41
 go_upto_region 1 with(fail)
 rw[<-hC];clear hC;obtain⟨b5,_,_⟩:=a2.out.facts;go_wp2_with fail
 refine K0.out.mono ?_;rintro e w1⟨rfl,hb⟩;have a1:=hid (a0.out.trans (hb.mono a0.out.size));have a3:=hid (a2.out.below hb a2.out.lt);clear hb b5;cases q with
 | false=>
  go_wp2;go_ret
  exact⟨rfl,a1.out⟩
 | true=>
  obtain⟨b6,_,_⟩:=a3.out.facts;go_wp2_with fail
  refine(K1.out _).mono ?_;rintro e w2⟨rfl,hb⟩;have a8:=hid (a1.out.trans (hb.mono a1.out.size));have a4:=hid (a3.out.below hb a3.out.lt);clear hb b6;obtain⟨b7,_,_⟩:=a4.out.facts;go_wp2_with fail
  refine(K2.out _).mono ?_;rintro e w3⟨rfl,hb⟩;have a9:=hid (a8.out.trans (hb.mono a8.out.size));have a5:=hid (a4.out.below hb a4.out.lt);clear hb b7;obtain⟨b8,_,_⟩:=a5.out.facts;go_wp2_with fail
  refine(K3.out _).mono ?_;rintro e w4⟨rfl,hb⟩;have b0:=hid (a9.out.trans (hb.mono a9.out.size));have a6:=hid (a5.out.below hb a5.out.lt);clear hb b8;obtain⟨b9,_,_⟩:=a6.out.facts;go_wp2_with fail
  refine(K4.out _).mono ?_;rintro e w5⟨rfl,hb⟩;have b1:=hid (b0.out.trans (hb.mono b0.out.size));have a7:=hid (a6.out.below hb a6.out.lt);clear hb b9;obtain⟨c0,_,_⟩:=a7.out.facts;go_wp2_with fail
  refine(K5.out _).mono ?_;rintro e w6⟨rfl,hb⟩;have b2:=hid (b1.out.trans (hb.mono b1.out.size));have b4:=hid (a7.out.below hb a7.out.lt);clear hb c0;obtain⟨c1,_,_⟩:=b4.out.facts;go_wp2_with fail
  refine(K6.out _).mono ?_;rintro e w7⟨rfl,hb⟩;have b3:=hid (b2.out.trans (hb.mono b2.out.size));clear hb c1;go_wp2;go_ret
  exact⟨rfl,b3.out⟩
set_option maxHeartbeats 200000
set_option maxRecDepth 512
theorem uz3:(Tryz.prog.info? 120).map (fun i=>(i.size,i.bytes,i.zero.map fun z=>z.cells.size))=some (2,32,some 2):=by kernel_rfl
theorem ucc{w:World}{g:Nat}{T:TypeId}{a b x y:Value}(h:Bk w g T #[a,b]):Bk ((w.setCell ⟨g,0,none⟩ x).setCell ⟨g,1,none⟩ y) g T #[x,y]:=by
 have:=(h.set 0 x).set 1 y;simpa using this
theorem ubc(w:World)(t:TypeId)(cs:Array Value)(x y:Obj):Bk (((w.alloc x).alloc y).alloc (.cells cs t)) (w.heap.size+2) t cs:=by
 have:=uax (w.alloc x) t cs y;have e:(w.alloc x).heap.size+1=w.heap.size+2:=by simp
 rw[e]at this;exact this
end Go.Proofs.YtnbbpmagijpmpaaGreatDoor
namespace AC
mutual
theorem ue7{D:List DaD}{vars:Int}:∀ {t:Tr} {L r:Nat},uA D vars L t=some r->t.size+r=L
 | .n k m l,0,r,h=>by rw[uA]at h;cases h
 | .n k m l,L+1,r,h=>by
  rw[uA]at h;split at h
  ·cases h
  ·split at h
   ·have:=vBm h
    rw[Tr.size];omega
   ·cases h
theorem vBm{D:List DaD}{vars:Int}:∀ {l:List Tr} {L r:Nat},vAm D vars L l=some r->vAk l+r=L
 | [],L,r,h=>by rw[vAm]at h;cases h;rw[vAk];omega
 | t::l,L,r,h=>by
  rw[vAm]at h;cases hq:uA D vars L t with
  | none=>rw[hq]at h;cases h
  | some s=>
   rw[hq]at h;have h1:=ue7 hq;have h2:=vBm h;rw[vAk];omega
end
mutual
def ueg:Tr->Bool | .n k m l=>(k != 7 || !l.isEmpty)&&vA2 l
def vA2:List Tr->Bool|[]=>true|t::l=>ueg t&&vA2 l
end
theorem ukd:∀ {l:List Tr},vA2 l=true->∀t∈l,ueg t=true
 | t::l,h,x,hx=>by
  rw[vA2,ax]at h;rcases List.mem_cons.1 hx with rfl|hx
  ·exact h.1
  ·exact ukd h.2 x hx
theorem uke{t:Tr}(h:ueg t=true):∀x∈t.kids,ueg x=true:=by
 cases t with
 | n k m l=>
  rw[ueg,ax]at h;exact ukd h.2
mutual
theorem ugn{D:List DaD}{vars:Int}:∀ {t:Tr} {L r:Nat},uA D vars L t=some r->ueg t=true
 | .n k m l,0,r,h=>by rw[uA]at h;cases h
 | .n k m l,L+1,r,h=>by
  rw[uA]at h;split at h
  ·cases h
  ·next lo hi hh=>
   split at h
   ·next hc=>
    have:=vBr h;rw[ueg,this,Bool.and_true];by_cases h7:k=7
    ·subst h7
     have a0:lo=1:=by
      simp[uza]at hh;omega
     cases l with
     | nil=>subst a0;have:=hc.1;simp at this
     | cons a l=>simp
    ·simp[h7]
   ·cases h
theorem vBr{D:List DaD}{vars:Int}:∀ {l:List Tr} {L r:Nat},vAm D vars L l=some r->vA2 l=true
 | [],L,r,h=>by rw[vA2]
 | t::l,L,r,h=>by
  rw[vAm]at h;cases hq:uA D vars L t with
  | none=>rw[hq]at h;cases h
  | some s=>
   rw[hq]at h;rw[vA2,ugn hq,vBr h];rfl
end
mutual
theorem uis{ar:List Tr}(ha:∀x∈ar,ueg x=true):∀ {t:Tr},ueg t=true->ueg (subst ar t)=true
 | .n k m l,h=>by
  rw[subst];split
  ·next hc=>
   simp only[ax,aP,beq_iff_eq]at hc;rw[aj,ai (by omega)]
   exact ha _ (aq _)
  ·rw[ueg,ax]at h ⊢
   refine⟨?_,vBd ha h.2⟩;cases l with
   | nil=>exact h.1
   | cons a l=>rw[vAj];simp
theorem vBd{ar:List Tr}(ha:∀x∈ar,ueg x=true):∀ {l:List Tr},vA2 l=true->vA2 (vAj ar l)=true
 | [],_=>by rw[vAj,vA2]
 | t::l,h=>by
  rw[vA2,ax]at h;rw[vAj,vA2,uis ha h.1,vBd ha h.2];rfl
end
theorem ue8{ss:List Nat}:∀ {l:List Tr} {n:Nat},n<=vAf ss n l
 | [],n=>by rw[vAf];exact ab
 | t::l,n=>by
  rw[vAf];split
  ·omega
  ·exact ag (by omega) (ue8 (l:=l) (n:=n+vAe ss t))
mutual
theorem unl{ar:List Tr}:∀ {t:Tr},vAe (ar.map Tr.size) t<=200->(subst ar t).size<=200
 | .n k m l,h=>by
  rw[subst];rw[vAe]at h;simp only[List.length_map]at h;split
  ·next hc=>
   rw[if_pos hc]at h;simp only[ax,aP,beq_iff_eq]at hc;have hm:m.toNat<ar.length:=by omega
   rw[aj,ai hm];rw[aj,List.getElem?_map,ai hm]at h;exact h
  ·next hc=>
   rw[if_neg hc]at h;have:=vBe (ar:=ar) (l:=l) (n:=1) h;rw[Tr.size];omega
theorem vBe{ar:List Tr}:∀ {l:List Tr} {n:Nat},vAf (ar.map Tr.size) n l<=200->n+vAk (vAj ar l)<=200
 | [],n,h=>by rw[vAf]at h;rw[vAj,vAk];exact h
 | t::l,n,h=>by
  rw[vAf]at h;split at h
  ·omega
  ·next hc=>
   have h1:=ue8 (ss:=ar.map Tr.size) (l:=l) (n:=n+vAe (ar.map Tr.size) t);have h2:=vBe (ar:=ar) (l:=l) h;have h3:=vBv (ar:=ar) (t:=t) (by omega)
   rw[vAj,vAk];omega
theorem vBv{ar:List Tr}:∀ {t:Tr},vAe (ar.map Tr.size) t<=200->(subst ar t).size<=vAe (ar.map Tr.size) t
 | .n k m l,h=>by
  rw[subst];rw[vAe]at h ⊢;simp only[List.length_map]at h ⊢;split
  ·next hc=>
   simp only[ax,aP,beq_iff_eq]at hc;have hm:m.toNat<ar.length:=by omega
   rw[aj,ai hm];rw[aj,List.getElem?_map,ai hm];exact ab
  ·next hc=>
   rw[if_neg hc]at h;have:=vBs (ar:=ar) (l:=l) (n:=1) h;rw[Tr.size];omega
theorem vBs{ar:List Tr}:∀ {l:List Tr} {n:Nat},vAf (ar.map Tr.size) n l<=200->n+vAk (vAj ar l)<=vAf (ar.map Tr.size) n l
 | [],n,h=>by rw[vAf];rw[vAj,vAk];omega
 | t::l,n,h=>by
  rw[vAf]at h ⊢;split at h
  ·omega
  ·next hc=>
   rw[if_neg hc];have h1:=ue8 (ss:=ar.map Tr.size) (l:=l) (n:=n+vAe (ar.map Tr.size) t);have h2:=vBs (ar:=ar) (l:=l) h;have h3:=vBv (ar:=ar) (t:=t) (by omega)
   rw[vAj,vAk];omega
end
end AC
namespace Go.Proofs.YtnbbpmagijpmpaaGreatDoor
open Go.Lib (hid)
open Go.RowKit AC
def DOk(dat:List DaD):Prop:=∀d∈dat,d.cons.length<=8/\0<=d.vars/\d.vars<=6/\∀c∈d.cons,c.args.length<=6/\∀a∈c.args,a.size<=200/\ueg a=true
theorem DOk.small{dat:List DaD}(h:DOk dat):uCp dat:=fun d hd c hc=>by
 obtain⟨_,_,_,h4⟩:=h d hd;obtain⟨h5,h6⟩:=h4 c hc;exact⟨by omega,fun a ha=>by have:=(h6 a ha).1;omega⟩
theorem uz4{dat:List DaD}{d:Nat}{vr:Int}{a:Tr}(h:ugm dat d vr a=true):a.size<=200/\ueg a=true:=by
 unfold ugm at h;rw[ax,Option.isSome_iff_exists]at h;obtain⟨⟨r,hr⟩,_⟩:=h;exact⟨by have:=ue7 hr;omega,ugn hr⟩
theorem unm{dat:List DaD}{d:Nat}{vr:Int}:∀ {l:List CoD} {cs a0:List (List UInt8)},vAr dat d vr cs l=some a0->∀c∈l,c.args.length<=6/\∀a∈c.args,a.size<=200/\ueg a=true
 | c::l,cs,a0,h,x,hx=>by
  rw[vAr]at h;split at h
  ·next hc=>
   rcases List.mem_cons.1 hx with rfl|hx
   ·have:=hc.2.2
    unfold uee at this;rw[ax,aP,aT]at this;exact⟨this.1,fun a ha=>uz4 (this.2 a ha)⟩
   ·exact unm h x hx
  ·cases h
theorem unn{dat:List DaD}:∀ {l:List DaD} {i:Nat} {ns cs:List (List UInt8)},vAw dat i ns cs l=true->∀d∈l,d.cons.length<=8/\0<=d.vars/\d.vars<=6/\∀c∈d.cons,c.args.length<=6/\∀a∈c.args,a.size<=200/\ueg a=true
 | d::l,i,ns,cs,h,x,hx=>by
  rw[vAw]at h;split at h
  ·next hc=>
   cases hq:vAr dat i d.vars cs d.cons with
   | none=>rw[hq]at h;cases h
   | some cs'=>
    rw[hq]at h;rcases List.mem_cons.1 hx with rfl|hx
    ·exact⟨hc.2.2.2.2.2,hc.2.2.1,hc.2.2.2.1,unm hq⟩
    ·exact unn h x hx
  ·cases h
theorem uv4{dat:List DaD}(h:vA3 dat=true):dat.length<=12/\DOk dat:=by
 unfold vA3 at h;rw[ax,aP]at h;exact⟨h.1,unn h.2⟩
def TOk(t:Tr):Prop:=t.size<=200/\ueg t=true
theorem TOk.valid{dat:List DaD}{vars:Int}{t:Tr}(h:(uA dat vars 200 t).isSome=true):TOk t:=by
 rw[Option.isSome_iff_exists]at h;obtain⟨r,hr⟩:=h;exact⟨by have:=ue7 hr;omega,ugn hr⟩
theorem TOk.kid{t x:Tr}(h:TOk t)(hx:x∈t.kids):TOk x:=by
 refine⟨?_,uke h.2 x hx⟩;obtain⟨i,hi,rfl⟩:=List.mem_iff_getElem.1 hx;have h1:=ubo hi;have h2:=Tr.size_eq t;have:=h.1;omega
theorem utt{dat:List DaD}(hd:DOk dat){t:Tr}(ht:TOk t){c:Int}{fs:List Tr}(h:uae dat t c=some fs):fs.length<=6/\∀f∈fs,TOk f:=by
 unfold uae at h;split at h
 ·next h1=>
  cases hq:dat[t.m.toNat]? with
  | none=>rw[hq]at h;cases h
  | some d=>
   rw[hq]at h;have a1:=List.mem_of_getElem? hq;simp only at h;split at h
   ·next h2=>
    cases hc:d.cons[c.toNat]? with
    | none=>rw[hc]at h;cases h
    | some e=>
     rw[hc]at h;have a0:=List.mem_of_getElem? hc;simp only at h;split at h
     ·next h3=>
      cases h;obtain⟨_,_,_,h4⟩:=hd d a1;obtain⟨h5,h6⟩:=h4 e a0;rw[aT]at h3;refine⟨by simpa using h5,fun f hf=>?_⟩
      obtain⟨a,ha,rfl⟩:=List.mem_map.1 hf;exact⟨unl (by have:=h3 a ha;simpa using this),uis (uke ht.2) (h6 a ha).2⟩
     ·cases h
   ·cases h
 ·cases h
def ue3(dat:List DaD)(t:Tr)(c:Int):List Bool:=
 match dat[t.m.toNat]? with
 | none=>[]
 | some d=>match d.cons[c.toNat]? with
  | none=>[]
  | some e=>e.args.map (uqv t.m d.vars)
theorem upt{dat:List DaD}{t:Tr}{c:Int}{fs:List Tr}(h:uae dat t c=some fs):∃(i j:Nat) (hi:i<dat.length) (hj:j<dat[i].cons.length),t.k=5/\t.m=i/\c=j/\(t.kids.length:Int)=dat[i].vars/\fs=dat[i].cons[j].args.map (subst t.kids)/\ue3 dat t c=dat[i].cons[j].args.map (uqv i dat[i].vars):=by
 unfold uae at h;split at h
 ·next h1=>
  obtain⟨h1,h2,h3⟩:=h1;have hi:t.m.toNat<dat.length:=by omega
  rw[ai hi]at h;simp only at h;split at h
  ·next h4=>
   have hj:c.toNat<dat[t.m.toNat].cons.length:=by omega
   rw[ai hj]at h;simp only at h;split at h
   ·injection h with h
    refine⟨t.m.toNat,c.toNat,hi,hj,h1,by omega,by omega,h4.1,h.symm,?_⟩
    rw[ue3,ai hi];simp only;rw[ai hj];simp only;rw[show((t.m.toNat:Nat):Int)=t.m from by omega]
   ·cases h
  ·cases h
 ·cases h
theorem uz5:vCk (fun w D (t:Ix) v=>IxR w D t v):=⟨fun hk h=>h.vAb hk,fun hd h=>h.sub hd⟩
def uit(base:Nat)(i:Ix)(v:Value)(x:World):Prop:=∃A n c,v = .agg #[.int .i64 i.k,.slice A n c]/\IxR x (base <= ·) i [.int .i64 i.k,.slice A n c]
theorem uit.stays{base:Nat}{i:Ix}:∀v x x',uit base i v x->Below x.heap.size x x'->uit base i v x':=fun v x x' h hb=>by
 obtain⟨A,n,c,h1,h2⟩:=h;exact⟨A,n,c,h1,h2.vAb (uc.of hb)⟩
def upu(base:Nat)(i:Ix)(v:Value)(x:World):Prop:=∃A n c g,v = .slice (some ⟨g,0,none⟩) 1 1/\Bk x g 120 #[.int .i64 i.k,.slice A n c]/\base<=g/\IxR x (base <= ·) i [.int .i64 i.k,.slice A n c]
theorem upu.stays{base:Nat}{i:Ix}:∀v x x',upu base i v x->Below x.heap.size x x'->upu base i v x':=fun v x x' h hb=>by
 obtain⟨A,n,c,g,h1,h2,h3,h4⟩:=h;exact⟨A,n,c,g,h1,h2.below hb h2.lt,h3,h4.vAb (uc.of hb)⟩
def uhw(i:Ix)(w:World)(e:Ending)(w':World):Prop:=∃v,e = .returned v/\uit w.heap.size i v w'/\Below w.heap.size w w'
theorem uz6{l:List Ix}{i:Nat}(h:i<l.length):l[i].sz<=szs l:=uge (aq h)
theorem uv5:∀l:List Ix,l.length<=szs l
 | []=>by simp
 | x::l=>by
  have h1:=uv5 l;have h2:=Ix.vBj x;rw[szs,aB];omega
set_option maxHeartbeats 16000000
set_option maxRecDepth 100000
theorem ukf{D:Nat->Prop}:∀(N:Nat) (i:Ix) (hN:i.sz<=N) (h1:i.sz<=1000) (v:List Value) (w:World) (h:IxR w D i v),Calls Tryz.prog 132 #[.agg v.toArray] w (uhw i w)
 | 0,i,hN,_,_,_,_=>by have:=Ix.vBj i;omega
 | N+1,i,hN,f3,v,w,h=>by
  have IH:=hid (ukf (D:=D) N);have g3:=Ix.vBj i;obtain⟨A,n,c,rfl,hs,hk⟩:=h.form;have hn:n=i.l.length:=hs.1;have f6:c<=maxLen:=hs.2.2.1;have h0:=hs.2.1;have f8:=uv5 i.l;unfold maxLen at f6;have d6:Hid (∀(w:World) (A:Option Addr) (n c:Nat) (D:Nat->Prop),IxS w D i.l A n c->IxR w D i [.int .i64 i.k,.slice A n c]):=fun w A n c D h=>by
   obtain⟨k,l⟩:=i;exact IxR.mk hk h
  have HN:Hid (∀(j:Nat) (h:j<i.l.length),i.l[j].sz<=N/\i.l[j].sz<=1000):=fun j h=>by have:=uz6 h;omega
  have g9:n<=1000:=by omega
  unfold uhw uit;generalize hkk:i.k=x0 at *;generalize hll:i.l=l at *;have HS:=hid hs;have a5:=hid hn;clear hs hn h hk g3 hN f3 f8 hll hkk;show Calls Tryz.prog 132 #[.agg #[.int .i64 x0,.slice A n c]] w _
  go_enter Tryz.func132,Tryz.ntmps132
  go_upto_region 2 with(fail)
  obtain⟨C,hC⟩:∃C,C=((w.alloc (.cells #[.int .i64 x0,.slice A n c] 120)).alloc (.cells #[.int .i64 0,.slice none 0 0] 120)).alloc (.cells #[.int .i64 x0,.slice none 0 0] 120):=⟨_,rfl⟩;have d4:Hid (Below w.heap.size w C):=by rw[hC];exact((aa.alloc ab _).alloc (by simp) _).alloc (by simp;omega) _
  have e6:Hid (Bk C w.heap.size 120 #[.int .i64 x0,.slice A n c]):=by rw[hC];exact((Bk.new _ _ _).alloc _).alloc _
  have e7:Hid (Bk C (w.heap.size+1) 120 #[.int .i64 0,.slice none 0 0]):=by rw[hC];exact(uax _ _ _ _).alloc _
  have f0:Hid (Bk C (w.heap.size+2) 120 #[.int .i64 x0,.slice none 0 0]):=by rw[hC];exact ubc _ _ _ _ _
  have b7:Hid (C.heap.size=w.heap.size+3):=by show C.heap.size=_;rw[hC];simp
  rw[<-hC];clear hC;obtain⟨g4,_,_⟩:=e6.out.facts;go_wp2;clear g4;go_loopw [12] (fun jv wr=>∃(j:Nat) (us:Nat->List Value) (lv:Value),j<=n/\jv = .int .i64 j/\Hid (ucb 2 (fun w D (t:Ix) v=>IxR w D t v) 120 C.heap.size wr lv (l.take j) us)/\Hid (Below w.heap.size w wr)/\Hid (Bk wr (w.heap.size+1) 120 #[.int .i64 0,.slice none 0 0])/\Hid (Bk wr (w.heap.size+2) 120 #[.int .i64 x0,lv])/\Hid (C.heap.size<=wr.heap.size)) (fun jv _=>n-(intOf jv).toNat)
  case atStart=>exact⟨0,fun _=>[],.slice none 0 0,by omega,rfl,ucb.nil _ _ _ _ _,d4,e7,f0,ab⟩
  case round=>
   obtain⟨j,us,lv,hj,rfl,HO,HB,HY,HZ,HC⟩:=hrel;obtain⟨pl,a3⟩:∃pl,l.take j=pl:=⟨_,rfl⟩;have b6:pl.length=j:=by rw[<-a3,List.length_take];have:=a5.out;omega
   rw[a3]at HO;obtain⟨PA,pc,rfl,g0,g2⟩:=HO.out.form;unfold maxLen at g2;rw[b6]at HO HZ g0;have a6:=hid b6;clear b6;have c2:=hid a3;clear a3;by_cases g8:j<n
   ·have b4:j<l.length:=by have:=a5.out;omega
    have hS:IxS wr D l A n c:=IxS.vAb (uc.of HB.out) HS.out;obtain⟨b,off,v,rfl,hD,hb,hc,hr⟩:=hS.get b4;obtain⟨A',n',c',rfl,_,_⟩:=hr.form;have c0:=hc 0 _ rfl;rw[Nat.add_zero]at c0;have c1:=hc 1 _ rfl;have e4:Hid (l.take (j+1)=pl++[l[j]]):=by
     show _=_
     rw[aJ b4,c2.out]
    have d3:=HN.out j b4;generalize l[j]=kd at *;have d8:=hid hr;generalize hy0:kd.k=y0 at *;clear hr hc hD hS;go_upto_region 5 with(fail)
    obtain⟨wi,a4⟩:∃x,x=wr.alloc (.cells #[.int .i64 y0,.slice A' n' c'] 120):=⟨_,rfl⟩;have a0:Hid (Below wr.heap.size wr wi):=by rw[a4];exact aa.alloc ab _
    have b8:Hid (Bk wi wr.heap.size 120 #[.int .i64 y0,.slice A' n' c']):=by rw[a4];exact Bk.new _ _ _
    have a2:=hid (HZ.out.below a0.out HZ.out.lt);have f2:Hid (∀x,Below wi.heap.size wi x->Calls Tryz.prog 132 #[.agg #[.int .i64 y0,.slice A' n' c']] x (uhw kd x)):=fun x hx=>IH.out kd d3.1 d3.2 _ x (d8.out.vAb (uc.of (a0.out.trans (hx.mono a0.out.size))))
    rw[<-a4];clear a4 c0 c1;refine ue (⟨[(w.heap.size+2,0,[.int .i64 x0,.slice PA j pc]),(wr.heap.size,0,[.int .i64 y0,.slice A' n' c'])],[],[uit wi.heap.size kd,upu wi.heap.size kd],[(3,.p 0 0),(5,.p 1 0)],[(3,.f 0),(4,.f 1)]⟩:Sp) [16,17,18,19,20] wi (aa.drew) (by kernel_rfl) (by kernel_rfl) (by kernel_rfl) (sI (uit.stays) (sI (upu.stays) sN)) (by kernel_rfl)
     (fun x hx=>(mI (ud (a2.out.below hx a2.out.lt)) (mI (ud (b8.out.below hx b8.out.lt)) mN))) (dI (ug [.v (.agg #[.int .i64 y0,.slice A' n' c'])] rfl rfl (by kernel_rfl) (by kernel_rfl) fun x vs hx hC hv=>by
      obtain⟨v1,rfl,h1⟩:=ubg hv;obtain rfl:v1 = .agg #[.int .i64 y0,.slice A' n' c']:=h1;refine(f2.out x hx).mono ?_;rintro en w2⟨u,rfl,⟨A3,n3,c3,h1,h2⟩,hb⟩;exact⟨u,rfl,⟨A3,n3,c3,h1,h2.sub fun b _ hD=>ag hx.size hD⟩,hb⟩) (
     dI (uac rfl (parts:=[(0,.tmp 19)]) rfl fun x a hx f9=>by
      obtain⟨A3,n3,c3,h1,h2⟩:=(f9 (.tmp 19) (.f 0) (by kernel_rfl):uit wi.heap.size kd (a.eval (.tmp 19)) x)
      refine⟨120,[.int .i64 kd.k,.slice A3 n3 c3],?_,A3,n3,c3,x.heap.size,rfl,Bk.new _ _ _,hx.size,h2.vAb (uc.of (aa.alloc ab _))⟩;simp only[List.map_cons,List.map_nil,h1];kernel_rfl) (dN))) ?_
    intro S x1 b1 hS;obtain⟨g1,f4,_⟩:S 1 = .slice PA j pc/\(upu wi.heap.size kd:Value->World->Prop) (S 4) x1/\True:=hS (l:=[(1,.v (.slice PA j pc)),(4,.f 1)]) (by kernel_rfl)
    clear hS;simp only[nv,Nat.reduceAdd,aB,aE,aC,List.drop_zero,g1];clear g1;obtain⟨A3,n3,c3,gb,e5,b0,g6,b3⟩:=(f4:upu wi.heap.size kd (S 4) x1);rw[e5];rw[hy0]at b0 b3;have a1:=hid (a0.out.trans (b1.mono a0.out.size));have b9:=hid (HO.out.below uz5 a1.out);have f5:C.heap.size<=x1.heap.size:=by have h3:C.heap.size<=wr.heap.size:=HC.out;have:=a1.out.size;omega
    have h4:wr.heap.size<=wi.heap.size:=a0.out.size;have f1:=hid (a2.out.below b1 a2.out.lt);have e9:=hid (HY.out.below a1.out HY.out.lt);have HV:Hid (IxR x1 (fun b=>C.heap.size<=b/\some b≠(Value.slice PA j pc).ownBlock) kd [.int .i64 y0,.slice A3 n3 c3]):=b3.sub fun b _ hb=>by
     have c9:wi.heap.size<=b:=hb;have h3:C.heap.size<=wr.heap.size:=HC.out;exact⟨by omega,fun e=>by have:=(HO.out.lt e.symm).2;omega⟩
    have a8:=b9.out.1;rw[a6.out]at a8;clear b1 b3;refine uN x1 rfl _ _ 118 120 rfl Tryz.underlying118 2 32 uz3 (by decide) (by decide) C.heap.size (.slice PA j pc) j (ucr us j) [.int .i64 y0,.slice A3 n3 c3] (by rfl) a8 gb _ b0 (by rfl) rfl (by intro y hy;simp at hy;rcases hy with rfl|rfl<;>rfl) (by omega) f5 ?_
    intro g c5 w3 d1 hg d0 g7;have a7:=b9.out.vBc uz5 HV.out rfl (g:=g) (cap:=c5) (by rw[a6.out];exact d1) hg d0
    rw[a6.out]at a7;have d7:=hid a7;have b5:∀k,k<C.heap.size->some k≠(Value.slice PA j pc).ownBlock:=fun k hk e=>by have:=(HO.out.lt e.symm).1;omega
    have f7:=b7.out;have e8:=hid (e9.out.grown hg (b5 _ (by omega)))
    have c4:=hid (f1.out.grown hg (b5 _ (by omega)))
    have a9:Below w.heap.size w x1:=HB.out.trans (a1.out.mono HB.out.size);have d5:Hid (Below w.heap.size w w3):=a9.grown hg a9.size (fun k e=>by have:=(HO.out.lt e).1;omega)
    obtain⟨hz,g5,h6⟩:=c4.out.facts;have d9:Hid (C.heap.size<=w3.heap.size):=by show C.heap.size<=w3.heap.size;have:=hg.size;omega
    clear a8 d1 b0 d0 hg b5 a9 a7;go_wp2;go_roundw
    case rel=>
     have b2:Fw (fun b=>b=w.heap.size+2) w3 (w3.setCell ⟨w.heap.size+2,1,none⟩ (.slice (some ⟨g,0,none⟩) (j+1) c5)):=(Fw.refl (fun b=>b=w.heap.size+2) _).setCell (p:=⟨w.heap.size+2,1,none⟩) (.inl rfl) _
     have c6:=d7.out.fw uz5 b2 (fun b hb=>by omega)
     rw[<-e4.out]at c6;refine⟨j+1,_,_,by omega,by go_num,c6,hid (d5.out.setCell (p:=⟨w.heap.size+2,1,none⟩) (by show w.heap.size<=w.heap.size+2;omega) _),hid (Bk.fw e8.out b2 (by show ¬w.heap.size+1=w.heap.size+2;omega)),hid (c4.out.set 1 _),hid (ag d9.out b2.size)⟩
    case measure=>simp[intOf];omega
   ·obtain rfl:n=j:=by omega
    have d2:pl=l:=by rw[<-c2.out,List.take_of_length_le (by have:=a5.out;omega)]
    obtain⟨hz,g5,_⟩:=HZ.out.facts;obtain⟨hy,h5,_⟩:=HY.out.facts;obtain⟨A3,n3,c3,h3,c7⟩:=HO.out.done uz5;injection h3 with e1 e2 e3;subst e1;subst e2;subst e3;have c8:IxS wr (C.heap.size <= ·) l PA n pc:=by rw[<-d2];exact c7
    have e0:=hid (d6.out _ _ _ _ _ c8);clear c7 c8 d2;go_wp2;have hg:Bk ((wr.setCell ⟨w.heap.size+1,0,none⟩ (.int .i64 x0)).setCell ⟨w.heap.size+1,1,none⟩ (.slice PA n pc)) (w.heap.size+1) 120 #[.int .i64 x0,.slice PA n pc]:=ucc HY.out;refine bodyPost_ret (results_cell_row rfl _ _ (w.heap.size+1) 120 #[.int .i64 x0,.slice PA n pc] (0,0) _ rfl hg Tryz.underlying120 rfl (by kernel_rfl)) rfl ?_
    have hf:Fw (fun b=>b=w.heap.size+1) wr ((wr.setCell ⟨w.heap.size+1,0,none⟩ (.int .i64 x0)).setCell ⟨w.heap.size+1,1,none⟩ (.slice PA n pc)):=((Fw.refl (fun b=>b=w.heap.size+1) _).setCell (p:=⟨w.heap.size+1,0,none⟩) (.inl rfl) _).setCell (p:=⟨w.heap.size+1,1,none⟩) (.inl rfl) _
    have f7:=b7.out;refine⟨_,rfl,⟨PA,n,pc,rfl,(e0.out.vAb (uc.fw hf fun b hb e=>by have c9:C.heap.size<=b:=hb;omega)).sub fun b _ hb=>by have c9:C.heap.size<=b:=hb;show w.heap.size<=b;omega⟩,(HB.out.setCell (p:=⟨w.heap.size+1,0,none⟩) (by show w.heap.size<=w.heap.size+1;omega) _).setCell (p:=⟨w.heap.size+1,1,none⟩) (by show w.heap.size<=w.heap.size+1;omega) _⟩
set_option maxHeartbeats 200000
set_option maxRecDepth 512
theorem uD2:(Tryz.prog.info? 131).map (fun i=>(i.size,i.bytes,i.zero.map fun z=>z.cells.size))=some (2,16,some 2):=by kernel_rfl
theorem ukg(ad:Addr)(n c:Nat)(w:World):(binOp .eql 124 (.slice (some ad) n c) (.slice none 0 0)).run Tryz.prog w = .ok (.bool false) w:=by kernel_rfl
theorem utu(n c:Nat)(w:World):(binOp .eql 124 (.slice none n c) (.slice none 0 0)).run Tryz.prog w = .ok (.bool true) w:=by kernel_rfl
def vAy(l:List (Int×Int)):List Value:=l.flatMap fun t=>[.int .i64 t.1,.int .i64 t.2]
theorem uiu:∀l:List (Int×Int),(vAy l).length=l.length*2
 | []=>rfl
 | t::l=>by
  have:=uiu l;unfold vAy at *;rw[List.flatMap_cons,ay,this,aB];simp;omega
theorem ugo:∀ {l:List (Int×Int)} {i k:Nat} (h:i<l.length) (hk:k<2),(vAy l)[i*2+k]? = [Value.int .i64 l[i].1,.int .i64 l[i].2][k]?
 | t::l,0,k,_,hk=>by
  unfold vAy;rw[List.flatMap_cons,List.getElem?_append_left (by simp;omega)]
  simp
 | t::l,i+1,k,h,hk=>by
  have:=ugo (l:=l) (i:=i) (k:=k) (by simpa using h) hk
  unfold vAy at *;rw[List.flatMap_cons,List.getElem?_append_right (by simp;omega)]
  rw[show(i+1)*2+k-([Value.int .i64 t.1,.int .i64 t.2]:List Value).length=i*2+k from by simp;omega,this]
  simp
theorem uv6(w:World)(e:TypeId)(sz:Nat):(w.alloc (.cells #[] e)).ownsRow w.heap.size e sz (.slice (some ⟨w.heap.size,0,none⟩) 0 0) 0 []:=
 ⟨by simp,.inr ⟨w.heap.size,0,#[],rfl,ab,heap_alloc_new w _,ab,by unfold maxLen;omega,by simp,by simp⟩⟩
def uno(l:List (Int×Int))(w:World)(e:Ending)(w':World):Prop:=∃A c,e = .returned (.slice A l.length c)/\LtS w' (w.heap.size <= ·) l A l.length c/\Below w.heap.size w w'
set_option maxHeartbeats 16000000
set_option maxRecDepth 100000
theorem upv{D:Nat->Prop}(l:List (Int×Int))(A:Option Addr)(n c:Nat)(w:World)(h:LtS w D l A n c)(hl:l.length<=1000):Calls Tryz.prog 63 #[.slice A n c] w (uno l w):=by
 obtain⟨hn,c1,b1,a1⟩:=h;subst hn;unfold maxLen at b1;cases A with
 | none=>
  have a0:l.length=0:=by
   rcases aK l.length with h|h
   ·exact h
   ·obtain⟨b,off,e,_⟩:=a1 h
    cases e
  have a3:=List.eq_nil_of_length_eq_zero a0;subst a3;clear a1;have hq:=utu 0 c w;go_enter Tryz.func63,Tryz.ntmps63
  go_wp2;go_ret
  exact⟨none,0,rfl,Sl.nil _ _ _ _,aa⟩
 | some ad=>
  rcases aK l.length with a0|a0
  ·have a3:=List.eq_nil_of_length_eq_zero a0
   subst a3;clear a1;have hq:=ukg ad 0 c w;go_enter Tryz.func63,Tryz.ntmps63
   go_wp2;go_ret
   exact⟨_,0,rfl,⟨rfl,ab,by unfold maxLen;omega,fun h=>absurd h (by simp)⟩,aa.alloc ab _⟩
  ·obtain⟨b,off,e,hD,hb,hc⟩:=a1 a0
   injection e with e;subst e;have HC:=hid hc;clear a1 hc;have hq:=ukg ⟨b,off,none⟩ l.length c w;go_enter Tryz.func63,Tryz.ntmps63
   obtain⟨ie,hi,a7⟩:=aL.1 uD2;simp only[Prod.mk.injEq]at a7;obtain⟨b6,a9,b9⟩:=a7;obtain⟨z,b7,b8⟩:=aL.1 b9;have b3:(w.alloc (.cells #[] 131)).ownsRow w.heap.size 131 2 (.slice (some ⟨w.heap.size,0,none⟩) 0 0) 0 []:=uv6 w _ 2;have a4:(vAy l).length=l.length*2:=uiu l;have b0:∀j u,(vAy l)[j]? = some u->(w.alloc (.cells #[] 131)).cell? ((⟨b,off,none⟩:Addr).add j)=some u:=fun j u hu=>by
    rw[Addr.add_lit];have hj:j<l.length*2:=by rw[<-a4];exact(aI.1 hu).1
    have a5:j/2<l.length:=by omega
    obtain⟨v,h1,_,_,rfl⟩:=HC.out (j/2) a5;have h2:=ugo a5 (k:=j%2) (by omega)
    rw[show j/2*2+j%2=j from by omega,hu]at h2
    have h3:=h1 (j%2) u h2.symm;rw[show off+j/2*2+j%2=off+j from by omega]at h3
    exact(World.cell?_of_block (w:=w) (Below.heap_alloc w _ b hb)).trans h3
   have a8:∀u∈vAy l,u.oneCell'=true:=fun u hu=>by
    unfold vAy at hu;obtain⟨t,_,ht⟩:=List.mem_flatMap.1 hu;simp at ht;rcases ht with rfl|rfl<;>rfl
   clear hD;go_wp2_with (at_builtin;refine wpList_append_lies _ rfl _ _ 124 rfl w.heap.size 131 ie z 2 16 Tryz.underlying124 hi b7 b6 a9 b8 (by decide) _ 0 [] (by rfl) b3 ⟨b,off,none⟩ l.length c (vAy l) (by rfl) a4 b0 a8 a0 (by unfold maxLen;omega) (by omega) (by simp) (w.heap.size+1) (by simp) ?_)
   intro g cap w3 a2 hg b2 c0;have HB:Hid (Below w.heap.size w w3):=by
    have h1:Below w.heap.size w (w.alloc (.cells #[] 131)):=aa.alloc ab _;refine h1.grown hg h1.size (fun k e=>?_)
    injection e with e;rw[<-e];exact ab
   have HR:Hid (LtS w3 (w.heap.size <= ·) l (some ⟨g,0,none⟩) l.length cap):=by
    have hf:=a2.cells (g:=g) rfl;have a6:=a2.lt g rfl;rcases a2.2 with⟨e,_⟩|⟨g',cap',cur,e,r1,r2,r3,r4,r5⟩
    ·cases e
    ·injection e with e1 e2 e3
     refine⟨rfl,by rw[e3];exact r3,by rw[e3];exact r4,fun _=>⟨g,0,rfl,a6.1,a6.2,fun i hi=>?_⟩⟩
     obtain⟨v,_,b4,b5,rfl⟩:=HC.out i hi;refine⟨_,fun j x hx=>?_,b4,b5,rfl⟩
     have hj:j<2:=by have:=(aI.1 hx).1;simpa using this
     have h2:=ugo hi (k:=j) hj;rw[hx]at h2;have h3:=hf (i*2+j) x (by first|exact h2|(rw[List.nil_append];exact h2)|(rw[h2])|(rw[<-h2]))
     rw[Addr.add_lit]at h3;simpa using h3
   clear a2 hg b2;go_wp2;go_ret
   exact⟨_,cap,rfl,HR.out,HB.out⟩
end Go.Proofs.YtnbbpmagijpmpaaGreatDoor
