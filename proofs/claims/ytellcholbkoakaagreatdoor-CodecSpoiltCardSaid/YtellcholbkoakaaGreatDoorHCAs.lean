/-
  The reader and the writer: all together (printed by gen_codec.py).
-/
import Derived.Test.YtellcholbkoakaaGreatDoorHCPd
import Derived.Test.YtellcholbkoakaaGreatDoorHCK1
import Derived.Test.YtellcholbkoakaaGreatDoorHCK4
import Derived.Test.YtellcholbkoakaaGreatDoorHCX1
import Derived.Test.YtellcholbkoakaaGreatDoorHCX3
import Derived.Test.YtellcholbkoakaaGreatDoorHCQ1
import Derived.Test.YtellcholbkoakaaGreatDoorHCZ1
import Derived.Test.YtellcholbkoakaaGreatDoorHCRep
namespace Go.Proofs.YtellcholbkoakaaGreatDoor
open Go.Lib (hid)
open Go.RowKit AC
set_option linter.unusedVariables false
set_option linter.unusedSimpArgs false
theorem uhm{k:FuncId}{s:Shape}{T:TypeId}{off:Nat}(he:Enters Tryz.prog k):uP k s 0 T off:=⟨he,fun w br bv bt str r cs h hlen=>absurd hlen (by omega)⟩
theorem uub(f:Shape)(o:Option (List UInt8))(h:∀r,o=some r→r.length≤0):rd (.st f) 0 o=none:=by
 have:want 40 o=none:=by
  cases o with
  | none=>rfl
  | some r=>have:=h r rfl;rw[List.length_eq_zero_iff.1 (by omega:r.length=0)];rfl
 unfold rd;rw[this,udc];rfl
theorem Reads.zero{g:FuncId}{f f':Shape}(h:Reads g (.st f) 0)(hty:∀v,Ty f v→Ty f' v):Reads g (.no (.st f')) 0:=by
 intro w br str o hr hl;refine(h w br str o hr hl).mono ?_;rintro e w'⟨v,he,h1,h2,h3,h4⟩;have hn:=uub f o hl;refine⟨v,he,hty v h1,?_,h3,fun r r' _ e'=>by cases e'⟩
 rw[hn]at h2;exact h2
theorem uuc(L:Nat):Reads 188 uH L:=uq8 L (ujh L (uG (L-1))) (uji L (uc4 (L-1)))
theorem uud(L:Nat):Reads 95 uX L:=uzd L (utu L (uc4 (L-1))) (utv L (uuc (L-1)))
theorem url(L:Nat):Reads 38 ut L:=una L (uhx L (uud (L-1))) (uhy L (uud (L-1)))
theorem uws(L:Nat):Reads 35 uM L:=ut2 L (ukx L (uhe (L-1) (uc4 (L-1)))) (uky L (uhe (L-1) (uc4 (L-1))))
theorem ulh:∀n:Nat,Reads 191 (ua1 n) n
 | 0=>Reads.zero (uxe 0 0 (uhm (enters_of Tryz.func261 (by kernel_rfl) rfl)) (uhm (enters_of Tryz.func262 (by kernel_rfl) rfl)) (uhm (enters_of Tryz.func263 (by kernel_rfl) rfl))) (fun v h=>h)
 | n+1=>by
  have ih:=ulh n;exact uxe n (n+1) (utw (n+1) (uG n)) (utx (n+1) (uG n)) (uty n (n+1) ih)
theorem uAa(N L:Nat)(h:L≤N):Reads 191 (ua1 N) L:=(ulh N).mono h
theorem uyk(N L:Nat)(h:L≤N):Reads 103 (uae N) L:=uwd N L (umz N L (uAa N (L-1) (by omega))) (um0 L (ub0 (L-1) (uG (L-1))))
theorem uzj(N L:Nat)(h:L≤N):Reads 40 (uaw N) L:=ux7 N L (uqg L (ub0 (L-1) (uG (L-1)))) (uqh L (ub0 (L-1) (uG (L-1)))) (uqi N L (uyk N (L-1) (by omega)))
theorem uhn:∀n:Nat,Reads 322 (uy n) n
 | 0=>Reads.zero (uoz 0 0 (uhm (enters_of Tryz.func353 (by kernel_rfl) rfl)) (uhm (enters_of Tryz.func354 (by kernel_rfl) rfl))) (fun v h=>h)
 | n+1=>by
  have ih:=uhn n;exact uoz n (n+1) (um1 (n+1) (uG n)) (um2 n (n+1) ih)
theorem uyl(N L:Nat)(h:L≤N):Reads 322 (uy N) L:=(uhn N).mono h
theorem uwt(N L:Nat)(h:L≤N):Reads 269 (uO N) L:=ut3 N L (ukz L (uG (L-1))) (uk0 N L (uyl N (L-1) (by omega)))
theorem uzk(L:Nat):Reads 272 ua5 L:=ux8 L (uqj L (uud (L-1))) (uqk L (uG (L-1)))
theorem uo1(N L:Nat)(h:L≤N):Reads 196 (uC N) L:=ux9 N L (uql N L (uwt N (L-1) (by omega))) (uqm L (uzk (L-1)))
theorem uo2(N L:Nat)(h:L≤N):Reads 110 (un N) L:=uya N L (uqn L (uco (L-1))) (uqo N L (uo1 N (L-1) (by omega)))
theorem uAb(N L:Nat)(h:L≤N):Reads 200 (uan N) L:=uze N L (utz L (uG (L-1))) (ut0 L (uco (L-1))) (ut1 N L (uo1 N (L-1) (by omega)))
theorem uzl(N L:Nat)(h:L≤N):Reads 117 (uan N) L:=uyb N L (uqp L (uG (L-1))) (uqq L (uco (L-1))) (uqr N L (uo1 N (L-1) (by omega)))
theorem uwu(N L:Nat)(h:L≤N):Reads 114 (uD N) L:=ut4 N L (uk1 L (uG (L-1))) (uk2 N L (uAb N (L-1) (by omega))) (uk3 N L (uo2 N (L-1) (by omega)))
theorem uym(L:Nat):Reads 207 axS L:=uwe L (um3 L (uG (L-1))) (um4 L (uud (L-1))) (um5 L (uud (L-1))) (um6 L (uG (L-1)))
theorem urm(N L:Nat)(h:L≤N):Reads 126 (uax N) L:=unb N L (uhz L (uym (L-1))) (uh0 L (uco (L-1))) (uh1 N L (uo1 N (L-1) (by omega))) (uh2 L (uf1 (L-1) (uco (L-1)))) (uh3 L (uf1 (L-1) (uco (L-1))))
theorem uzm(N L:Nat)(h:L≤N):Reads 43 (uac N) L:=uyc N L (uqs L (uG (L-1))) (uqt L (uG (L-1))) (uqu L (ufh (L-1))) (uqv N L (uo2 N (L-1) (by omega))) (uqw N L (uo2 N (L-1) (by omega))) (uqx N L (uwu N (L-1) (by omega))) (uqy N L (uzl N (L-1) (by omega))) (uqz N L (uo2 N (L-1) (by omega))) (uq0 L (ub0 (L-1) (uG (L-1)))) (uq1 L (uf1 (L-1) (uco (L-1)))) (um7 N L (urm N (L-1) (by omega)))
theorem uyn(L:Nat):Reads 46 uW L:=uwf L (um8 L (uG (L-1))) (um9 L (uG (L-1)))
theorem uzn(N L:Nat)(h:L≤N):Reads 11 (ubb N) L:=uyd N L (uq2 L (ufh (L-1))) (uq3 L (uws (L-1))) (uq4 L (url (L-1))) (uq5 N L (uzj N (L-1) (by omega))) (uq6 N L (uzm N (L-1) (by omega))) (uq7 L (uyn (L-1)))
theorem uue:uk 228 uH:=un7 (uh4 uE) (uh5 udn)
theorem uuf:uk 148 uX:=uyh (ura udn) (urb uue)
theorem urn:uk 78 ut:=ulf (uhf uuf) (uhg uuf)
theorem uwv:uk 75 uM:=uri (ujl (uga udn)) (ujm (uga udn))
theorem uzo:∀n:Nat,uk 231 (ua1 n)
 | 0=>fun w bw o v t _ hrep=>False.elim hrep
 | n+1=>by
  have ih:=uzo n;exact uyi n (urc uE) (urd uE) (ure n ih)
theorem uyo(n:Nat):uk 156 (uae n):=ut7 n (uk4 n (uzo n)) (uk5 (ubt uE))
theorem uzp(n:Nat):uk 80 (uaw n):=uwl n (une (ubt uE)) (unf (ubt uE)) (ung n (uyo n))
theorem uug:∀n:Nat,uk 332 (uy n)
 | 0=>fun w bw o v t _ hrep=>False.elim hrep
 | n+1=>by
  have ih:=uug n;exact ut8 n (uk6 uE) (uk7 n ih)
theorem uww(n:Nat):uk 294 (uO n):=urj n (ujn uE) (ujo n (uug n))
theorem uzq:uk 297 ua5:=uwm (unh uuf) (uni uE)
theorem uo3(n:Nat):uk 237 (uC n):=uwn n (unj n (uww n)) (unk uzq)
theorem uo4(n:Nat):uk 163 (un n):=uwo n (unl ubx) (unm n (uo3 n))
theorem uAc(n:Nat):uk 241 (uan n):=uyj n (urf uE) (urg ubx) (urh n (uo3 n))
theorem uzr(n:Nat):uk 170 (uan n):=uwp n (unn uE) (uno ubx) (unp n (uo3 n))
theorem uwx(n:Nat):uk 167 (uD n):=urk n (ujp uE) (ujq n (uAc n)) (ujr n (uo4 n))
theorem uyp:uk 248 axS:=ut9 (uk8 uE) (uk9 uuf) (ula uuf) (ulb uE)
theorem uro(n:Nat):uk 179 (uax n):=ulg n (uhh uyp) (uhi ubx) (uhj n (uo3 n)) (uhk (ue6 ubx)) (uhl (ue6 ubx))
theorem uzs(n:Nat):uk 83 (uac n):=uwq n (unq uE) (unr uE) (uns ueq) (unt n (uo4 n)) (unu n (uo4 n)) (unv n (uwx n)) (unw n (uzr n)) (unx n (uo4 n)) (uny (ubt uE)) (unz (ue6 ubx)) (ulc n (uro n))
theorem uyq:uk 86 uW:=uua (uld uE) (ule uE)
theorem uzt(n:Nat):uk 29 (ubb n):=uwr n (un0 ueq) (un1 uwv) (un3 urn) (un4 n (uzp n)) (un5 n (uzs n)) (un6 uyq)
def NN:Nat:=262144
def uf2:List Value:=[.bool false,.slice none 0 0,.slice none 0 0,.slice none 0 0,.slice none 0 0,.slice none 0 0,.slice none 0 0,.slice none 0 0,.slice none 0 0]
def CFPost(t:List UInt8)(w:World)(e:Ending)(w':World):Prop:=
 e = .returned (.tuple #[.string ⟨(if t.length≤262144 then t else []).toArray⟩,.int .i64 (if t.length≤262144 then 0 else 9)])∧Below w.heap.size w w'
theorem Wst.new(w:World)(hg:Gl w):Wst (w.alloc (.cells #[.pointer none,.slice none 0 0,.bool false] 97)) w.heap.size (some []):=
 ⟨⟨⟨_,_,AC.Bk.new w _ _,.inl rfl,World.ownsRow_nil _ _ _ _⟩,by simp⟩,hg.alloc _,hg.2.2.2.2⟩
set_option maxHeartbeats 4000000 in
set_option maxRecDepth 100000 in
theorem ue7(n:Nat)(w:World)(D:Nat→Prop)(v:List Value)(t:List UInt8)(c7:Rep w D (ubb n) v [t])(hg:Gl w) :
 Calls Tryz.prog 10 #[.agg v.toArray] w (CFPost t w):=by
 have d3:t≠[]:=by
  obtain⟨tx,ht,_⟩:=c7;injection ht with ht _;rw[ht];simp[par]
 obtain⟨a2,a3,a5,a4,a6,a8,a7,a9,b1,b0,b2,b4,b3,b5,b7,b6,b8,c0,b9,c1,c3,c2,c4,c6,c5,rfl⟩:=ud1 c7.ty;have HG:=hid hg;have HR:=hid c7;have d5:=hid d3;clear hg c7 d3;show Calls Tryz.prog 10 #[.agg #[.bool a2,.slice a3 a5 a4,.slice a6 a8 a7,.slice a9 b1 b0,.slice b2 b4 b3,.slice b5 b7 b6,.slice b8 c0 b9,.slice c1 c3 c2,.slice c4 c6 c5]] w _
 go_enter Tryz.func10,Tryz.ntmps10
 have h1:(w.alloc (.cells #[.bool a2,.slice a3 a5 a4,.slice a6 a8 a7,.slice a9 b1 b0,.slice b2 b4 b3,.slice b5 b7 b6,.slice b8 c0 b9,.slice c1 c3 c2,.slice c4 c6 c5] 34)).heap.size=w.heap.size+1:=by simp
 have d0:=Wst.new (w.alloc (.cells #[.bool a2,.slice a3 a5 a4,.slice a6 a8 a7,.slice a9 b1 b0,.slice b2 b4 b3,.slice b5 b7 b6,.slice b8 c0 b9,.slice c1 c3 c2,.slice c4 c6 c5] 34)) (HG.out.alloc _);rw[h1]at d0;have d7:=hid d0;have d6:=hid (((HR.out.sub (D':=(· < w.heap.size+1)) (fun b _ d9=>by show b<w.heap.size+1;omega)).allocW (.cells #[.bool a2,.slice a3 a5 a4,.slice a6 a8 a7,.slice a9 b1 b0,.slice b2 b4 b3,.slice b5 b7 b6,.slice b8 c0 b9,.slice c1 c3 c2,.slice c4 c6 c5] 34)).allocW (.cells #[.pointer none,.slice none 0 0,.bool false] 97))
 have hB:=((Below.refl w.heap.size w).alloc (Nat.le_refl _) (.cells #[.bool a2,.slice a3 a5 a4,.slice a6 a8 a7,.slice a9 b1 b0,.slice b2 b4 b3,.slice b5 b7 b6,.slice b8 c0 b9,.slice c1 c3 c2,.slice c4 c6 c5] 34)).alloc (by simp) (.cells #[.pointer none,.slice none 0 0,.bool false] 97)
 have HB:=hid hB;clear d0 h1 hB;go_wp2_with fail
 refine(uzt n _ (w.heap.size+1) (some []) _ t d7.out d6.out).mono ?_;rintro e w1⟨rfl,c8,d2⟩;have d1:=hid (HB.out.trans (d2.1.mono (by omega)))
 have d4:put (some []) t=if t.length≤262144 then some t else none:=by unfold put;simp
 rw[d4]at c8;have hc:=c8.cell;have c9:=hid c8;clear c8 d2 d4;by_cases a1:t.length≤262144
 ·rw[if_pos a1]at hc c9
  have a0:=hid a1;clear a1;go_wp2_with fail
  refine(ul3 _ (w.heap.size+1) t false c9.out.1.1 d5.out a0.out).mono ?_;rintro e w2⟨rfl,d8⟩;go_wp2;go_ret2
  exact⟨by rw[if_pos a0.out,if_pos a0.out];rfl,d1.out.trans (d8.mono (by omega))⟩
 ·rw[if_neg a1]at hc c9
  have a0:=hid a1;clear a1;go_wp2;go_ret2
  exact⟨by rw[if_neg a0.out,if_neg a0.out];rfl,d1.out⟩
def CPPost(l:List UInt8)(w:World)(e:Ending)(w':World):Prop:=
 (262144<l.length∧e = .returned (.tuple #[.agg uf2.toArray,.int .i64 9])∧Below w.heap.size w w') ∨
 (l.length≤262144∧rd (ubb NN) 0 (some l)≠some []∧e = .returned (.tuple #[.agg uf2.toArray,.int .i64 2])∧Below w.heap.size w w') ∨
 (l.length≤262144∧rd (ubb NN) 0 (some l)=some []∧∃v,e = .returned (.tuple #[.agg v.toArray,.int .i64 0])∧Rep w' (w.heap.size ≤ ·) (ubb NN) v [l]∧Below w.heap.size w w')
theorem Rst.new(w:World)(s:ByteArray)(hs:s.size≤262144)(hg:Gl w):Rst (w.alloc (.cells #[.string s,.int .i64 0,.bool false] 48)) w.heap.size s (some s.data.toList):=
 ⟨0,false,AC.Bk.new w _ _,by omega,hs,rfl,hg.alloc _,hg.2.2.2.2⟩
set_option maxHeartbeats 8000000 in
set_option maxRecDepth 100000 in
theorem uda(w:World)(s:ByteArray)(hg:Gl w):Calls Tryz.prog 6 #[.string s] w (CPPost s.data.toList w):=by
 have HG:=hid hg;clear hg;have d8:s.data.toList.length=s.size:=by simp
 have d0:=hid d8;clear d8;by_cases hs:s.size≤262144
 ·have hd:decide ((262144:Int)<(s.size:Int))=false:=by simp;omega
  go_enter Tryz.func6,Tryz.ntmps6
  have d5:=Rst.new (w.alloc (.cells #[.bool false,.slice none 0 0,.slice none 0 0,.slice none 0 0,.slice none 0 0,.slice none 0 0,.slice none 0 0,.slice none 0 0,.slice none 0 0] 34)) s hs (HG.out.alloc _);rw[show(w.alloc (.cells #[.bool false,.slice none 0 0,.slice none 0 0,.slice none 0 0,.slice none 0 0,.slice none 0 0,.slice none 0 0,.slice none 0 0,.slice none 0 0] 34)).heap.size=w.heap.size+1 by simp]at d5
  have e5:=hid d5;have d7:=(AC.Bk.new w 34 #[.bool false,.slice none 0 0,.slice none 0 0,.slice none 0 0,.slice none 0 0,.slice none 0 0,.slice none 0 0,.slice none 0 0,.slice none 0 0]).alloc (.cells #[.string s,.int .i64 0,.bool false] 48);have e3:=hid d7;have d6:=((Fr.refl (· = w.heap.size+1) w).alloc (.cells #[.bool false,.slice none 0 0,.slice none 0 0,.slice none 0 0,.slice none 0 0,.slice none 0 0,.slice none 0 0,.slice none 0 0,.slice none 0 0] 34)).alloc (.cells #[.string s,.int .i64 0,.bool false] 48)
  have e2:=hid d6;clear d5 d7 d6;go_wp2_with fail
  refine(uzn NN NN (Nat.le_refl _) _ (w.heap.size+1) s (some s.data.toList) e5.out (fun r hr=>by injection hr with hr;rw[←hr,d0.out];exact hs)).mono ?_
  rintro e w1⟨v,rfl,e1,f0,hf,e0⟩;rw[uva];have a1:=hid (e3.out.fr hf (fun h=>by have h':w.heap.size=w.heap.size+1:=h;omega))
  have HF:=hid (e2.out.trans hf);have f6:w.heap.size+1+1≤w1.heap.size:=by have:=hf.size;simpa using this
  have e6:=hid e0;obtain⟨a2,a3,a5,a4,a6,a8,a7,a9,b1,b0,b2,b4,b3,b5,b7,b6,b8,c0,b9,c3,c5,c4,c6,c8,c7,rfl⟩:=ud1 e1;obtain⟨pos,bad,hk,f4,f5,ho,e7,f1⟩:=f0;have HO:=hid ho;have c1:=hk.cell 1;have c2:=hk.cell 2;have k0:=a1.out.cell 0;have g0:=a1.out.frozen 0;have k1:=a1.out.cell 1;have g1:=a1.out.frozen 1;have k2:=a1.out.cell 2;have g2:=a1.out.frozen 2;have k3:=a1.out.cell 3;have g3:=a1.out.frozen 3;have k4:=a1.out.cell 4;have g4:=a1.out.frozen 4;have k5:=a1.out.cell 5;have g5:=a1.out.frozen 5;have k6:=a1.out.cell 6;have g6:=a1.out.frozen 6;have k7:=a1.out.cell 7;have g7:=a1.out.frozen 7;have k8:=a1.out.cell 8;have g8:=a1.out.frozen 8;simp only[gq]at c1 c2 k0 k1 k2 k3 k4 k5 k6 k7 k8;have f3:w.heap.size<w1.heap.size:=by omega
  have f2:w.heap.size+1<w1.heap.size:=by omega
  clear e0 hf e1 hk e7 ho;cases bad with
  | true=>
   go_wp2;have a0:=(((((((((a1.out.set 0 (.bool false)).set 1 (.slice none 0 0)).set 2 (.slice none 0 0)).set 3 (.slice none 0 0)).set 4 (.slice none 0 0)).set 5 (.slice none 0 0)).set 6 (.slice none 0 0)).set 7 (.slice none 0 0)).set 8 (.slice none 0 0)).alloc (.cells #[.bool a2,.slice a3 a5 a4,.slice a6 a8 a7,.slice a9 b1 b0,.slice b2 b4 b3,.slice b5 b7 b6,.slice b8 c0 b9,.slice c3 c5 c4,.slice c6 c8 c7] 34);have r0:=a0.cell 0;have r1:=a0.cell 1;have r2:=a0.cell 2;have r3:=a0.cell 3;have r4:=a0.cell 4;have r5:=a0.cell 5;have r6:=a0.cell 6;have r7:=a0.cell 7;have r8:=a0.cell 8;refine bodyPost_ret (v:= .tuple #[.agg uf2.toArray,.int .i64 2]) (by simp[results,Tryz.results6,go_sem,uf2,r0,r1,r2,r3,r4,r5,r6,r7,r8]) rfl ?_
   have c9:Fr (· = w.heap.size) w1 (((((((((w1.setCell ⟨w.heap.size,0,none⟩ (.bool false)).setCell ⟨w.heap.size,1,none⟩ (.slice none 0 0)).setCell ⟨w.heap.size,2,none⟩ (.slice none 0 0)).setCell ⟨w.heap.size,3,none⟩ (.slice none 0 0)).setCell ⟨w.heap.size,4,none⟩ (.slice none 0 0)).setCell ⟨w.heap.size,5,none⟩ (.slice none 0 0)).setCell ⟨w.heap.size,6,none⟩ (.slice none 0 0)).setCell ⟨w.heap.size,7,none⟩ (.slice none 0 0)).setCell ⟨w.heap.size,8,none⟩ (.slice none 0 0)):=((((((((((Fr.refl _ _).wr _ _).wr _ _).wr _ _).wr _ _).wr _ _).wr _ _).wr _ _).wr _ _).wr _ _)
   have d2:=(HF.out.then c9 (fun x hx=> .inr (by have d3:x=w.heap.size:=hx;omega))).alloc (.cells #[.bool a2,.slice a3 a5 a4,.slice a6 a8 a7,.slice a9 b1 b0,.slice b2 b4 b3,.slice b5 b7 b6,.slice b8 c0 b9,.slice c3 c5 c4,.slice c6 c8 c7] 34)
   have d1:=d2.toBelow (n:=w.heap.size) (fun x hx=>by have d3:x=w.heap.size+1:=hx;omega) (Nat.le_refl _)
   exact .inr (.inl ⟨by rw[d0.out];exact hs,by have:=HO.out;rw[this];simp,rfl,d1⟩)
  | false=>
   by_cases d4:pos=s.size
   ·subst d4
    have e8:(((s.size:Nat):Int) != (s.size:Int))=false:=by simp
    go_wp2;have a0:=(((((((((a1.out.set 0 (.bool a2)).set 1 (.slice a3 a5 a4)).set 2 (.slice a6 a8 a7)).set 3 (.slice a9 b1 b0)).set 4 (.slice b2 b4 b3)).set 5 (.slice b5 b7 b6)).set 6 (.slice b8 c0 b9)).set 7 (.slice c3 c5 c4)).set 8 (.slice c6 c8 c7)).alloc (.cells #[.bool a2,.slice a3 a5 a4,.slice a6 a8 a7,.slice a9 b1 b0,.slice b2 b4 b3,.slice b5 b7 b6,.slice b8 c0 b9,.slice c3 c5 c4,.slice c6 c8 c7] 34);have r0:=a0.cell 0;have r1:=a0.cell 1;have r2:=a0.cell 2;have r3:=a0.cell 3;have r4:=a0.cell 4;have r5:=a0.cell 5;have r6:=a0.cell 6;have r7:=a0.cell 7;have r8:=a0.cell 8;refine bodyPost_ret (v:= .tuple #[.agg #[.bool a2,.slice a3 a5 a4,.slice a6 a8 a7,.slice a9 b1 b0,.slice b2 b4 b3,.slice b5 b7 b6,.slice b8 c0 b9,.slice c3 c5 c4,.slice c6 c8 c7],.int .i64 0]) (by simp[results,Tryz.results6,go_sem,r0,r1,r2,r3,r4,r5,r6,r7,r8]) rfl ?_
    have c9:Fr (· = w.heap.size) w1 (((((((((w1.setCell ⟨w.heap.size,0,none⟩ (.bool a2)).setCell ⟨w.heap.size,1,none⟩ (.slice a3 a5 a4)).setCell ⟨w.heap.size,2,none⟩ (.slice a6 a8 a7)).setCell ⟨w.heap.size,3,none⟩ (.slice a9 b1 b0)).setCell ⟨w.heap.size,4,none⟩ (.slice b2 b4 b3)).setCell ⟨w.heap.size,5,none⟩ (.slice b5 b7 b6)).setCell ⟨w.heap.size,6,none⟩ (.slice b8 c0 b9)).setCell ⟨w.heap.size,7,none⟩ (.slice c3 c5 c4)).setCell ⟨w.heap.size,8,none⟩ (.slice c6 c8 c7)):=((((((((((Fr.refl _ _).wr _ _).wr _ _).wr _ _).wr _ _).wr _ _).wr _ _).wr _ _).wr _ _).wr _ _)
    have d2:=(HF.out.then c9 (fun x hx=> .inr (by have d3:x=w.heap.size:=hx;omega))).alloc (.cells #[.bool a2,.slice a3 a5 a4,.slice a6 a8 a7,.slice a9 b1 b0,.slice b2 b4 b3,.slice b5 b7 b6,.slice b8 c0 b9,.slice c3 c5 c4,.slice c6 c8 c7] 34)
    have d1:=d2.toBelow (n:=w.heap.size) (fun x hx=>by have d3:x=w.heap.size+1:=hx;omega) (Nat.le_refl _)
    have d9:rd (ubb NN) 0 (some s.data.toList)=some []:=by have:=HO.out;rw[this];simp
    obtain⟨t,ht,e9⟩:=e6.out _ _ rfl d9;rw[List.append_nil]at ht;refine .inr (.inr ⟨by rw[d0.out];exact hs,d9,_,rfl,?_,d1⟩)
    rw[ht];refine((e9.fr c9 (fun x hx h=>?_)).allocW _).sub (fun b hb _=>?_)
    ·have h1:((w.alloc (.cells #[.bool false,.slice none 0 0,.slice none 0 0,.slice none 0 0,.slice none 0 0,.slice none 0 0,.slice none 0 0,.slice none 0 0,.slice none 0 0] 34)).alloc (.cells #[.string s,.int .i64 0,.bool false] 48)).heap.size≤x:=hx
     have h2:x=w.heap.size:=h;simp at h1;omega
    ·have h1:((w.alloc (.cells #[.bool false,.slice none 0 0,.slice none 0 0,.slice none 0 0,.slice none 0 0,.slice none 0 0,.slice none 0 0,.slice none 0 0,.slice none 0 0] 34)).alloc (.cells #[.string s,.int .i64 0,.bool false] 48)).heap.size≤b:=hb
     simp at h1;show w.heap.size≤b
     omega
   ·have e8:(((pos:Nat):Int) != (s.size:Int))=true:=by simp;omega
    have e4:=hid d4;clear d4;go_wp2;have a0:=(((((((((a1.out.set 0 (.bool false)).set 1 (.slice none 0 0)).set 2 (.slice none 0 0)).set 3 (.slice none 0 0)).set 4 (.slice none 0 0)).set 5 (.slice none 0 0)).set 6 (.slice none 0 0)).set 7 (.slice none 0 0)).set 8 (.slice none 0 0)).alloc (.cells #[.bool a2,.slice a3 a5 a4,.slice a6 a8 a7,.slice a9 b1 b0,.slice b2 b4 b3,.slice b5 b7 b6,.slice b8 c0 b9,.slice c3 c5 c4,.slice c6 c8 c7] 34);have r0:=a0.cell 0;have r1:=a0.cell 1;have r2:=a0.cell 2;have r3:=a0.cell 3;have r4:=a0.cell 4;have r5:=a0.cell 5;have r6:=a0.cell 6;have r7:=a0.cell 7;have r8:=a0.cell 8;refine bodyPost_ret (v:= .tuple #[.agg uf2.toArray,.int .i64 2]) (by simp[results,Tryz.results6,go_sem,uf2,r0,r1,r2,r3,r4,r5,r6,r7,r8]) rfl ?_
    have c9:Fr (· = w.heap.size) w1 (((((((((w1.setCell ⟨w.heap.size,0,none⟩ (.bool false)).setCell ⟨w.heap.size,1,none⟩ (.slice none 0 0)).setCell ⟨w.heap.size,2,none⟩ (.slice none 0 0)).setCell ⟨w.heap.size,3,none⟩ (.slice none 0 0)).setCell ⟨w.heap.size,4,none⟩ (.slice none 0 0)).setCell ⟨w.heap.size,5,none⟩ (.slice none 0 0)).setCell ⟨w.heap.size,6,none⟩ (.slice none 0 0)).setCell ⟨w.heap.size,7,none⟩ (.slice none 0 0)).setCell ⟨w.heap.size,8,none⟩ (.slice none 0 0)):=((((((((((Fr.refl _ _).wr _ _).wr _ _).wr _ _).wr _ _).wr _ _).wr _ _).wr _ _).wr _ _).wr _ _)
    have d2:=(HF.out.then c9 (fun x hx=> .inr (by have d3:x=w.heap.size:=hx;omega))).alloc (.cells #[.bool a2,.slice a3 a5 a4,.slice a6 a8 a7,.slice a9 b1 b0,.slice b2 b4 b3,.slice b5 b7 b6,.slice b8 c0 b9,.slice c3 c5 c4,.slice c6 c8 c7] 34)
    have d1:=d2.toBelow (n:=w.heap.size) (fun x hx=>by have d3:x=w.heap.size+1:=hx;omega) (Nat.le_refl _)
    refine .inr (.inl ⟨by rw[d0.out];exact hs,?_,rfl,d1⟩)
    have:=HO.out;rw[this];simp only[Bool.false_eq_true,if_false];intro e;injection e with e;have h9:=congrArg List.length e;simp at h9;have:=e4.out;omega
 ·have hd:decide ((262144:Int)<(s.size:Int))=true:=by simp;omega
  go_enter Tryz.func6,Tryz.ntmps6
  go_wp2;refine bodyPost_ret (v:= .tuple #[.agg uf2.toArray,.int .i64 9]) (by simp[results,Tryz.results6,go_sem,uf2]) rfl ?_
  exact .inl ⟨by rw[d0.out];omega,rfl,(Below.refl _ _).alloc (Nat.le_refl _) _⟩
theorem uw1:uf2.toArray = #[.bool false,.slice none 0 0,.slice none 0 0,.slice none 0 0,.slice none 0 0,.slice none 0 0,.slice none 0 0,.slice none 0 0,.slice none 0 0]:=rfl
def ujs(w:World)(e:Ending)(w':World):Prop:=e = .returned (.bool true)∧Below w.heap.size w w'
set_option maxHeartbeats 8000000 in
set_option maxRecDepth 100000 in
theorem uup(w:World)(hg:Gl w):Calls Tryz.prog 5 #[] w (ujs w):=by
 have HG:=hid hg;clear hg;have HC:=hid (ue7 0 w (fun _=>True) _ _ (uo7 w (fun _=>True) 0 _ _ (udp _ _ _)) HG.out)
 go_enter Tryz.func5,Tryz.ntmps5
 go_wp2_with fail
 refine HC.out.mono ?_;rintro e w1⟨rfl,a1⟩;have e1:(⟨(if(uby [40,41]).length≤262144 then uby [40,41]else []).toArray⟩:ByteArray)=⟨#[40,48,32,40,40,41,32,40,41,41,32,40,41,32,40,40,41,32,40,41,32,40,41,41,32,40,41,32,40,41,41]⟩:=by decide
 have e2:(if(uby [40,41]).length≤262144 then(0:Int)else 9)=0:=by decide
 rw[e1,e2];have a2:=hid a1;have a4:=hid (HG.out.below a1);clear e1 e2 a1;go_wp2_with fail
 refine(uda _ _ a4.out).mono ?_;intro e w2 hp;have e3:(⟨#[40,48,32,40,40,41,32,40,41,41,32,40,41,32,40,40,41,32,40,41,32,40,41,41,32,40,41,32,40,41,41]⟩:ByteArray).data.toList=uby [40,41]:=by decide
 rw[e3]at hp;clear e3;rcases hp with⟨h1,_⟩|⟨_,h1,_⟩|⟨_,_,v,rfl,hrep,hb2⟩
 ·exact absurd h1 (by decide)
 ·exact absurd uyr h1
 obtain⟨a6,a7,a9,a8,b0,b2,b1,b3,b5,b4,b6,b8,b7,b9,c1,c0,c2,c4,c3,c5,c7,c6,c8,d0,c9,rfl⟩:=ud1 hrep.ty;have a0:=hid (a2.out.trans (hb2.mono a2.out.size));have a5:=hid (a4.out.below hb2);clear hrep hb2;go_wp2_with fail
 refine(uda _ _ (a5.out.alloc _)).mono ?_;intro e w3 hp;have e3:((⟨#[40,48,32,40,40,41,32,40,41,41,32,40,41,32,40,40,41,32,40,41,32,40,41,41,32,40,41,32,40,41,41]⟩:ByteArray)++(⟨#[32]⟩:ByteArray)).data.toList=uby [40,41]++[32]:=by decide
 rw[e3]at hp;clear e3;rcases hp with⟨h1,_⟩|⟨_,_,rfl,hb3⟩|⟨_,h1,_⟩
 ·exact absurd h1 (by decide)
 rotate_left
 ·exact absurd (uli.symm.trans h1) (by decide)
 have a3:=hid ((a0.out.alloc a0.out.size (.cells #[.bool a6,.slice a7 a9 a8,.slice b0 b2 b1,.slice b3 b5 b4,.slice b6 b8 b7,.slice b9 c1 c0,.slice c2 c4 c3,.slice c5 c7 c6,.slice c8 d0 c9] 34)).trans (hb3.mono (by have:=a0.out.size;simp;omega)))
 clear hb3;rw[uw1];go_wp2;go_ret
 exact⟨rfl,a3.out.alloc a3.out.size _⟩
end Go.Proofs.YtellcholbkoakaaGreatDoor
