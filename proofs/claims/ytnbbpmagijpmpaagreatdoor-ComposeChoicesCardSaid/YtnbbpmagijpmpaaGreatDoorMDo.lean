/-
  Polynomials: Choice.
-/
import Derived.Test.YtnbbpmagijpmpaaGreatDoorMSk
set_option linter.unusedVariables false
set_option linter.unusedSimpArgs false
namespace Go.Proofs.YtnbbpmagijpmpaaGreatDoor
open Go.Lib (hid)
open Go.RowKit AC
theorem uel{P:Program}{fn:Func}{p u:Tmp}{ty:TypeId}(h:fn.results = #[.cell p ty,.tmp u])(a0:Array Value)(w:World)(g:Nat)(t:TypeId)(cs:Array Value)(fr:Nat×Nat)(d:TypeDesc)
 (hp:a0.getD p undef = .pointer (some ⟨g,0,none⟩)) (hg:w.heap[g]? = some (.cells cs t fr))
 (hu:P.underlying ty=some d) (hd:(match d with | .struct _ | .array _ _=>true|_=>false)=true) (hi:(P.info? ty).map (·.size)=some cs.size) :
 (results fn a0).run P w = .ok (.tuple #[.agg cs,a0.getD u undef]) w:=by
 rw[results_cell_tmp h,hp];simp[asAddr,run_loadVar_row w g t ty cs fr d hg hu hd hi]
def uyg(X:Ctx)(lower:Bool)(l:List (List Ter×List Ter))(w:World)(e:Ending)(w':World):Prop:=∃C n c D m k er,e = .returned (.tuple #[.agg #[.slice C n c,.slice D m k],.int .i64 er])/\Below w.heap.size w w' /\
 (er=0->0<l.length/\∃r1 r2,X.okP/\X.vAl r1/\X.vAl r2/\uz r1/\uz r2/\(∀b∈l,X.vAl b.1/\X.vAl b.2/\uui (!lower) r1 b.1/\uui lower r2 b.2)/\uB w' (w.heap.size <= ·) r1 C n c/\uB w' (w.heap.size <= ·) r2 D m k)
set_option maxHeartbeats 16000000
set_option maxRecDepth 100000
theorem uul{X:Ctx}(lower:Bool)(l:List (List Ter×List Ter))(xv:List Value)(A:Option Addr)(n c:Nat)(w:World)(hx:uok w (· < w.heap.size) X xv)(hl:umo w (· < w.heap.size) l A n c)(f2:∀b∈l,uz b.1/\uz b.2)(hg:Gp w) :
 Calls Tryz.prog 7 #[.agg xv.toArray,.slice A n c,.bool lower] w (uyg X lower l w):=by
 have hn:n=l.length:=hl.1;have g3:=hl.2.1;have f4:c<=maxLen:=hl.2.2.1;unfold maxLen at f4;have KF:Hid (∀(j:Bool) (g gp:FuncId) (pk:List Ter×List Ter->List Ter) (x:World),uH7 g (slB j)->uH8 gp pk->(∀b∈l,uz (pk b))->0<n->Below w.heap.size w x->Calls Tryz.prog 16 #[.agg xv.toArray,.slice A n c,.func (.func g) #[] #[],.func (.func gp) #[] #[]] x (uey X j pk l x)):=fun j g gp pk x h1 h2 h3 h4 hb=>
  uBw h1 h2 l xv A n c x ((hx.vAb (uc.of hb)).sub fun b a0 _=>a0) ((umo.vAb (uc.of hb) hl).sub fun b a0 _=>a0) h4 h3 (hg.below hb hg.2)
 obtain⟨dA,dn,dc,vA,vn,vc,rk,rm,rA,rn,rc,rfl⟩:=hx.form;have HS:=hid f2;have HN:=hid hn;clear hx hl f2 hg hn;cases lower with
 | false=>
  have K1:Hid (∀x,0<n->Below w.heap.size w x->Calls Tryz.prog 16 #[.agg #[.slice dA dn dc,.slice vA vn vc,.int .i64 rk,.int .i64 rm,.slice rA rn rc],.slice A n c,.func (.func 14) #[] #[],.func (.func 17) #[] #[]] x (uey X true Prod.fst l x)):=fun x h0 hb=>KF.out _ _ _ _ x ust uon (fun b hb=>(HS.out b hb).1) h0 hb
  have K2:Hid (∀x,0<n->Below w.heap.size w x->Calls Tryz.prog 16 #[.agg #[.slice dA dn dc,.slice vA vn vc,.int .i64 rk,.int .i64 rm,.slice rA rn rc],.slice A n c,.func (.func 15) #[] #[],.func (.func 18) #[] #[]] x (uey X false Prod.snd l x)):=fun x h0 hb=>KF.out _ _ _ _ x usu uoo (fun b hb=>(HS.out b hb).2) h0 hb
  clear KF HS;show Calls Tryz.prog 7 #[.agg #[.slice dA dn dc,.slice vA vn vc,.int .i64 rk,.int .i64 rm,.slice rA rn rc],.slice A n c,.bool false] w _
  go_enter Tryz.func7,Tryz.ntmps7
  by_cases e3:n=0
  ·subst e3
   go_wp2;have hg:Bk ((w.alloc (.cells #[.slice dA dn dc,.slice vA vn vc,.int .i64 rk,.int .i64 rm,.slice rA rn rc] 27)).alloc (.cells #[.slice none 0 0,.slice none 0 0] 34)) (w.heap.size+1) 34 #[.slice none 0 0,.slice none 0 0]:=uax _ _ _ _;have hb:Below w.heap.size w ((w.alloc (.cells #[.slice dA dn dc,.slice vA vn vc,.int .i64 rk,.int .i64 rm,.slice rA rn rc] 27)).alloc (.cells #[.slice none 0 0,.slice none 0 0] 34)):=(aa.alloc ab _).alloc (by simp) _
   refine bodyPost_ret (uel rfl _ _ (w.heap.size+1) 34 #[.slice none 0 0,.slice none 0 0] (0,0) _ rfl hg Tryz.underlying34 rfl (by kernel_rfl)) rfl ?_
   exact⟨_,_,_,_,_,_,_,rfl,hb,fun h=>absurd h (by decide)⟩
  ·have h0:0<n:=by omega
   have f6:¬(n:Int)=0:=by omega
   go_upto_region 8 with(fail)
   obtain⟨C0,hC⟩:∃C,C=((w.alloc (.cells #[.slice dA dn dc,.slice vA vn vc,.int .i64 rk,.int .i64 rm,.slice rA rn rc] 27)).alloc (.cells #[.slice none 0 0,.slice none 0 0] 34)).alloc (.cells #[.slice none 0 0,.slice none 0 0] 34):=⟨_,rfl⟩;have b2:Hid (Below w.heap.size w C0):=by rw[hC];exact((aa.alloc ab _).alloc (by simp) _).alloc (by simp;omega) _
   have b4:Hid (Bk C0 w.heap.size 27 #[.slice dA dn dc,.slice vA vn vc,.int .i64 rk,.int .i64 rm,.slice rA rn rc]):=by rw[hC];exact((Bk.new _ _ _).alloc _).alloc _
   have c7:Hid (Bk C0 (w.heap.size+1) 34 #[.slice none 0 0,.slice none 0 0]):=by rw[hC];exact(uax _ _ _ _).alloc _
   have d3:Hid (C0.heap.size=w.heap.size+3):=by show C0.heap.size=_;rw[hC];simp
   have d0:Hid (Bk C0 (w.heap.size+2) 34 #[.slice none 0 0,.slice none 0 0]):=by rw[hC];exact ubc _ _ _ _ _
   rw[<-hC];clear hC;have f5:=d3.out;obtain⟨e4,_,_⟩:=b4.out.facts;go_wp2_with fail
   refine(K1.out C0 h0 b2.out).mono ?_;rintro e w1⟨P1,p1,q1,e1,rfl,hb,hr⟩;have a8:Hid (Below w.heap.size w w1):=b2.out.trans (hb.mono b2.out.size);have e0:C0.heap.size<=w1.heap.size:=hb.size;have c6:=hid (b4.out.below hb b4.out.lt);have b0:=hid (c7.out.below hb c7.out.lt);have b5:=hid (d0.out.below hb d0.out.lt);have c1:=hid hr;clear hb hr e4;obtain⟨e8,e9,_⟩:=b5.out.facts;by_cases b8:e1=0
   ·obtain⟨r1,a1,a2,a3,a4,a5⟩:=c1.out b8
    have HA:=hid (And.intro a1 (And.intro a2 (And.intro a3 a4)));have c3:=hid a5;subst b8;clear a1 a2 a3 a4 a5 c1;go_upto_region 11 with(fail)
    clear e8 e9;obtain⟨C2,hC⟩:∃C,C=w1.setCell ⟨w.heap.size+2,0,none⟩ (.slice P1 p1 q1):=⟨_,rfl⟩;have hf:Fw (fun b=>b=w.heap.size+2) w1 C2:=by rw[hC];exact(Fw.refl (fun b=>b=w.heap.size+2) _).setCell (p:=⟨w.heap.size+2,0,none⟩) (.inl rfl) _
    have b3:Hid (Below w.heap.size w C2):=a8.out.trans (hf.toBelow (fun x hx=>by omega) a8.out.size)
    have d9:C0.heap.size<=C2.heap.size:=ag e0 hf.size;have d7:=hid (Bk.fw c6.out hf (by omega))
    have c8:=hid (Bk.fw b0.out hf (by omega))
    have d1:Hid (Bk C2 (w.heap.size+2) 34 #[.slice P1 p1 q1,.slice none 0 0]):=by rw[hC];exact upz b5.out
    have d4:Hid (uB C2 (C0.heap.size <= ·) r1 P1 p1 q1):=uB.vAb (uc.fw hf fun b hb e=>by have a0:C0.heap.size<=b:=hb;omega) c3.out
    rw[<-hC];clear hC hf c6 b0 b5 c3;obtain⟨e5,_,_⟩:=d7.out.facts;go_wp2_with fail
    refine(K2.out C2 h0 b3.out).mono ?_;rintro e w3⟨P2,p2,q2,e2,rfl,hb,hr⟩;have a9:Hid (Below w.heap.size w w3):=b3.out.trans (hb.mono b3.out.size);have b1:=hid (c8.out.below hb c8.out.lt);have b6:=hid (d1.out.below hb d1.out.lt);have c4:=hid (uB.vAb (uc.of hb) d4.out);have c2:=hid hr;clear hb hr e5;obtain⟨f0,f1,_⟩:=b6.out.facts;obtain⟨e6,e7,_⟩:=b1.out.facts;by_cases b9:e2=0
    ·obtain⟨r2,a1,a2,a3,a4,a5⟩:=c2.out b9
     have a7:=hid (And.intro a1 (And.intro a2 (And.intro a3 a4)));have c5:=hid a5;subst b9;clear a1 a2 a3 a4 a5 c2;go_upto_region 14 with(fail)
     clear f0 f1 e6 e7;obtain⟨C4,hC⟩:∃C,C=w3.setCell ⟨w.heap.size+2,1,none⟩ (.slice P2 p2 q2):=⟨_,rfl⟩;have hf:Fw (fun b=>b=w.heap.size+2) w3 C4:=by rw[hC];exact(Fw.refl (fun b=>b=w.heap.size+2) _).setCell (p:=⟨w.heap.size+2,1,none⟩) (.inl rfl) _
     have c0:Hid (Below w.heap.size w C4):=a9.out.trans (hf.toBelow (fun x hx=>by omega) a9.out.size)
     have c9:=hid (Bk.fw b1.out hf (by omega))
     have d8:Hid (Bk C4 (w.heap.size+2) 34 #[.slice P1 p1 q1,.slice P2 p2 q2]):=by rw[hC];exact ulp b6.out
     have d5:Hid (uB C4 (C0.heap.size <= ·) r1 P1 p1 q1):=uB.vAb (uc.fw hf fun b hb e=>by have a0:C0.heap.size<=b:=hb;omega) c4.out
     have d6:Hid (uB C4 (C0.heap.size <= ·) r2 P2 p2 q2):=uB.vAb (uc.fw hf fun b hb e=>by have a0:C0.heap.size<=b:=hb;omega) (c5.out.sub fun b _ hb=>ag d9 hb)
     rw[<-hC];clear hC hf b6 b1 c4 c5;obtain⟨g1,g2,_⟩:=d8.out.facts;obtain⟨f9,g0,_⟩:=c9.out.facts;go_wp2;have d2:Fw (fun b=>b=w.heap.size+1) C4 ((C4.setCell ⟨w.heap.size+1,0,none⟩ (.slice P1 p1 q1)).setCell ⟨w.heap.size+1,1,none⟩ (.slice P2 p2 q2)):=((Fw.refl (fun b=>b=w.heap.size+1) _).setCell (p:=⟨w.heap.size+1,0,none⟩) (.inl rfl) _).setCell (p:=⟨w.heap.size+1,1,none⟩) (.inl rfl) _
     have hk:=fun(r:List Ter) (A:Option Addr) (n c:Nat) (h:uB C4 (C0.heap.size <= ·) r A n c)=>(uB.vAb (uc.fw d2 fun b hb e=>by have a0:C0.heap.size<=b:=hb;omega) h).sub (D':=(w.heap.size <= ·)) fun b hb a0=>by have f3:C0.heap.size<=b:=a0;show w.heap.size<=b;omega
     refine bodyPost_ret (uel rfl _ _ (w.heap.size+1) 34 #[.slice P1 p1 q1,.slice P2 p2 q2] (0,0) _ rfl (ucc c9.out) Tryz.underlying34 rfl (by kernel_rfl)) rfl ?_
     exact⟨_,_,_,_,_,_,_,rfl,c0.out.trans (d2.toBelow (fun x hx=>by omega) c0.out.size),fun _=>⟨by rw[<-HN.out];exact h0,r1,r2,HA.out.1,HA.out.2.1,a7.out.2.1,HA.out.2.2.1,a7.out.2.2.1,fun b hb=>⟨(HA.out.2.2.2 b hb).1,(a7.out.2.2.2 b hb).1,(HA.out.2.2.2 b hb).2,(a7.out.2.2.2 b hb).2⟩,hk _ _ _ _ d5.out,hk _ _ _ _ d6.out⟩⟩
    ·go_wp2
     have a6:Fw (fun b=>b=w.heap.size+2) w3 (w3.setCell ⟨w.heap.size+2,1,none⟩ (.slice P2 p2 q2)):=(Fw.refl (fun b=>b=w.heap.size+2) _).setCell (p:=⟨w.heap.size+2,1,none⟩) (.inl rfl) _
     have b7:Below w.heap.size w (w3.setCell ⟨w.heap.size+2,1,none⟩ (.slice P2 p2 q2)):=a9.out.trans (a6.toBelow (fun x hx=>by omega) a9.out.size)
     refine bodyPost_ret (uel rfl _ _ (w.heap.size+1) 34 #[.slice none 0 0,.slice none 0 0] (0,0) _ rfl (ucc (Bk.fw b1.out a6 (by omega))) Tryz.underlying34 rfl (by kernel_rfl)) rfl ?_
     exact⟨_,_,_,_,_,_,_,rfl,(b7.setCell (p:=⟨w.heap.size+1,0,none⟩) (by show w.heap.size<=w.heap.size+1;omega) _).setCell (p:=⟨w.heap.size+1,1,none⟩) (by show w.heap.size<=w.heap.size+1;omega) _,fun h=>absurd h b9⟩
   ·obtain⟨f7,f8,_⟩:=b0.out.facts
    go_wp2;have a6:Fw (fun b=>b=w.heap.size+2) w1 (w1.setCell ⟨w.heap.size+2,0,none⟩ (.slice P1 p1 q1)):=(Fw.refl (fun b=>b=w.heap.size+2) _).setCell (p:=⟨w.heap.size+2,0,none⟩) (.inl rfl) _
    have b7:Below w.heap.size w (w1.setCell ⟨w.heap.size+2,0,none⟩ (.slice P1 p1 q1)):=a8.out.trans (a6.toBelow (fun x hx=>by omega) a8.out.size)
    refine bodyPost_ret (uel rfl _ _ (w.heap.size+1) 34 #[.slice none 0 0,.slice none 0 0] (0,0) _ rfl (ucc (Bk.fw b0.out a6 (by omega))) Tryz.underlying34 rfl (by kernel_rfl)) rfl ?_
    exact⟨_,_,_,_,_,_,_,rfl,(b7.setCell (p:=⟨w.heap.size+1,0,none⟩) (by show w.heap.size<=w.heap.size+1;omega) _).setCell (p:=⟨w.heap.size+1,1,none⟩) (by show w.heap.size<=w.heap.size+1;omega) _,fun h=>absurd h b8⟩
 | true=>
  have K1:Hid (∀x,0<n->Below w.heap.size w x->Calls Tryz.prog 16 #[.agg #[.slice dA dn dc,.slice vA vn vc,.int .i64 rk,.int .i64 rm,.slice rA rn rc],.slice A n c,.func (.func 15) #[] #[],.func (.func 17) #[] #[]] x (uey X false Prod.fst l x)):=fun x h0 hb=>KF.out _ _ _ _ x usu uon (fun b hb=>(HS.out b hb).1) h0 hb
  have K2:Hid (∀x,0<n->Below w.heap.size w x->Calls Tryz.prog 16 #[.agg #[.slice dA dn dc,.slice vA vn vc,.int .i64 rk,.int .i64 rm,.slice rA rn rc],.slice A n c,.func (.func 14) #[] #[],.func (.func 18) #[] #[]] x (uey X true Prod.snd l x)):=fun x h0 hb=>KF.out _ _ _ _ x ust uoo (fun b hb=>(HS.out b hb).2) h0 hb
  clear KF HS;show Calls Tryz.prog 7 #[.agg #[.slice dA dn dc,.slice vA vn vc,.int .i64 rk,.int .i64 rm,.slice rA rn rc],.slice A n c,.bool true] w _
  go_enter Tryz.func7,Tryz.ntmps7
  by_cases e3:n=0
  ·subst e3
   go_wp2;have hg:Bk ((w.alloc (.cells #[.slice dA dn dc,.slice vA vn vc,.int .i64 rk,.int .i64 rm,.slice rA rn rc] 27)).alloc (.cells #[.slice none 0 0,.slice none 0 0] 34)) (w.heap.size+1) 34 #[.slice none 0 0,.slice none 0 0]:=uax _ _ _ _;have hb:Below w.heap.size w ((w.alloc (.cells #[.slice dA dn dc,.slice vA vn vc,.int .i64 rk,.int .i64 rm,.slice rA rn rc] 27)).alloc (.cells #[.slice none 0 0,.slice none 0 0] 34)):=(aa.alloc ab _).alloc (by simp) _
   refine bodyPost_ret (uel rfl _ _ (w.heap.size+1) 34 #[.slice none 0 0,.slice none 0 0] (0,0) _ rfl hg Tryz.underlying34 rfl (by kernel_rfl)) rfl ?_
   exact⟨_,_,_,_,_,_,_,rfl,hb,fun h=>absurd h (by decide)⟩
  ·have h0:0<n:=by omega
   have f6:¬(n:Int)=0:=by omega
   go_upto_region 8 with(fail)
   obtain⟨C0,hC⟩:∃C,C=((w.alloc (.cells #[.slice dA dn dc,.slice vA vn vc,.int .i64 rk,.int .i64 rm,.slice rA rn rc] 27)).alloc (.cells #[.slice none 0 0,.slice none 0 0] 34)).alloc (.cells #[.slice none 0 0,.slice none 0 0] 34):=⟨_,rfl⟩;have b2:Hid (Below w.heap.size w C0):=by rw[hC];exact((aa.alloc ab _).alloc (by simp) _).alloc (by simp;omega) _
   have b4:Hid (Bk C0 w.heap.size 27 #[.slice dA dn dc,.slice vA vn vc,.int .i64 rk,.int .i64 rm,.slice rA rn rc]):=by rw[hC];exact((Bk.new _ _ _).alloc _).alloc _
   have c7:Hid (Bk C0 (w.heap.size+1) 34 #[.slice none 0 0,.slice none 0 0]):=by rw[hC];exact(uax _ _ _ _).alloc _
   have d3:Hid (C0.heap.size=w.heap.size+3):=by show C0.heap.size=_;rw[hC];simp
   have d0:Hid (Bk C0 (w.heap.size+2) 34 #[.slice none 0 0,.slice none 0 0]):=by rw[hC];exact ubc _ _ _ _ _
   rw[<-hC];clear hC;have f5:=d3.out;obtain⟨e4,_,_⟩:=b4.out.facts;go_wp2_with fail
   refine(K1.out C0 h0 b2.out).mono ?_;rintro e w1⟨P1,p1,q1,e1,rfl,hb,hr⟩;have a8:Hid (Below w.heap.size w w1):=b2.out.trans (hb.mono b2.out.size);have e0:C0.heap.size<=w1.heap.size:=hb.size;have c6:=hid (b4.out.below hb b4.out.lt);have b0:=hid (c7.out.below hb c7.out.lt);have b5:=hid (d0.out.below hb d0.out.lt);have c1:=hid hr;clear hb hr e4;obtain⟨e8,e9,_⟩:=b5.out.facts;by_cases b8:e1=0
   ·obtain⟨r1,a1,a2,a3,a4,a5⟩:=c1.out b8
    have HA:=hid (And.intro a1 (And.intro a2 (And.intro a3 a4)));have c3:=hid a5;subst b8;clear a1 a2 a3 a4 a5 c1;go_upto_region 11 with(fail)
    clear e8 e9;obtain⟨C2,hC⟩:∃C,C=w1.setCell ⟨w.heap.size+2,0,none⟩ (.slice P1 p1 q1):=⟨_,rfl⟩;have hf:Fw (fun b=>b=w.heap.size+2) w1 C2:=by rw[hC];exact(Fw.refl (fun b=>b=w.heap.size+2) _).setCell (p:=⟨w.heap.size+2,0,none⟩) (.inl rfl) _
    have b3:Hid (Below w.heap.size w C2):=a8.out.trans (hf.toBelow (fun x hx=>by omega) a8.out.size)
    have d9:C0.heap.size<=C2.heap.size:=ag e0 hf.size;have d7:=hid (Bk.fw c6.out hf (by omega))
    have c8:=hid (Bk.fw b0.out hf (by omega))
    have d1:Hid (Bk C2 (w.heap.size+2) 34 #[.slice P1 p1 q1,.slice none 0 0]):=by rw[hC];exact upz b5.out
    have d4:Hid (uB C2 (C0.heap.size <= ·) r1 P1 p1 q1):=uB.vAb (uc.fw hf fun b hb e=>by have a0:C0.heap.size<=b:=hb;omega) c3.out
    rw[<-hC];clear hC hf c6 b0 b5 c3;obtain⟨e5,_,_⟩:=d7.out.facts;go_wp2_with fail
    refine(K2.out C2 h0 b3.out).mono ?_;rintro e w3⟨P2,p2,q2,e2,rfl,hb,hr⟩;have a9:Hid (Below w.heap.size w w3):=b3.out.trans (hb.mono b3.out.size);have b1:=hid (c8.out.below hb c8.out.lt);have b6:=hid (d1.out.below hb d1.out.lt);have c4:=hid (uB.vAb (uc.of hb) d4.out);have c2:=hid hr;clear hb hr e5;obtain⟨f0,f1,_⟩:=b6.out.facts;obtain⟨e6,e7,_⟩:=b1.out.facts;by_cases b9:e2=0
    ·obtain⟨r2,a1,a2,a3,a4,a5⟩:=c2.out b9
     have a7:=hid (And.intro a1 (And.intro a2 (And.intro a3 a4)));have c5:=hid a5;subst b9;clear a1 a2 a3 a4 a5 c2;go_upto_region 14 with(fail)
     clear f0 f1 e6 e7;obtain⟨C4,hC⟩:∃C,C=w3.setCell ⟨w.heap.size+2,1,none⟩ (.slice P2 p2 q2):=⟨_,rfl⟩;have hf:Fw (fun b=>b=w.heap.size+2) w3 C4:=by rw[hC];exact(Fw.refl (fun b=>b=w.heap.size+2) _).setCell (p:=⟨w.heap.size+2,1,none⟩) (.inl rfl) _
     have c0:Hid (Below w.heap.size w C4):=a9.out.trans (hf.toBelow (fun x hx=>by omega) a9.out.size)
     have c9:=hid (Bk.fw b1.out hf (by omega))
     have d8:Hid (Bk C4 (w.heap.size+2) 34 #[.slice P1 p1 q1,.slice P2 p2 q2]):=by rw[hC];exact ulp b6.out
     have d5:Hid (uB C4 (C0.heap.size <= ·) r1 P1 p1 q1):=uB.vAb (uc.fw hf fun b hb e=>by have a0:C0.heap.size<=b:=hb;omega) c4.out
     have d6:Hid (uB C4 (C0.heap.size <= ·) r2 P2 p2 q2):=uB.vAb (uc.fw hf fun b hb e=>by have a0:C0.heap.size<=b:=hb;omega) (c5.out.sub fun b _ hb=>ag d9 hb)
     rw[<-hC];clear hC hf b6 b1 c4 c5;obtain⟨g1,g2,_⟩:=d8.out.facts;obtain⟨f9,g0,_⟩:=c9.out.facts;go_wp2;have d2:Fw (fun b=>b=w.heap.size+1) C4 ((C4.setCell ⟨w.heap.size+1,0,none⟩ (.slice P1 p1 q1)).setCell ⟨w.heap.size+1,1,none⟩ (.slice P2 p2 q2)):=((Fw.refl (fun b=>b=w.heap.size+1) _).setCell (p:=⟨w.heap.size+1,0,none⟩) (.inl rfl) _).setCell (p:=⟨w.heap.size+1,1,none⟩) (.inl rfl) _
     have hk:=fun(r:List Ter) (A:Option Addr) (n c:Nat) (h:uB C4 (C0.heap.size <= ·) r A n c)=>(uB.vAb (uc.fw d2 fun b hb e=>by have a0:C0.heap.size<=b:=hb;omega) h).sub (D':=(w.heap.size <= ·)) fun b hb a0=>by have f3:C0.heap.size<=b:=a0;show w.heap.size<=b;omega
     refine bodyPost_ret (uel rfl _ _ (w.heap.size+1) 34 #[.slice P1 p1 q1,.slice P2 p2 q2] (0,0) _ rfl (ucc c9.out) Tryz.underlying34 rfl (by kernel_rfl)) rfl ?_
     exact⟨_,_,_,_,_,_,_,rfl,c0.out.trans (d2.toBelow (fun x hx=>by omega) c0.out.size),fun _=>⟨by rw[<-HN.out];exact h0,r1,r2,HA.out.1,HA.out.2.1,a7.out.2.1,HA.out.2.2.1,a7.out.2.2.1,fun b hb=>⟨(HA.out.2.2.2 b hb).1,(a7.out.2.2.2 b hb).1,(HA.out.2.2.2 b hb).2,(a7.out.2.2.2 b hb).2⟩,hk _ _ _ _ d5.out,hk _ _ _ _ d6.out⟩⟩
    ·go_wp2
     have a6:Fw (fun b=>b=w.heap.size+2) w3 (w3.setCell ⟨w.heap.size+2,1,none⟩ (.slice P2 p2 q2)):=(Fw.refl (fun b=>b=w.heap.size+2) _).setCell (p:=⟨w.heap.size+2,1,none⟩) (.inl rfl) _
     have b7:Below w.heap.size w (w3.setCell ⟨w.heap.size+2,1,none⟩ (.slice P2 p2 q2)):=a9.out.trans (a6.toBelow (fun x hx=>by omega) a9.out.size)
     refine bodyPost_ret (uel rfl _ _ (w.heap.size+1) 34 #[.slice none 0 0,.slice none 0 0] (0,0) _ rfl (ucc (Bk.fw b1.out a6 (by omega))) Tryz.underlying34 rfl (by kernel_rfl)) rfl ?_
     exact⟨_,_,_,_,_,_,_,rfl,(b7.setCell (p:=⟨w.heap.size+1,0,none⟩) (by show w.heap.size<=w.heap.size+1;omega) _).setCell (p:=⟨w.heap.size+1,1,none⟩) (by show w.heap.size<=w.heap.size+1;omega) _,fun h=>absurd h b9⟩
   ·obtain⟨f7,f8,_⟩:=b0.out.facts
    go_wp2;have a6:Fw (fun b=>b=w.heap.size+2) w1 (w1.setCell ⟨w.heap.size+2,0,none⟩ (.slice P1 p1 q1)):=(Fw.refl (fun b=>b=w.heap.size+2) _).setCell (p:=⟨w.heap.size+2,0,none⟩) (.inl rfl) _
    have b7:Below w.heap.size w (w1.setCell ⟨w.heap.size+2,0,none⟩ (.slice P1 p1 q1)):=a8.out.trans (a6.toBelow (fun x hx=>by omega) a8.out.size)
    refine bodyPost_ret (uel rfl _ _ (w.heap.size+1) 34 #[.slice none 0 0,.slice none 0 0] (0,0) _ rfl (ucc (Bk.fw b0.out a6 (by omega))) Tryz.underlying34 rfl (by kernel_rfl)) rfl ?_
    exact⟨_,_,_,_,_,_,_,rfl,(b7.setCell (p:=⟨w.heap.size+1,0,none⟩) (by show w.heap.size<=w.heap.size+1;omega) _).setCell (p:=⟨w.heap.size+1,1,none⟩) (by show w.heap.size<=w.heap.size+1;omega) _,fun h=>absurd h b8⟩
set_option maxHeartbeats 200000
set_option maxRecDepth 512
def uo1(n:Int):Int:=max n (-n)
def uyy(n:Int)(first:Bool):List UInt8:=if n<0 then(if first=true then [45]else [32,45,32])else(if first=true then []else [32,43,32])
theorem uh7(n:Int)(first:Bool):(uyy n first).length<=3:=by
 unfold uyy;split<;>split<;>simp
set_option maxHeartbeats 16000000
set_option maxRecDepth 100000
theorem uor(w:World)(bw:Nat)(l:List UInt8)(n:Int)(first:Bool)(h1 : -1048576<=n)(h2:n<=1048576)(hd:Dst w bw l)(hl:l.length<=200000) :
 Calls Tryz.prog 152 #[.pointer (some ⟨bw,0,none⟩),.int .i64 n,.bool first] w (fun e w'=>e = .returned (.int .i64 (uo1 n))/\Wfr bw w w'/\Dst w' bw (l++uyy n first)):=by
 have HD:=hid hd;have a1:=hd.lt;clear hd;unfold uyy;by_cases hn:n<0
 ·rw[if_pos hn]
  cases first with
  | true=>
   rw[if_pos rfl];go_enter Tryz.func152,Tryz.ntmps152
   go_wp2_with fail
   refine(uS w bw l ⟨#[45]⟩ HD.out (by show l.length+1<=262144;omega)).mono ?_
   rintro e w2⟨rfl,hf,hd⟩;have HF:=hid hf;have a0:Hid (Dst w2 bw (l++[45])):=hd;clear hf hd;go_wp2;go_ret
   exact⟨rfl,HF.out,a0.out⟩
  | false=>
   rw[if_neg (by decide)]
   go_enter Tryz.func152,Tryz.ntmps152
   go_wp2_with fail
   refine(uS w bw l ⟨#[32,45,32]⟩ HD.out (by show l.length+3<=262144;omega)).mono ?_
   rintro e w2⟨rfl,hf,hd⟩;have HF:=hid hf;have a0:Hid (Dst w2 bw (l++[32,45,32])):=hd;clear hf hd;go_wp2;go_ret
   exact⟨rfl,HF.out,a0.out⟩
 ·rw[if_neg hn]
  cases first with
  | true=>
   rw[if_pos rfl];go_enter Tryz.func152,Tryz.ntmps152
   go_wp2;go_ret
   exact⟨rfl,Wfr.refl _ _,by first|exact HD.out|(rw[List.append_nil];exact HD.out)⟩
  | false=>
   rw[if_neg (by decide)]
   go_enter Tryz.func152,Tryz.ntmps152
   go_wp2_with fail
   refine(uS w bw l ⟨#[32,43,32]⟩ HD.out (by show l.length+3<=262144;omega)).mono ?_
   rintro e w2⟨rfl,hf,hd⟩;have HF:=hid hf;have a0:Hid (Dst w2 bw (l++[32,43,32])):=hd;clear hf hd;go_wp2;go_ret
   exact⟨rfl,HF.out,a0.out⟩
set_option maxHeartbeats 200000
set_option maxRecDepth 512
def ltT(t:Int×Int)(first:Bool):List UInt8:=uyy t.2 first++((if uo1 t.2=1 then []else Lib.itoa (uo1 t.2)++[42])++(if t.1 = -1 then [114,101,115]else 118::Lib.itoa t.1))
def uhi:Bool->List (Int×Int)->List UInt8
 | _,[]=>[]
 | f,t::l=>ltT t f++uhi false l
def uyz(l:Lin):List UInt8:=uhi true l.ts++(if l.c≠0\/l.ts.length=0 then uyy l.c (decide (l.ts.length=0))++Lib.itoa (uo1 l.c)else [])
theorem uh8{n:Int}(h1 : -1048576<=n)(h2:n<=1048576):rng (uo1 n):=by
 unfold uo1 rng;omega
theorem uFk{t:Int×Int}{f:Bool}(h1 : -1048576<=t.2)(h2:t.2<=1048576)(h3:rng t.1):(ltT t f).length<=50:=by
 have e1:=uh7 t.2 f;have e2:=uak (uh8 h1 h2);have e3:=uak h3;unfold ltT;rw[ay,ay];have e4:(if uo1 t.2=1 then []else Lib.itoa (uo1 t.2)++[42]:List UInt8).length<=22:=by
  split
  ·simp
  ·rw[ay,List.length_singleton];omega
 have e5:(if t.1 = -1 then [114,101,115]else 118::Lib.itoa t.1:List UInt8).length<=22:=by
  split
  ·simp
  ·rw[aB];omega
 omega
theorem uos:∀(f:Bool) (l:List (Int×Int)) (t:Int×Int),uhi f (l++[t])=uhi f l++ltT t (f&&l.isEmpty)
 | f,[],t=>by
  show ltT t f++uhi false []=[]++_
  rw[uhi,List.append_nil,List.nil_append,List.isEmpty_nil,Bool.and_true]
 | f,a::l,t=>by
  rw[List.cons_append,uhi,uos false l t,uhi,aS];simp
theorem umj:∀(f:Bool) (l:List (Int×Int)),(∀t∈l, -1048576<=t.2/\t.2<=1048576/\rng t.1)->(uhi f l).length<=50*l.length
 | _,[],_=>by simp[uhi]
 | f,t::l,h=>by
  have h1:=h t (by simp)
  have h2:=umj false l fun x hx=>h x (by simp[hx])
  have h3:=uFk (f:=f) h1.1 h1.2.1 h1.2.2;rw[uhi,ay,aB];omega
theorem umk{l:Lin}(h:uof l):∀t∈l.ts, -1048576<=t.2/\t.2<=1048576/\rng t.1:=fun t ht=>by
 obtain⟨i,hi,rfl⟩:=aW ht;obtain⟨h1,h2,h3,_⟩:=h.2.2 i hi;refine⟨h3.1,h3.2,?_⟩;unfold rng;omega
theorem uyh{ts:List (Int×Int)}{j:Nat}(h:j<ts.length):uhi true (ts.take (j+1))=uhi true (ts.take j)++ltT ts[j] (decide (j=0)):=by
 rw[aJ h,uos];congr 2
 cases ts with
 | nil=>simp at h
 | cons a ts=>cases j<;>simp
theorem uHj(t:Int×Int)(f:Bool):ltT t f≠[]:=by
 unfold ltT;intro h;have h2:=(List.append_eq_nil_iff.1 (List.append_eq_nil_iff.1 h).2).2;split at h2<;>cases h2
theorem uFl{l:Lin}(h:l.ts.length≠0):uyz l≠[]:=by
 obtain⟨c,ts⟩:=l;cases ts with
 | nil=>exact absurd rfl h
 | cons a ts=>
  intro e;unfold uyz at e;have e2:=(List.append_eq_nil_iff.1 e).1;rw[uhi]at e2;exact uHj _ _ (List.append_eq_nil_iff.1 e2).1
set_option maxHeartbeats 16000000
set_option maxRecDepth 100000
theorem uqk{D:Nat->Prop}(l:Lin)(v:List Value)(w:World)(h:uoz w D l v)(hv:uof l)(e2:l.ts.length≠0)(hg:Gp w) :
 Calls Tryz.prog 92 #[.agg v.toArray] w (ud7 (uyz l) w):=by
 have KV:Hid (∀x,Below w.heap.size w x->Calls Tryz.prog 148 #[.agg v.toArray] x (uY (.bool true) x)):=fun x hx=>by
  have:=ukr l v x (uoz.vAb (uc.of hx) h);rw[ue0 hv]at this;exact this
 have f1:Hid (∀(i:Nat) (h:i<l.ts.length), -1048576<=l.ts[i].2/\l.ts[i].2<=1048576/\rng l.ts[i].1):=fun i h=>umk hv _ (aq h)
 have d7:Hid (∀j,(uhi true (l.ts.take j)).length<=800):=fun j=>by
  have h1:=umj true (l.ts.take j) fun t ht=>umk hv t (List.mem_of_mem_take ht)
  have h2:=hv.2.1;rw[List.length_take]at h1;omega
 have HC:=hid hv.1;have d8:=hid (uFl e2);have c6:Hid (uyz l=uhi true l.ts++(if l.c≠0\/l.ts.length=0 then uyy l.c (decide (l.ts.length=0))++Lib.itoa (uo1 l.c)else [])):=rfl
 obtain⟨g4,A,n,c,rfl,hs⟩:=h;have e0:LtS w (· < w.heap.size) l.ts A n c:=LtS.sub (fun b hb _=>hb) hs
 have hn:n=l.ts.length:=hs.1;have h6:=hs.2.1;have f6:c<=maxLen:=hs.2.2.1;unfold maxLen at f6;have HS:=hid e0;have HN:=hid hn;have f8:n≠0:=by omega
 have HG:=hid hg;have h5:n<=16:=by have:=hv.2.1;omega
 rw[<-hn]at c6;generalize uyz l=q at *;generalize l.c=x0 at *;generalize l.ts=ts at *;clear hs e0 hn hg hv g4 e2;show Calls Tryz.prog 92 #[.agg #[.int .i64 x0,.slice A n c]] w _
 go_enter Tryz.func92,Tryz.ntmps92
 go_upto_region 1 with(fail)
 obtain⟨W0,hW⟩:∃W,W=w.alloc (.cells #[.int .i64 x0,.slice A n c] 126):=⟨_,rfl⟩;have d2:Hid (Below w.heap.size w W0):=by rw[hW];exact aa.alloc ab _
 have c7:Hid (Bk W0 w.heap.size 126 #[.int .i64 x0,.slice A n c]):=by rw[hW];exact Bk.new _ _ _
 rw[<-hW];clear hW;obtain⟨f9,_,_⟩:=c7.out.facts;go_wp2_with fail
 refine(KV.out W0 d2.out).mono ?_;rintro e w1⟨rfl,hb⟩;have d5:=hid (d2.out.trans (hb.mono d2.out.size));have c8:=hid (c7.out.below hb c7.out.lt);clear hb f9;go_upto_region 4 with(fail)
 have b0:=Dst.new w1;obtain⟨W,hW⟩:∃W,W=w1.alloc (.cells #[.pointer none,.slice none 0 0] 154):=⟨_,rfl⟩;rw[<-hW]at b0;have d0:Hid (Below w1.heap.size w1 W):=by rw[hW];exact aa.alloc ab _
 rw[<-hW];clear hW;have HD:=hid b0;have HP:=hid (c8.out.below d0.out c8.out.lt);have b1:=hid (d5.out.trans (d0.out.mono d5.out.size));have h9:w.heap.size<w1.heap.size:=c8.out.lt;have b2:Hid (Gp W):=HG.out.below b1.out HG.out.2;have b4:Hid (GP<=w1.heap.size):=by have:=HG.out.2;exact hid (by omega)
 have h0:w1.heap.size<W.heap.size:=b0.lt;generalize w1.heap.size=bw at *;clear b0 d0;obtain⟨g0,_,_⟩:=HP.out.facts;go_wp2;clear g0;go_loopw [13] (fun jv wr=>∃(j:Nat),j<=n/\jv = .int .i64 j/\Hid (Wfr bw W wr)/\Hid (Dst wr bw (uhi true (ts.take j)))) (fun jv _=>n-(intOf jv).toNat)
 case atStart=>exact⟨0,by omega,rfl,hid (Wfr.refl _ _),by rw[List.take_zero,uhi];exact HD⟩
 case round=>
  obtain⟨j,hj,rfl,HF,c4⟩:=hrel;by_cases h4:j<n
  ·have d3:j<ts.length:=by have:=HN.out;omega
   have hS:LtS wr (· < w.heap.size) ts A n c:=LtS.vAb ⟨ag b1.out.size HF.out.1.size,fun b hb hD=>(HF.out.1.block b (by omega)).trans (b1.out.block b hD)⟩ HS.out
   obtain⟨b,off,v,rfl,hD,hb,hc,g2,g3,rfl⟩:=hS.get d3;have c0:=hc 0 _ rfl;rw[Nat.add_zero]at c0;have c1:=hc 1 _ rfl;obtain⟨m1,m2,m3⟩:=f1.out j d3;have b3:=hid (uyh d3);have e3:=d7.out j;obtain⟨f,hf⟩:∃f:Bool,decide (j=0)=f:=⟨_,rfl⟩;have h3:((j:Int)==0)=f:=by
    rw[<-hf];by_cases e1:j=0
    ·subst e1;rfl
    ·rw[aQ e1,aw];omega
   rw[hf]at b3;have a3:Hid (ltT ts[j] f=uyy ts[j].2 f++((if uo1 ts[j].2=1 then []else Lib.itoa (uo1 ts[j].2)++[42])++(if ts[j].1 = -1 then [114,101,115]else 118::Lib.itoa ts[j].1))):=rfl
   generalize ts[j]=tj at *;obtain⟨z1,z2⟩:=tj;simp only at m1 m2 m3 c0 c1 a3;clear hc hS hD g2 g3;go_upto_region 7 with(fail)
   obtain⟨C,hC⟩:∃C,C=wr.alloc (.cells #[.int .i64 z1,.int .i64 z2] 131):=⟨_,rfl⟩;have d1:Below wr.heap.size wr C:=by rw[hC];exact aa.alloc ab _
   have d9:Hid (Bk C wr.heap.size 131 #[.int .i64 z1,.int .i64 z2]):=by rw[hC];exact Bk.new _ _ _
   have g9:bw<wr.heap.size:=c4.out.lt;have d6:=hid (HF.out.below d1 (Nat.le_of_lt g9));have b8:=hid (c4.out.below d1);have e9:=hid (b2.out.below d6.out.1 b4.out);rw[<-hC];clear hC d1 c0 c1 hf;obtain⟨g6,_,_⟩:=d9.out.facts;go_wp2_with fail
   refine(uor C bw _ z2 f m1 m2 b8.out (by omega)).mono ?_
   rintro e w2⟨rfl,a0,hd⟩;have a7:=hid (d6.out.trans a0);have c9:=hid (a0.2 _ _ _ (by omega) (by decide) d9.out)
   have a4:=hid hd;have b9:=hid (b2.out.below a7.out.1 b4.out);have g5:=uh7 z2 f;clear a0 hd g6;obtain⟨g7,_,_⟩:=c9.out.facts;have b5:=uh8 m1 m2;have f7:=uak b5;generalize uo1 z2=az at *;by_cases h1:az=1
   ·subst h1
    by_cases b7:z1 = -1
    ·subst b7
     have e:=a3.out;rw[if_pos rfl,if_pos rfl]at e;have HE:=hid e;clear e a3;go_wp2_with fail
     refine(uS w2 bw _ ⟨#[114,101,115]⟩ a4.out (by rw[ay];show _+3<=262144;omega)).mono ?_
     rintro e w3⟨rfl,a0,hd⟩;have a8:=hid (a7.out.trans a0);have a5:Hid (Dst w3 bw (uhi true (ts.take (j+1)))):=by
      rw[b3.out,HE.out,<-aS,List.nil_append];exact hd
     clear a0 hd;go_wp2;go_roundw
     case rel=>exact⟨j+1,by omega,by go_num,a8,a5⟩
     case measure=>simp[intOf];omega
    ·have e:=a3.out
     rw[if_pos rfl,if_neg b7]at e;have HE:=hid e;clear e a3;have g8:=uak m3;go_wp2_with fail
     refine(ud8 w2 z1 m3 b9.out).mono ?_;rintro e w3⟨rfl,a1⟩;have a8:=hid (a7.out.below a1 (Nat.le_of_lt a4.out.lt));have a5:=hid (a4.out.below a1);clear a1;go_wp2_with fail
     obtain⟨t,ht⟩:∃t,(⟨#[118]⟩++⟨(Lib.itoa z1).toArray⟩:ByteArray)=t:=⟨_,rfl⟩;have a2:t.data.toList=118::Lib.itoa z1:=by rw[<-ht];simp
     have b6:t.size<=25:=by
      have:t.data.toList.length=t.size:=by rw[aM];rfl
      rw[<-this,a2];simp;omega
     rw[ht];clear ht;refine(uS w3 bw _ t a5.out (by rw[ay];omega)).mono ?_
     rintro e w4⟨rfl,a0,hd⟩;have a9:=hid (a8.out.trans a0);have a6:Hid (Dst w4 bw (uhi true (ts.take (j+1)))):=by
      rw[b3.out,HE.out,<-aS,List.nil_append,<-a2];exact hd
     clear a0 hd a2 b6;go_wp2;go_roundw
     case rel=>exact⟨j+1,by omega,by go_num,a9,a6⟩
     case measure=>simp[intOf];omega
   ·go_wp2_with fail
    refine(ue1 w2 az b5 b9.out).mono ?_;rintro e w3⟨rfl,a1⟩;have a8:=hid (a7.out.below a1 (Nat.le_of_lt a4.out.lt));have f3:=hid (c9.out.below a1 c9.out.lt);have a5:=hid (a4.out.below a1);clear a1 g7;go_wp2_with fail
    obtain⟨t,ht⟩:∃t,(⟨(Lib.itoa az).toArray⟩++⟨#[42]⟩:ByteArray)=t:=⟨_,rfl⟩;have a2:t.data.toList=Lib.itoa az++[42]:=by rw[<-ht];simp
    have b6:t.size<=25:=by
     have:t.data.toList.length=t.size:=by rw[aM];rfl
     rw[<-this,a2];simp;omega
    rw[ht];clear ht;refine(uS w3 bw _ t a5.out (by rw[ay];omega)).mono ?_
    rintro e w4⟨rfl,a0,hd⟩;have a9:=hid (a8.out.trans a0);have f4:=hid (a0.2 _ _ _ (by omega) (by decide) f3.out)
    have a6:Hid (Dst w4 bw (uhi true (ts.take j)++uyy z2 f++(Lib.itoa az++[42]))):=by
     rw[<-a2];exact hd
    have f0:=hid (b2.out.below a9.out.1 b4.out);clear a0 hd a2 b6;obtain⟨h8,_,_⟩:=f4.out.facts;by_cases b7:z1 = -1
    ·subst b7
     have e:=a3.out;rw[if_neg h1,if_pos rfl]at e;have HE:=hid e;clear e a3;go_wp2_with fail
     refine(uS w4 bw _ ⟨#[114,101,115]⟩ a6.out (by rw[ay,ay,ay,List.length_singleton];show _+3<=262144;omega)).mono ?_
     rintro e w5⟨rfl,a0,hd⟩;have c5:=hid (a9.out.trans a0);have c3:Hid (Dst w5 bw (uhi true (ts.take (j+1)))):=by
      rw[b3.out,HE.out];have:=hd;show Dst w5 bw _
      simp only[aS]at this ⊢;exact this
     clear a0 hd;go_wp2;go_roundw
     case rel=>exact⟨j+1,by omega,by go_num,c5,c3⟩
     case measure=>simp[intOf];omega
    ·have e:=a3.out
     rw[if_neg h1,if_neg b7]at e;have HE:=hid e;clear e a3;have g8:=uak m3;go_wp2_with fail
     refine(ud8 w4 z1 m3 f0.out).mono ?_;rintro e w5⟨rfl,a1⟩;have c5:=hid (a9.out.below a1 (Nat.le_of_lt a6.out.lt));have c3:=hid (a6.out.below a1);clear a1;go_wp2_with fail
     obtain⟨t,ht⟩:∃t,(⟨#[118]⟩++⟨(Lib.itoa z1).toArray⟩:ByteArray)=t:=⟨_,rfl⟩;have a2:t.data.toList=118::Lib.itoa z1:=by rw[<-ht];simp
     have b6:t.size<=25:=by
      have:t.data.toList.length=t.size:=by rw[aM];rfl
      rw[<-this,a2];simp;omega
     rw[ht];clear ht;refine(uS w5 bw _ t c3.out (by rw[ay,ay,ay,List.length_singleton];omega)).mono ?_
     rintro e w6⟨rfl,a0,hd⟩;have e8:=hid (c5.out.trans a0);have e6:Hid (Dst w6 bw (uhi true (ts.take (j+1)))):=by
      rw[b3.out,HE.out];have:=hd;rw[a2]at this;show Dst w6 bw _
      simp only[aS]at this ⊢;exact this
     clear a0 hd a2 b6;go_wp2;go_roundw
     case rel=>exact⟨j+1,by omega,by go_num,e8,e6⟩
     case measure=>simp[intOf];omega
  ·obtain rfl:j=n:=by omega
   have e3:=d7.out j;have f2:=hid (HF.out.2 _ _ _ (by omega) (by decide) HP.out)
   have b8:Hid (Dst wr bw (uhi true ts)):=by
    have:=c4.out;rw[List.take_of_length_le (by have:=HN.out;omega)]at this
    exact this
   rw[List.take_of_length_le (by have:=HN.out;omega)]at e3
   have e9:=hid (b2.out.below HF.out.1 b4.out);have h7:¬(j:Int)=0:=by omega
   obtain⟨g1,_,_⟩:=f2.out.facts;by_cases c2:x0=0
   ·have HQ:Hid (q=uhi true ts):=by
     rw[c6.out,if_neg (by rintro(h|h);exact h c2;omega),List.append_nil]
     exact hid rfl
    subst c2;have e7:Hid (Dst wr bw q):=by rw[HQ.out];exact b8
    have d4:q.length<=262144:=by rw[HQ.out];omega
    go_wp2_with fail
    refine(ude wr bw q e7.out d8.out d4).mono ?_;rintro e w4⟨rfl,hb⟩;have e4:Hid (Below w.heap.size w w4):=(b1.out.trans (HF.out.1.mono (by omega))).trans (hb.mono (by omega))
    clear hb;go_wp2;go_ret
    exact⟨rfl,e4.out⟩
   ·have HQ:Hid (q=uhi true ts++(uyy x0 false++Lib.itoa (uo1 x0))):=by
     have b0:decide (j=0)=false:=aQ f8;rw[c6.out,if_pos (.inl c2),b0];exact hid rfl
    have j0:¬x0=(0:Int):=c2;go_wp2_with fail
    have f5:((j:Int)==0)=false:=by rw[aw];omega
    rw[f5];refine(uor wr bw _ x0 false HC.out.1 HC.out.2 b8.out (by omega)).mono ?_
    rintro e w2⟨rfl,a0,hd⟩;have a7:=hid (HF.out.trans a0);have a4:=hid hd;have b9:=hid (b2.out.below a7.out.1 b4.out);have g5:=uh7 x0 false;have b5:=uh8 HC.out.1 HC.out.2;have f7:=uak b5;clear a0 hd g1;go_wp2_with fail
    refine(ue1 w2 (uo1 x0) b5 b9.out).mono ?_;rintro e w3⟨rfl,a1⟩;have a8:=hid (a7.out.below a1 (Nat.le_of_lt a4.out.lt));have a5:=hid (a4.out.below a1);clear a1;go_wp2_with fail
    refine(uS w3 bw _ ⟨(Lib.itoa (uo1 x0)).toArray⟩ a5.out (by rw[ay];show _+(Lib.itoa (uo1 x0)).toArray.size<=262144;simp;omega)).mono ?_
    rintro e w4⟨rfl,a0,hd⟩;have a9:=hid (a8.out.trans a0);have a6:Hid (Dst w4 bw q):=by
     rw[HQ.out,<-aS];exact hd
    have d4:q.length<=262144:=by
     rw[HQ.out,ay,ay];omega
    clear a0 hd;go_wp2_with fail
    refine(ude w4 bw _ a6.out d8.out d4).mono ?_;rintro e w5⟨rfl,hb⟩;have e5:Hid (Below w.heap.size w w5):=(b1.out.trans (a9.out.1.mono (by omega))).trans (hb.mono (by omega))
    clear hb;go_wp2;go_ret
    exact⟨rfl,e5.out⟩
set_option maxHeartbeats 200000
set_option maxRecDepth 512
def uut(l:List Fac):List UInt8:=l.flatMap fun f=>ugg f.v f.i
def atT(a:Ato):List UInt8:=97::(Lib.itoa a.d++58::uyz a.l)
def uy0(m:Mon):List UInt8:=uut m.fs++m.ats.flatMap atT
theorem uml{α:Type}(f:α->List UInt8)(K:Nat):∀l:List α,(∀x∈l,(f x).length<=K)->(l.flatMap f).length<=l.length*K
 | [],_=>by simp
 | x::l,h=>by
  have h1:=h x (by simp)
  have h2:=uml f K l fun y hy=>h y (by simp[hy])
  rw[List.flatMap_cons,ay,aB,Nat.succ_mul];omega
theorem uot{α:Type}(f:α->List UInt8){l:List α}{j:Nat}(h:j<l.length):(l.take (j+1)).flatMap f=(l.take j).flatMap f++f l[j]:=by
 rw[aJ h,List.flatMap_append];simp
theorem uB5{v:Int}{i:Ix}(hv:rng v)(hi:i.rg)(a0:i.sz<=50):(ugg v i).length<=1250:=by
 have h1:=uak hv;have h2:=ulq hi;unfold ugg;simp only[aB,ay];omega
theorem uB6{l:Lin}(h:uof l):(uyz l).length<=830:=by
 have h1:=umj true l.ts (umk h);have h2:=h.2.1;have h3:=uh7 l.c (decide (l.ts.length=0));have h4:=uak (uh8 h.1.1 h.1.2);unfold uyz;rw[ay];split
 ·rw[ay];omega
 ·simp;omega
theorem uFm{a:Ato}(h:uof a.l)(hd:rng a.d):(atT a).length<=860:=by
 have h1:=uB6 h;have h2:=uak hd;unfold atT;simp only[aB,ay];omega
def Mon.vA4(m:Mon):Prop:=m.fs.length<=100/\m.ats.length<=100/\(∀f∈m.fs,f.i.sz<=50)/\∀a∈m.ats,uof a.l/\a.l.ts.length≠0
set_option maxHeartbeats 16000000
set_option maxRecDepth 100000
theorem uql{D:Nat->Prop}(m:Mon)(mv:List Value)(w:World)(h:uU w D m mv)(hk:m.vA4)(f1:uy0 m≠[])(hg:Gp w) :
 Calls Tryz.prog 44 #[.agg mv.toArray] w (ud7 (uy0 m) w):=by
 obtain⟨A,n,c,A',n',c',rfl,a6,a5⟩:=h;obtain⟨h0,h4,b3,a7⟩:=hk;have hn:n=m.fs.length:=a6.1;have f2:n'=m.ats.length:=a5.1;have j7:=a6.2.1;have j8:=a5.2.1;have g7:c<=maxLen:=a6.2.2.1;have g9:c'<=maxLen:=a5.2.2.1;unfold maxLen at g7 g9;have e7:uhl w (· < w.heap.size) m.fs A n c:=a6.sub fun b hb _=>hb
 have e8:uht w (· < w.heap.size) m.ats A' n' c':=a5.sub fun b hb _=>hb
 have a1:∀f∈m.fs,(ugg f.v f.i).length<=1250:=fun f hf=>by
  obtain⟨i,hi,rfl⟩:=aW hf;obtain⟨b,off,v,_,_,_,_,hr⟩:=a6.get hi;obtain⟨r1,B,k1,k2,_,r2⟩:=hr;exact uB5 r1 r2.rg (b3 _ hf)
 have d1:∀a∈m.ats,(atT a).length<=860:=fun a ha=>by
  obtain⟨i,hi,rfl⟩:=aW ha;obtain⟨b,off,v,_,_,_,_,hr⟩:=a5.get hi;exact uFm (a7 _ ha).1 hr.1
 have e2:Hid (∀j,(uut (m.fs.take j)).length<=125000):=fun j=>by
  have h1:=uml (fun f:Fac=>ugg f.v f.i) 1250 (m.fs.take j) fun x hx=>a1 x (List.mem_of_mem_take hx)
  have h2:(m.fs.take j).length<=100:=by rw[List.length_take];omega
  have h3:(m.fs.take j).length*1250<=100*1250:=aF _ h2;unfold uut;omega
 have e3:Hid (∀j,((m.ats.take j).flatMap atT).length<=86000):=fun j=>by
  have h1:=uml atT 860 (m.ats.take j) fun x hx=>d1 x (List.mem_of_mem_take hx)
  have h2:(m.ats.take j).length<=100:=by rw[List.length_take];omega
  have h3:(m.ats.take j).length*860<=100*860:=aF _ h2;omega
 have f7:Hid (∀(j:Nat) (h:j<m.fs.length),m.fs[j].i.sz<=50):=fun j h=>b3 _ (aq h)
 have f8:Hid (∀(j:Nat) (h:j<m.ats.length),uof m.ats[j].l/\m.ats[j].l.ts.length≠0):=fun j h=>a7 _ (aq h)
 have f9:Hid (∀(j:Nat) (h:j<m.fs.length),(ugg m.fs[j].v m.fs[j].i).length<=1250):=fun j h=>a1 _ (aq h)
 have g0:Hid (∀(j:Nat) (h:j<m.ats.length),(atT m.ats[j]).length<=860):=fun j h=>d1 _ (aq h)
 have HQ:Hid (uy0 m=uut m.fs++m.ats.flatMap atT):=rfl;have HN:=hid hn;have c8:=hid f2;have g2:=hid e7;have g3:=hid e8;have g1:=hid f1;have HG:=hid hg;generalize uy0 m=q at *;generalize m.fs=fs at *;generalize m.ats=ats at *;have j6:n<=100/\n'<=100:=by omega
 clear a6 a5 e7 e8 a1 d1 h0 h4 b3 a7 hn f2 f1 hg;show Calls Tryz.prog 44 #[.agg #[.slice A n c,.slice A' n' c']] w _
 go_enter Tryz.func44,Tryz.ntmps44
 go_upto_region 2 with(fail)
 obtain⟨W0,b1⟩:∃W,W=w.alloc (.cells #[.slice A n c,.slice A' n' c'] 83):=⟨_,rfl⟩;have d2:Hid (Below w.heap.size w W0):=by rw[b1];exact aa.alloc ab _
 have c9:Hid (Bk W0 w.heap.size 83 #[.slice A n c,.slice A' n' c']):=by rw[b1];exact Bk.new _ _ _
 have f3:W0.heap.size=w.heap.size+1:=by rw[b1];simp
 rw[<-b1];clear b1;have b2:=Dst.new W0;rw[f3]at b2;obtain⟨W,hW⟩:∃W,W=W0.alloc (.cells #[.pointer none,.slice none 0 0] 154):=⟨_,rfl⟩;rw[<-hW]at b2;have d3:Hid (Below W0.heap.size W0 W):=by rw[hW];exact aa.alloc ab _
 rw[<-hW];clear hW;have HD:=hid b2;have a3:=hid (d2.out.trans (d3.out.mono d2.out.size));have HP:=hid (c9.out.below d3.out c9.out.lt);have j5:w.heap.size+1<W.heap.size:=b2.lt;have e1:Hid (Gp W):=HG.out.below a3.out HG.out.2;have e6:Hid (GP<=w.heap.size+1):=by have:=HG.out.2;exact hid (by omega)
 clear b2 d2 d3 c9 f3;obtain⟨h9,_,_⟩:=HP.out.facts;go_wp2;clear h9;go_loopw [11] (fun jv wr=>∃(j:Nat),j<=n/\jv = .int .i64 j/\Hid (Wfr (w.heap.size+1) W wr)/\Hid (Dst wr (w.heap.size+1) (uut (fs.take j)))) (fun jv _=>n-(intOf jv).toNat)
 case atStart=>exact⟨0,by omega,rfl,hid (Wfr.refl _ _),by rw[List.take_zero];exact HD⟩
 case round=>
  obtain⟨j,hj,rfl,HF,a2⟩:=hrel;by_cases h8:j<n
  ·have b8:j<fs.length:=by have:=HN.out;omega
   have hS:uhl wr (· < w.heap.size) fs A n c:=uhl.vAb ⟨ag a3.out.size HF.out.1.size,fun b hb hD=>(HF.out.1.block b (by omega)).trans (a3.out.block b hD)⟩ g2.out
   obtain⟨b,off,v,rfl,hD,hb,hc,b5,B,kn,kc,rfl,b4⟩:=hS.get b8;have c0:=hc 0 _ rfl;rw[Nat.add_zero]at c0;have c1:=hc 1 _ rfl;have c2:=hc 2 _ rfl;have d0:Hid (uut (fs.take (j+1))=uut (fs.take j)++ugg fs[j].v fs[j].i):=uot (fun f:Fac=>ugg f.v f.i) b8
   have h5:=e2.out j;have f0:=f9.out j b8;have b3:=f7.out j b8;generalize fs[j]=fd at *;have b0:=hid (And.intro b5 b4);generalize hy0:fd.v=y0 at *;generalize hy1:fd.i.k=y1 at *;clear b4 b5 hc hD hS;go_upto_region 5 with(fail)
   obtain⟨C,hC⟩:∃C,C=wr.alloc (.cells #[.int .i64 y0,.int .i64 y1,.slice B kn kc] 122):=⟨_,rfl⟩;have a0:Below wr.heap.size wr C:=by rw[hC];exact aa.alloc ab _
   have b6:Hid (Bk C wr.heap.size 122 #[.int .i64 y0,.int .i64 y1,.slice B kn kc]):=by rw[hC];exact Bk.new _ _ _
   have d9:w.heap.size+1<wr.heap.size:=a2.out.lt;have a9:=hid (HF.out.below a0 (Nat.le_of_lt d9));have a8:=hid (a2.out.below a0);have a4:=hid (e1.out.below a9.out.1 e6.out);have KF:=hid (use y0 fd.i _ C b0.out.1 (b0.out.2.vAb (uc.of a0)) b3 a4.out);rw[<-hC];clear hC a0 c0 c1 c2;obtain⟨j4,_,_⟩:=b6.out.facts;go_wp2_with fail
   refine KF.out.mono ?_;rintro e w2⟨rfl,d4⟩;have c6:=hid (a9.out.below d4 (Nat.le_of_lt a8.out.lt));have c4:=hid (a8.out.below d4);clear d4 j4;generalize ugg y0 fd.i=kt at *;go_wp2_with fail
   refine(uS w2 (w.heap.size+1) _ ⟨kt.toArray⟩ c4.out (by show _+kt.toArray.size<=262144;simp;omega)).mono ?_
   rintro e w3⟨rfl,a1,hd⟩;have c7:=hid (c6.out.trans a1);have c5:Hid (Dst w3 (w.heap.size+1) (uut (fs.take (j+1)))):=by
    rw[d0.out];exact hd
   clear a1 hd;go_wp2;go_roundw
   case rel=>exact⟨j+1,by omega,by go_num,c7,c5⟩
   case measure=>simp[intOf];omega
  ·obtain rfl:j=n:=by omega
   have h6:=e2.out j;have e0:Hid (Dst wr (w.heap.size+1) (uut fs)):=by
    have:=a2.out;rw[List.take_of_length_le (by have:=HN.out;omega)]at this
    exact this
   rw[List.take_of_length_le (by have:=HN.out;omega)]at h6
   have e4:=hid (HF.out.2 _ _ _ (by omega) (by decide) HP.out)
   obtain⟨j0,_,_⟩:=e4.out.facts;go_wp2;clear j0;obtain⟨V1,e9⟩:∃x,x=wr:=⟨_,rfl⟩;rw[<-e9]at HF e0 e4 ⊢;clear a2 e9;go_loopw [25] (fun jv wr=>∃(j:Nat),j<=n'/\jv = .int .i64 j/\Hid (Wfr (w.heap.size+1) W wr)/\Hid (Dst wr (w.heap.size+1) (uut fs++(ats.take j).flatMap atT))) (fun jv _=>n'-(intOf jv).toNat)
   case atStart=>exact⟨0,by omega,rfl,HF,by rw[List.take_zero,List.flatMap_nil,List.append_nil];exact e0⟩
   case round=>
    obtain⟨i,hi,rfl,HF,a2⟩:=hrel;by_cases h8:i<n'
    ·have b7:i<ats.length:=by have:=c8.out;omega
     have hS:uht wr (· < w.heap.size) ats A' n' c':=uht.vAb ⟨ag a3.out.size HF.out.1.size,fun b hb hD=>(HF.out.1.block b (by omega)).trans (a3.out.block b hD)⟩ g3.out
     obtain⟨b,off,v,rfl,hD,hb,hc,b5,B,kn,kc,rfl,b4⟩:=hS.get b7;have c0:=hc 0 _ rfl;rw[Nat.add_zero]at c0;have c1:=hc 1 _ rfl;have c2:=hc 2 _ rfl;have d0:=hid (uot atT b7);have h5:=e3.out i;have f0:=g0.out i b7;have a7:=f8.out i b7;have f4:Hid (atT ats[i]=97::(Lib.itoa ats[i].d++58::uyz ats[i].l)):=rfl;generalize ats[i]=ad at *;have b0:=hid (And.intro b5 b4);generalize hy2:ad.d=y2 at *;generalize hy0:ad.l.c=y0 at *;clear b4 b5 hc hD hS;go_upto_region 10 with(fail)
     obtain⟨C,hC⟩:∃C,C=wr.alloc (.cells #[.int .i64 y0,.slice B kn kc,.int .i64 y2] 128):=⟨_,rfl⟩;have a0:Below wr.heap.size wr C:=by rw[hC];exact aa.alloc ab _
     have b6:Hid (Bk C wr.heap.size 128 #[.int .i64 y0,.slice B kn kc,.int .i64 y2]):=by rw[hC];exact Bk.new _ _ _
     have d9:w.heap.size+1<wr.heap.size:=a2.out.lt;have a9:=hid (HF.out.below a0 (Nat.le_of_lt d9));have a8:=hid (a2.out.below a0);have a4:=hid (e1.out.below a9.out.1 e6.out);obtain⟨s1,d6⟩:∃s:ByteArray,s=⟨(Lib.itoa y2).toArray⟩:=⟨_,rfl⟩;obtain⟨s2,d7⟩:∃s:ByteArray,s=⟨#[97]⟩++s1:=⟨_,rfl⟩;obtain⟨s3,b9⟩:∃s:ByteArray,s=s2++⟨#[58]⟩:=⟨_,rfl⟩;obtain⟨s4,d8⟩:∃s:ByteArray,s=⟨(uyz ad.l).toArray⟩:=⟨_,rfl⟩;obtain⟨s5,c3⟩:∃s:ByteArray,s=s3++s4:=⟨_,rfl⟩;have KI:Hid (∀x,Below C.heap.size C x->Calls Tryz.prog 91 #[.int .i64 y2] x (uY (.string s1) x)):=fun x hx=>by
      rw[d6];exact(ud8 x y2 b0.out.1 (a4.out.below hx a4.out.2)).mono fun e w' h=>h
     have KL:Hid (∀x,Below C.heap.size C x->Calls Tryz.prog 92 #[.agg #[.int .i64 y0,.slice B kn kc]] x (uY (.string s4) x)):=fun x hx=>by
      rw[d8];exact(uqk ad.l _ x (uoz.vAb (uc.of (a0.trans (hx.mono a0.size))) b0.out.2) a7.1 a7.2 (a4.out.below hx a4.out.2)).mono fun e w' h=>h
     have e5:Hid (s5.data.toList=atT ad):=by
      rw[f4.out,c3,d8,b9,d7,d6];exact hid (by simp)
     have g4:=hid d7.symm;have g5:=hid b9.symm;have g6:=hid c3.symm;have j9:s5.size<=860:=by
      have:s5.data.toList.length=s5.size:=by rw[aM];rfl
      rw[<-this,e5.out];exact f0
     have j3:s3.size<=1000000:=by have:=congrArg ByteArray.size c3;rw[ByteArray.size_append]at this;omega
     have j2:s2.size<=1000000:=by have:=congrArg ByteArray.size b9;rw[ByteArray.size_append]at this;omega
     rw[<-hC];clear hC a0 c0 c1 c2 d6 d7 b9 d8 c3;refine ue (⟨[(wr.heap.size,0,[.int .i64 y0,.slice B kn kc,.int .i64 y2])],[],[],[(7,.p 0 0)],[(2,.v (.string s1)),(3,.v (.string s2)),(4,.v (.string s3)),(7,.v (.string s4)),(8,.v (.string s5))]⟩:Sp) [29,30,31,32,33,34,35,36,37] C (aa.drew) (by kernel_rfl) (by kernel_rfl) (by kernel_rfl) sN (by kernel_rfl)
      (fun x hx=>(mI (ud (b6.out.below hx b6.out.lt)) mN)) (dI (ug [.v (.int .i64 y2)] rfl rfl (by kernel_rfl) (by kernel_rfl) fun x vs hx hC hv=>by
       obtain⟨v1,rfl,h1⟩:=ubg hv;obtain rfl:v1 = .int .i64 y2:=h1;refine(KI.out x hx).mono ?_;rintro en w2⟨rfl,hb⟩;exact⟨_,rfl,rfl,hb⟩) (
      dI (umi rfl rfl ⟨#[97]⟩ s1 s2 (by kernel_rfl) g4.out j2) (
      dI (umi rfl rfl s2 ⟨#[58]⟩ s3 (by kernel_rfl) g5.out j3) (
      dI (ug [.v (.agg #[.int .i64 y0,.slice B kn kc])] rfl rfl (by kernel_rfl) (by kernel_rfl) fun x vs hx hC hv=>by
       obtain⟨v1,rfl,h1⟩:=ubg hv;obtain rfl:v1 = .agg #[.int .i64 y0,.slice B kn kc]:=h1;refine(KL.out x hx).mono ?_;rintro en w2⟨rfl,hb⟩;exact⟨_,rfl,rfl,hb⟩) (
      dI (umi rfl rfl s3 s4 s5 (by kernel_rfl) g6.out (by omega)) (dN)))))) ?_
     intro S x1 d5 hS;obtain⟨g8,_⟩:S 8 = .string s5/\True:=hS (l:=[(8,.v (.string s5))]) (by kernel_rfl)
     clear hS;simp only[nv,Nat.reduceAdd,aB,aE,aC,List.drop_zero,g8];clear g8;have c6:=hid (a9.out.below d5 (Nat.le_of_lt a8.out.lt));have c4:=hid (a8.out.below d5);clear d5;go_wp2_with fail
     refine(uS x1 (w.heap.size+1) _ s5 c4.out (by rw[ay];omega)).mono ?_
     rintro e w3⟨rfl,a1,hd⟩;have c7:=hid (c6.out.trans a1);have c5:Hid (Dst w3 (w.heap.size+1) (uut fs++(ats.take (i+1)).flatMap atT)):=by
      rw[d0.out,<-e5.out,<-aS];exact hd
     clear a1 hd;go_wp2;go_roundw
     case rel=>exact⟨i+1,by omega,by go_num,c7,c5⟩
     case measure=>simp[intOf];omega
    ·obtain rfl:i=n':=by omega
     have h7:=e3.out i;rw[List.take_of_length_le (by have:=c8.out;omega)]at h7
     have f6:Hid (Dst wr (w.heap.size+1) q):=by
      have:=a2.out;rw[List.take_of_length_le (by have:=c8.out;omega)]at this
      rw[HQ.out];exact this
     have j1:q.length<=262144:=by
      rw[HQ.out,ay];omega
     go_wp2_with fail
     refine(ude wr (w.heap.size+1) q f6.out g1.out j1).mono ?_;rintro e w4⟨rfl,hb⟩;have f5:Hid (Below w.heap.size w w4):=(a3.out.trans (HF.out.1.mono (by omega))).trans (hb.mono (by omega))
     clear hb;go_wp2;go_ret
     exact⟨rfl,f5.out⟩
theorem uou(w:World)(bw:Nat)(p:Value)(hk:Bk w bw 154 #[p,.slice none 0 0]) :
 Calls Tryz.prog 93 #[.pointer (some ⟨bw,0,none⟩)] w (uY (.string ⟨#[]⟩) w):=by
 have c1:=hk.drew.cell 1;simp only[ae]at c1;have a0:(Builtin.unsafeSliceData_ #[152] 218 #[.slice none 0 0]).run Tryz.prog w.drew = .ok (.pointer none) w.drew:=Lib.run_unsafeSliceData_nil _ _ _ _ _;have a1:(Builtin.unsafeString_ #[218,3] 9 #[.pointer none,.int .i64 0]).run Tryz.prog w.drew = .ok (.string ⟨#[]⟩) w.drew:=Lib.run_unsafeString_none _ _ _ _ _;clear hk;go_enter Tryz.func93,Tryz.ntmps93
 go_wp2;go_region
 all_goals (go_wp2;go_ret;exact⟨rfl,aa.drew⟩)
theorem uov{D:Nat->Prop}(m:Mon)(mv:List Value)(w:World)(h:uU w D m mv)(h1:m.fs.length=0)(h2:m.ats.length=0) :
 Calls Tryz.prog 44 #[.agg mv.toArray] w (ud7 [] w):=by
 obtain⟨A,n,c,A',n',c',rfl,a1,a0⟩:=h;have hn:n=0:=a1.1.trans h1;have a5:n'=0:=a0.1.trans h2;subst hn;subst a5;have a3:c<=maxLen:=a1.2.2.1;have a4:c'<=maxLen:=a0.2.2.1;unfold maxLen at a3 a4;clear a1 a0 h1 h2;show Calls Tryz.prog 44 #[.agg #[.slice A 0 c,.slice A' 0 c']] w _
 go_enter Tryz.func44,Tryz.ntmps44
 go_upto_region 2 with(fail)
 obtain⟨W,hW⟩:∃W,W=(w.alloc (.cells #[.slice A 0 c,.slice A' 0 c'] 83)).alloc (.cells #[.pointer none,.slice none 0 0] 154):=⟨_,rfl⟩;have HB:Hid (Below w.heap.size w W):=by rw[hW];exact(aa.alloc ab _).alloc (by simp) _
 have HP:Hid (Bk W w.heap.size 83 #[.slice A 0 c,.slice A' 0 c']):=by rw[hW];exact(Bk.new _ _ _).alloc _
 have HD:Hid (Bk W (w.heap.size+1) 154 #[.pointer none,.slice none 0 0]):=by rw[hW];exact uax _ _ _ _
 rw[<-hW];clear hW;obtain⟨a6,_,_⟩:=HP.out.facts;go_wp2;refine wp_loop_once ?_;go_wp2;refine wp_loop_once ?_;go_wp2_with fail
 refine(uou W (w.heap.size+1) _ HD.out).mono ?_;rintro e w4⟨rfl,hb⟩;have a2:Hid (Below w.heap.size w w4):=HB.out.trans (hb.mono HB.out.size);clear hb a6;go_wp2;go_ret
 exact⟨rfl,a2.out⟩
set_option maxHeartbeats 200000
set_option maxRecDepth 512
theorem uB7{m:Mon}(h:uy0 m=[]):m.fs.length=0/\m.ats.length=0:=by
 unfold uy0 at h;obtain⟨h1,h2⟩:=List.append_eq_nil_iff.1 h;constructor
 ·cases hf:m.fs with
  | nil=>rfl
  | cons f l=>
   rw[hf]at h1;unfold uut at h1;rw[List.flatMap_cons]at h1;have:=(List.append_eq_nil_iff.1 h1).1;unfold ugg at this;cases this
 ·cases ha:m.ats with
  | nil=>rfl
  | cons a l=>
   rw[ha,List.flatMap_cons]at h2;have:=(List.append_eq_nil_iff.1 h2).1;unfold atT at this;cases this
theorem uow{D:Nat->Prop}(m:Mon)(mv:List Value)(w:World)(h:uU w D m mv)(hk:m.vA4)(hg:Gp w) :
 Calls Tryz.prog 44 #[.agg mv.toArray] w (ud7 (uy0 m) w):=by
 by_cases h0:uy0 m=[]
 ·obtain⟨h1,h2⟩:=uB7 h0
  rw[h0];exact uov m mv w h h1 h2
 ·exact uql m mv w h hk h0 hg
def RcR(K:Nat)(w:World)(D:Nat->Prop)(q:Rat)(v:List Value):Prop:=∃b A1 n1 c1 A2 n2 c2 A3 n3 c3 A4 n4 c4,v=[.bool b,.slice A1 n1 c1,.slice A2 n2 c2,.slice A3 n3 c3,.slice A4 n4 c4]/\uK w D (.agg #[.bool b,.slice A1 n1 c1,.slice A2 n2 c2]) K q
def RcP(Pb:Nat->Prop)(K:Nat)(w:World)(D:Nat->Prop)(q:Rat)(v:List Value):Prop:=RcR K w (fun b=>D b/\Pb b) q v
theorem uyi(Pb:Nat->Prop)(K:Nat):vCk (fun w D (q:Rat) v=>RcP Pb K w D q v) where
 vAb hk h:=by
  obtain⟨b,A1,n1,c1,A2,n2,c2,A3,n3,c3,A4,n4,c4,e,h⟩:=h;exact⟨b,A1,n1,c1,A2,n2,c2,A3,n3,c3,A4,n4,c4,e,h.vAb hk.1 fun b hb hlt=>⟨hk.2 b hlt hb.1,hb⟩⟩
 sub hd h:=by
  obtain⟨b,A1,n1,c1,A2,n2,c2,A3,n3,c3,A4,n4,c4,e,h⟩:=h;exact⟨b,A1,n1,c1,A2,n2,c2,A3,n3,c3,A4,n4,c4,e,h.vAb ab fun b hb hlt=>⟨rfl,hd b hlt hb.1,hb.2⟩⟩
theorem ucb.fwP{Pb:Nat->Prop}{K:Nat}{e:TypeId}{base:Nat}{w w':World}{lv:Value}{l:List Rat}{us:Nat->List Value}{S:Nat->Prop}(h:ucb 5 (fun w D (q:Rat) v=>RcP Pb K w D q v) e base w lv l us)(f:Fw S w w')(hS:∀b,S b->¬Pb b)(hg:∀g,lv.ownBlock=some g->¬S g):ucb 5 (fun w D (q:Rat) v=>RcP Pb K w D q v) e base w' lv l us:=by
 have a0:=h.1;refine⟨?_,fun i hi=>⟨(h.2 i hi).1,?_⟩⟩
 ·rcases a0.2 with⟨hv,hn0⟩|⟨g,cap,cur,hv,r1,r2,r3⟩
  ·exact⟨a0.1,.inl ⟨hv,hn0⟩⟩
  ·have a1:lv.ownBlock=some g:=by rw[hv];rfl
   exact⟨a0.1,.inr ⟨g,cap,cur,hv,r1,(f.block g (a0.lt g a1).2 (hg g a1)).trans r2,r3⟩⟩
 ·obtain⟨b,A1,n1,c1,A2,n2,c2,A3,n3,c3,A4,n4,c4,e,h⟩:=(h.2 i hi).2
  exact⟨b,A1,n1,c1,A2,n2,c2,A3,n3,c3,A4,n4,c4,e,h.vAb f.size fun b hb a2=>⟨f.block b a2 fun hs=>hS b hs hb.2,hb⟩⟩
theorem uby{w:World}{base size n g:Nat}{e:TypeId}{v:Value}{xs:List Value}(h:w.ownsRow base e size v n xs)(hv:v.ownBlock=some g)(i:Nat)(u:Value):(w.setCell ⟨g,i,none⟩ u).ownsRow base e size v n (xs.set i u):=by
 obtain⟨h1,h2⟩:=h;refine⟨by rw[List.length_set];exact h1,?_⟩
 rcases h2 with⟨rfl,_⟩|⟨g',cap,cur,rfl,hb,hg,h3,h4,h5,h6⟩
 ·cases hv
 ·have e':g'=g:=by simpa[Value.ownBlock]using hv
  subst e';refine .inr ⟨g',cap,_,rfl,hb,Bk.set hg i u,h3,h4,by simpa using h5,?_⟩
  rw[Array.toList_setIfInBounds,List.take_set,h6]
theorem ucb.vDo{Pb:Nat->Prop}{K:Nat}{e:TypeId}{base:Nat}{w:World}{g n cap:Nat}{l:List Rat}{us:Nat->List Value}(h:ucb 5 (fun w D (q:Rat) v=>RcP Pb K w D q v) e base w (.slice (some ⟨g,0,none⟩) n cap) l us){k:Nat}(hk:k<l.length){q:Rat}{b:Bool}{A1:Option Addr}{n1 c1:Nat}{A2:Option Addr}{n2 c2:Nat}
 (hq:uK w (fun b=>(base<=b/\some b≠(Value.slice (some ⟨g,0,none⟩) n cap).ownBlock)/\Pb b) (.agg #[.bool b,.slice A1 n1 c1,.slice A2 n2 c2]) K q) :
 ∃us',ucb 5 (fun w D (q:Rat) v=>RcP Pb K w D q v) e base (((w.setCell ⟨g,k*5,none⟩ (.bool b)).setCell ⟨g,k*5+1,none⟩ (.slice A1 n1 c1)).setCell ⟨g,k*5+2,none⟩ (.slice A2 n2 c2)) (.slice (some ⟨g,0,none⟩) n cap) (l.set k q) us':=by
 obtain⟨b0,b4,b9,b6,b5,c0,b7,A3,n3,c3,A4,n4,c4,e0,_⟩:=(h.2 k hk).2;have b8:=h.1.1;have a2:Fw (fun x=>x=g) w (((w.setCell ⟨g,k*5,none⟩ (.bool b)).setCell ⟨g,k*5+1,none⟩ (.slice A1 n1 c1)).setCell ⟨g,k*5+2,none⟩ (.slice A2 n2 c2)):=(((Fw.refl (fun x=>x=g) _).setCell (p:=⟨g,k*5,none⟩) (.inl rfl) _).setCell (p:=⟨g,k*5+1,none⟩) (.inl rfl) _).setCell (p:=⟨g,k*5+2,none⟩) (.inl rfl) _
 refine⟨fun i=>if i=k then [.bool b,.slice A1 n1 c1,.slice A2 n2 c2,.slice A3 n3 c3,.slice A4 n4 c4]else us i,?_,fun i hi=>?_⟩
 ·have b3:ucr (fun i=>if i=k then [.bool b,.slice A1 n1 c1,.slice A2 n2 c2,.slice A3 n3 c3,.slice A4 n4 c4]else us i) (l.set k q).length=(((ucr us l.length).set (k*5) (.bool b)).set (k*5+1) (.slice A1 n1 c1)).set (k*5+2) (.slice A2 n2 c2):=by
   rw[List.length_set];apply List.ext_getElem?;intro j;have a1:∀i,i<l.length->(us i).length=5:=fun i hi=>(h.2 i hi).1
   have a5:∀i,i<l.length->(if i=k then [.bool b,.slice A1 n1 c1,.slice A2 n2 c2,.slice A3 n3 c3,.slice A4 n4 c4]else us i:List Value).length=5:=fun i hi=>by
    split
    ·rfl
    ·exact a1 i hi
   have a9:=uhu a1;have b2:=uhu a5;rcases ah j (l.length*5)with hj|hj
   ·have hq:j/5<l.length:=by omega
    have a6:j=j/5*5+j%5:=by omega
    have hm:j%5<5:=Nat.mod_lt _ (by decide)
    have e1:(ucr us l.length)[j]? = (us (j/5))[j%5]? :=by
     have hx:(us (j/5))[j%5]? = some ((us (j/5))[j%5]'(by rw[a1 _ hq];exact hm)):=ai _
     rw[hx];have:=uil a1 hq hx;rwa [<-a6]at this
    have e2:(ucr (fun i=>if i=k then [.bool b,.slice A1 n1 c1,.slice A2 n2 c2,.slice A3 n3 c3,.slice A4 n4 c4]else us i) l.length)[j]? = (if j/5=k then [.bool b,.slice A1 n1 c1,.slice A2 n2 c2,.slice A3 n3 c3,.slice A4 n4 c4]else us (j/5):List Value)[j%5]? :=by
     have hx:(if j/5=k then [.bool b,.slice A1 n1 c1,.slice A2 n2 c2,.slice A3 n3 c3,.slice A4 n4 c4]else us (j/5):List Value)[j%5]? = some ((if j/5=k then [.bool b,.slice A1 n1 c1,.slice A2 n2 c2,.slice A3 n3 c3,.slice A4 n4 c4]else us (j/5):List Value)[j%5]'(by rw[a5 _ hq];exact hm)):=ai _
     rw[hx];have:=uil (us:=fun i=>if i=k then [.bool b,.slice A1 n1 c1,.slice A2 n2 c2,.slice A3 n3 c3,.slice A4 n4 c4]else us i) a5 hq hx
     rwa [<-a6]at this
    rw[e2];by_cases a4:j/5=k
    ·rw[if_pos a4]
     have h5:j%5=0\/j%5=1\/j%5=2\/j%5=3\/j%5=4:=by omega
     rw[a4]at e1;rw[e0]at e1;have a7:j=k*5+j%5:=by omega
     rcases h5 with h5|h5|h5|h5|h5<;>rw[h5]at a7 e1 ⊢ <;>subst a7
     ·rw[List.getElem?_set_ne (by omega),List.getElem?_set_ne (by omega),Nat.add_zero,List.getElem?_set_self (by omega)];rfl
     ·rw[List.getElem?_set_ne (by omega),List.getElem?_set_self (by rw[List.length_set];omega)];rfl
     ·rw[List.getElem?_set_self (by rw[List.length_set,List.length_set];omega)];rfl
     ·rw[List.getElem?_set_ne (by omega),List.getElem?_set_ne (by omega),List.getElem?_set_ne (by omega),e1];rfl
     ·rw[List.getElem?_set_ne (by omega),List.getElem?_set_ne (by omega),List.getElem?_set_ne (by omega),e1];rfl
    ·rw[if_neg a4,List.getElem?_set_ne (by omega),List.getElem?_set_ne (by omega),List.getElem?_set_ne (by omega),e1]
   ·rw[List.getElem?_eq_none (by rw[b2];exact hj),List.getElem?_eq_none (by rw[List.length_set,List.length_set,List.length_set,a9];exact hj)]
  rw[b3,List.length_set];exact uby (uby (uby h.1 rfl _ _) rfl _ _) rfl _ _
 ·rw[List.length_set]at hi
  have a8:∀x,(base<=x/\some x≠(Value.slice (some ⟨g,0,none⟩) n cap).ownBlock)/\Pb x->x<w.heap.size->_:=fun x hx a0=>a2.block x a0 fun e=>hx.1.2 (by rw[e];rfl)
  by_cases a3:i=k
  ·subst a3
   simp only[if_true];rw[List.getElem_set_self];exact⟨rfl,b,A1,n1,c1,A2,n2,c2,A3,n3,c3,A4,n4,c4,rfl,hq.vAb a2.size fun x hx a0=>⟨a8 x hx a0,hx⟩⟩
  ·simp only[if_neg a3]
   rw[List.getElem_set_ne (fun e=>a3 e.symm)]
   obtain⟨b1,B1,m1,d1,B2,m2,d2,B3,m3,d3,B4,m4,d4,e1,h1⟩:=(h.2 i hi).2;exact⟨(h.2 i hi).1,b1,B1,m1,d1,B2,m2,d2,B3,m3,d3,B4,m4,d4,e1,h1.vAb a2.size fun x hx a0=>⟨a8 x hx a0,hx⟩⟩
def TvR(K:Nat)(w:World)(D:Nat->Prop)(z:Mon×Rat)(v:List Value):Prop:=∃b A1 n1 c1 A2 n2 c2 A3 n3 c3 A4 n4 c4,v=[.bool b,.slice A1 n1 c1,.slice A2 n2 c2,.slice A3 n3 c3,.slice A4 n4 c4]/\uK w D (.agg #[.bool b,.slice A1 n1 c1,.slice A2 n2 c2]) K z.2/\uU w D z.1 [.slice A3 n3 c3,.slice A4 n4 c4]
theorem TvR.vAb{K:Nat}{w w':World}{D:Nat->Prop}(hk:uc D w w'){z:Mon×Rat}{v:List Value}(h:TvR K w D z v):TvR K w' D z v:=by
 obtain⟨b,A1,n1,c1,A2,n2,c2,A3,n3,c3,A4,n4,c4,e,h1,h2⟩:=h;exact⟨b,A1,n1,c1,A2,n2,c2,A3,n3,c3,A4,n4,c4,e,h1.vAb hk.1 fun b hb a0=>⟨hk.2 b a0 hb,hb⟩,uU.vAb hk h2⟩
theorem TvR.sub{K:Nat}{w:World}{D D':Nat->Prop}(hd:∀b,b<w.heap.size->D b->D' b){z:Mon×Rat}{v:List Value}(h:TvR K w D z v):TvR K w D' z v:=by
 obtain⟨b,A1,n1,c1,A2,n2,c2,A3,n3,c3,A4,n4,c4,e,h1,h2⟩:=h;exact⟨b,A1,n1,c1,A2,n2,c2,A3,n3,c3,A4,n4,c4,e,h1.vAb ab fun b hb a0=>⟨rfl,hd b a0 hb⟩,h2.sub hd⟩
abbrev TvS(K:Nat)(w:World)(D:Nat->Prop)(l:Pol)(A:Option Addr)(n c:Nat):Prop:=Sl 5 (TvR K w D) w D l A n c
theorem TvS.vAb{K:Nat}{w w':World}{D:Nat->Prop}(hk:uc D w w'){l:Pol}{A:Option Addr}{n c:Nat}(h:TvS K w D l A n c):TvS K w' D l A n c:=Sl.vAb hk (fun _ _ h=>TvR.vAb hk h) h
theorem TvS.sub{K:Nat}{w:World}{D D':Nat->Prop}(hd:∀b,b<w.heap.size->D b->D' b){l:Pol}{A:Option Addr}{n c:Nat}(h:TvS K w D l A n c):TvS K w D' l A n c:=Sl.sub hd (fun _ _ h=>TvR.sub hd h) h
theorem uB.tv{w:World}{D:Nat->Prop}{l:List Ter}{A:Option Addr}{n c:Nat}(h:uB w D l A n c)(hs:uz l):TvS 1000 w D (l.map trm) A n c:=by
 obtain⟨h1,h2,h3,h4⟩:=h;refine⟨by rw[List.length_map];exact h1,h2,h3,fun hp=>?_⟩
 obtain⟨b,off,hA,hD,hb,hf⟩:=h4 hp;refine⟨b,off,hA,hD,hb,fun i hi=>?_⟩
 rw[List.length_map]at hi;obtain⟨v,h5,A1,n1,c1,A2,n2,c2,A3,n3,c3,A4,n4,c4,rfl,h6,h7⟩:=hf i hi;have a0:=hs _ (aq hi);refine⟨_,h5,_,A1,n1,c1,A2,n2,c2,A3,n3,c3,A4,n4,c4,rfl,?_,?_⟩
 ·rw[List.getElem_map]
  exact h6.rat a0.1 a0.2.1
 ·rw[List.getElem_map]
  exact h7
def TvP(Pb:Nat->Prop)(K:Nat)(w:World)(D:Nat->Prop)(z:Mon×Rat)(v:List Value):Prop:=TvR K w (fun b=>D b/\Pb b) z v
theorem uFn(Pb:Nat->Prop)(K:Nat):vCk (fun w D (z:Mon×Rat) v=>TvP Pb K w D z v) where
 vAb hk h:=TvR.vAb ⟨hk.1,fun b hb hD=>hk.2 b hb hD.1⟩ h
 sub hd h:=TvR.sub (fun b hb hD=>⟨hd b hb hD.1,hD.2⟩) h
theorem Sl.reD{α:Type}{sz:Nat}{R:α->List Value->Prop}{w:World}{D P:Nat->Prop}{l:List α}{A:Option Addr}{n c:Nat}(h:Sl sz R w D l A n c)(hP:∀b off,A=some ⟨b,off,none⟩->P b):Sl sz R w P l A n c:=by
 obtain⟨h1,h2,h3,h4⟩:=h;refine⟨h1,h2,h3,fun hp=>?_⟩
 obtain⟨b,off,hA,hD,hb,hf⟩:=h4 hp;exact⟨b,off,hA,hP b off hA,hb,hf⟩
def uyj(base K:Nat)(q:Rat)(v:Value)(x:World):Prop:=∃b A1 n1 c1 A2 n2 c2,v = .agg #[.bool b,.slice A1 n1 c1,.slice A2 n2 c2]/\uK x (base <= ·) (.agg #[.bool b,.slice A1 n1 c1,.slice A2 n2 c2]) K q
theorem uK.vBp{x x':World}{D:Nat->Prop}{v:Value}{K:Nat}{q:Rat}(h:uK x D v K q)(hb:Below x.heap.size x x'):uK x' D v K q:=h.vAb hb.size fun b a0 a1=>⟨hb.block b a1,a0⟩
theorem uyj.stays{base K:Nat}{q:Rat}:∀v x x',uyj base K q v x->Below x.heap.size x x'->uyj base K q v x':=fun v x x' h hb=>by
 obtain⟨b,A1,n1,c1,A2,n2,c2,h1,h2⟩:=h;exact⟨b,A1,n1,c1,A2,n2,c2,h1,h2.vBp hb⟩
def uum(base K:Nat)(q:Rat)(m1 m2:Value)(v:Value)(x:World):Prop:=∃b A1 n1 c1 A2 n2 c2,v = .agg #[.bool b,.slice A1 n1 c1,.slice A2 n2 c2,m1,m2]/\uK x (base <= ·) (.agg #[.bool b,.slice A1 n1 c1,.slice A2 n2 c2]) K q
theorem uum.stays{base K:Nat}{q:Rat}{m1 m2:Value}:∀v x x',uum base K q m1 m2 v x->Below x.heap.size x x'->uum base K q m1 m2 v x':=fun v x x' h hb=>by
 obtain⟨b,A1,n1,c1,A2,n2,c2,h1,h2⟩:=h;exact⟨b,A1,n1,c1,A2,n2,c2,h1,h2.vBp hb⟩
def uqm(base K:Nat)(q:Rat)(m1 m2:Value)(v:Value)(x:World):Prop:=∃b A1 n1 c1 A2 n2 c2 g,v = .slice (some ⟨g,0,none⟩) 1 1/\Bk x g 85 #[.bool b,.slice A1 n1 c1,.slice A2 n2 c2,m1,m2]/\base<=g/\uK x (base <= ·) (.agg #[.bool b,.slice A1 n1 c1,.slice A2 n2 c2]) K q
theorem uqm.stays{base K:Nat}{q:Rat}{m1 m2:Value}:∀v x x',uqm base K q m1 m2 v x->Below x.heap.size x x'->uqm base K q m1 m2 v x':=fun v x x' h hb=>by
 obtain⟨b,A1,n1,c1,A2,n2,c2,g,h1,h2,h3,h4⟩:=h;exact⟨b,A1,n1,c1,A2,n2,c2,g,h1,h2.below hb h2.lt,h3,h4.vBp hb⟩
def uFo(q:Rat)(K:Nat)(w:World)(e:Ending)(w':World):Prop:=∃v,e = .returned v/\uyj w.heap.size K q v w'/\Below w.heap.size w w'
theorem uDn.vDk{w:World}{q:Rat}{K:Nat}(hK:sz q<=K){e:Ending}{w':World}(h:uDn w q e w'):uFo q K w e w':=by
 obtain⟨v,rfl,hr,hb⟩:=h;obtain⟨A1,c1,A2,c2,e,_,_⟩:=uaj.form hr;have h2:=(ud5.toV hr hK).toP;subst e;exact⟨_,rfl,⟨_,A1,_,c1,A2,_,c2,rfl,h2⟩,hb⟩
def uHk(D:Nat->Prop)(l:Pol)(w:World)(e:Ending)(w':World):Prop:=∃A n c,e = .returned (.slice A n c)/\TvS 2000 w' (fun b=>D b\/w.heap.size<=b) (ngP l) A n c/\Below w.heap.size w w'
set_option maxHeartbeats 16000000
set_option maxRecDepth 100000
theorem uun{D:Nat->Prop}(l:Pol)(A:Option Addr)(n c:Nat)(w:World)(h:TvS 1000 w D l A n c)(hl:l.length<=1000)(d4:∀z∈l,sz z.2<=1000)(rb:Bool)(R1:Option Addr)(r1 r2:Nat)(R2:Option Addr)(r3 r4:Nat)(hr:ufi w 0 (.agg #[.bool rb,.slice R1 r1 r2,.slice R2 r3 r4]) 3 (mkRat (-1) 1)) :
 Calls Tryz.prog 22 #[.slice A n c,.agg #[.bool rb,.slice R1 r1 r2,.slice R2 r3 r4]] w (uHk D l w):=by
 have hn:n=l.length:=h.1;have g6:=h.2.1;have f7:c<=maxLen:=h.2.2.1;unfold maxLen at f7;have g5:n<=1000:=by omega
 have HF:Hid (TvS 1000 w (fun b=>D b/\b<w.heap.size) l A n c):=h.sub fun b hb hD=>⟨hD,hb⟩
 have HN:=hid hn;have HR:=hid hr;have e7:Hid (∀(i:Nat) (h:i<l.length),sz (l[i].2*mkRat (-1) 1)<=2000):=fun i h=>by
  have h1:=d4 _ (aq h);have h2:=uCh l[i].2 (mkRat (-1) 1);have h3:=uet (-1) 1 (by decide) (by decide) (by decide)
  omega
 clear h hn hr d4 hl;go_enter Tryz.func22,Tryz.ntmps22
 go_upto_region 2 with(fail)
 obtain⟨W,hW⟩:∃W,W=w.alloc (.cells #[.bool rb,.slice R1 r1 r2,.slice R2 r3 r4] 62):=⟨_,rfl⟩;have d7:Hid (Below w.heap.size w W):=by rw[hW];exact aa.alloc ab _
 have HX:Hid (Bk W w.heap.size 62 #[.bool rb,.slice R1 r1 r2,.slice R2 r3 r4]):=by rw[hW];exact Bk.new _ _ _
 rw[<-hW];clear hW;go_wp2;go_loopw [5,10] (fun rv iv wr=>∃(i:Nat) (us:Nat->List Value),i<=n/\iv = .int .i64 i/\Hid (ucb 5 (fun w' D' (z:Mon×Rat) v=>TvP (fun b=>D b\/w.heap.size<=b) 2000 w' D' z v) 85 0 wr rv (ngP (l.take i)) us)/\Hid (∀g,rv.ownBlock=some g->w.heap.size<g)/\Hid (Below w.heap.size w wr)/\Hid (Bk wr w.heap.size 62 #[.bool rb,.slice R1 r1 r2,.slice R2 r3 r4])) (fun _ iv _=>n-(intOf iv).toNat)
 case atStart=>exact⟨0,fun _=>[],by omega,rfl,hid (ucb.nil _ _ _ _ _),hid (fun g h=>by cases h),d7,HX⟩
 case round=>
  obtain⟨i,us,hi,rfl,HO,HG,HB,a7⟩:=hrel;obtain⟨pl,a5⟩:∃pl,ngP (l.take i)=pl:=⟨_,rfl⟩;have b4:pl.length=i:=by rw[<-a5];unfold ngP;rw[List.length_map,List.length_take];have:=HN.out;omega
  rw[a5]at HO;obtain⟨RA,a0,d3,f9,g1⟩:=HO.out.form;unfold maxLen at g1;rw[b4]at d3 f9;subst d3;have a6:=hid b4;have b6:=hid a5;clear a5 b4;by_cases g4:i<n
  ·have b3:i<l.length:=by have:=HN.out;omega
   have hS:TvS 1000 wr (fun b=>D b/\b<w.heap.size) l A n c:=TvS.vAb (uc.of HB.out) HF.out
   obtain⟨b,off,v,rfl,hD,hb,hc,hr⟩:=hS.get b3;obtain⟨tn,A1,n1,c1,A2,n2,c2,A3,n3,c3,A4,n4,c4,rfl,d0,c5⟩:=hr;have c0:=hc 0 _ rfl;rw[Nat.add_zero]at c0;have f2:=hc 1 _ rfl;have f3:=hc 2 _ rfl;have f4:=hc 3 _ rfl;have f5:=hc 4 _ rfl;have e9:Hid (ngP (l.take (i+1))=pl++[(l[i].1,l[i].2*mkRat (-1) 1)]):=by
    show _=_
    unfold ngP at *;rw[aJ b3,List.map_append,b6.out];rfl
   have d5:=e7.out i b3;generalize l[i]=z at *;obtain⟨mm,qq⟩:=z;simp only at d5;have e6:Hid (uK wr (fun b=>D b/\b<w.heap.size) (.agg #[.bool tn,.slice A1 n1 c1,.slice A2 n2 c2]) 1000 qq):=d0
   have d9:Hid (uU wr (fun b=>D b/\b<w.heap.size) mm [.slice A3 n3 c3,.slice A4 n4 c4]):=c5
   have e8:=hid d5;clear d0 c5 hc hD hS;go_upto_region 5 with(fail)
   obtain⟨C,hC⟩:∃C,C=wr.alloc (.cells #[.bool tn,.slice A1 n1 c1,.slice A2 n2 c2,.slice A3 n3 c3,.slice A4 n4 c4] 85):=⟨_,rfl⟩;have a1:Hid (Below wr.heap.size wr C):=by rw[hC];exact aa.alloc ab _
   have HY:Hid (Bk C wr.heap.size 85 #[.bool tn,.slice A1 n1 c1,.slice A2 n2 c2,.slice A3 n3 c3,.slice A4 n4 c4]):=by rw[hC];exact Bk.new _ _ _
   have a3:=hid (a7.out.below a1.out a7.out.lt);have KM:Hid (∀x,Below C.heap.size C x->Calls Tryz.prog 46 #[.agg #[.bool tn,.slice A1 n1 c1,.slice A2 n2 c2],.agg #[.bool rb,.slice R1 r1 r2,.slice R2 r3 r4]] x (uFo (qq*mkRat (-1) 1) 2000 x)):=fun x hx=>by
    have h1:=a1.out.trans (hx.mono a1.out.size);exact(uzo x 0 0 _ _ 1000 3 qq (mkRat (-1) 1) (uK.zero (e6.out.vBp h1)) (HR.out.below (HB.out.trans (h1.mono HB.out.size))) (by omega)).mono fun e w' h=>uDn.vDk e8.out h
   rw[<-hC];clear hC c0 f2 f3 f4 f5;refine ue (⟨[(wr.heap.size,0,[.bool tn,.slice A1 n1 c1,.slice A2 n2 c2,.slice A3 n3 c3,.slice A4 n4 c4]),(w.heap.size,0,[.bool rb,.slice R1 r1 r2,.slice R2 r3 r4])],[],[uyj C.heap.size 2000 (qq*mkRat (-1) 1),uum C.heap.size 2000 (qq*mkRat (-1) 1) (.slice A3 n3 c3) (.slice A4 n4 c4),uqm C.heap.size 2000 (qq*mkRat (-1) 1) (.slice A3 n3 c3) (.slice A4 n4 c4)],[(3,.p 1 0),(5,.v (.slice RA i a0)),(7,.p 0 0)],[(4,.f 0),(7,.f 1),(8,.f 2)]⟩:Sp) [14,15,16,17,18,19,20,21,22] C (aa.drew) (by kernel_rfl) (by kernel_rfl) (by kernel_rfl) (sI (uyj.stays) (sI (uum.stays) (sI (uqm.stays) sN))) (by kernel_rfl)
    (fun x hx=>(mI (ud (HY.out.below hx HY.out.lt)) (mI (ud (a3.out.below hx a3.out.lt)) mN))) (dI (ug [.v (.agg #[.bool tn,.slice A1 n1 c1,.slice A2 n2 c2]),.v (.agg #[.bool rb,.slice R1 r1 r2,.slice R2 r3 r4])] rfl rfl (by kernel_rfl) (by kernel_rfl) fun x vs hx hC hv=>by
     obtain⟨v1,v2,rfl,h1,h2⟩:=uec hv;obtain rfl:v1 = .agg #[.bool tn,.slice A1 n1 c1,.slice A2 n2 c2]:=h1;obtain rfl:v2 = .agg #[.bool rb,.slice R1 r1 r2,.slice R2 r3 r4]:=h2;refine(KM.out x hx).mono ?_;rintro en w2⟨u,rfl,⟨b,A3,n3,c3,A4,n4,c4,h1,h2⟩,hb⟩;exact⟨u,rfl,⟨b,A3,n3,c3,A4,n4,c4,h1,h2.vAb ab fun b hb _=>⟨rfl,ag hx.size hb⟩⟩,hb⟩) (
    dI (uX rfl (parts:=[(0,.tmp 18),(1,.tmp 20)]) rfl fun x a hx a4=>by
     obtain⟨b1,B1,m1,d1,B2,m2,d2,h1,h2⟩:=(a4 (.tmp 18) (.f 0) (by kernel_rfl):uyj C.heap.size 2000 (qq*mkRat (-1) 1) (a.eval (.tmp 18)) x)
     have h3:a.eval (.tmp 20) = .agg #[.slice A3 n3 c3,.slice A4 n4 c4]:=a4 (.tmp 20) (.v (.agg #[.slice A3 n3 c3,.slice A4 n4 c4])) (by kernel_rfl)
     refine⟨.agg #[.bool b1,.slice B1 m1 d1,.slice B2 m2 d2,.slice A3 n3 c3,.slice A4 n4 c4],?_,b1,B1,m1,d1,B2,m2,d2,rfl,h2⟩;simp only[List.map_cons,List.map_nil,h1,h3];kernel_rfl) (
    dI (uac rfl (parts:=[(0,.tmp 21)]) rfl fun x a hx a4=>by
     obtain⟨b1,B1,m1,d1,B2,m2,d2,h1,h2⟩:=(a4 (.tmp 21) (.f 1) (by kernel_rfl):uum C.heap.size 2000 (qq*mkRat (-1) 1) (.slice A3 n3 c3) (.slice A4 n4 c4) (a.eval (.tmp 21)) x)
     refine⟨85,[.bool b1,.slice B1 m1 d1,.slice B2 m2 d2,.slice A3 n3 c3,.slice A4 n4 c4],?_,b1,B1,m1,d1,B2,m2,d2,x.heap.size,rfl,Bk.new _ _ _,hx.size,h2.vBp (aa.alloc ab _)⟩;simp only[List.map_cons,List.map_nil,h1];kernel_rfl) (dN)))) ?_
   intro S x1 b0 hS;obtain⟨g0,f8,_⟩:S 0 = .slice RA i a0/\(uqm C.heap.size 2000 (qq*mkRat (-1) 1) (.slice A3 n3 c3) (.slice A4 n4 c4):Value->World->Prop) (S 8) x1/\True:=hS (l:=[(0,.v (.slice RA i a0)),(8,.f 2)]) (by kernel_rfl)
   clear hS;simp only[nv,Nat.reduceAdd,aB,aE,aC,List.drop_zero,g0];clear g0;obtain⟨qb,B1,m1,d1,B2,m2,d2,gb,e5,b9,g2,c9⟩:=(f8:uqm C.heap.size 2000 (qq*mkRat (-1) 1) (.slice A3 n3 c3) (.slice A4 n4 c4) (S 8) x1);rw[e5];have a2:Hid (Below wr.heap.size wr x1):=a1.out.trans (b0.mono a1.out.size);have b5:=hid (HO.out.below (uFn _ _) a2.out);have f0:=hid (a3.out.below b0 a3.out.lt);have g7:wr.heap.size<C.heap.size:=HY.out.lt;have g8:w.heap.size<wr.heap.size:=a7.out.lt;have HV:Hid (TvP (fun b=>D b\/w.heap.size<=b) 2000 x1 (fun b=>0<=b/\some b≠(Value.slice RA i a0).ownBlock) (mm,qq*mkRat (-1) 1) [.bool qb,.slice B1 m1 d1,.slice B2 m2 d2,.slice A3 n3 c3,.slice A4 n4 c4]):=by
    refine⟨qb,B1,m1,d1,B2,m2,d2,A3,n3,c3,A4,n4,c4,rfl,c9.vAb ab fun b hb _=>⟨rfl,⟨Nat.zero_le _,fun e=>?_⟩,.inr ?_⟩,?_⟩
    ·have:=(HO.out.lt e.symm).2
     have f6:C.heap.size<=b:=hb;omega
    ·have f6:C.heap.size<=b:=hb
     omega
    ·exact(uU.vAb (uc.of a2.out) d9.out).sub fun b _ hD=>⟨⟨Nat.zero_le _,fun e=>by have:=HG.out b e.symm;have:=hD.2;omega⟩,.inl hD.1⟩
   have a9:=b5.out.1;rw[a6.out]at a9;clear b0 c9;refine uN x1 rfl _ _ 32 85 rfl Tryz.underlying32 5 104 udw (by decide) (by decide) 0 (.slice RA i a0) i (ucr us i) [.bool qb,.slice B1 m1 d1,.slice B2 m2 d2,.slice A3 n3 c3,.slice A4 n4 c4] (by rfl) a9 gb _ b9 (by rfl) rfl (by intro y hy;simp at hy;rcases hy with rfl|rfl|rfl|rfl|rfl<;>rfl) (by omega) (Nat.zero_le _) ?_
   intro g b7 w7 c7 hg b2 g3;have a8:=b5.out.vBc (uFn _ _) HV.out rfl (g:=g) (cap:=b7) (by rw[a6.out];exact c7) hg b2
   rw[a6.out,<-e9.out]at a8;have e0:=hid a8;have g9:wr.heap.size<=x1.heap.size:=a2.out.size;have d8:Hid (∀g',(Value.slice (some ⟨g,0,none⟩) (i+1) b7).ownBlock=some g'->w.heap.size<g'):=fun g' e=>by
    have e':g=g':=by simpa[Value.ownBlock]using e
    subst e';rcases b2 with h|h
    ·exact HG.out g h
    ·omega
   have c6:∀k,k<=w.heap.size->some k≠(Value.slice RA i a0).ownBlock:=fun k hk e=>by have:=HG.out k e.symm;omega
   have f1:=hid (f0.out.grown hg (c6 _ (by omega)))
   have d6:Hid (Below w.heap.size w w7):=by
    have h1:Below w.heap.size w x1:=HB.out.trans (a2.out.mono HB.out.size);exact h1.grown hg h1.size (fun k e=>by have:=HG.out k e;omega)
   clear a9 c7 b9 b2 hg c6 a8 HV;go_wp2;go_roundw
   case rel=>exact⟨i+1,_,by omega,by go_num,e0,d8,d6,f1⟩
   case measure=>simp[intOf];omega
  ·obtain rfl:i=n:=by omega
   have c8:pl=ngP l:=by rw[<-b6.out,List.take_of_length_le (by have:=HN.out;omega)]
   obtain⟨A3,n3,c3,h3,b8⟩:=HO.out.done (uFn _ _);injection h3 with e1 e2 e3;subst e1;subst e2;subst e3;have e4:Hid (TvS 2000 wr (fun b=>D b\/w.heap.size<=b) (ngP l) RA i a0):=by
    rw[<-c8];have h4:=Sl.sub (D':=fun _=>True) (fun b _ _=>trivial) (fun z v (h:TvP (fun b=>D b\/w.heap.size<=b) 2000 wr (0 <= ·) z v)=>TvR.sub (D':=fun b=>D b\/w.heap.size<=b) (fun b _ hD=>hD.2) h) b8
    exact hid (Sl.reD h4 fun b off e=> .inr (by subst e;have:=HG.out b rfl;omega))
   clear b8 c8;go_wp2;go_ret
   exact⟨RA,i,a0,rfl,e4.out,HB.out⟩
end Go.Proofs.YtnbbpmagijpmpaaGreatDoor
