/-
  Closed calls by reflection: drawn regions, the theorem.
-/
import Derived.Test.YtnbbpmagijpmpaaGreatDoorMYf
import Derived.Test.YtnbbpmagijpmpaaGreatDoorMDf
set_option linter.unusedVariables false
set_option linter.unusedSimpArgs false
namespace AC.Ev
open Go
theorem uE2{φ:Phi}{tm:Tm}{a:Act}{x:Operand}(hg:uhb φ)(h:∀t,x = .tmp t->RV φ ((tm.t.get t).getD undef) (a.tmps.getD t undef)):OR φ tm a.eval x:=by
 intro v hv;cases x with
 | tmp t=>
  rw[un0]at hv;injection hv with hv;subst hv;exact h t rfl
 | const u=>
  rw[un0]at hv;split at hv
  ·rename_i hp
   injection hv with hv;subst hv;exact .plain hp
  ·cases hv
 | func f=>
  rw[un0]at hv;injection hv with hv;subst hv;exact .func .nil .nil
 | global g=>
  rw[un0]at hv;split at hv
  ·rename_i hl
   injection hv with hv;subst hv;exact hg.rv hl
  ·cases hv
theorem uBd{a:Act}{d:Option Nat}{v:Value}{t:Nat}(hd:∀i,d=some i->i<a.tmps.size):(a.put d v).tmps.getD t undef=if d=some t then v else a.tmps.getD t undef:=by
 cases d with
 | none=>rw[if_neg (by simp)];rfl
 | some d=>
  have a0:=hd d rfl;simp only[Act.put,ak];by_cases hi:d=t
  ·subst hi
   rw[if_pos rfl,aO a0];rfl
  ·rw[if_neg (by simpa using hi),Array.getElem?_setIfInBounds_ne (fun e=>hi e)]
theorem uBe(a:Act)(d:Option Nat)(v:Value):(a.put d v).tmps.size=a.tmps.size:=by
 cases d with
 | none=>rfl
 | some d=>simp[Act.put]
theorem Ext.up{φ φ':Phi}{L L':ucd}{n n1 n2:Nat}{w w':World}(h:Ext φ L n φ' L' n1 w w')(hn:n1<=n2):Ext φ L n φ' L' n2 w w':=
 ⟨h.le,ag h.nx hn,fun g hg=>⟨(h.new g hg).1,af (h.new g hg).2 hn⟩,h.os,h.tape,h.output,h.size,h.fr,h.live,fun g o hg=>(h.dom g o hg).imp id fun h=>⟨h.1,af h.2 hn⟩,fun k hk=>(h.men k hk).imp id fun h=>⟨h.1,af h.2 hn⟩⟩
section
variable {G:vAq->Prop} {step:vAq->WL->vAq->Prop} {link:WL->WL->Prop}
theorem Fwd.vCi{s sF:vAq}{l:List WL}(h:Fwd G step link s l sF):G s:=by cases h<;>assumption
theorem Fwd.bits(hs:∀s x s',step s x s'->s'.I=Nat.lor s.I (2^x.i)){s sF:vAq}{l:List WL}(h:Fwd G step link s l sF):∀j,tb sF.I j=true↔tb s.I j=true\/∃x∈l,x.i=j:=by
 induction h with
 | nil=>intro j;simp
 | cons h h1 h2 h3 ih=>
  intro j;rw[ih j,hs _ _ _ h1,ui8,un5];simp[or_assoc]
theorem Fwd.mem{s sF:vAq}{l:List WL}(h:Fwd G step link s l sF):∀x∈l,∃s s',step s x s':=by
 induction h with
 | nil=>intro x hx;cases hx
 | cons h h1 h2 h3 ih=>
  intro x hx;rcases List.mem_cons.1 hx with e|hx
  ·rw[e];exact⟨_,_,h1⟩
  ·exact ih x hx
theorem Fwd.next(hs:∀s x s',step s x s'->s.m.next<=s'.m.next){s sF:vAq}{l:List WL}(h:Fwd G step link s l sF):s.m.next<=sF.m.next:=by
 induction h with
 | nil=>exact ab
 | cons h h1 h2 h3 ih=>exact ag (hs _ _ _ h1) ih
theorem Fwd.linked{s sF:vAq}{l:List WL}(h:Fwd G step link s l sF):∀y l',l=y::l'->∀x∈l',∃p∈l,link p x:=by
 induction h with
 | nil=>intro y l' e;cases e
 | @cons s s' sF y l h h1 h2 h3 ih=>
  intro y' l' e x hx;injection e with e1 e2;subst e2;cases l with
  | nil=>cases hx
  | cons z l2=>
   rcases List.mem_cons.1 hx with e|hx
   ·exact⟨y,by simp,by rw[e];exact h2 z l2 rfl⟩
   ·obtain⟨p,p1,p2⟩:=ih z l2 rfl x hx
    exact⟨p,aG _ p1,p2⟩
end
structure Ctx (P:Program) (L:List Oper) (ops:Array Oper) (B:List Nat) (tm:Tm) (al:List AB) (n0:Nat):Prop where
 st:Static L B
 sub:∀(i:Nat) (x:Oper),L[i]? = some x->ops[i]? = some x
 made:∀x∈al,uC4 P L ops n0 tm x
 uq:uC3 al
 bits:∀(d:Nat->Bool),vAp ops.toList d->∀(k b:Nat),B[k]? = some b->udt ops.toList d k->∀j,tb b j=true->d j=true
def uE3(P:Program)(L:List Oper)(ops:Array Oper)(B:List Nat)(tm:Tm)(al:List AB)(wm:Nat)(s:vAq):Prop:=Same P L ops B tm al wm s/\∀x∈al,(s.m.t.get x.g=none↔ual x.i s.I 0 B=true)
structure vCl (P:Program) (L:List Oper) (ops:Array Oper) (B:List Nat) (tm:Tm) (al:List AB) (n0:Nat) (sF:vAq) (M:Nat) (φ0:Phi) (L0:ucd) (w0:World) (df:List Deferred) (d:Nat->Bool) (a:Act) (w:World) (φ:Phi) (sq:vAq) (rest:List WL):Prop where
 fw:Fwd (uE3 P L ops B tm al sF.I) (Step P L ops B tm al) (uFz B) sq rest sF
 hrest:∀x∈rest,d x.i=false
 hI:∀j,tb sq.I j=true↔(tb sF.I j=true/\d j=true)
 hn:n0+L.length<=sq.m.next
 sz:tm.n=a.tmps.size
 sl:∀t,(∀(j:Nat) (o:Oper),L[j]? = some o->o.dst=some t->d j=true)->RV φ ((tm.t.get t).getD undef) (a.tmps.getD t undef)
 df:a.defers=df
 rp:Rep φ (mix sq.m.t.get d al) w
 ex:Ext φ0 L0 n0 φ (mix sq.m.t.get d al) sq.m.next w0 w
 fr:∀g,sq.m.next<=g->g<M->φ g=none
 fa:∀x∈al,d x.i=false->φ x.g=none
section
variable {P:Program} {L:List Oper} {ops:Array Oper} {B:List Nat} {tm:Tm} {al:List AB} {n0:Nat} {sF:vAq} {M:Nat} {φ0:Phi} {L0:ucd} {w0:World} {df:List Deferred} {d:Nat->Bool} {a:Act} {w:World} {φ:Phi} {sq:vAq} {rest:List WL}
abbrev plus(d:Nat->Bool)(i:Nat):Nat->Bool:=fun j=>d j||j==i
theorem ucf{d:Nat->Bool}{i j:Nat}(h:j≠i):plus d i j=d j:=by
 have:(j==i)=false:=by rw[aw];exact h
 show(d j||j==i)=d j
 rw[this,Bool.or_false]
theorem uob(d:Nat->Bool)(i:Nat):plus d i i=true:=by simp[plus]
theorem ugz{d:Nat->Bool}{i j:Nat}(h:plus d i j=false):d j=false/\j≠i:=by
 simp[plus]at h;exact h
theorem vCl.vAa(I:vCl P L ops B tm al n0 sF M φ0 L0 w0 df d a w φ sq rest){i:Nat}{o:Oper}(ho:L[i]? = some o){φ':Phi}(a2:φ.Le φ'){v v':Value}(hv:RV φ' v v')(hd:ugr tm o v=true) :
 tm.n=(a.put o.dst v').tmps.size/\∀t,(∀(j:Nat) (o:Oper),L[j]? = some o->o.dst=some t->plus d i j=true)->RV φ' ((tm.t.get t).getD undef) ((a.put o.dst v').tmps.getD t undef):=by
 have hd:=uBa hd;refine⟨by rw[uBe];exact I.sz,fun t ht=>?_⟩
 rw[uBd fun k hk=>by rw[<-I.sz];exact(hd k hk).1]
 by_cases he:o.dst=some t
 ·rw[if_pos he,(hd t he).2]
  exact hv
 ·rw[if_neg he]
  refine(I.sl t fun j o' hj a0=>?_).mono a2
  have:=ht j o' hj a0;by_cases a1:j=i
  ·subst a1
   rw[ho]at hj;injection hj with hj;subst hj;exact absurd a0 he
  ·rw[ucf a1]at this
   exact this
theorem uoc{T:ucd}{i:Nat}(h:∀x∈al,x.i≠i):mix T (plus d i) al=mix T d al:=by
 funext g
 unfold mix;split
 ·rfl
 ·exact udu fun x hx _=>ucf (h x hx)
theorem vCl.quiet(I:vCl P L ops B tm al n0 sF M φ0 L0 w0 df d a w φ sq rest){i:Nat}{o:Oper}(ho:L[i]? = some o)(h1:∀x∈al,x.i≠i)(h2:tb sF.I i=false){v v':Value}(hv:RV φ v v')(hd:ugr tm o v=true) :
 vCl P L ops B tm al n0 sF M φ0 L0 w0 df (plus d i) (a.put o.dst v') w φ sq rest:=by
 obtain⟨s1,s2⟩:=I.vAa ho (.refl φ) hv hd;have hb:=I.fw.bits fun _ _ _ h=>h.set
 have a0:∀x∈rest,x.i≠i:=fun x hx e=>by
  have:=(hb i).2 (.inr ⟨x,hx,e⟩);rw[h2]at this;cases this
 refine⟨I.fw,fun x hx=>by rw[ucf (a0 x hx)];exact I.hrest x hx,fun j=>?_,I.hn,s1,s2,by rw[put_defers];exact I.df,by rw[uoc h1];exact I.rp,by rw[uoc h1];exact I.ex,I.fr,fun x hx a1=>I.fa x hx (ugz a1).1⟩
 by_cases hj:j=i
 ·subst hj
  rw[I.hI,h2];simp
 ·rw[I.hI,ucf hj]
theorem umb{T:ucd}{p:Nat->Bool}{g:Nat}{o:Ob}(h:T g=some o):mix T p al g=some o:=by
 unfold mix;rw[h]
theorem uga{T:ucd}{p:Nat->Bool}{g:Nat}{o:Ob}(h:mix T p al g=some o):T g=some o\/(T g=none/\∃x∈al,p x.i=true/\x.g=g/\x.ob=o):=by
 unfold mix at h;split at h
 ·rename_i o' ho
  rw[ho];exact .inl h
 ·rename_i hn
  exact .inr ⟨hn,ugx h⟩
theorem uh4{T:ucd}{p:Nat->Bool}{g:Nat}(h:T g=none):mix T p al g=uci p al g:=by
 unfold mix;rw[h]
theorem vCl.step(C:Ctx P L ops B tm al n0)(hM:sF.m.next<=M)(I:vCl P L ops B tm al n0 sF M φ0 L0 w0 df d a w φ sq rest){i:Nat}{o:Oper}(ho:L[i]? = some o)(a9:d i=false)(a8:vAp ops.toList d)(e8:udt ops.toList d i)(Q:Exit->Act->World->Prop) :
 wpOp P ops Q i (fun a' w'=>∃φ sq rest,vCl P L ops B tm al n0 sF M φ0 L0 w0 df (plus d i) a' w' φ sq rest) a w:=by
 obtain⟨b,hb⟩:=C.st.bit i o ho;have ahead:∀j,tb b j=true->d j=true:=C.bits d a8 i b hb e8;have b0:=I.fw.vCi;have a7:=I.fw.bits fun _ _ _ h=>h.set
 obtain⟨c,hw,d0,d1⟩:=b0.1 i o b ho hb;have a2:∀ {c:Bool},un4 ops tm o c->Region.wanted o (yielded ops a.tmps)=c:=fun {c} h=>h φ a.tmps fun p oj dd hg hj hd=>I.sl dd fun j o' d7 d2=>by
  obtain⟨k1,f9,k2⟩:=C.st.guard i o b p ho hb hg;have k3:=C.sub _ _ k2;rw[hj]at k3;injection k3 with k3;subst k3;have:=C.st.one _ _ _ _ _ d7 k2 d2 hd;subst this;exact ahead _ k1
 have b1:∀x∈o.op.operands.toList,OR φ tm a.eval x:=fun x hx=>uE2 I.rp.glob fun t ht=>I.sl t fun j o' hj hd=>ahead _ (C.st.sees i o b t ho hb (by rw[<-ht];exact hx) j o' hj hd)
 have c7:tb sq.I i=false:=by
  cases h:tb sq.I i with
  | false=>rfl
  | true=>
   have:=((I.hI i).1 h).2;rw[a9]at this;cases this
 have c6:ual i sq.I 0 B=true:=ueh fun j b' hj ht=>by
  rw[Nat.zero_add]at ht;have d3:=((I.hI j).1 ht).2;cases h:tb b' i with
  | false=>rfl
  | true=>
   have:=C.bits d a8 j b' hj (a8 j d3) i h;rw[a9]at this;cases this
 have c8:kind o.op ≠ .al->∀x∈al,x.i≠i:=fun hk x hx e=>by
  obtain⟨_,o',h1,h2,_⟩:=C.made x hx;rw[e,ho]at h1;injection h1 with h1;subst h1;exact hk h2
 have b6:(uEf o=true->un4 ops tm o true->False)->tb sF.I i=false:=fun hk=>by
  cases h:tb sF.I i with
  | false=>rfl
  | true=>
   exfalso;rcases (a7 i).1 h with h|⟨x,hx,e⟩
   ·rw[c7]at h;cases h
   ·obtain⟨s,s',hs⟩:=I.fw.mem x hx
    obtain⟨o',b',t,h1,h2,_,h3,_⟩:=hs.out;rw[e,ho]at h1;injection h1 with h1;subst h1;exact hk h2 h3
 unfold wpOp;rw[C.sub i o ho];simp only[];cases c with
 | false=>
  rw[if_neg (by rw[a2 hw];simp)]
  refine⟨φ,sq,rest,I.quiet ho (fun x hx e=>?_) (b6 fun _ h=>?_) .undef (d0 rfl)⟩
  ·obtain⟨_,o',h1,_,h2,_⟩:=C.made x hx
   rw[e,ho]at h1;injection h1 with h1;subst h1;have:=(a2 hw).symm.trans (a2 h2);cases this
  ·have:=(a2 hw).symm.trans (a2 h)
   cases this
 | true=>
  rw[if_pos (a2 hw)];refine .inl ?_;obtain⟨cw,ca,cr⟩:=d1 rfl;cases hk:kind o.op with
  | rd=>
   have a6:uGv (Nat.land b sF.I) sq.I=true:=uEz fun j hj=>by
    rw[uqa,ax]at hj;exact(I.hI j).2 ⟨hj.2,ahead j hj.1⟩
   obtain⟨v,hd,e9⟩:=cr hk a6 c6;have b2:Rep φ sq.m.t.get w:=I.rp.sub (fun g o h=>umb h) fun g q h=>by
    rcases uga h with h|⟨_,x,hx,_,_,rfl⟩
    ·exact .inl h
    ·obtain⟨_,_,_,_,_,h2,_⟩:=C.made x hx
     exact .inr h2
   obtain⟨v',k1,k2⟩:=e9 φ w a.eval b1 b2;unfold Oper.wp;rw[k1];exact⟨φ,sq,rest,I.quiet ho (c8 (by rw[hk];simp)) (b6 fun h _=>by unfold uEf at h;rw[hk]at h;cases h) k2 hd⟩
  | al=>
   obtain⟨x,hx,a0⟩:=ca hk;obtain⟨f1,o',h1,_,_,f4,sh,hm,hd⟩:=C.made x hx;rw[a0,ho]at h1;injection h1 with h1;subst h1;have hφ:=I.fa x hx (by rw[a0];exact a9)
   obtain⟨f8,im,v',k1,k2,k3,k4,k5⟩:=hm φ w a.eval x.g b1 hφ;have f5:i<L.length:=(aI.1 ho).1;have d6:x.g<sq.m.next:=by have:=I.hn;omega
   have d5:sq.m.t.get x.g=none:=(b0.2 x hx).2 (by rw[a0];exact c6)
   have e3:∀k,k≠x.g->mix sq.m.t.get (plus d i) al k=mix sq.m.t.get d al k:=fun k d8=>by
    unfold mix;split
    ·rfl
    ·refine udu fun y hy f3=>ucf fun e=>d8 ?_
     rw[<-f3,(C.made y hy).1,f1,a0,e]
   obtain⟨r1,r2⟩:=up8 (n:=n0) (L':=mix sq.m.t.get (plus d i) al) I.rp hφ (by rw[uh4 d5];exact ul9 C.uq (fun y hy=>(C.made y hy).1) hx (by rw[a0];exact uob d i)) e3 k2 (by omega) k3 (fun c e x u S e1 k hk=>by rw[k5 c e x u S e1]at hk;cases hk)
   obtain⟨s1,s2⟩:=I.vAa ho (Phi.vB3 hφ) k4 hd;have c0:tb sF.I i=false:=b6 fun h _=>by unfold uEf at h;rw[hk]at h;cases h
   have e4:∀x∈rest,x.i≠i:=fun x hx e=>by
    have:=(a7 i).2 (.inr ⟨x,hx,e⟩);rw[c0]at this;cases this
   unfold Oper.wp;rw[k1];refine⟨_,sq,rest,I.fw,fun y hy=>by rw[ucf (e4 y hy)];exact I.hrest y hy,fun j=>?_,I.hn,s1,s2,by rw[put_defers];exact I.df,r1,I.ex.vDl (r2 _ d6) ab,fun g a1 a4=>?_,fun y hy f2=>?_⟩
   ·by_cases hj:j=i
    ·subst hj
     rw[I.hI,c0];simp
    ·rw[I.hI,ucf hj]
   ·rw[Phi.vBg (by omega)]
    exact I.fr g a1 a4
   ·obtain⟨q1,q2⟩:=ugz f2
    rw[Phi.vBg (by have:=(C.made y hy).1;omega)]
    exact I.fa y hy q1
  | wr=>
   have c3:=cw hk;have b7:∀x∈rest,x.i=i->∀p∈rest,uFz B p x->False:=by
    rintro x hx e p hp⟨b',a3,ht⟩;rw[e,hb]at a3;injection a3 with a3;subst a3;have:=ahead _ ht;rw[I.hrest p hp]at this;cases this
   obtain⟨x,hx,a0⟩:∃x∈rest,x.i=i:=by
    rcases (a7 i).1 c3 with h|h
    ·rw[c7]at h;cases h
    ·exact h
   cases hfw:rest with
   | nil=>rw[hfw]at hx;cases hx
   | cons y l=>
    have b4:y.i=i:=by
     rw[hfw]at hx;rcases List.mem_cons.1 hx with e|hx
     ·rw[<-e];exact a0
     ·obtain⟨p,p1,p2⟩:=I.fw.linked y l hfw x hx
      exact(b7 x (by rw[hfw];exact aG _ hx) a0 p p1 p2).elim
    have d9:∀z∈l,z.i≠i:=fun z hz e=>by
     obtain⟨p,p1,p2⟩:=I.fw.linked y l hfw z hz;exact b7 z (by rw[hfw];exact aG _ hz) e p p1 p2
    have fw:=I.fw;have c1:=I.hrest;rw[hfw]at fw c1;cases fw with
    | @cons _ s' _ _ _ g1 st g2 fw'=>
     obtain⟨o',b',t,h1,h2,h3,h4,e6,ht,hd⟩:=st.out;rw[b4,ho]at h1;injection h1 with h1;subst h1;rw[b4,hb]at h3;injection h3 with h3;subst h3;have f6:=fw'.next fun _ _ _ h=>h.next
     have a5:=st.set;rw[b4]at a5;have a6:∀g q,t.get g=some q->mix sq.m.t.get d al g=some q:=fun g q h=>by
      rw[ht]at h;rcases uga h with h|⟨hn,z,hz,z1,rfl,rfl⟩
      ·exact umb h
      ·rw[uh4 hn]
       exact ul9 C.uq (fun y hy=>(C.made y hy).1) hz (ahead _ z1)
     have b2:Rep φ t.get w:=I.rp.sub a6 fun g q h=>by
      rcases uga h with h|⟨_,x,hx,_,_,rfl⟩
      ·exact .inl (by rw[ht];exact umb h)
      ·obtain⟨_,_,_,_,_,h2,_⟩:=C.made x hx
       exact .inr h2
     refine e6 φ w a b1 b2 (fun g a1 a4=>I.fr g a1 (by omega)) _ Q fun v' w' φ' hv e7 b3=>?_
     have d4:=fw'.vCi;have b8:∀z∈al,z.g<sq.m.next:=fun z hz=>by
      obtain⟨e1,o',e2,_⟩:=C.made z hz;have:=(aI.1 e2).1;have:=I.hn;omega
     have e0:=c8 (by rw[hk];simp)
     obtain⟨r1,r2⟩:=uxh (L':=mix s'.m.t.get (plus d i) al) I.rp a6 e7 b3 (fun g q h=>by
      rcases uga h with h|⟨hn,z,hz,z1,rfl,rfl⟩
      ·exact .inl h
      ·refine .inr ?_
       have b5:d z.i=true:=by rw[ucf (e0 z hz)]at z1;exact z1
       have b9:=uhd ((d4.2 z hz).1 hn);have c9:tb b z.i=false:=b9 i b hb (by rw[a5,Nat.zero_add,ui8,un5,decide_eq_true rfl,Bool.or_true])
       have c2:sq.m.t.get z.g=none:=(b0.2 z hz).2 (ueh fun j c hj f0=>b9 j c hj (by rw[a5,ui8,f0];rfl))
       refine⟨?_,?_,?_,b8 z hz⟩
       ·rw[ht,uh4 c2]
        refine ugy fun y hy c4 f7=>?_
        have:=(C.made y hy).1;have:=(C.made z hz).1;have e1:y.i=z.i:=by omega
        rw[e1,c9]at c4;cases c4
       ·rw[uh4 c2]
        exact ul9 C.uq (fun y hy=>(C.made y hy).1) hz b5
       ·obtain⟨_,_,_,_,_,h2,_⟩:=C.made z hz
        exact h2) fun g q h=>umb h
     obtain⟨s1,s2⟩:=I.vAa ho b3.le hv hd;have e5:n0<=sq.m.next:=by have:=I.hn;omega
     have c5:∀g,(g<sq.m.next\/s'.m.next<=g)->φ' g=φ g:=fun g hg=>by
      by_cases he:φ' g=φ g
      ·exact he
      ·have:=b3.new g he
       simp only[]at this;omega
     refine⟨φ',s',l,fw',fun z hz=>?_,fun j=>?_,ag I.hn st.next,s1,s2,by rw[put_defers];exact I.df,r1,I.ex.vDl (r2.vDp e5) st.next,fun g a1 a4=>?_,fun z hz b5=>?_⟩
     ·rw[ucf (d9 z hz)]
      exact c1 z (aG _ hz)
     ·rw[a5,ui8,un5]
      by_cases hj:j=i
      ·subst hj
       rw[c3,uob];simp
      ·rw[ucf hj,aQ (fun e=>hj e.symm),Bool.or_false]
       exact I.hI j
     ·rw[c5 g (.inr a1)]
      exact I.fr g (ag st.next a1) a4
     ·rw[c5 z.g (.inl (b8 z hz))]
      exact I.fa z hz (ugz b5).1
end
theorem vA0(d:Nat->Bool)(n:Nat)(h:¬∀i,i<n->d i=true):∃i,i<n/\d i=false/\∀j,j<i->d j=true:=by
 induction n with
 | zero=>exact absurd (fun i hi=>absurd hi (by omega)) h
 | succ n ih=>
  by_cases h1:∀i,i<n->d i=true
  ·refine⟨n,by omega,?_,h1⟩
   cases hd:d n with
   | false=>rfl
   | true=>
    refine absurd (fun i hi=>?_) h
    rcases ah i n with h2|h2
    ·exact h1 i h2
    ·obtain rfl:i=n:=by omega
     exact hd
  ·obtain⟨i,hi,h2,h3⟩:=ih h1
   exact⟨i,by omega,h2,h3⟩
section
variable {P:Program} {ops:Array Oper} {Q:Exit->Act->World->Prop}
theorem vA6{listed:Array Bool}{d:Nat->Bool}(a2:listed.size=ops.size)(hd:∀i,i<ops.size->listed[i]? = some (d i))
 (a0:∀(i:Nat) (o:Oper),ops[i]? = some o->∀e∈o.after,Region.binds .any e=true->e.on<i) {i:Nat} (hi:i<ops.size) (h1:d i=false) (h2:∀j,j<i->d j=true):i∈Region.ready .any ops listed:=by
 unfold Region.ready;rw[List.mem_filter];refine⟨aX.2 hi,?_⟩;have e1:listed.getD i true=false:=by rw[ak,hd i hi,h1];rfl
 obtain⟨o,ho⟩:∃o,ops[i]? = some o:=⟨ops[i],aR hi⟩;rw[e1,ho];simp only[Bool.not_false,Bool.true_and,Option.map_some,Option.getD_some];rw[Array.all_eq_true_iff_forall_mem];intro e he;cases hb:Region.binds .any e with
 | false=>simp
 | true=>
  have a1:=a0 i o ho e he hb;have e2:listed.getD e.on false=true:=by rw[ak,hd e.on (by omega),h2 e.on a1];rfl
  rw[e2];simp
theorem vAv{listed:Array Bool}{d:Nat->Bool}(hd:∀i,i<ops.size->listed[i]? = some (d i)){i:Nat}(h:i∈Region.ready .any ops listed)(a0:∀(i:Nat) (o:Oper),ops[i]? = some o->∀e∈o.after,Region.binds .any e=true->e.on<i) :
 ∃o,ops[i]? = some o/\d i=false/\∀e∈o.after,Region.binds .any e=true->d e.on=true:=by
 unfold Region.ready at h;rw[List.mem_filter]at h;obtain⟨h1,h2⟩:=h;have hi:i<ops.size:=aX.1 h1;obtain⟨o,ho⟩:∃o,ops[i]? = some o:=⟨ops[i],aR hi⟩;rw[ho,ak,hd i hi]at h2;simp only[Option.getD_some,Option.map_some,ax,Bool.not_eq_true']at h2;refine⟨o,ho,h2.1,fun e he hb=>?_⟩
 have h3:=(Array.all_eq_true_iff_forall_mem.1 h2.2) e he;have a1:=a0 i o ho e he hb;rw[ak,hd e.on (by omega)]at h3
 simpa[hb]using h3
theorem vAn{id:Nat}{a:Act}{w:World}(hm:P.follows .mixedOrders=true)
 (a5:∀(i:Nat) (o:Oper),ops[i]? = some o->∀e∈o.after,Region.binds .any e=true->e.on<i) (I:(Nat->Bool)->Act->World->Prop) (h0:I (fun _=>false) a w.drew)
 (b4:∀(d:Nat->Bool) (i:Nat) (o:Oper) (a:Act) (w:World),ops[i]? = some o->d i=false->(∀e∈o.after,Region.binds .any e=true->d e.on=true)->I d a w->wpOp P ops Q i (I (fun j=>d j||j==i)) a w)
 (a8:∀(d:Nat->Bool) (a:Act) (w:World),(∀i,i<ops.size->d i=true)->I d a w->Q .normal a w):(Code.region id ops true).wp P Q a w:=by
 have key:∀(a2:Nat) (listed:Array Bool) (d:Nat->Bool) (a:Act) (w:World),listed.size=ops.size->(∀i,i<ops.size->listed[i]? = some (d i))->I d a w ->
  (∃n,n+a2=ops.size/\∃l:List Nat,l.length=n/\l.Nodup/\∀i∈l,i<ops.size/\d i=true)->wpAny P .any ops Q a2 listed a w:=by
  intro a2;induction a2 with
  | zero=>
   intro listed d a w a7 hd hI hn;obtain⟨n,hn,l,hl,a6,a1⟩:=hn;have a3:∀i,i<ops.size->d i=true:=by
    intro i hi;cases a0:d i with
    | true=>rfl
    | false=>
     exfalso;have b3:i∉l:=fun h=>by have:=(a1 i h).2;rw[a0]at this;cases this
     have b2:(i::l).Nodup:=List.nodup_cons.2 ⟨b3,a6⟩;have b5:(i::l) ⊆ List.range ops.size:=by
      intro j hj;rcases List.mem_cons.1 hj with rfl|hj
      ·exact aX.2 hi
      ·exact aX.2 (a1 j hj).1
     have:=List.Nodup.length_le_of_subset b2 b5;simp at this;omega
   refine⟨?_,a8 d a w a3 hI⟩;rcases hr:Region.ready .any ops listed with _|⟨i,rs⟩
   ·rfl
   ·exfalso
    obtain⟨o,ho,a0,_⟩:=vAv hd (i:=i) (by rw[hr];exact List.mem_cons_self) a5
    have hi:i<ops.size:=(au.1 ho).1;rw[a3 i hi]at a0;cases a0
  | succ a2 ih=>
   intro listed d a w a7 hd hI hn;refine⟨fun hr=>?_,fun i hi=>?_⟩
   ·by_cases a3:∀i,i<ops.size->d i=true
    ·exact a8 d a w a3 hI
    ·exfalso
     obtain⟨i,hi,h1,h2⟩:=vA0 d ops.size a3;have:=vA6 a7 hd a5 hi h1 h2;rw[hr]at this;cases this
   ·obtain⟨o,ho,a0,b0⟩:=vAv hd hi a5
    have b1:i<ops.size:=(au.1 ho).1;refine wpOp_mono (fun a' w' a9=>ih (listed.setIfInBounds i true) (fun j=>d j||j==i) a' w' (by simpa using a7) ?_ a9 ?_) (b4 d i o a w ho a0 b0 hI)
    ·intro j hj
     by_cases a4:j=i
     ·subst a4
      rw[aO (by omega)]
      simp
     ·rw[Array.getElem?_setIfInBounds_ne (fun e=>a4 e.symm),hd j hj]
      simp[a4]
    ·obtain⟨n,hn,l,hl,a6,a1⟩:=hn
     refine⟨n+1,by omega,i::l,by simp[hl],List.nodup_cons.2 ⟨fun h=>?_,a6⟩,fun j hj=>?_⟩
     ·have:=(a1 i h).2;rw[a0]at this;cases this
     ·rcases List.mem_cons.1 hj with rfl|hj
      ·exact⟨b1,by simp⟩
      ·exact⟨(a1 j hj).1,by simp[(a1 j hj).2]⟩
 refine wp_region_any hm (key ops.size (Array.replicate ops.size false) (fun _=>false) a _ (by simp) (fun i hi=>by simp[hi]) h0 ⟨0,by omega,[],rfl,List.nodup_nil,fun i hi=>by cases hi⟩)
theorem vAd{i:Nat}{o:Oper}{rest:List Oper}{a:Act}{w:World}(ho:ops[i]? = some o)(h:wpList P ops Q (o::rest) a w):wpOp P ops Q i (wpList P ops Q rest) a w:=by
 unfold wpOp;rw[ho];exact h
theorem vA1{ops:Array Oper}{i:Nat}{o:Oper}(ho:ops[i]? = some o):ops.toList.drop i=o::ops.toList.drop (i+1):=by
 obtain⟨hi,e⟩:=au.1 ho;rw[aN (by simpa using hi)]
 congr 1
end
theorem uod:∀(L:List Oper) (k j:Nat),tb (unx k L) j=true↔k<=j/\j<k+L.length
 | [],k,j=>by
  rw[unx,ul7];simp
 | o::L,k,j=>by
  rw[unx,ui8,un5,aU,uod L (k+1) j,aB,aP];omega
section
variable {P:Program} {L:List Oper} {ops:Array Oper} {B:List Nat} {tm:Tm} {al:List AB} {n0:Nat} {sF:vAq} {M:Nat} {φ0:Phi} {L0:ucd} {w0:World} {df:List Deferred} {d:Nat->Bool} {a:Act} {w:World} {φ:Phi} {sq:vAq} {rest:List WL}
theorem vCl.fin(C:Ctx P L ops B tm al n0)(I:vCl P L ops B tm al n0 sF M φ0 L0 w0 df d a w φ sq rest)(hd:∀i,i<L.length->d i=true)(t:Tr)(ht:∀g,t.get g=mix sF.m.t.get (tb (unx 0 L)) al g) :
 RT φ tm a.tmps/\Rep φ t.get w/\Ext φ0 L0 n0 φ t.get sF.m.next w0 w/\∀g,sF.m.next<=g->g<M->φ g=none:=by
 have a0:∀ {i:Nat} {o:Oper},L[i]? = some o->i<L.length:=fun h=>(aI.1 h).1
 have hr:rest=[]:=by
  cases hrs:rest with
  | nil=>rfl
  | cons x l=>
   exfalso;obtain⟨s,s',hs⟩:=I.fw.mem x (by rw[hrs];simp)
   obtain⟨o,_,_,h1,_⟩:=hs.out;have:=I.hrest x (by rw[hrs];simp)
   rw[hd _ (a0 h1)]at this;cases this
 have hs:sq=sF:=by
  have:=I.fw;rw[hr]at this;cases this;rfl
 have a1:mix sq.m.t.get d al=t.get:=by
  funext g
  rw[ht,hs];unfold mix;split
  ·rfl
  ·refine udu fun x hx _=>?_
   obtain⟨_,o,h1,_⟩:=C.made x hx;rw[hd _ (a0 h1),(uod L 0 x.i).2 ⟨Nat.zero_le _,by rw[Nat.zero_add];exact a0 h1⟩]
 refine⟨⟨I.sz,fun i=>I.sl i fun j o hj _=>hd _ (a0 hj)⟩,by rw[<-a1];exact I.rp,?_,by rw[<-hs];exact I.fr⟩
 have:=I.ex;rw[a1,hs]at this;exact this
theorem uE4{o:Oper}{i:Nat}(h:uJm i o=true):∀e∈o.after,Region.binds .any e=true->e.on<i:=by
 intro e he hb;have:=ubw _ h e (Array.mem_toList_iff.2 he);rw[ur5,hb,cond_true]at this;have:=uW.1 this;omega
theorem uBf{X:unv}{rec:ue9}(c1:uyx P X)(hm:P.follows .mixedOrders=true)(c2:ui6 P rec):uC1 P (uEi P X rec):=by
 intro id ops tm m K h;unfold uEi uG0 at h;rw[uk,uk]at h;obtain⟨⟨d7,b2⟩,h⟩:=h;have b2:=uE1 b2;obtain⟨a5,a1,sF,S,W,t,hK,gr,ch,e4,e7,uq,hc,hv,c5,c8,b8,ht⟩:=uBb c1 c2 h;obtain⟨e5,m',hK,b0,d0⟩:=uh2 c1 c2 hK;have a8:uGy ops.toList=ops.toList.take (uAp ops.toList):=ui9 _ _;have c3:uGz ops.toList=ops.toList.drop (uAp ops.toList):=ur6 _ _;have b5:preB ops.toList=(uny ops.toList).take (uAp ops.toList):=ui9 _ _;have b4:(uny ops.toList).length=ops.size:=by
  unfold uny;rw[un6];simp
 obtain⟨_,b7,d2⟩:=uqc (uny ops.toList) 0 0 ab;have b7:uAp ops.toList<=ops.size:=by rw[<-b4];unfold uAp;omega
 obtain⟨N,hN⟩:∃N,N=uAp ops.toList:=⟨_,rfl⟩;rw[<-hN]at a8 c3 b5 b7;have e6:(uGy ops.toList).length=N:=by rw[a8,List.length_take];simp;omega
 generalize uGy ops.toList=L at *;generalize preB ops.toList=B at *;have a6:∀(i:Nat) (x:Oper),L[i]? = some x->ops[i]? = some x:=fun i x hx=>by
  rw[a8,List.getElem?_take]at hx;split at hx
  ·rw[<-aH];exact hx
  ·cases hx
 have b3:∀(d:Nat->Bool),vAp ops.toList d->∀(k b:Nat),(uny ops.toList)[k]? = some b->udt ops.toList d k->∀j,tb b j=true->d j=true:=fun d hd k b hb hr j hj=>
  uxe hd (l:=ops.toList) (pre:=[]) (acc:=[]) rfl rfl (fun k b h=>by simp at h) k b hb hr j hj
 have C:Ctx P L ops B a5 a1 m.next:=⟨b2,a6,fun x hx=>uxj a6 (c8 x hx),uq,fun d hd k b hb=>b3 d hd k b (by
  rw[b5,List.getElem?_take]at hb;split at hb
  ·exact hb
  ·cases hb)⟩
 have d3:Fwd (uE3 P L ops B a5 a1 sF.I) (Step P L ops B a5 a1) (uFz B) ⟨0,⟨m.next+L.length,m.t⟩⟩ W.reverse sF:=by
  have:=uG5 (vCi:=uE3 P L ops B a5 a1 sF.I) uq ch (fun r hr=>⟨un9 a6 (c5 r hr),usa (b8 r hr)⟩) hc (uoa a6 hv) e4 [] sF (.nil ⟨un9 a6 (c5 sF (by simp)),usa (b8 sF (by simp))⟩) (fun v W' z l' _ e=>by cases e)
  simpa using this
 refine⟨e5,m',hK,by simp only[]at b0;omega,fun φ w a c4 hr hf Q hQ=>?_⟩
 have d8:∀(i:Nat) (o:Oper),ops[i]? = some o->∀e∈o.after,Region.binds .any e=true->e.on<i:=fun i o ho=>by
  have:=ugw d7 i o (by rw[aH];exact ho)
  rw[Nat.zero_add]at this;exact uE4 this
 have d9:∀ {d:Nat->Bool} {i:Nat} {o:Oper},ops[i]? = some o->(∀e∈o.after,Region.binds .any e=true->d e.on=true)->udt ops.toList d i:=fun {d i o} ho a9 o' a4 e he hb=>by
  rw[aH,ho]at a4;injection a4 with a4;subst a4;exact a9 e (Array.mem_toList_iff.1 he) (by rw[<-ur5];exact hb)
 have c9:∀ {d:Nat->Bool} {i:Nat},vAp ops.toList d->udt ops.toList d i->vAp ops.toList (plus d i):=fun {d i} hd hr k hk o' a4 e he hb=>by
  show(d e.on||e.on==i)=true
  have hk:(d k||k==i)=true:=hk
  rw[aU]at hk ⊢;rcases hk with hk|hk
  ·exact .inl (hd k hk o' a4 e he hb)
  ·have:k=i:=by simpa using hk
   subst this;exact .inl (hr o' a4 e he hb)
 have b9:∀(d:Nat->Bool) (b:Act) (x:World) (φ':Phi) (sq:vAq) (rest:List WL),(∀i,i<L.length->d i=true)->vCl P L ops B a5 a1 m.next sF m'.next φ m.t.get w a.defers d b x φ' sq rest->wpList P ops Q (ops.toList.drop N) b x:=by
  intro d b x φ' sq rest hd I;obtain⟨f1,f2,f3,f4⟩:=I.fin C hd t ht;rw[<-c3];refine d0 φ' x b f1 f2 (fun g h1 h2=>f4 g h1 h2) Q fun a2 w2 φ2 k1 k2 k3 k4=>?_
  exact hQ a2 w2 φ2 k1 (k2.trans I.df) k3 (f3.trans k4)
 have c7:∀ {d:Nat->Bool} {i:Nat} {o:Oper},vAp ops.toList d->udt ops.toList d i->ops[i]? = some o->N<=i->∀j,j<i->d j=true:=fun {d i o} hd hr ho hi j hj=>by
  have d4:=(au.1 ho).1;obtain⟨b,hb⟩:∃b,(uny ops.toList)[i]? = some b:=⟨_,ai (by rw[b4];exact d4)⟩
  refine b3 d hd i b hb hr j (d2 i b hb ?_ j (by omega))
  rw[Nat.zero_add];rw[hN]at hi;exact hi
 refine vAn hm d8 (fun d b x=>vAp ops.toList d/\(((∀j,N<=j->d j=false)/\∃φ' sq rest,vCl P L ops B a5 a1 m.next sF m'.next φ m.t.get w a.defers d b x φ' sq rest)\/(∃k,N<k/\(∀j,d j=decide (j<k))/\wpList P ops Q (ops.toList.drop k) b x))) ?_ ?_ ?_
 ·refine⟨(fun i h=>by cases h),.inl ⟨fun _ _=>rfl,φ,⟨0,⟨m.next+L.length,m.t⟩⟩,W.reverse,?_⟩⟩
  have c0:mix m.t.get (fun _=>false) a1=m.t.get:=by
   funext g
   unfold mix;split
   ·rename_i o ho;exact ho.symm
   ·rename_i hn
    rw[hn];exact ugy fun x _ h=>by cases h
  refine⟨d3,fun _ _=>rfl,fun j=>?_,ab,gr.n.trans c4.1,fun s hs=>?_,rfl,?_,?_,fun g h1 h2=>hf g ?_ h2,fun x hx _=>?_⟩
  ·simp only[ul7]
   simp
  ·rw[gr.vAb s fun o ho hd=>?_]
   ·exact c4.2 s
   ·obtain⟨j,hj⟩:=List.getElem?_of_mem ho
    have:=hs j o hj hd;cases this
  ·rw[c0];exact hr.drew
  ·rw[c0];exact(Ext.drew φ m.t.get m.next w).up (by simp)
  ·simp only[]at h1
   omega
  ·obtain⟨e1,o,e2,_⟩:=C.made x hx
   have:=(aI.1 e2).1;simp only[]at b0;exact hf _ (by omega) (by omega)
 ·rintro d i o b x ho a3 a9 ⟨a7,hI⟩
  have hi:i<ops.size:=(au.1 ho).1;have b1:=d9 ho a9;have b6:=c9 a7 b1;rcases ah i N with hin|hin
  ·rcases hI with⟨hnone,φ',sq,rest,I⟩|⟨k,hk,hdk,hw⟩
   ·have c6:L[i]? = some o:=by rw[a8,List.getElem?_take,if_pos hin,aH];exact ho
    refine wpOp_mono ?_ (I.step C b0 c6 a3 a7 b1 Q);rintro b' x'⟨φ2,e3,e0,I2⟩;refine⟨b6,.inl ⟨fun j hj=>?_,φ2,e3,e0,I2⟩⟩
    show plus d i j=false
    rw[ucf (by omega)]
    exact hnone j hj
   ·rw[hdk i]at a3
    simp at a3;omega
  ·have a0:∀j,j<i->d j=true:=c7 a7 b1 ho hin
   have key:∃w',w'=wpList P ops Q (ops.toList.drop i) b x/\w':=by
    refine⟨_,rfl,?_⟩;rcases hI with⟨hnone,φ',sq,rest,I⟩|⟨k,hk,hdk,hw⟩
    ·have d5:i=N:=by
      rcases ah N i with h|h
      ·have:=a0 N h;rw[hnone _ ab]at this;cases this
      ·omega
     rw[d5];exact b9 d b x φ' sq rest (fun j hj=>a0 j (by omega)) I
    ·have:i=k:=by
      rcases Nat.lt_trichotomy i k with h|h|h
      ·rw[hdk i]at a3;simp at a3;omega
      ·exact h
      ·have:=a0 k h;rw[hdk k]at this;simp at this
     rw[this];exact hw
   obtain⟨_,rfl,key⟩:=key;rw[vA1 ho]at key;refine wpOp_mono ?_ (vAd ho key);intro a' x' hw;refine⟨b6,.inr ⟨i+1,by omega,fun j=>?_,hw⟩⟩
   show(d j||j==i)=_
   rcases Nat.lt_trichotomy j i with h|h|h
   ·rw[a0 j h];simp;omega
   ·subst h;simp
   ·have d1:d j=false:=by
     rcases hI with⟨hnone,_⟩|⟨k,hk,hdk,hw⟩
     ·exact hnone j (by omega)
     ·rw[hdk i]at a3;rw[hdk j];simp at a3 ⊢;omega
    rw[d1];have:(j==i)=false:=by rw[aw];omega
    rw[this];simp;omega
 ·rintro d b x a0 ⟨a7,hI⟩
  rcases hI with⟨hnone,φ',sq,rest,I⟩|⟨k,hk,hdk,hw⟩
  ·have hn:N=ops.size:=by
    rcases ah N ops.size with h|h
    ·have:=a0 _ h;rw[hnone _ ab]at this;cases this
    ·omega
   have:=b9 d b x φ' sq rest (fun j hj=>a0 j (by omega)) I
   rw[hn,List.drop_of_length_le (by simp)]at this
   exact this
  ·have d6:ops.size<=k:=by
    rcases ah k ops.size with h|h
    ·have:=a0 k h;rw[hdk k]at this;simp at this
    ·exact h
   rw[List.drop_of_length_le (by simpa using d6)]at hw
   exact hw
theorem usc{X:unv}(a0:uyx P X)(hm:P.follows .mixedOrders=true):∀n,ui6 P (uAq P X n)
 | 0=>fun c tm m K h=>by cases h
 | n+1=>by
  have ih:=usc a0 hm n;exact uA7 a0 ih (uBf a0 hm ih)
def uG6(w:World)(g:Nat)(o:Ob):Prop:=g<1000/\∃C e fr,o = .row C.toList e true 0 false []/\w.heap[g]? = some (.cells C e fr)/\uH3 fr C.size/\∀v∈C.toList,uiw v=true
theorem uE5{X:unv}(a1:uyx P X)(hm:P.follows .mixedOrders=true){n n0 f:Nat}{t0:Tr}{K:Value->Mem->Bool}(h:uAj P X (uAq P X n) ⟨n0,t0⟩ f [] K=true)(a4:1000<=n0)(w:World)(hg:∀g o,t0.get g=some o->uG6 w g o):Calls P f #[] w fun e w'=>∃v v' m' φ',K v m'=true/\e = .returned v'/\RV φ' v v'/\w'.os=w.os/\w'.tape=w.tape/\w'.output=w.output/\w.heap.size<=w'.heap.size/\∀b,b<w.heap.size->w'.heap[b]? = w.heap[b]? :=by
 obtain⟨v,m',fn,hK,hn,hf,hb,hc⟩:=ur4 a1 (usc a1 hm n) h;obtain⟨φ,hφ⟩:∃φ:Phi,φ=fun g=>if g<1000 then some ⟨g,0,(match w.heap[g]? with|some (.cells C _ _)=>C.size|_=>0),0,true⟩else none:=⟨_,rfl⟩
 have a0:∀g,g<1000->φ g=some ⟨g,0,(match w.heap[g]? with|some (.cells C _ _)=>C.size|_=>0),0,true⟩:=fun g hg=>by rw[hφ];exact if_pos hg
 have a3:∀g,1000<=g->φ g=none:=fun g hg=>by rw[hφ];exact if_neg (by omega)
 have a2:∀ {t c e x u S},t0.get t=some (.row c e x u true S)->False:=fun h=>by
  obtain⟨_,C,e,fr,h1,_⟩:=hg _ _ h;injection h1 with _ _ _ _ h1 _;cases h1
 refine(hc φ w #[] .nil ⟨fun g o h=>?_,fun g1 g2 o1 o2 i1 i2 h1 h2 h3 h4 h5=>?_,fun t c e x u S g o i1 i2 h=>(a2 h).elim,fun t c e x u S h=>(a2 h).elim,fun g hg=>⟨_,a0 g hg,rfl,rfl⟩⟩ (fun g hg _=>a3 g (ag a4 hg))).mono ?_
 ·obtain⟨h1,C,e,fr,rfl,h2,h3,h4⟩:=hg g o h
  refine⟨_,a0 g h1,rfl,(fun h=>by cases h),fun _=>⟨rfl,?_⟩,C,fr,h2,h3,?_,?_,fun j u hu=>⟨u,?_,.plain (h4 u (List.mem_of_getElem? hu))⟩⟩
  ·simp only[h2]
   exact aM
  ·simp only[h2]
  ·simp
  ·rw[Nat.zero_add,<-aH]
   exact hu
 ·rw[a0 g1 (hg _ _ h1).1]at h3
  rw[a0 g2 (hg _ _ h2).1]at h4;injection h3 with h3;injection h4 with h4;subst h3;subst h4;exact .inl h5
 ·rintro e w' ⟨v',φ',rfl,hv,hr,hx⟩
  refine⟨v,v',m',φ',hK,rfl,hv,hx.os,hx.tape,hx.output,hx.size,fun b hb=>hx.fr b hb fun g o im h hw=>?_⟩
  obtain⟨_,C,e,fr,rfl,_⟩:=hg g o h;cases hw
end
end AC.Ev
namespace Go.Proofs.YtnbbpmagijpmpaaGreatDoor
open Go.Lib (hid)
open Go Go.RowKit AC
def ubx:List (ByteArray×Int)->ByteArray->Option Int
 | [],_=>none
 | z::l,s=>if s=z.1 then some z.2 else ubx l s
theorem uhe{s t:ByteArray}{n:Int}(h:s≠t):∀l:List (ByteArray×Int),ubx (l++[(t,n)]) s=ubx l s
 | []=>by show(if s=t then some n else none)=none;rw[if_neg h]
 | z::l=>by
  show(if s=z.1 then _ else ubx (l++[(t,n)]) s)=(if s=z.1 then _ else ubx l s)
  rw[uhe h l]
theorem uhf{s:ByteArray}{n:Int}:∀ {l:List (ByteArray×Int)},ubx l s=none->ubx (l++[(s,n)]) s=some n
 | [],_=>by show(if s=s then some n else none)=some n;rw[if_pos rfl]
 | z::l,h=>by
  unfold ubx at h;split at h
  ·cases h
  ·rename_i hz
   show(if s=z.1 then _ else ubx (l++[(s,n)]) s)=some n
   rw[if_neg hz,uhf h]
def umn(w:World)(b:Nat)(l:List (ByteArray×Int)):Prop:=
 ∃es cl,w.heap[b]? = some (.map es cl)/\es.toList.map (fun e=>(e.key,e.val))=l.map (fun z=>(Value.string z.1,Value.int .i64 z.2))
theorem umn.lt{w:World}{b:Nat}{l:List (ByteArray×Int)}(h:umn w b l):b<w.heap.size:=by
 obtain⟨es,cl,h,_⟩:=h;exact(au.1 h).1
theorem umn.fw{S:Nat->Prop}{w w':World}{b:Nat}{l:List (ByteArray×Int)}(h:umn w b l)(f:Fw S w w')(hb:¬S b):umn w' b l:=by
 have hl:=h.lt;obtain⟨es,cl,h1,h2⟩:=h;exact⟨es,cl,(f.block b hl hb).trans h1,h2⟩
theorem umn.below{w w':World}{b:Nat}{l:List (ByteArray×Int)}(h:umn w b l)(hb:Below w.heap.size w w'):umn w' b l:=by
 have hl:=h.lt;obtain⟨es,cl,h1,h2⟩:=h;exact⟨es,cl,(hb.block b hl).trans h1,h2⟩
theorem umn.new(w:World):umn (w.alloc (.map #[] 0)) w.heap.size []:=⟨#[],0,heap_alloc_new w _,rfl⟩
theorem uqd(s t:ByteArray):Instr.sameNow .string (.string s) (.string t)=some (decide (s=t)):=by
 show some (s==t)=_
 congr 1
 rw[beq_toListBytes,ByteArray.toList_eq,ByteArray.toList_eq];by_cases h:s=t
 ·subst h;simp
 ·rw[aQ h]
  exact aw.2 fun e=>h (ByteArray.ext (Array.toList_inj.1 e))
theorem ufc(s:ByteArray):∀(l:List (ByteArray×Int)) (es:List MapEntry) (i:Nat),es.map (fun e=>(e.key,e.val))=l.map (fun z=>(Value.string z.1,Value.int .i64 z.2)) ->
 (ubx l s=none/\Instr.findNow .string (.string s) es i=some none)\/∃n j,ubx l s=some n/\Instr.findNow .string (.string s) es i=some (some (j,.int .i64 n))
 | [],[],i,_=> .inl ⟨rfl,rfl⟩
 | [],e::es,i,h=>by simp at h
 | z::l,[],i,h=>by simp at h
 | z::l,e::es,i,h=>by
  simp only[List.map_cons,List.cons.injEq,Prod.mk.injEq]at h;obtain⟨⟨h1,h2⟩,h3⟩:=h;rw[Instr.findNow,h1,uqd];by_cases he:s=z.1
  ·refine .inr ⟨z.2,i,by unfold ubx;rw[if_pos he],?_⟩
   rw[decide_eq_true he,h2]
  ·rw[aQ he]
   unfold ubx;rw[if_neg he];exact ufc s l es (i+1) h3
section
variable {P:Program} {T kt e:TypeId} {w:World} {b:Nat} {l:List (ByteArray×Int)}
theorem uoe(hT:P.underlying T=some (.map kt e))(hk:P.underlying kt=some .string)(hz:∀w,(zeroValue e).run P w = .ok (.int .i64 0) w)(h:umn w b l)(s:ByteArray) :
 (Instr.lookup T (.map (some b)) (.string s) true).run P w = .ok (.tuple #[.int .i64 ((ubx l s).getD 0),.bool (ubx l s).isSome]) w:=by
 obtain⟨es,cl,h1,h2⟩:=h;have a0:AC.Ev.vA4 P kt (.string s)=true:=by simp[AC.Ev.vA4,hk]
 simp only[Instr.lookup,aD,AC.Ev.ur hT,aA,Sem.run_pure,AC.Ev.uc5 h1,AC.Ev.run_checkKey a0];rcases ufc s l es.toList 0 h2 with⟨g1,g2⟩|⟨n,j,g1,g2⟩
 ·rw[AC.Ev.run_findKey hk g2]
  simp only[aA,aD,hz,Sem.run_pure,g1];rfl
 ·rw[AC.Ev.run_findKey hk g2]
  simp only[aA,aD,Sem.run_pure,g1];rfl
theorem usd(hT:P.underlying T=some (.map kt e))(hk:P.underlying kt=some .string)(h:umn w b l)(s:ByteArray)(n:Int)(hn:ubx l s=none) :
 ∃w',(Instr.mapUpdate T (.map (some b)) (.string s) (.int .i64 n)).run P w = .ok () w'/\umn w' b (l++[(s,n)])/\Fw (fun i=>i=b) w w'/\w'.heap.size=w.heap.size:=by
 have hl:=h.lt;obtain⟨es,cl,h1,h2⟩:=h;have a0:AC.Ev.vA4 P kt (.string s)=true:=by simp[AC.Ev.vA4,hk]
 rcases ufc s l es.toList 0 h2 with⟨g1,g2⟩|⟨m,j,g1,g2⟩
 ·refine⟨{ w with heap:=w.heap.setIfInBounds b (.map (es.push ⟨.string s,.int .i64 n,cl⟩) (cl+1)) },?_,⟨es.push ⟨.string s,.int .i64 n,cl⟩,cl+1,?_,?_⟩,⟨rfl,rfl,rfl,by simp,fun i hi hS=>?_⟩,by simp⟩
  ·simp only[Instr.mapUpdate,aD,AC.Ev.ur hT,aA,Sem.run_pure,AC.Ev.uc5 h1,AC.Ev.run_checkKey a0]
   rw[AC.Ev.run_findKey hk g2];simp only[aA,AC.Ev.uko h1]
  ·show(w.heap.setIfInBounds b _)[b]? = _
   rw[aO hl]
  ·rw[Array.toList_push,List.map_append,h2,List.map_append]
   rfl
  ·show(w.heap.setIfInBounds b _)[i]? = _
   rw[Array.getElem?_setIfInBounds_ne (fun e=>hS e.symm)]
 ·rw[hn]at g1
  cases g1
end
open Go.RowKit AC
set_option maxHeartbeats 16000000
set_option maxRecDepth 100000
theorem use{D:Nat->Prop}(v:Int)(i:Ix)(iv:List Value)(w:World)(hv:rng v)(h:IxR w D i iv)(b8:i.sz<=50)(hg:Gp w) :
 Calls Tryz.prog 90 #[.int .i64 v,.agg iv.toArray] w (ud7 (ugg v i) w):=by
 have HW:=hid fun(bw:Nat) (l:List UInt8) (x:World) (hx:IxR x (· < bw) i iv) (hd:Dst x bw l) (hl:l.length<=1000) (hg:Gp x) (hb:GP<=bw)=>ukh i.sz i ab (by omega) bw l iv x hx hd (by omega) hg hb
 have HR:Hid (∀x,Below w.heap.size w x->IxR x (· < w.heap.size) i iv):=fun x hx=>(h.sub (D':=(· < w.heap.size)) fun b hb _=>hb).vAb (uc.of hx)
 have c2:=ulq h.rg;obtain⟨A,n,c,rfl,_,_⟩:=h.form;have HV:=hid hv;have HG:=hid hg;have c5:=uak hv;unfold ugg;generalize wix i=q at *;generalize i.k=x0 at *;have c4:q.length<=1200:=by omega
 clear h hv hg b8 c2;show Calls Tryz.prog 90 #[.int .i64 v,.agg #[.int .i64 x0,.slice A n c]] w _
 go_enter Tryz.func90,Tryz.ntmps90
 go_upto_region 2 with(fail)
 obtain⟨W0,a0⟩:∃W,W=w.alloc (.cells #[.int .i64 x0,.slice A n c] 120):=⟨_,rfl⟩;have a4:Hid (Below w.heap.size w W0):=by rw[a0];exact aa.alloc ab _
 have a3:Hid (Bk W0 w.heap.size 120 #[.int .i64 x0,.slice A n c]):=by rw[a0];exact Bk.new _ _ _
 have a7:W0.heap.size=w.heap.size+1:=by rw[a0];simp
 rw[<-a0];clear a0;have a1:=Dst.new W0;rw[a7]at a1;obtain⟨W,hW⟩:∃W,W=W0.alloc (.cells #[.pointer none,.slice none 0 0] 154):=⟨_,rfl⟩;rw[<-hW]at a1;have a5:Hid (Below W0.heap.size W0 W):=by rw[hW];exact aa.alloc ab _
 rw[<-hW];clear hW;have HD:=hid a1;have HB:=hid (a4.out.trans (a5.out.mono a4.out.size));have HP:=hid (a3.out.below a5.out a3.out.lt);have c3:w.heap.size+1<W.heap.size:=a1.lt;have b4:=hid (HG.out.below HB.out HG.out.2);have b9:Hid (GP<=w.heap.size+1):=by have:=HG.out.2;exact hid (by omega)
 clear a1 a4 a5 a3 a7;go_wp2_with fail
 refine(ud8 W v HV.out b4.out).mono ?_;rintro e w1⟨rfl,hb⟩;have a8:=hid (HB.out.trans (hb.mono HB.out.size));have b6:=hid (HP.out.below hb HP.out.lt);have b1:=hid (HD.out.below hb);clear hb;go_wp2_with fail
 obtain⟨t,ht⟩:∃t,(⟨#[118]⟩++⟨(Lib.itoa v).toArray⟩++⟨#[58]⟩:ByteArray)=t:=⟨_,rfl⟩;have a6:t.data.toList=118::(Lib.itoa v++[58]):=by rw[<-ht];simp
 have c1:t.size<=23:=by
  have:t.data.toList.length=t.size:=by rw[aM];rfl
  rw[<-this,a6];simp;omega
 rw[ht];clear ht;refine(uS w1 (w.heap.size+1) [] t b1.out (by simp;omega)).mono ?_
 rintro e w2⟨rfl,hf,hd⟩;have b7:=hid (hf.2 _ _ _ (by omega) (by decide) b6.out)
 have a2:Hid (Below w.heap.size w w2):=a8.out.trans (hf.1.mono (by omega))
 have b2:Hid (Dst w2 (w.heap.size+1) (118::(Lib.itoa v++[58]))):=by
  rw[<-a6];exact hid (by simpa using hd)
 have b5:=hid (HG.out.below a2.out HG.out.2);clear hf hd a6 c1;obtain⟨c0,_,_⟩:=b7.out.facts;go_wp2_with fail
 refine(HW.out (w.heap.size+1) _ w2 ((HR.out w2 a2.out).sub fun b _ hD=>Nat.lt_succ_of_lt hD) b2.out (by simp;omega) b5.out b9.out).mono ?_
 rintro e w3⟨rfl,hf,hd⟩;have a9:Hid (Below w.heap.size w w3):=a2.out.trans (hf.1.mono (by omega))
 have b3:Hid (Dst w3 (w.heap.size+1) (118::(Lib.itoa v++58::q))):=by
  have:=hd;simp only[List.cons_append,aS]at this;exact this
 clear hf hd c0;go_wp2_with fail
 refine(ude w3 (w.heap.size+1) _ b3.out (by simp) (by simp;omega)).mono ?_
 rintro e w4⟨rfl,hb⟩;have b0:Hid (Below w.heap.size w w4):=a9.out.trans (hb.mono (by omega))
 clear hb;go_wp2;go_ret
 exact⟨rfl,b0.out⟩
open AC
set_option maxHeartbeats 200000
set_option maxRecDepth 512
def uei:List Tr->List Bool->List Tr
 | f::fs,r::rs=>if r=true then uei fs rs else f::uei fs rs
 | _,_=>[]
def umc(dat:List DaD)(t:Tr)(c:Int):List Bool:=
 match dat[t.m.toNat]? with
 | none=>[]
 | some x=>match x.cons[c.toNat]? with
  | none=>[]
  | some y=>y.args.map (uqv t.m x.vars)
mutual
def msr(dat:List DaD):Ix->Tr->Int
 | .n k l,t=>
  if t.k=6 then(if k=0 then(if t.kids.length=l.length then vBu dat l t.kids 0 else -1)else -1)
  else if t.k=7 then(if 0<=k/\k<=6/\l.length=0 then k else -1)
  else if t.k=5 then(if k=0 then els dat l t 0 else -1)
  else if k=0/\l.length=0 then 0 else -1
def elm(dat:List DaD):Ix->Tr->Int
 | .n c m,t=>match uae dat t c with
  | none=> -1
  | some fs=>
   if(uei fs (umc dat t c)).length=m.length then
    (if vBu dat m (uei fs (umc dat t c)) 0<0 then -1 else 1+vBu dat m (uei fs (umc dat t c)) 0)
   else -1
def els(dat:List DaD):List Ix->Tr->Int->Int
 | [],_,s=>s
 | e::l,t,s=>if elm dat e t<0\/6<s then -1 else els dat l t (s+elm dat e t)
def vBu(dat:List DaD):List Ix->List Tr->Int->Int
 | [],_,s=>s
 | x::l,[],s=> -1
 | x::l,t::ts,s=>if msr dat x t<0\/6<s then -1 else vBu dat l ts (s+msr dat x t)
end
def tot(dat:List DaD)(ts:List Tr)(l:List Ix):Int:=if ts.length=l.length then vBu dat l ts 0 else -1
mutual
theorem uxk(dat:List DaD):∀(x:Ix) (t:Tr),msr dat x t<=7*x.sz
 | .n k l,t=>by
  have h1:=vBy dat l t.kids 0;have h2:=vCz dat l t 0;rw[msr,Ix.sz];repeat' split
  all_goals omega
theorem vC1(dat:List DaD):∀(x:Ix) (t:Tr),elm dat x t<=7*x.sz
 | .n c m,t=>by
  rw[elm,Ix.sz];split
  ·omega
  ·rename_i fs _
   have h1:=vBy dat m (uei fs (umc dat t c)) 0;repeat' split
   all_goals omega
theorem vCz(dat:List DaD):∀(l:List Ix) (t:Tr) (s:Int),els dat l t s<=max s 0+7*szs l
 | [],t,s=>by rw[els,szs];omega
 | e::l,t,s=>by
  have h1:=vC1 dat e t;have h2:=vCz dat l t (s+elm dat e t);rw[els,szs];split
  ·omega
  ·rename_i h
   omega
theorem vBy(dat:List DaD):∀(l:List Ix) (ts:List Tr) (s:Int),vBu dat l ts s<=max s 0+7*szs l
 | [],ts,s=>by rw[vBu,szs];omega
 | x::l,[],s=>by rw[vBu];omega
 | x::l,t::ts,s=>by
  have h1:=uxk dat x t;have h2:=vBy dat l ts (s+msr dat x t);rw[vBu,szs];split
  ·omega
  ·rename_i h
   omega
end
mutual
theorem uG7(dat:List DaD):∀(x:Ix) (t:Tr), -1<=msr dat x t
 | .n k l,t=>by
  have h1:=vCb dat l t.kids 0 (by omega)
  have h2:=vC2 dat l t 0 (by omega)
  rw[msr];repeat' split
  all_goals omega
theorem vDm(dat:List DaD):∀(x:Ix) (t:Tr), -1<=elm dat x t
 | .n c m,t=>by
  rw[elm];split
  ·omega
  ·rename_i fs _
   have h1:=vCb dat m (uei fs (umc dat t c)) 0 (by omega)
   repeat' split
   all_goals omega
theorem vC2(dat:List DaD):∀(l:List Ix) (t:Tr) (s:Int), -1<=s -> -1<=els dat l t s
 | [],t,s,h=>by rw[els];exact h
 | e::l,t,s,h=>by
  rw[els];split
  ·omega
  ·exact vC2 dat l t _ (by omega)
theorem vCb(dat:List DaD):∀(l:List Ix) (ts:List Tr) (s:Int), -1<=s -> -1<=vBu dat l ts s
 | [],ts,s,h=>by rw[vBu];exact h
 | x::l,[],s,h=>by rw[vBu];omega
 | x::l,t::ts,s,h=>by
  rw[vBu];split
  ·omega
  ·exact vCb dat l ts _ (by omega)
end
noncomputable def bP (p:Prop):Bool:= @decide p (Classical.propDecidable p)
theorem ue0{p:Prop}(h:p):bP p=true:=by unfold bP;exact @decide_eq_true _ (Classical.propDecidable p) h
theorem uej{p:Prop}(h:¬p):bP p=false:=by unfold bP;exact @decide_eq_false _ (Classical.propDecidable p) h
theorem uhg{p:Prop}:bP p=true↔p:=⟨fun h=>Classical.byContradiction fun hn=>(by rw[uej hn]at h;cases h),ue0⟩
structure Ctx where
 dat:List DaD
 vars:List Tr
 res:Tr
def Ctx.ty(X:Ctx)(v:Int):Tr:=if v = -1 then X.res else X.vars.getD v.toNat (.n 0 0 [])
def Ctx.vr(X:Ctx)(v:Int):Prop:= -1<=v/\v<X.vars.length
def Ctx.deg(X:Ctx)(v:Int)(i:Ix):Int:=if 6<msr X.dat i (X.ty v)then -1 else msr X.dat i (X.ty v)
theorem Ctx.vC9(X:Ctx)(v:Int)(i:Ix) : -1<=X.deg v i:=by
 have:=uG7 X.dat i (X.ty v);unfold Ctx.deg;split<;>omega
theorem Ctx.vDc(X:Ctx)(v:Int)(i:Ix):X.deg v i<=6:=by unfold Ctx.deg;split<;>omega
def Ctx.ints(X:Ctx)(l:Lin):Prop:=∀t∈l.ts,X.vr t.1/\(X.ty t.1).k=1
def Ctx.prop(X:Ctx)(m:Mon):Prop:=(∀f∈m.fs,X.vr f.v/\0<=X.deg f.v f.i)/\∀a∈m.ats,0<=a.d/\X.ints a.l
def uxl(X:Ctx):List Fac->Int->Int
 | [],d=>d
 | f::l,d=>uxl X l (if d<=6 then d+X.deg f.v f.i else d)
def uqe:List Ato->Int->Int
 | [],d=>d
 | a::l,d=>uqe l (if d<=6 then d+min a.d 7 else d)
def Ctx.vC4(X:Ctx)(m:Mon):Int:=uqe m.ats (uxl X m.fs 0)
def uof(l:Lin):Prop:=(-1048576<=l.c/\l.c<=1048576)/\l.ts.length<=16 /\
 ∀(i:Nat) (h:i<l.ts.length),(-1<=l.ts[i].1/\l.ts[i].1<3000)/\l.ts[i].2≠0/\(-1048576<=l.ts[i].2/\l.ts[i].2<=1048576)/\(0<i->(l.ts.getD (i-1) (0,0)).1<l.ts[i].1)
def Ctx.vBx(X:Ctx)(m:Mon):Prop:=X.prop m/\X.vC4 m<=6 /\
 (∀(i:Nat) (h:i<m.fs.length),X.deg m.fs[i].v m.fs[i].i≠0/\(0<i->(m.fs.getD (i-1) ⟨0,.n 0 []⟩).v<m.fs[i].v)) /\
 ∀(i:Nat) (h:i<m.ats.length),m.ats[i].d≠0/\uof m.ats[i].l/\m.ats[i].l.ts.length≠0/\(0<i->ubp (m.ats.getD (i-1) ⟨⟨0,[]⟩,0⟩).l m.ats[i].l<0)
def Spc(w:World)(lo sb mb pb:Nat)(X:Ctx):Prop:=∃dA dn dc vA vn vc rk rm rA rn rc,
 Bk w sb 97 #[.slice dA dn dc,.slice vA vn vc,.int .i64 rk,.int .i64 rm,.slice rA rn rc,.map (some mb),.map (some pb)] /\
 DaS w (· < lo) X.dat dA dn dc/\TrS w (· < lo) X.vars vA vn vc/\TrR w (· < lo) X.res [.int .i64 rk,.int .i64 rm,.slice rA rn rc]
theorem Spc.vAb{w w':World}{lo sb mb pb:Nat}{X:Ctx}(h:Spc w lo sb mb pb X){S:Nat->Prop}(f:Fw S w w')(h1:¬S sb)(h2:∀b,b<lo->¬S b):Spc w' lo sb mb pb X:=by
 obtain⟨dA,dn,dc,vA,vn,vc,rk,rm,rA,rn,rc,hb,hd,hv,hr⟩:=h;exact⟨dA,dn,dc,vA,vn,vc,rk,rm,rA,rn,rc,Bk.fw hb f h1,hd.vAb (uc.fw f h2),hv.vAb (uc.fw f h2),hr.vAb (uc.fw f h2)⟩
theorem Spc.below{w w':World}{lo sb mb pb:Nat}{X:Ctx}(h:Spc w lo sb mb pb X)(hb:Below w.heap.size w w'):Spc w' lo sb mb pb X:=
 h.vAb (S:=fun _=>False) ((Fw.refl _ _).below hb) (fun h=>h) (fun _ _ h=>h)
def Ctx.ok(X:Ctx):Prop:=DOk X.dat/\(∀t∈X.vars,TOk t)/\TOk X.res/\X.vars.length<=3000
def uE6(lo sb mb pb:Nat)(X:Ctx)(N:Nat):Prop:=∀(D D':Nat->Prop) (i:Ix) (t:Tr) (tv iv:List Value) (x:World),i.sz<=N->i.sz<=100->TOk t->Spc x lo sb mb pb X->TrR x D t tv->IxR x D' i iv ->
 Calls Tryz.prog 202 #[.pointer (some ⟨sb,0,none⟩),.agg tv.toArray,.agg iv.toArray] x (uY (.int .i64 (msr X.dat i t)) x)
def uE7(lo sb mb pb:Nat)(X:Ctx)(N:Nat):Prop:=∀(D D':Nat->Prop) (i:Ix) (t:Tr) (tv iv:List Value) (x:World),i.sz<=N->i.sz<=100->TOk t->Spc x lo sb mb pb X->TrR x D t tv->IxR x D' i iv ->
 Calls Tryz.prog 256 #[.pointer (some ⟨sb,0,none⟩),.agg tv.toArray,.agg iv.toArray] x (uY (.int .i64 (elm X.dat i t)) x)
def uE8(lo sb mb pb:Nat)(X:Ctx)(N:Nat):Prop:=∀(D D':Nat->Prop) (l:List Ix) (ts:List Tr) (A B:Option Addr) (n c m k:Nat) (x:World),szs l<=N->szs l<=100->(∀t∈ts,TOk t)->Spc x lo sb mb pb X->TrS x D ts A n c->IxS x D' l B m k ->
 Calls Tryz.prog 255 #[.pointer (some ⟨sb,0,none⟩),.slice A n c,.slice B m k] x (uY (.int .i64 (tot X.dat ts l)) x)
theorem uqf{l:List Ix}{i:Nat}(h:i<l.length):l[i].sz<=szs l:=uge (aq h)
theorem uxm{dat:List DaD}{l:List Ix}{ts:List Tr}{i:Nat}{s:Int}(h1:i<l.length)(h2:i<ts.length):vBu dat (l.drop i) (ts.drop i) s=if msr dat l[i] ts[i]<0\/6<s then -1 else vBu dat (l.drop (i+1)) (ts.drop (i+1)) (s+msr dat l[i] ts[i]):=by
 rw[aN h1,aN h2,vBu]
theorem uBg{dat:List DaD}{l:List Ix}{ts:List Tr}{i:Nat}{s:Int}(h1:l.length=i):vBu dat (l.drop i) (ts.drop i) s=s:=by
 rw[show l.drop i=[] from List.drop_eq_nil_of_le (by omega),vBu]
set_option maxHeartbeats 16000000
set_option maxRecDepth 100000
theorem usf{lo sb mb pb:Nat}{X:Ctx}{N:Nat}(hM:uE6 lo sb mb pb X N):uE8 lo sb mb pb X N:=by
 intro D D' l ts A B n c m k w hN d2 c1 c0 ht hl;have hn:n=ts.length:=ht.1;have hm:m=l.length:=hl.1;have d5:c<=maxLen:=ht.2.2.1;have d6:k<=maxLen:=hl.2.2.1;have e4:=ht.2.1;have e3:=hl.2.1;unfold maxLen at d5 d6;obtain⟨q,hq⟩:∃q,Hid (tot X.dat ts l=q):=⟨_,rfl⟩;rw[hq.out];have HM:=hid hM;have HN:=hid hn;have a3:=hid hm;have c9:Hid (∀(i:Nat) (h:i<l.length),l[i].sz<=N/\l[i].sz<=100):=fun i h=>by have:=uqf h;omega
 have d0:Hid (∀(i:Nat) (h:i<ts.length),TOk ts[i]):=fun i h=>c1 _ (aq h)
 have c8:=hid c0;have HT:=hid ht;have HL:=hid hl;clear hM hn hm hN d2 c1 c0 ht hl;go_enter Tryz.func255,Tryz.ntmps255
 by_cases b8:n=m
 ·subst b8
  have HQ:Hid (vBu X.dat l ts 0=q):=by
   show _=q
   rw[<-hq.out,tot,if_pos (by rw[<-HN.out,<-a3.out])]
  clear hq;go_wp2;go_loopw [7,18] (fun sv iv wr=>∃(i:Nat) (s:Int),i<=n/\iv = .int .i64 i/\sv = .int .i64 s/\(0<=s/\s<=1000)/\Hid (Below w.heap.size w wr)/\Hid (vBu X.dat (l.drop i) (ts.drop i) s=q)) (fun _ iv _=>n-(intOf iv).toNat)
  case atStart=>exact⟨0,0,by omega,rfl,rfl,by omega,aa,HQ⟩
  case round=>
   obtain⟨i,s,hi,rfl,rfl,hs,HB,HP⟩:=hrel;by_cases d9:i<n
   ·have a9:i<l.length:=by have:=a3.out;omega
    have b0:i<ts.length:=by have:=HN.out;omega
    have hT:TrS wr D ts A n c:=HT.out.vAb (uc.of HB.out);obtain⟨b,off,A1,a2,a0,rfl,hb,e0,e1,e2,b9⟩:=hT.get (i:=i) b0;have hL:IxS wr D' l B n k:=HL.out.vAb (uc.of HB.out);obtain⟨b',a5,v',rfl,d3,d4,b7,b1⟩:=hL.get a9;obtain⟨A2,n2,c2,rfl,d8,d7⟩:=b1.form;have c6:=hid b9;have c7:=hid b1;have b3:=hid b7;have a7:=hid d4;have b4:=d0.out i b0;have a8:=c9.out i a9;have a4:=hid (uxm (dat:=X.dat) (s:=s) a9 b0);have b5:=uxk X.dat l[i] ts[i];generalize ts[i]=t0 at *;generalize l[i]=l0 at *;obtain⟨z,hz⟩:∃z,Hid (msr X.dat l0 t0=z):=⟨_,rfl⟩;rw[hz.out]at a4 b5;have e7:z<=700:=by omega
    generalize t0.k=y0 at *;generalize t0.m=y1 at *;generalize l0.k=y2 at *;have d1:Hid (∀x,Below wr.heap.size wr x->Calls Tryz.prog 202 #[.pointer (some ⟨sb,0,none⟩),.agg #[.int .i64 y0,.int .i64 y1,.slice A1 a2 a0],.agg #[.int .i64 y2,.slice A2 n2 c2]] x (uY (.int .i64 z) x)):=fun x hx=>by
     have:=HM.out D D' l0 t0 _ _ x a8.1 a8.2 b4 (c8.out.below (HB.out.trans (hx.mono HB.out.size))) (c6.out.vAb (uc.of hx)) (c7.out.vAb (uc.of hx));rw[hz.out]at this;exact this
    clear b4 a8 b5 b9 b1 b7 d8 d7 d3;go_upto_region 7 with(fail)
    obtain⟨W,hW⟩:∃W,W=wr.alloc (.cells #[.int .i64 y0,.int .i64 y1,.slice A1 a2 a0] 25):=⟨_,rfl⟩;have a1:Hid (Below wr.heap.size wr W):=by rw[hW];exact aa.alloc ab _
    have HX:Hid (Bk W wr.heap.size 25 #[.int .i64 y0,.int .i64 y1,.slice A1 a2 a0]):=by rw[hW];exact Bk.new _ _ _
    rw[<-hW];clear hW e0 e1 e2;have HD:Hid (um W b' (a5+i*2) [.int .i64 y2,.slice A2 n2 c2]):=b3.out.sure a1.out a7.out;have c4:Hid (b'<W.heap.size):=af a7.out a1.out.size;clear b3 a7;refine ue (⟨[(wr.heap.size,0,[.int .i64 y0,.int .i64 y1,.slice A1 a2 a0]),(b',(a5+i*2),[.int .i64 y2,.slice A2 n2 c2])],[],[],[(0,.v (.pointer (some ⟨sb,0,none⟩))),(2,.v (.slice (some ⟨b',a5,none⟩) n k)),(8,.v (.int .i64 ((i:Int)))),(9,.p 0 0)],[(4,.p 1 0),(6,.v (.int .i64 z))]⟩:Sp) [23,24,25,26,27,28,29,10] W (aa.drew) (by kernel_rfl) (by kernel_rfl) (by kernel_rfl) sN (by kernel_rfl)
     (fun x hx=>(mI (ud (HX.out.below hx HX.out.lt)) (mI (HD.out.sure hx c4.out) mN))) (dI (uas rfl rfl b' (a5) n k .i64 i 2 1 (by kernel_rfl) (by kernel_rfl) (fun _=>by omega) rfl) (
     dI (ug [.v (.pointer (some ⟨sb,0,none⟩)),.v (.agg #[.int .i64 y0,.int .i64 y1,.slice A1 a2 a0]),.v (.agg #[.int .i64 y2,.slice A2 n2 c2])] rfl rfl (by kernel_rfl) (by kernel_rfl) fun x vs hx hC hv=>by
      obtain⟨v1,v2,v3,rfl,h1,h2,h3⟩:=um8 hv;obtain rfl:v1 = .pointer (some ⟨sb,0,none⟩):=h1;obtain rfl:v2 = .agg #[.int .i64 y0,.int .i64 y1,.slice A1 a2 a0]:=h2;obtain rfl:v3 = .agg #[.int .i64 y2,.slice A2 n2 c2]:=h3;refine(d1.out x (a1.out.trans (hx.mono a1.out.size))).mono ?_;rintro en w2⟨rfl,hb⟩;exact⟨_,rfl,rfl,hb⟩) (dN))) ?_
    intro S x1 b6 hS;obtain⟨g7,_⟩:S 7 = .int .i64 z/\True:=hS (l:=[(7,.v (.int .i64 z))]) (by kernel_rfl)
    clear hS;simp only[nv,Nat.reduceAdd,aB,aE,aC,List.drop_zero,g7];clear g7;have a6:=hid (HB.out.trans ((a1.out.trans (b6.mono a1.out.size)).mono HB.out.size));clear b6;by_cases c3:z<0
    ·have e:q = -1:=by rw[<-HP.out,a4.out,if_pos (.inl c3)]
     go_wp2;go_ret
     exact⟨by first|rfl|(rw[e];rfl),a6.out⟩
    by_cases b2:6<s
    ·have e:q = -1:=by rw[<-HP.out,a4.out,if_pos (.inr b2)]
     have e6:s>6:=b2;go_wp2;go_ret
     exact⟨by first|rfl|(rw[e];rfl),a6.out⟩
    have c5:Hid (vBu X.dat (l.drop (i+1)) (ts.drop (i+1)) (s+z)=q):=by
     show _=q
     rw[<-HP.out,a4.out,if_neg (fun h=>h.elim c3 b2)]
    go_wp2;go_roundw
    case rel=>exact⟨i+1,s+z,by omega,by go_num,rfl,by omega,a6,c5⟩
    case measure=>simp[intOf];omega
   ·obtain rfl:i=n:=by omega
    have e:s=q:=by rw[<-HP.out,uBg a3.out.symm]
    subst e;go_wp2;go_ret
    exact⟨rfl,HB.out⟩
 ·have e:q = -1:=by rw[<-hq.out,tot,if_neg (by rw[<-HN.out,<-a3.out];exact b8)]
  have e5:¬(n:Int)=m:=by omega
  go_wp2;go_ret
  exact⟨by rw[e];rfl,aa⟩
end Go.Proofs.YtnbbpmagijpmpaaGreatDoor
