/-
  Closed calls by reflection: code.
-/
import Derived.Test.YtnbbpmagijpmpaaGreatDoorMYe
set_option linter.unusedVariables false
set_option linter.unusedSimpArgs false
namespace AC.Ev
open Go
def uw9:Ex->Exit
 | .normal=> .normal
 | .exit id=> .exit id
 | .ret=> .ret
def ul6(W:(Exit->Act->World->Prop)->Act->World->Prop)(tm:Tm)(m:Mem)(e:Ex)(tm':Tm)(m':Mem):Prop:=
 ∀(φ:Phi) (w:World) (a:Act),RT φ tm a.tmps->Rep φ m.t.get w->ut7 φ m.next m'.next->∀(Q:Exit->Act->World->Prop),
  (∀a' w' φ',RT φ' tm' a'.tmps->a'.defers=a.defers->Rep φ' m'.t.get w'->Ext φ m.t.get m.next φ' m'.t.get m'.next w w'->Q (uw9 e) a' w')->W Q a w
def uCy(P:Program)(c:Code)(tm:Tm)(m:Mem)(e:Ex)(tm':Tm)(m':Mem):Prop:=ul6 (fun Q a w=>c.wp P Q a w) tm m e tm' m'
def uxa(P:Program)(c:Code)(tm:Tm)(m:Mem)(e:Ex)(tm':Tm)(m':Mem):Prop:=∀b,c = .loop b->∃n,ul6 (fun Q a w=>Code.rounds P b Q n a w) tm m e tm' m'
def ui6(P:Program)(rec:ue9):Prop:=∀(c:Code) (tm:Tm) (m:Mem) (K:Ex->Tm->Mem->Bool),rec c tm m K=true->∃e tm' m',K e tm' m'=true/\m.next<=m'.next/\uCy P c tm m e tm' m'/\uxa P c tm m e tm' m'
section
variable {P:Program}
theorem uxb:∀ {l:List Value} {i:Nat} {t:Trie Value} {K:Trie Value->Bool},uHy l i t K=true->∃t',K t'=true/\∀j,t'.get j=if i<=j/\j<i+l.length then l[j-i]? else t.get j
 | [],i,t,K,h=>⟨t,h,fun j=>by rw[if_neg (by rintro⟨h1,h2⟩;simp at h2;omega)]⟩
 | v::l,i,t,K,h=>by
  rw[uHy]at h;obtain⟨t1,h,g1,g2⟩:=udp h;obtain⟨t2,h,g3⟩:=uxb h;refine⟨t2,h,fun j=>?_⟩
  rw[g3 j];rcases Nat.lt_trichotomy j i with h1|h1|h1
  ·rw[if_neg (by omega),if_neg (by omega),g2 j (by omega)]
  ·subst h1
   rw[if_neg (by omega),if_pos (by simp),g1]
   simp
  ·by_cases h2:j<i+1+l.length
   ·rw[if_pos ⟨by omega,h2⟩,if_pos ⟨by omega,by rw[aB];omega⟩,show j-i=(j-(i+1))+1 by omega]
    simp
   ·rw[if_neg (by omega),if_neg (by rw[aB];omega),g2 j (by omega)]
theorem RVs.get'{φ:Phi}:∀ {l l':List Value},RVs φ l l'->∀(i:Nat),RV φ ((l[i]?).getD undef) ((l'[i]?).getD undef)
 | _,_,.nil,i=>by simpa using RV.undef
 | _,_,.cons h1 h2,0=>by simpa using h1
 | _,_,.cons h1 h2,i+1=>by simpa using RVs.get' h2 i
theorem uA4{φ:Phi}{args:List Value}{a0:Array Value}{n:Nat}{t:Trie Value}(h:RVs φ args a0.toList)(hl:args.length<=n)(ht:∀j,t.get j=if 0<=j/\j<0+args.length then args[j-0]? else(Trie.nil:Trie Value).get j):RT φ ⟨n,t⟩ (a0++Array.replicate (n-a0.size) undef):=by
 have a1:a0.size=args.length:=by rw[<-aM];exact h.len.symm
 refine⟨by simp;omega,fun i=>?_⟩
 rw[ht i,ubv];by_cases hi:i<args.length
 ·rw[if_pos ⟨Nat.zero_le _,by omega⟩,Nat.sub_zero]
  have:=h.get' i;rw[ak,Array.getElem?_append_left (by omega),<-aH]
  exact this
 ·rw[if_neg (by omega)]
  rw[ak,Array.getElem?_append_right (by omega)]
  have:((Array.replicate (n-a0.size) undef)[i-a0.size]?).getD undef=undef:=by
   rw[Array.getElem?_replicate];split<;>rfl
  rw[this];exact .undef
def uH4(tmps:Array Value):ResultVar->Sem Value
 | .tmp t=>pure (tmps.getD t undef)
 | .cell a t=>do loadVar t (<-asAddr (tmps.getD a undef))
theorem up9{t:Tr}{tm:Tm}:∀ {l:List ResultVar} {K:List Value->Bool},uFx P t tm l K=true->∃vs,K vs=true /\
 ∀(φ:Phi) (w:World) (a0:Array Value),RT φ tm a0->Rep φ t.get w->∃a1:List Value,(l.mapM (uH4 a0)).run P w = .ok a1 w/\RVs φ vs a1
 | [],K,h=>⟨[],h,fun φ w a0 ht hr=>⟨[],by simp,.nil⟩⟩
 | r::l,K,h=>by
  unfold uFx at h;cases r with
  | tmp i=>
   simp only[]at h;obtain⟨v,hv,h⟩:=uy h;obtain⟨vs,h,hk⟩:=up9 h;refine⟨v::vs,h,fun φ w a0 ht hr=>?_⟩
   obtain⟨a1,k1,k2⟩:=hk φ w a0 ht hr;have a2:=(RT.or (a:=⟨a0,[]⟩) ht hr.glob (.tmp i)) v hv;refine⟨a0.getD i undef::a1,?_,.cons a2 k2⟩;rw[List.mapM_cons,aD];simp only[uH4,Sem.run_pure,aA];rw[aD,k1];simp
  | cell i ty=>
   simp only[]at h;unfold ut1 at h;obtain⟨p,hp,h⟩:=uy h;obtain⟨g,off,e0,h⟩:=uf2 h;rw[e0]at hp;obtain⟨v,h,hl⟩:=ukm (P:=P) (φ:=fun _=>none) (w:=default) h
   obtain⟨vs,h,hk⟩:=up9 h;refine⟨v::vs,h,fun φ w a0 ht hr=>?_⟩
   obtain⟨a1,k1,k2⟩:=hk φ w a0 ht hr;obtain⟨im,hi,ea⟩:=((RT.or (a:=⟨a0,[]⟩) ht hr.glob (.tmp i)) _ hp).vBk;have ea:a0.getD i undef = .pointer (some ⟨im.b,im.d+off,none⟩):=ea;obtain⟨v',l1,l2⟩:=hl φ w im hi hr;refine⟨v'::a1,?_,.cons l2 k2⟩;have e1:(do loadVar ty (<-asAddr (a0.getD i undef)):Sem Value).run P w = .ok v' w:=by
    rw[ea];simp only[asAddr,aD,Sem.run_pure,aA];exact l1
   rw[List.mapM_cons,aD];rw[show(uH4 a0 (.cell i ty)).run P w = .ok v' w from e1]
   simp only[aA];rw[aD,k1];simp
theorem uEy{vs:List Value}{K:Value->Bool}(h:uIz vs K=true):∃v,K v=true/\∀(φ:Phi) (a0:Array Value),RVs φ vs a0.toList->RV φ v (if h:a0.size=1 then a0[0]else .tuple a0):=by
 cases vs with
 | nil=>
  refine⟨_,h,fun φ a0 hr=>?_⟩
  have hl:a0.size=0:=by rw[<-aM];exact hr.len.symm
  rw[dif_neg (by omega)]
  exact .tuple hr
 | cons v l=>
  cases l with
  | nil=>
   refine⟨v,h,fun φ a0 hr=>?_⟩
   have hl:a0.size=1:=by rw[<-aM];exact hr.len.symm
   rw[dif_pos hl];obtain⟨v',k1,k2⟩:=hr.get (i:=0) (v:=v) (by simp)
   have:a0[0]=v':=by
    rw[aH,aR (by omega)]at k1
    injection k1
   rw[this];exact k2
  | cons u l=>
   refine⟨_,h,fun φ a0 hr=>?_⟩
   have hl:a0.size=l.length+2:=by rw[<-aM,<-hr.len];rfl
   rw[dif_neg (by omega)]
   exact .tuple hr
def uI7(P:Program)(m:Mem)(f:Nat)(args:List Value)(v:Value)(m':Mem):Prop:=∀(φ:Phi) (w:World) (args':Array Value),RVs φ args args'.toList->Rep φ m.t.get w->ut7 φ m.next m'.next->Calls P f args' w fun e w'=>∃v' φ',e = .returned v'/\RV φ' v v'/\Rep φ' m'.t.get w'/\Ext φ m.t.get m.next φ' m'.t.get m'.next w w'
def uI8(P:Program)(X:unv):Prop:=∀f E,X f=some E->(∃fn,P.funcs[f]? = some fn/\fn.body.isNone=false)/\∀m args K,E m args K=true->∃v m',K v m'=true/\m.next<=m'.next/\uI7 P m f args v m'
def uyx(P:Program)(X:unv):Prop:=(∀(f:Nat) (fn:Func),P.funcs[f]? = some fn->(fn.name == "runtime.NumGoroutine")=false)/\uI8 P X
theorem ur4{X:unv}{rec:ue9}(a5:uyx P X)(a7:ui6 P rec){m:Mem}{f:Nat}{args:List Value}{K:Value->Mem->Bool}(h:uAj P X rec m f args K=true):∃v m' fn,K v m'=true/\m.next<=m'.next/\P.funcs[f]? = some fn/\fn.body.isNone=false /\
 ∀(φ:Phi) (w:World) (a1:Array Value),RVs φ args a1.toList->Rep φ m.t.get w->ut7 φ m.next m'.next->Calls P f a1 w fun e w'=>∃v' φ',e = .returned v'/\RV φ' v v'/\Rep φ' m'.t.get w'/\Ext φ m.t.get m.next φ' m'.t.get m'.next w w':=by
 unfold uAj at h;split at h
 ·rename_i E hE
  obtain⟨⟨fn,hf,hb⟩,hk⟩:=a5.2 f E hE;obtain⟨v,m',h,hn,hc⟩:=hk _ _ _ h;exact⟨v,m',fn,h,hn,hf,hb,hc⟩
 split at h
 ·cases h
 ·rename_i fn hf
  split at h
  ·cases h
  ·rename_i c hb
   rw[uk,uah]at h;obtain⟨hl,h⟩:=h;have hl:=uW.1 hl;obtain⟨t,h,ht⟩:=uxb h;obtain⟨e,b1,m',h,hn,hc,_⟩:=a7 _ _ _ _ h;have h2:(e = .normal\/e = .ret)/\(uFx P m'.t b1 fn.results.toList fun vs=>uIz vs fun v=>K v m')=true:=by
    cases e with
    | normal=>exact⟨.inl rfl,h⟩
    | exit _=>cases h
    | ret=>exact⟨.inr rfl,h⟩
   obtain⟨he,h⟩:=h2;obtain⟨vs,h,a8⟩:=up9 h;obtain⟨v,h,a6⟩:=uEy h;refine⟨v,m',fn,h,hn,hf,by rw[hb];rfl,fun φ w a1 ha hr a4=>calls_of_wp hf hb ?_⟩
   refine hc φ w _ (uA4 ha hl ht) hr a4 _ fun a' w' φ' b0 hd a3 hx=>?_
   obtain⟨a0,k1,k2⟩:=a8 φ' w' a'.tmps b0 a3;have a9:(results fn a'.tmps).run P w' = .ok (if h:a0.toArray.size=1 then a0.toArray[0]else .tuple a0.toArray) w':=by
    unfold results;rw[aD,Array.mapM_eq_mapM_toList,Sem.run_map];change ((Sem.run P (fn.results.toList.mapM (uH4 a'.tmps)) w').andThen _).andThen _=_
    rw[k1];rfl
   have a2:bodyPost P fn (fun e w'=>∃v' φ',e = .returned v'/\RV φ' v v'/\Rep φ' m'.t.get w'/\Ext φ m.t.get m.next φ' m'.t.get m'.next w w') .ret a' w':=by
    exact bodyPost_ret a9 hd ⟨_,φ',rfl,a6 φ' a0.toArray (by simpa using k2),a3,hx⟩
   rcases he with rfl|rfl
   ·exact a2
   ·exact a2
end
section
variable {P:Program}
theorem uCz{args:List Value}{K:Value->Value->Bool}(h:two args K=true):∃x y,args=[x,y]/\K x y=true:=by
 unfold two at h;split at h
 ·cases h
 ·split at h
  ·cases h
  ·split at h
   ·exact⟨_,_,rfl,h⟩
   ·cases h
theorem RVs.two{φ:Phi}{x y:Value}{l':List Value}(h:RVs φ [x,y] l'):∃x' y',l'=[x',y']/\RV φ x x'/\RV φ y y':=by
 cases h with
 | cons h1 h2=>cases h2 with
  | cons h2 h3=>cases h3;exact⟨_,_,rfl,h1,h2⟩
theorem uG3{args:List Value}{K:Value->Bool}(h:one args K=true):∃x,args=[x]/\K x=true:=by
 unfold one at h;split at h
 ·cases h
 ·split at h
  ·exact⟨_,rfl,h⟩
  ·cases h
theorem RVs.one{φ:Phi}{x:Value}{l':List Value}(h:RVs φ [x] l'):∃x',l'=[x']/\RV φ x x':=by
 cases h with
 | cons h1 h2=>cases h2;exact⟨_,rfl,h1⟩
theorem uxc{m:Mem}{T:Array TypeId}{rt:TypeId}{x:Value}{K:Value->Mem->Bool}(h:uwg P m T.toList x K=true):∃v m',K v m'=true/\m.next<=m'.next /\
 ∀(φ:Phi) (w:World) (x':Value),RV φ x x'->Rep φ m.t.get w->ut7 φ m.next m'.next->∃v' w' φ',(Builtin.clear_ T rt #[x']).run P w = .ok v' w'/\RV φ' v v'/\Rep φ' m'.t.get w'/\Ext φ m.t.get m.next φ' m'.t.get m'.next w w':=by
 unfold uwg at h;cases hT:T.toList with
 | nil=>rw[hT]at h;cases h
 | cons ty T1=>
  rw[hT]at h;have a0:T[0]? = some ty:=by rw[<-aH,hT];rfl
  simp only[]at h;split at h
  ·cases h
  ·rename_i d hd
   split at h
   ·rename_i e
    cases x with
    | slice a n c=>
     simp only[]at h;cases a with
     | none=>
      refine⟨_,m,h,ab,fun φ w x' hx hr hf=>⟨undef,w,φ,?_,.undef,hr,.refl _ _ _ _⟩⟩
      rw[hx.vAx];simp[Builtin.clear_,a0,ur hd,undef]
     | some a=>
      simp only[]at h;cases n with
      | zero=>
       refine⟨_,m,h,ab,fun φ w x' hx hr hf=>⟨undef,w,φ,?_,.undef,hr,.refl _ _ _ _⟩⟩
       obtain⟨a',c',ea,_⟩:=hx.vBf;rw[ea];cases a'<;>simp[Builtin.clear_,a0,ur hd,undef]
      | succ n=>
       obtain⟨z,h,hz,a7⟩:=udr h;rw[uk,uah]at h;obtain⟨h1,h⟩:=h;have h1:=uW.1 h1;have h:=ui0 _ _ _ h;obtain⟨e1,h⟩:=uds h;obtain⟨m',h,hn,hk⟩:=ui4 (P:=P) h;refine⟨_,m',h,by omega,fun φ w x' hx hr hf=>?_⟩
       rw[e1]at hx;obtain⟨im,o',c',a5,ea,a1,a2,a3,a4⟩:=hx.vAu;have a6:o'=im.d+a.off:=by
        rcases a4 with⟨a4,_⟩|a4
        ·exact a4
        ·omega
       have a8:0<z.cells.size:=by rw[<-aM,uau];omega
       obtain⟨w',k1,k2,k3⟩:=hk φ w im (Builtin.zeroCells z.cells (n+1)).toList a5 (by
        unfold Builtin.zeroCells;rw[uf5 a8,uau];exact(hz φ).rep _) hr
       refine⟨undef,w',φ,?_,.undef,k2,k3⟩;rw[ea,a6];simp[Builtin.clear_,a0,ur hd,a7,k1,undef]
    | _=>cases h
   ·cases h
theorem uA5{X:unv}{rec:ue9}(a8:uyx P X)(b2:ui6 P rec){tm:Tm}{m:Mem}{o:Oper}{c:Call}{K:Value->Mem->Bool}(ho:o.op = .call c)(h:uAk P X rec tm m c K=true):∃v m',K v m'=true/\m.next<=m'.next/\ul4 P o tm m v m':=by
 obtain⟨callee,args,argTypes⟩:=c;unfold uAk at h;simp only[]at h;cases callee with
 | invoke r n=>cases h
 | value f=>
  simp only[]at h;obtain⟨fv,b1,h⟩:=uy h;obtain⟨vs,a1,h⟩:=udq h;unfold uGs at h;cases fv with
  | func fn a cp=>
   cases fn with
   | func fid=>
    simp only[]at h;have h:=ugs _ _ _ h;have h:=ugs _ _ _ h;obtain⟨v,m',fn,h,hn,hf,a9,b0⟩:=ur4 a8 b2 h;refine⟨v,m',h,hn,fun φ w a0 a2 hr a4 KK Q hK=>?_⟩
    obtain⟨a',a7,ef,ra,rc⟩:=(a2 _ (by rw[ho];simp[Op.operands,Call.operands]) _ b1).vCg
    have a5:=ugu (φ:=φ) (ρ:=a0.eval) a1 fun y hy=>a2 y (by rw[ho];simp[Op.operands,Call.operands];exact .inr (Array.mem_toList_iff.1 hy))
    unfold Oper.wp;have a3:(execOp a0.eval o).run P w = .ok (.enter fid (a'++args.map a0.eval++a7)) w:=by
     simp only[execOp,ho,resolve,ef,Deferred.ofValue,aD,Sem.run_pure,aA,Go.invoke,callFunc,program,Sem.run,hf];rw[if_neg (by rw[a8.1 _ _ hf];simp),if_neg (by rw[a9];simp)]
     rfl
    rw[a3];refine(b0 φ w (a'++args.map a0.eval++a7) ?_ hr a4).mono ?_
    ·rw[Array.toList_append,Array.toList_append]
     have e1:(args.map a0.eval).toList=args.toList.map a0.eval:=by simp
     rw[e1,aS];exact ra.app (a5.app rc)
    ·rintro e w' ⟨v',φ',rfl,h1,h2,h3⟩
     exact hK v' w' φ' h1 h2 h3
   | _=>cases h
  | _=>cases h
 | builtin b=>
  have rd:(uGp P tm m.t b argTypes.toList args.toList fun v=>K v m)=true->∃v m',K v m'=true/\m.next<=m'.next/\ul4 P o tm m v m':=by
   intro h;have h2:rdE P tm m.t o.op (fun v=>K v m)=true:=by rw[ho];exact h
   obtain⟨v,hv,hk⟩:=ury h2;exact⟨v,m,hv,ab,.rd hk⟩
  have a6:∀(s:Value->Value->Sem Value),(∀cs x y,builtin b argTypes o.type cs #[x,y]=do pure (.value (<-s x y)))->(∃vs,uf0 tm args.toList=some vs/\∃x y v m',vs=[x,y]/\K v m'=true/\m.next<=m'.next/\uEx P m m' v x y s)->∃v m',K v m'=true/\m.next<=m'.next/\ul4 P o tm m v m':=by
   rintro s hs⟨vs,a1,x,y,v,m',rfl,hv,hn,hb⟩;refine⟨v,m',hv,hn,fun φ w a0 a2 hr a4 KK Q hK=>?_⟩
   have a5:=ugu (φ:=φ) (ρ:=a0.eval) a1 fun z hz=>a2 z (by rw[ho];simp[Op.operands,Call.operands];exact Array.mem_toList_iff.1 hz)
   obtain⟨x',y',e1,rx,ry⟩:=a5.two;have e2:args.map a0.eval = #[x',y']:=by
    apply Array.ext';simpa using e1
   obtain⟨v',w',φ',k1,k2,k3,k4⟩:=hb φ w x' y' rx ry hr a4;unfold Oper.wp;have a3:(execOp a0.eval o).run P w = .ok (.value v') w':=by
    simp only[execOp,ho,resolve,aD,Sem.run_pure,aA,Go.invoke,e2];rw[hs,aD,k1];rfl
   rw[a3];exact hK v' w' φ' k2 k3 k4
  simp only[]at h;cases b with
  | append=>
   obtain⟨vs,a1,h⟩:=udq h;obtain⟨x,y,rfl,h⟩:=uCz h;obtain⟨v,m',hv,hn,hb⟩:=uuc (rt:=o.type) h;exact a6 _ (fun cs x y=>by simp[builtin]) ⟨_,a1,x,y,v,m',rfl,hv,hn,hb⟩
  | unsafeString=>
   obtain⟨vs,a1,h⟩:=udq h;obtain⟨x,y,rfl,h⟩:=uCz h;cases hT:argTypes.toList with
   | nil=>rw[hT]at h;cases h
   | cons ty l=>
    rw[hT]at h;obtain⟨v,m',hv,hn,hb⟩:=uA3 (T:=argTypes) (rt:=o.type) (by rw[<-aH,hT];rfl) h
    exact a6 _ (fun cs x y=>by simp[builtin]) ⟨_,a1,x,y,v,m',rfl,hv,hn,hb⟩
  | clear=>
   obtain⟨vs,a1,h⟩:=udq h;obtain⟨x,rfl,h⟩:=uG3 h;obtain⟨v,m',hv,hn,hb⟩:=uxc (rt:=o.type) h;have hs:∀cs x,builtin .clear argTypes o.type cs #[x]=(do pure (.value (<-Builtin.clear_ argTypes o.type #[x]))):=fun cs x=>by simp[builtin]
   refine⟨v,m',hv,hn,fun φ w a0 a2 hr a4 KK Q hK=>?_⟩
   have a5:=ugu (φ:=φ) (ρ:=a0.eval) a1 fun z hz=>a2 z (by rw[ho];simp[Op.operands,Call.operands];exact Array.mem_toList_iff.1 hz)
   obtain⟨x',e1,rx⟩:=a5.one;have e2:args.map a0.eval = #[x']:=by
    apply Array.ext';simpa using e1
   obtain⟨v',w',φ',k1,k2,k3,k4⟩:=hb φ w x' rx hr a4;unfold Oper.wp;have a3:(execOp a0.eval o).run P w = .ok (.value v') w':=by
    simp only[execOp,ho,resolve,aD,Sem.run_pure,aA,Go.invoke,e2];rw[hs,aD,k1];rfl
   rw[a3];exact hK v' w' φ' k2 k3 k4
  | _=>exact rd h
theorem uC0{X:unv}{rec:ue9}(a0:uyx P X)(a1:ui6 P rec){tm:Tm}{m:Mem}{o:Oper}{K:Value->Mem->Bool}(h:opE P X rec tm m o.op K=true):∃v m',K v m'=true/\m.next<=m'.next/\ul4 P o tm m v m':=by
 have rd:rdE P tm m.t o.op (fun v=>K v m)=true->∃v m',K v m'=true/\m.next<=m'.next/\ul4 P o tm m v m':=by
  intro h;obtain⟨v,hv,hk⟩:=ury h;exact⟨v,m,hv,ab,.rd hk⟩
 have al:alE P tm o.op (fun ob sh=>uwf m ob sh K)=true->∃v m',K v m'=true/\m.next<=m'.next/\ul4 P o tm m v m':=by
  intro h;obtain⟨ob,sh,h,hm⟩:=uwz h;obtain⟨m',h,g1,g2,g3⟩:=ul3 h;exact⟨_,m',h,by omega,.al hm g1 g2 g3⟩
 have nx:∀ {v:Value} {m':Mem},K v m'=true->ul4 P o tm m v m'->m'.next=m.next->∃v m',K v m'=true/\m.next<=m'.next/\ul4 P o tm m v m':=fun a b c=>⟨_,_,a,by omega,b⟩
 cases hop:o.op with
 | move x=>rw[hop]at h;exact rd (by rw[hop];exact h)
 | assign x=>rw[hop]at h;exact rd (by rw[hop];exact h)
 | pick c a b=>rw[hop]at h;exact rd (by rw[hop];exact h)
 | build ty ps=>rw[hop]at h;exact rd (by rw[hop];exact h)
 | load ty a=>rw[hop]at h;exact rd (by rw[hop];exact h)
 | nilCheck x=>rw[hop]at h;exact rd (by rw[hop];exact h)
 | binOp op ty x y t=>rw[hop]at h;exact rd (by rw[hop];exact h)
 | unOp op ty x=>rw[hop]at h;exact rd (by rw[hop];exact h)
 | convert s d x=>rw[hop]at h;exact rd (by rw[hop];exact h)
 | makeFunc fn a c=>rw[hop]at h;exact rd (by rw[hop];exact h)
 | slice ty x lo hi mx=>rw[hop]at h;exact rd (by rw[hop];exact h)
 | fieldAddr s x f=>rw[hop]at h;exact rd (by rw[hop];exact h)
 | field s x f=>rw[hop]at h;exact rd (by rw[hop];exact h)
 | indexAddr ty x i=>rw[hop]at h;exact rd (by rw[hop];exact h)
 | index ty x i=>rw[hop]at h;exact rd (by rw[hop];exact h)
 | lookup ty x i c=>rw[hop]at h;exact rd (by rw[hop];exact h)
 | extract x i=>rw[hop]at h;exact rd (by rw[hop];exact h)
 | alloc e=>rw[hop]at h;exact al (by rw[hop];exact h)
 | box e x=>rw[hop]at h;exact al (by rw[hop];exact h)
 | buildSlice ty l ps=>rw[hop]at h;exact al (by rw[hop];exact h)
 | makeSlice ty l c=>rw[hop]at h;exact al (by rw[hop];exact h)
 | makeMap ty r=>rw[hop]at h;exact al (by rw[hop];exact h)
 | store ty a x=>
  rw[hop]at h;obtain⟨v,m',h1,h2,h3⟩:=uw1 hop h;exact⟨v,m',h1,h2,h3⟩
 | insert ty mp k x=>
  rw[hop]at h;obtain⟨v,m',h1,h2,h3⟩:=uw5 (.inr hop) h;exact⟨v,m',h1,h2,h3⟩
 | mapUpdate ty mp k x=>
  rw[hop]at h;obtain⟨v,m',h1,h2,h3⟩:=uw5 (.inl hop) h;exact⟨v,m',h1,h2,h3⟩
 | call c=>rw[hop]at h;exact uA5 a0 a1 hop h
 | _=>rw[hop]at h;cases h
end
section
variable {P:Program}
theorem RV.vDe{φ:Phi}{v v':Value}(h:RV φ v v')(hb:∀b,v ≠ .bool b):∀b,v' ≠ .bool b:=by
 cases h<;>first|exact absurd rfl (hb _)|(intro b e;cases e)
def un4(ops:Array Oper)(tm:Tm)(o:Oper)(b:Bool):Prop:=∀(φ:Phi) (tmps:Array Value),(∀p oj d,o.guard=some p->ops[p.1]? = some oj->oj.dst=some d->RV φ ((tm.t.get d).getD undef) (tmps.getD d undef))->Region.wanted o (yielded ops tmps)=b
theorem uf7{L:List Oper}{ops:Array Oper}(hL:∀(i:Nat) (x:Oper),L[i]? = some x->ops[i]? = some x){tm:Tm}{o:Oper}{K:Bool->Bool}(h:ujq L tm o K=true):∃b,K b=true/\un4 ops tm o b:=by
 unfold ujq at h;split at h
 ·rename_i hg
  exact⟨true,h,fun φ a0 _=>by simp[Region.wanted,hg]⟩
 ·rename_i p hg
  rw[ubh]at h;split at h
  ·rename_i oj hj
   have a1:ops[p.1]? = some oj:=hL _ _ hj;split at h
   ·rename_i d hd
    obtain⟨v,hv,h⟩:=uy h;have hv:v=(tm.t.get d).getD undef:=by
     unfold un0 at hv;injection hv with hv;exact hv.symm
    have hy:∀a0:Array Value,yielded ops a0 p.1=match a0[d]? with|some (.bool b)=>some b|_=>none:=by
     intro a0;unfold yielded;rw[a1];simp only[Option.bind_some,hd];rfl
    have hw:∀a0:Array Value,Region.wanted o (yielded ops a0)=(yielded ops a0 p.1==some p.2):=by
     intro a0;unfold Region.wanted;rw[hg]
    have hu:∀a0:Array Value,a0[d]? = none->a0.getD d undef=undef:=fun a0 h=>by rw[ak,h];rfl
    have hs:∀(a0:Array Value) (x:Value),a0[d]? = some x->a0.getD d undef=x:=fun a0 x h=>by rw[ak,h];rfl
    by_cases hb:∃b,v = .bool b
    ·obtain⟨b,rfl⟩:=hb
     have hK:K (b==p.2)=true:=by
      unfold uI0 at h;cases b with
      | true=>cases hp:p.2<;>(rw[hp]at h;exact h)
      | false=>cases hp:p.2<;>(rw[hp]at h;exact h)
     refine⟨_,hK,fun φ a0 ht=>?_⟩
     have:=ht p oj d hg a1 hd;rw[<-hv]at this;have e1:=this.vAt;rw[hw,hy];cases hx:a0[d]? with
     | none=>rw[hu a0 hx]at e1;cases e1
     | some x=>
      rw[hs a0 x hx]at e1;subst e1;cases b<;>cases p.2<;>rfl
    ·have hK:K false=true:=by
      unfold uI0 at h;split at h
      ·exact absurd ⟨_,rfl⟩ hb
      ·exact h
     refine⟨_,hK,fun φ a0 ht=>?_⟩
     have:=ht p oj d hg a1 hd;rw[<-hv]at this;have e1:=this.vDe fun b e=>hb ⟨b,e⟩
     rw[hw,hy];cases hx:a0[d]? with
     | none=>rfl
     | some x=>
      rw[hs a0 x hx]at e1;cases x<;>first|rfl|exact absurd rfl (e1 _)
   ·cases h
  ·cases h
theorem uA6{ops:Array Oper}{tm:Tm}{o:Oper}{K:Bool->Bool}(h:ujq ops.toList tm o K=true):∃b,K b=true/\un4 ops tm o b:=uf7 (fun i x hx=>by rw[<-aH];exact hx) h
theorem put_defers(a:Act)(d:Option Nat)(v:Value):(a.put d v).defers=a.defers:=by cases d<;>rfl
theorem uh2{X:unv}{rec:ue9}(a2:uyx P X)(a4:ui6 P rec){ops:Array Oper}:∀ {l:List Oper} {tm:Tm} {m:Mem} {K:Tm->Mem->Bool},ut4 P X rec ops.toList l tm m K=true->∃a9 m',K a9 m'=true/\m.next<=m'.next/\ul6 (fun Q a w=>wpList P ops Q l a w) tm m .normal a9 m'
 | [],tm,m,K,h=>⟨tm,m,h,ab,fun φ w a ht hr hf Q hQ=>hQ a w φ ht rfl hr (.refl _ _ _ _)⟩
 | o::l,tm,m,K,h=>by
  rw[ut4]at h;obtain⟨b,h,a8⟩:=uA6 h;cases b with
  | true=>
   simp only[]at h;obtain⟨v,m1,h,b0,b1⟩:=uC0 a2 a4 h;obtain⟨b3,h,p1,p2,p3⟩:=ufa h;obtain⟨a7,m2,h,a0,hl⟩:=uh2 a2 a4 h;refine⟨a7,m2,h,ag b0 a0,fun φ w a ht hr hf Q hQ=>?_⟩
   show wpList P ops Q (o::l) a w
   unfold wpList;rw[if_pos (a8 φ a.tmps fun p oj d _ _ _=>ht.2 d)]
   refine .inl (b1 φ w a (fun x _=>ht.or hr.glob x) hr (hf.left a0) _ _ fun v' w' φ' hv b2 hx=>?_)
   refine hl φ' w' (a.put o.dst v') ((ht.mono hx.le).put p1 p2 p3 hv) b2 (hf.right hx) Q fun a' w2 φ2 a5 a1 a3 a6=>?_
   exact hQ a' w2 φ2 a5 (by rw[a1,put_defers]) a3 (hx.trans a6)
  | false=>
   simp only[]at h;obtain⟨b3,h,p1,p2,p3⟩:=ufa h;obtain⟨a7,m2,h,a0,hl⟩:=uh2 a2 a4 h;refine⟨a7,m2,h,a0,fun φ w a ht hr hf Q hQ=>?_⟩
   show wpList P ops Q (o::l) a w
   unfold wpList;rw[if_neg (by rw[a8 φ a.tmps fun p oj d _ _ _=>ht.2 d];simp)]
   refine hl φ w (a.put o.dst undef) (ht.put p1 p2 p3 .undef) hr hf Q fun a' w2 φ2 a5 a1 a3 a6=>?_
   exact hQ a' w2 φ2 a5 (by rw[a1,put_defers]) a3 a6
def uC1(P:Program)(drawn:List Oper->Tm->Mem->(Tm->Mem->Bool)->Bool):Prop:=∀(id:Nat) (ops:Array Oper) (tm:Tm) (m:Mem) (K:Tm->Mem->Bool),drawn ops.toList tm m K=true->∃tm' m',K tm' m'=true/\m.next<=m'.next/\ul6 (fun Q a w=>(Code.region id ops true).wp P Q a w) tm m .normal tm' m'
theorem uxd{rec:ue9}(a0:ui6 P rec){b:Code}{e:Ex}{tm:Tm}{m:Mem}{K:Ex->Tm->Mem->Bool}(h:uHz rec b e tm m K=true):(e = .normal/\rec b tm m K=true)\/(e ≠ .normal/\K e tm m=true):=by
 unfold uHz at h;cases e with
 | normal=>exact .inl ⟨rfl,h⟩
 | exit i=>exact .inr ⟨by simp,h⟩
 | ret=>exact .inr ⟨by simp,h⟩
theorem ul6.then{W1 W2 W:(Exit->Act->World->Prop)->Act->World->Prop}{tm a3 a4:Tm}{m m1 m2:Mem}{e:Ex}(h1:ul6 W1 tm m .normal a3 m1)(h2:ul6 W2 a3 m1 e a4 m2)(b3:m.next<=m1.next)(a7:m1.next<=m2.next)(hW:∀Q a w,W1 (Exit.then (W2 Q) Q) a w->W Q a w):ul6 W tm m e a4 m2:=by
 intro φ w a ht hr hf Q hQ;refine hW Q a w (h1 φ w a ht hr (hf.left a7) _ fun a1 w1 φ1 b0 a5 a8 a0=>?_)
 exact h2 φ1 w1 a1 b0 a8 (hf.right a0) Q fun a2 w2 φ2 b1 a6 a9 b2=>hQ a2 w2 φ2 b1 (a6.trans a5) a9 (a0.trans b2)
theorem ukp{e:Ex}(he:e ≠ .normal)(N:Act->World->Prop)(Q:Exit->Act->World->Prop)(a:Act)(w:World):Exit.then N Q (uw9 e) a w=Q (uw9 e) a w:=by
 cases e with
 | normal=>exact absurd rfl he
 | exit i=>rfl
 | ret=>rfl
theorem uA7{X:unv}{rec:ue9}{drawn:List Oper->Tm->Mem->(Tm->Mem->Bool)->Bool}(a8:uyx P X)(a3:ui6 P rec)(a7:uC1 P drawn):ui6 P (uGu P X rec drawn):=by
 intro c tm m K h;have nl:∀ {c:Code} {tm m e a1 m'},(∀b,c ≠ .loop b)->uxa P c tm m e a1 m':=fun hc b hb=>absurd hb (hc b)
 cases c with
 | skip=>exact⟨_,tm,m,h,ab,fun φ w a ht hr hf Q hQ=>wp_skip (hQ a w φ ht rfl hr (.refl _ _ _ _)),nl (by simp)⟩
 | label l=>exact⟨_,tm,m,h,ab,fun φ w a ht hr hf Q hQ=>wp_label (hQ a w φ ht rfl hr (.refl _ _ _ _)),nl (by simp)⟩
 | exit id=>exact⟨_,tm,m,h,ab,fun φ w a ht hr hf Q hQ=>wp_exit (hQ a w φ ht rfl hr (.refl _ _ _ _)),nl (by simp)⟩
 | ret=>exact⟨_,tm,m,h,ab,fun φ w a ht hr hf Q hQ=>wp_ret (hQ a w φ ht rfl hr (.refl _ _ _ _)),nl (by simp)⟩
 | region id ops d=>
  cases d with
  | true=>
   obtain⟨a1,m',h,hn,hc⟩:=a7 id ops tm m _ h;exact⟨_,a1,m',h,hn,hc,nl (by simp)⟩
  | false=>
   obtain⟨a1,m',h,hn,hc⟩:=uh2 a8 a3 h;exact⟨_,a1,m',h,hn,fun φ w a ht hr hf Q hQ=>wp_region_list (hc φ w a ht hr hf Q hQ),nl (by simp)⟩
 | seq x y=>
  obtain⟨e,a2,m1,h,a0,hx,_⟩:=a3 _ _ _ _ h;rcases uxd a3 h with⟨rfl,h⟩|⟨he,h⟩
  ·obtain⟨e2,a6,m2,h,a4,hy,_⟩:=a3 _ _ _ _ h
   exact⟨e2,a6,m2,h,ag a0 a4,hx.then hy a0 a4 fun Q a w h=>wp_seq h,nl (by simp)⟩
  ·refine⟨e,a2,m1,h,a0,fun φ w a ht hr hf Q hQ=>wp_seq (hx φ w a ht hr hf _ fun a' w' φ' h1 h2 h3 h4=>?_),nl (by simp)⟩
   rw[ukp he];exact hQ a' w' φ' h1 h2 h3 h4
 | cond c x y=>
  obtain⟨v,hv,h⟩:=uy h;unfold uGt at h;cases v with
  | bool b=>
   cases b with
   | true=>
    obtain⟨e,a2,m1,h,a0,hx,_⟩:=a3 _ _ _ _ h;exact⟨e,a2,m1,h,a0,fun φ w a ht hr hf Q hQ=>wp_cond_true ((ht.or hr.glob c) _ hv).vAt (hx φ w a ht hr hf Q hQ),nl (by simp)⟩
   | false=>
    obtain⟨e,a2,m1,h,a0,hx,_⟩:=a3 _ _ _ _ h;exact⟨e,a2,m1,h,a0,fun φ w a ht hr hf Q hQ=>wp_cond_false ((ht.or hr.glob c) _ hv).vAt (hx φ w a ht hr hf Q hQ),nl (by simp)⟩
  | _=>cases h
 | block id b=>
  obtain⟨e,a2,m1,h,a0,hx,_⟩:=a3 _ _ _ _ h;unfold uCs at h;cases e with
  | normal=>exact⟨_,a2,m1,h,a0,fun φ w a ht hr hf Q hQ=>wp_block (hx φ w a ht hr hf _ fun a' w' φ' h1 h2 h3 h4=>hQ a' w' φ' h1 h2 h3 h4),nl (by simp)⟩
  | ret=>exact⟨_,a2,m1,h,a0,fun φ w a ht hr hf Q hQ=>wp_block (hx φ w a ht hr hf _ fun a' w' φ' h1 h2 h3 h4=>hQ a' w' φ' h1 h2 h3 h4),nl (by simp)⟩
  | exit i=>
   simp only[]at h;rcases uab h with⟨he,h⟩|⟨he,h⟩
   ·have he:=uJ.1 he
    refine⟨_,a2,m1,h,a0,fun φ w a ht hr hf Q hQ=>wp_block (hx φ w a ht hr hf _ fun a' w' φ' h1 h2 h3 h4=>?_),nl (by simp)⟩
    show(if i=id then _ else _)
    rw[if_pos he];exact hQ a' w' φ' h1 h2 h3 h4
   ·have he:¬i=id:=fun e=>by rw[uJ.2 e]at he;cases he
    refine⟨_,a2,m1,h,a0,fun φ w a ht hr hf Q hQ=>wp_block (hx φ w a ht hr hf _ fun a' w' φ' h1 h2 h3 h4=>?_),nl (by simp)⟩
    show(if i=id then _ else _)
    rw[if_neg he];exact hQ a' w' φ' h1 h2 h3 h4
 | loop b=>
  obtain⟨e,a2,m1,h,a0,hx,_⟩:=a3 _ _ _ _ h;have fin:∀ {e:Ex} {a1:Tm} {m':Mem},K e a1 m'=true->m.next<=m'.next->(∃n,ul6 (fun Q a w=>Code.rounds P b Q n a w) tm m e a1 m')->∃e a1 m',K e a1 m'=true/\m.next<=m'.next/\uCy P (.loop b) tm m e a1 m'/\uxa P (.loop b) tm m e a1 m':=by
   rintro e a1 m' h hn⟨n,hr⟩;exact⟨e,a1,m',h,hn,fun φ w a h1 h2 h3 Q h4=>wp_loop_rounds n (hr φ w a h1 h2 h3 Q h4),fun b' a5=>by injection a5 with a5;subst a5;exact⟨n,hr⟩⟩
  rcases uxd a3 h with⟨rfl,h⟩|⟨he,h⟩
  ·obtain⟨e2,a6,m2,h,a4,_,hy⟩:=a3 _ _ _ _ h
   obtain⟨n,hy⟩:=hy b rfl;exact fin h (ag a0 a4) ⟨n+1,hx.then hy a0 a4 fun Q a w h=>h⟩
  ·refine fin h a0 ⟨1,fun φ w a ht hr hf Q hQ=>hx φ w a ht hr hf _ fun a' w' φ' h1 h2 h3 h4=>?_⟩
   rw[ukp he];exact hQ a' w' φ' h1 h2 h3 h4
 | scope b=>
  obtain⟨e,a2,m1,h,a0,hx,_⟩:=a3 _ _ _ _ h;refine⟨e,a2,m1,h,a0,fun φ w a ht hr hf Q hQ=>wp_scope_straight (hx φ w a ht hr hf _ fun a' w' φ' h1 h2 h3 h4=>?_),nl (by simp)⟩
  have:=hQ a' w' φ' h1 h2 h3 h4;cases e<;>exact this
 | _=>cases h
end
theorem ui7(m n:Nat):tb m n=m.testBit n:=by
 unfold tb;rw[Nat.testBit_eq_decide_div_mod_eq];by_cases h:m/2^n%2=1
 ·rw[h];rfl
 ·rw[aQ h]
  cases hb:Nat.beq (m/2^n%2) 1 with
  | false=>rfl
  | true=>exact absurd (uJ.1 hb) h
theorem ui8(a b j:Nat):tb (Nat.lor a b) j=(tb a j||tb b j):=by
 rw[ui7,ui7,ui7];exact Nat.testBit_or a b j
theorem un5(i j:Nat):tb (2^i) j=decide (i=j):=by rw[ui7,Nat.testBit_two_pow]
theorem ul7(j:Nat):tb 0 j=false:=by rw[ui7,Nat.zero_testBit]
theorem uqa(a b j:Nat):tb (Nat.land a b) j=(tb a j&&tb b j):=by
 rw[ui7,ui7,ui7];exact Nat.testBit_and a b j
theorem uA8{a b:Nat}(h:∀j,tb a j=tb b j):a=b:=Nat.eq_of_testBit_eq fun j=>by rw[<-ui7,<-ui7,h]
theorem uEz{a b:Nat}(h:∀j,tb a j=true->tb b j=true):uGv a b=true:=by
 unfold uGv;refine uJ.2 (uA8 fun j=>?_)
 rw[uqa];cases ha:tb a j with
 | false=>rfl
 | true=>rw[h j ha];rfl
theorem ur5(e:Edge):up4 e=Region.binds .any e:=by
 unfold up4 Region.binds;cases e.ground<;>rfl
section
variable {α:Type}
theorem ugw{f:Nat->α->Bool}:∀ {l:List α} {k:Nat},uCt f k l=true->∀i x,l[i]? = some x->f (k+i) x=true
 | [],k,h,i,x,hx=>by simp at hx
 | y::l,k,h,i,x,hx=>by
  rw[uCt,uk]at h;cases i with
  | zero=>
   simp at hx;subst hx;exact h.1
  | succ i=>
   have:=ugw h.2 i x (by simpa using hx)
   rw[show k+(i+1)=k+1+i by omega]
   exact this
theorem uqb{f:α->Bool}:∀ {l:List α},uGl f l=true->∃x∈l,f x=true
 | [],h=>by cases h
 | y::l,h=>by
  rw[uGl]at h;cases hy:f y with
  | true=>exact⟨y,by simp,hy⟩
  | false=>
   rw[hy]at h;obtain⟨x,h1,h2⟩:=uqb h;exact⟨x,aG _ h1,h2⟩
theorem ul8:∀(l:List Nat) (x:Nat),snoc l x=l++[x]
 | [],x=>rfl
 | y::l,x=>by rw[snoc,ul8 l x];rfl
theorem ui9:∀(n:Nat) (l:List α),uiy n l=l.take n
 | 0,l=>by simp[uiy]
 | n+1,[]=>by simp[uiy]
 | n+1,x::l=>by rw[uiy,ui9 n l];simp
theorem ur6:∀(n:Nat) (l:List α),ut6 n l=l.drop n
 | 0,l=>by simp[ut6]
 | n+1,[]=>by simp[ut6]
 | n+1,x::l=>by rw[ut6,ur6 n l];simp
end
theorem ur7{acc:List Nat}{j:Nat}:∀ {l:List Edge} {s:Nat},tb (uAm acc l s) j=true->tb s j=true\/∃e∈l,up4 e=true/\(e.on=j\/∃b,acc[e.on]? = some b/\tb b j=true)
 | [],s,h=> .inl h
 | e::l,s,h=>by
  rw[uAm]at h;rcases ur7 h with h|⟨e',h1,h2,h3⟩
  ·cases hb:up4 e with
   | false=>rw[hb]at h;exact .inl h
   | true=>
    rw[hb,cond_true,ui8,ui8,un5,aU,aU]at h;rcases h with(h|h)|h
    ·exact .inl h
    ·exact .inr ⟨e,by simp,hb,.inl (of_decide_eq_true h)⟩
    ·rw[ubh]at h
     split at h
     ·rename_i b hb2
      exact .inr ⟨e,by simp,hb,.inr ⟨b,hb2,h⟩⟩
     ·rw[ul7]at h;cases h
  ·exact .inr ⟨e',aG _ h1,h2,h3⟩
def udt(L:List Oper)(d:Nat->Bool)(i:Nat):Prop:=∀o,L[i]? = some o->∀e∈o.after.toList,up4 e=true->d e.on=true
def vAp(L:List Oper)(d:Nat->Bool):Prop:=∀i,d i=true->udt L d i
theorem uxe{L:List Oper}{d:Nat->Bool}(hc:vAp L d):∀ {l pre:List Oper} {acc:List Nat},L=pre++l->acc.length=pre.length->(∀k b,acc[k]? = some b->udt L d k->∀j,tb b j=true->d j=true) ->
 ∀k b,(ut5 l acc)[k]? = some b->udt L d k->∀j,tb b j=true->d j=true
 | [],pre,acc,hL,hl,ha=>ha
 | o::l,pre,acc,hL,hl,ha=>by
  rw[ut5];refine uxe hc (pre:=pre++[o]) (by rw[hL];simp) (by rw[ul8];simp[hl]) ?_
  rw[ul8];intro k b hk hr j hj;rcases ah k acc.length with hlt|hge
  ·rw[List.getElem?_append_left hlt]at hk
   exact ha k b hk hr j hj
  ·rw[List.getElem?_append_right hge]at hk
   have a0:k=acc.length:=by
    have:=(aI.1 hk).1;simp at this;omega
   rw[a0]at hk;simp at hk;subst hk;have ho:L[k]? = some o:=by rw[hL,a0,hl];simp
   rcases ur7 hj with h|⟨e,h1,h2,h3⟩
   ·rw[ul7]at h;cases h
   ·have hd:=hr o ho e h1 h2
    rcases h3 with rfl|⟨b,h3,h4⟩
    ·exact hd
    ·exact ha _ b h3 (hc _ hd) j h4
theorem un6:∀(l:List Oper) (acc:List Nat),(ut5 l acc).length=acc.length+l.length
 | [],acc=>rfl
 | o::l,acc=>by rw[ut5,un6 l,ul8];simp;omega
theorem uA9{b i:Nat}(h:Nat.beq (Nat.land b (2^i-1)) (2^i-1)=true):∀j,j<i->tb b j=true:=by
 intro j hj;have h:=uJ.1 h;have h2:tb (Nat.land b (2^i-1)) j=tb (2^i-1) j:=by rw[h]
 rw[uqa,ui7 (2^i-1),Nat.testBit_two_pow_sub_one,decide_eq_true hj,Bool.and_true]at h2;exact h2
theorem uqc:∀(B:List Nat) (i n:Nat),n<=i->n<=uCu B i n/\uCu B i n<=i+B.length/\∀k b,B[k]? = some b->uCu B i n<=i+k->∀j,j<i+k->tb b j=true
 | [],i,n,h=>⟨ab,by rw[uCu];simp;exact h,fun k b hk=>by simp at hk⟩
 | b::B,i,n,h=>by
  rw[uCu];cases hb:Nat.beq (Nat.land b (2^i-1)) (2^i-1)with
  | true=>
   obtain⟨h1,h2,h3⟩:=uqc B (i+1) n (by omega)
   refine⟨h1,by rw[cond_true,aB];omega,fun k c hk a0 j hj=>?_⟩
   cases k with
   | zero=>
    simp at hk;subst hk;exact uA9 hb j hj
   | succ k=>
    exact h3 k c (by simpa using hk) (by rw[cond_true]at a0;omega) j (by omega)
  | false=>
   obtain⟨h1,h2,h3⟩:=uqc B (i+1) (i+1) (by omega)
   refine⟨by rw[cond_false];omega,by rw[cond_false,aB];omega,fun k c hk a0 j hj=>?_⟩
   cases k with
   | zero=>rw[cond_false]at a0;omega
   | succ k=>
    exact h3 k c (by simpa using hk) (by rw[cond_false]at a0;omega) j (by omega)
theorem ueh{i I:Nat}:∀ {B:List Nat} {k:Nat},(∀j b,B[j]? = some b->tb I (k+j)=true->tb b i=false)->ual i I k B=true
 | [],k,h=>rfl
 | b::B,k,h=>by
  rw[ual,ueh (B:=B) (k:=k+1) fun j c hj ht=>h (j+1) c (by simpa using hj) (by rw[show k+(j+1)=k+1+j by omega];exact ht)]
  have:=h 0 b (by simp)
  cases hI:tb I k with
  | false=>rfl
  | true=>rw[this hI];rfl
theorem uhd{i I:Nat}:∀ {B:List Nat} {k:Nat},ual i I k B=true->∀j b,B[j]? = some b->tb I (k+j)=true->tb b i=false
 | [],k,h,j,b,hj,_=>by simp at hj
 | c::B,k,h,j,b,hj,ht=>by
  rw[ual]at h;rcases uab h with⟨_,h⟩|⟨h1,h⟩
  ·cases h
  ·cases j with
   | zero=>
    simp at hj;subst hj;rw[show tb I k=true from ht]at h1
    exact h1
   | succ j=>exact uhd h j b (by simpa using hj) (by rw[show k+1+j=k+(j+1) by omega];exact ht)
theorem uxf{s t:ByteArray}(h:eqU (bytesOf s) (bytesOf t)=true):s=t:=by
 rw[unz]at h;have h:=of_decide_eq_true h;obtain⟨⟨s⟩⟩:=s;obtain⟨⟨t⟩⟩:=t;exact congrArg (fun l=>ByteArray.mk ⟨l⟩) h
theorem uf8{α:Type}{a b:Array α}(h:a.toList=b.toList):a=b:=by
 obtain⟨a⟩:=a;obtain⟨b⟩:=b;exact congrArg Array.mk h
theorem uh3:∀f:Nat,(∀a b,eqV f a b=true->a=b)/\∀a b,vCr f a b=true->a=b
 | 0=>⟨fun a b h=>(by rw[eqV]at h;cases h),fun a b h=>(by unfold vCr at h;cases h)⟩
 | f+1=>by
  obtain⟨a1,a0⟩:=uh3 f;refine⟨fun a b h=>?_,fun a b h=>?_⟩
  ·unfold eqV at h
   split at h
   ·rfl
   ·rfl
   ·rw[uk,urr]at h
    rw[ufz h.1,of_decide_eq_true h.2]
   ·rw[uxf h]
   ·rfl
   ·rw[uk]at h
    rw[uJ.1 h.1,uJ.1 h.2]
   ·rw[uk]at h
    rw[uJ.1 h.1,uJ.1 h.2]
   ·rw[uk,uk,uk]at h
    rw[uJ.1 h.1,uJ.1 h.2.1,uJ.1 h.2.2.1,uJ.1 h.2.2.2]
   ·rfl
   ·rw[uJ.1 h]
   ·rfl
   ·rfl
   ·rw[uk,uk]at h
    rw[uJ.1 h.1,uf8 (a0 _ _ h.2.1),uf8 (a0 _ _ h.2.2)]
   ·rw[uf8 (a0 _ _ h)]
   ·rw[uf8 (a0 _ _ h)]
   ·cases h
  ·unfold vCr at h
   cases a with
   | nil=>cases b with
    | nil=>rfl
    | cons y m=>cases h
   | cons x l=>cases b with
    | nil=>cases h
    | cons y m=>
     simp only[]at h;rw[uk]at h;rw[a1 _ _ h.1,a0 _ _ h.2]
theorem uxg:∀ {a b:List Nat},uH0 a b=true->a=b
 | [],[],_=>rfl
 | [],_::_,h=>by cases h
 | _::_,[],h=>by cases h
 | x::l,y::m,h=>by
  rw[uH0,uk]at h;rw[uJ.1 h.1,uxg h.2]
theorem uC2{a b:Bool}(h:eqB a b=true):a=b:=by cases a<;>cases b<;>first|rfl|cases h
theorem uE0{a b:Ob}(h:uH1 a b=true):a=b:=by
 cases a with
 | row c e x u t s=>cases b with
  | row c' e' x' u' t' s'=>
   simp only[uH1]at h;rw[uk,uk,uk,uk,uk]at h;obtain⟨h1,h2,h3,h4,h5,h6⟩:=h;rw[(uh3 _).2 _ _ h1,uJ.1 h2,uC2 h3,uJ.1 h4,uC2 h5,uxg h6]
  | map es k=>cases h
 | map es k=>cases b with
  | row c' e' x' u' t' s'=>cases h
  | map es' k'=>cases es with
   | nil=>cases es' with
    | nil=>
     simp only[uH1]at h;rw[uJ.1 h]
    | cons _ _=>cases h
   | cons _ _=>cases h
theorem uBa{tm:Tm}{o:Oper}{v:Value}(h:ugr tm o v=true):∀d,o.dst=some d->d<tm.n/\(tm.t.get d).getD undef=v:=by
 intro d hd;unfold ugr at h;rw[hd]at h;simp only[]at h;rw[uk]at h;obtain⟨h1,h⟩:=h;obtain⟨u,hu,h⟩:=uy h;refine⟨uW.1 h1,?_⟩;rw[un0]at hu;injection hu with hu;rw[hu,(uh3 _).1 _ _ h]
theorem uc7{c:List Value}{e:TypeId}{x:Bool}{u:Nat}{t:Bool}{s:List Nat}(h:ufy (.row c e x u t s)=true):t=true/\s=[]:=by
 cases t with
 | false=>cases h
 | true=>cases s with
  | nil=>exact⟨rfl,rfl⟩
  | cons _ _=>cases h
section
variable {φ φ':Phi} {L R R' L':ucd} {w w':World} {n n':Nat}
theorem Rep.sub(hr:Rep φ L w)(hsub:∀g o,R g=some o->L g=some o)(hall:∀g o,L g=some o->R g=some o\/ufy o=true):Rep φ R w where
 ob:=fun g o h=>hr.ob g o (hsub g o h)
 sep:=by
  intro g1 g2 o1 o2 i1 i2 h1 h2 h3 h4 hb;rcases hr.sep g1 g2 o1 o2 i1 i2 (hsub _ _ h1) (hsub _ _ h2) h3 h4 hb with h|⟨t,c,e,x,u,S,k1,k2,k3⟩
  ·exact .inl h
  ·rcases hall t _ k1 with h|h
   ·exact .inr ⟨t,c,e,x,u,S,h,k2,k3⟩
   ·obtain⟨_,rfl⟩:=uc7 h
    refine .inl ?_;simp at k2 k3;rw[k2,k3]
 grp:=fun t c e x u S g o i1 i2 h1 h2 h3 h4 h5=>hr.grp t c e x u S g o i1 i2 (hsub _ _ h1) h2 (hsub _ _ h3) h4 h5
 out:=fun t c e x u S h=>hr.out t c e x u S (hsub _ _ h)
 glob:=hr.glob
theorem Rep.noS(hr:Rep φ L w){g t:Nat}{o:Ob}(hg:L g=some o)(hf:ufy o=true){c:List Value}{e:TypeId}{x:Bool}{u:Nat}{S:List Nat}(ht:L t=some (.row c e x u true S)):g∉S:=by
 intro hm;obtain⟨i1,a1,_⟩:=(hr.ob t _ ht).img;obtain⟨i2,a2,_⟩:=(hr.ob g _ hg).img;obtain⟨c',e',x',u',S',e1,_⟩:=hr.grp t c e x u S g o i1 i2 ht hm hg a1 a2;subst e1;have:=(uc7 hf).1;cases this
theorem Rep.alone(hr:Rep φ L w){g1 g2:Nat}{o1 o2:Ob}{i1 i2:Im}(h1:L g1=some o1)(hf:ufy o1=true)(h2:L g2=some o2)(k1:φ g1=some i1)(k2:φ g2=some i2)(hb:i1.b=i2.b):g1=g2:=by
 rcases hr.sep g1 g2 o1 o2 i1 i2 h1 h2 k1 k2 hb with h|⟨t,c,e,x,u,S,a1,a2,a3⟩
 ·exact h
 ·rcases a2 with rfl|a2
  ·rw[h1]at a1
   injection a1 with a1;subst a1;obtain⟨_,rfl⟩:=uc7 hf;simp at a3;exact a3.symm
  ·exact absurd a2 (hr.noS h1 hf a1)
theorem uxh(hr:Rep φ L w)(a5:∀g o,R g=some o->L g=some o)(a6:Rep φ' R' w')(hx:Ext φ R n φ' R' n' w w')
 (a0:∀g o,L' g=some o->R' g=some o\/(R g=none/\L g=some o/\ufy o=true/\g<n)) (b0:∀g o,R' g=some o->L' g=some o):Rep φ' L' w'/\Ext φ L n φ' L' n' w w':=by
 have img:∀ {g:Nat} {o:Ob} {im:Im},L g=some o->φ' g=some im->φ g=some im/\im.b<w.heap.size:=fun {g o im} h hi=>by
  obtain⟨i,a1,a2⟩:=(hr.ob g o h).img;have:=hx.le _ _ a1;rw[hi]at this;injection this with this;subst this;exact⟨a1,a2⟩
 have far:∀ {g g2:Nat} {o o2:Ob} {im a7:Im},R g=none->L g=some o->ufy o=true->φ' g=some im->R' g2=some o2->φ' g2=some a7->im.b≠a7.b:=by
  intro g g2 o o2 im a7 h1 h2 h3 h4 h5 h6 hb;obtain⟨a1,a2⟩:=img h2 h4;rcases hx.live g2 o2 a7 h5 h6 with h|⟨g3,o3,a8,b1,b2,b3,_⟩
  ·omega
  ·have:=hr.alone h2 h3 (a5 _ _ b1) a1 b2 (hb.trans b3.symm)
   subst this;rw[h1]at b1;cases b1
 have a9:∀ {k:Nat},Men R k->Men L k:=fun {k} h=>by
  rcases h with⟨o,h⟩|⟨t,c,e,x,u,S,h,h2⟩
  ·exact .inl ⟨o,a5 _ _ h⟩
  ·exact .inr ⟨t,c,e,x,u,S,a5 _ _ h,h2⟩
 have b5:∀ {t k:Nat} {c:List Value} {e:TypeId} {x:Bool} {u:Nat} {S:List Nat} {o:Ob},R' t=some (.row c e x u true S)->R k=none->L k=some o->ufy o=true->k<n->k∉S:=by
  intro t k c e x u S o h1 h2 h3 h4 h5 hm;rcases hx.men k (.inr ⟨t,c,e,x,u,S,h1,hm⟩)with h|h
  ·rcases h with⟨o2,h⟩|⟨t2,c2,e2,x2,u2,S2,h,h6⟩
   ·rw[h2]at h;cases h
   ·exact hr.noS h3 h4 (a5 _ _ h) h6
  ·omega
 refine⟨⟨fun g o h=>?_,?_,?_,?_,a6.glob⟩,⟨hx.le,hx.nx,hx.new,hx.os,hx.tape,hx.output,hx.size,fun b hb hn=>hx.fr b hb fun g o im h1 h2 h3=>hn g o im (a5 _ _ h1) h2 h3,fun g o im h1 h2=>?_,fun g o h=>?_,fun k h=>?_⟩⟩
 ·rcases a0 g o h with h|⟨h1,h2,h3,h4⟩
  ·exact a6.ob g o h
  ·obtain⟨im,a1,a2⟩:=(hr.ob g o h2).img
   refine(hr.ob g o h2).vAb a1 hx.le (hx.fr _ a2 fun g3 o3 a8 b1 _ b2 b3=>?_)
   have:=hr.alone h2 h3 (a5 _ _ b1) a1 b2 b3.symm;subst this;rw[h1]at b1;cases b1
 ·intro g1 g2 o1 o2 i1 i2 h1 h2 k1 k2 hb
  rcases a0 g1 o1 h1 with h1|⟨a1,a2,a3,a4⟩
  ·rcases a0 g2 o2 h2 with h2|⟨b1,b2,b3,b4⟩
   ·rcases a6.sep g1 g2 o1 o2 i1 i2 h1 h2 k1 k2 hb with h|⟨t,c,e,x,u,S,c1,c2⟩
    ·exact .inl h
    ·exact .inr ⟨t,c,e,x,u,S,b0 _ _ c1,c2⟩
   ·exact absurd hb.symm (far b1 b2 b3 k2 h1 k1)
  ·rcases a0 g2 o2 h2 with h2|⟨b1,b2,b3,b4⟩
   ·exact absurd hb (far a1 a2 a3 k1 h2 k2)
   ·exact .inl (hr.alone a2 a3 b2 (img a2 k1).1 (img b2 k2).1 hb)
 ·intro t c e x u S g o i1 i2 h1 h2 h3 h4 h5
  rcases a0 t _ h1 with h1|⟨a1,a2,a3,a4⟩
  ·rcases a0 g o h3 with h3|⟨b1,b2,b3,b4⟩
   ·exact a6.grp t c e x u S g o i1 i2 h1 h2 h3 h4 h5
   ·exact absurd h2 (b5 h1 b1 b2 b3 b4)
  ·obtain⟨_,rfl⟩:=uc7 a3
   cases h2
 ·intro t c e x u S h1
  rcases a0 t _ h1 with h1|⟨a1,a2,a3,a4⟩
  ·exact a6.out t c e x u S h1
  ·obtain⟨_,rfl⟩:=uc7 a3
   exact⟨by simp,fun k hk=>by cases hk⟩
 ·rcases a0 g o h1 with h1|⟨a1,a2,a3,a4⟩
  ·rcases hx.live g o im h1 h2 with h|⟨g3,o3,a8,b1,b2,b3,b4⟩
   ·exact .inl h
   ·exact .inr ⟨g3,o3,a8,a5 _ _ b1,b2,b3,b4⟩
  ·exact .inr ⟨g,o,im,a2,(img a2 h2).1,rfl,id⟩
 ·rcases a0 g o h with h|⟨a1,a2,a3,a4⟩
  ·rcases hx.dom g o h with⟨o0,h⟩|h
   ·exact .inl ⟨o0,a5 _ _ h⟩
   ·exact .inr h
  ·exact .inl ⟨o,a2⟩
 ·rcases h with⟨o,h⟩|⟨t,c,e,x,u,S,h,h2⟩
  ·rcases a0 k o h with h|⟨a1,a2,a3,a4⟩
   ·exact(hx.men k (.inl ⟨o,h⟩)).imp a9 id
   ·exact .inl (.inl ⟨o,a2⟩)
  ·rcases a0 t _ h with h|⟨a1,a2,a3,a4⟩
   ·exact(hx.men k (.inr ⟨t,c,e,x,u,S,h,h2⟩)).imp a9 id
   ·obtain⟨_,rfl⟩:=uc7 a3
    cases h2
theorem Ext.vDp{n0:Nat}(h:Ext φ L n φ' L' n' w w')(hn:n0<=n):Ext φ L n0 φ' L' n' w w':=
 ⟨h.le,ag hn h.nx,fun g hg=>⟨ag hn (h.new g hg).1,(h.new g hg).2⟩,h.os,h.tape,h.output,h.size,h.fr,h.live,fun g o hg=>(h.dom g o hg).imp id fun h=>⟨ag hn h.1,h.2⟩,fun k hk=>(h.men k hk).imp id fun h=>⟨ag hn h.1,h.2⟩⟩
end
theorem Ext.vDl{φ1 φ2 φ3:Phi}{L1 L2 L3:ucd}{n1 n2 n3:Nat}{w1 w2 w3:World}(h1:Ext φ1 L1 n1 φ2 L2 n2 w1 w2)(h2:Ext φ2 L2 n1 φ3 L3 n3 w2 w3)(hn:n2<=n3):Ext φ1 L1 n1 φ3 L3 n3 w1 w3 where
 le:=h1.le.trans h2.le
 nx:=h2.nx
 new:=fun g h=>by
  by_cases hg:φ3 g=φ2 g
  ·have:=h1.new g (by rw[<-hg];exact h)
   exact⟨this.1,af this.2 hn⟩
  ·exact h2.new g hg
 os:=h2.os.trans h1.os
 tape:=h2.tape.trans h1.tape
 output:=h2.output.trans h1.output
 size:=ag h1.size h2.size
 fr:=fun b hb hn=>by
  rw[h2.fr b (af hb h1.size) ?_,h1.fr b hb hn];intro g o im hg hw hi e;rcases h1.live g o im hg hi with h|⟨g0,o0,im0,k1,k2,k3,k4⟩
  ·omega
  ·exact hn g0 o0 im0 k1 (k4 hw) k2 (k3.trans e)
 live:=fun g o im hg hi=>by
  rcases h2.live g o im hg hi with h|⟨g0,o0,im0,k1,k2,k3,k4⟩
  ·exact .inl (ag h1.size h)
  ·rcases h1.live g0 o0 im0 k1 k2 with h|⟨g1,o1,im1,l1,l2,l3,l4⟩
   ·exact .inl (by rw[<-k3];exact h)
   ·exact .inr ⟨g1,o1,im1,l1,l2,l3.trans k3,fun h=>l4 (k4 h)⟩
 dom:=fun g o h=>by
  rcases h2.dom g o h with⟨o0,h0⟩|h3
  ·rcases h1.dom g o0 h0 with h5|⟨h5,h6⟩
   ·exact .inl h5
   ·exact .inr ⟨h5,af h6 hn⟩
  ·exact .inr h3
 men:=fun k h=>by
  rcases h2.men k h with h|h3
  ·rcases h1.men k h with h|⟨h5,h6⟩
   ·exact .inl h
   ·exact .inr ⟨h5,af h6 hn⟩
  ·exact .inr h3
def uci(p:Nat->Bool):List AB->Nat->Option Ob
 | [],_=>none
 | x::l,g=>if p x.i=true/\x.g=g then some x.ob else uci p l g
def mix(T:ucd)(p:Nat->Bool)(al:List AB):ucd:=fun g=>match T g with
 | some o=>some o
 | none=>uci p al g
section
variable {p q:Nat->Bool} {g:Nat}
theorem ugx{o:Ob}:∀ {al:List AB},uci p al g=some o->∃x∈al,p x.i=true/\x.g=g/\x.ob=o
 | [],h=>by cases h
 | x::l,h=>by
  rw[uci]at h;split at h
  ·rename_i h1
   injection h with h;exact⟨x,by simp,h1.1,h1.2,h⟩
  ·obtain⟨y,h1,h2⟩:=ugx h
   exact⟨y,aG _ h1,h2⟩
theorem ugy:∀ {al:List AB},(∀x∈al,p x.i=true->x.g≠g)->uci p al g=none
 | [],h=>rfl
 | x::l,h=>by
  rw[uci,if_neg fun⟨h1,h2⟩=>h x (by simp) h1 h2]
  exact ugy fun y hy=>h y (aG _ hy)
theorem udu:∀ {al:List AB},(∀x∈al,x.g=g->p x.i=q x.i)->uci p al g=uci q al g
 | [],h=>rfl
 | x::l,h=>by
  rw[uci,uci,udu fun y hy=>h y (aG _ hy)]
  by_cases hg:x.g=g
  ·rw[h x (by simp) hg]
  ·rw[if_neg fun h=>hg h.2,if_neg fun h=>hg h.2]
theorem un7{l:List AB}:∀ {pre:List AB},(∀y∈pre,p y.i=true->False)->uci p (pre++l) g=uci p l g
 | [],h=>rfl
 | x::pre,h=>by
  rw[List.cons_append,uci,if_neg fun h1=>h x (by simp) h1.1]
  exact un7 fun y hy=>h y (aG _ hy)
def uC3(al:List AB):Prop:=al.Pairwise fun x y=>y.i≠x.i
theorem ur8:∀ {al:List AB},uAo al=true->uC3 al
 | [],h=> .nil
 | x::l,h=>by
  rw[uAo,uk]at h;refine .cons (fun y hy=>?_) (ur8 h.2)
  have:=ubw _ h.1 y hy;intro e1;rw[uJ.2 e1]at this;cases this
theorem uC3.eq:∀ {al:List AB},uC3 al->∀ {x y:AB},x∈al->y∈al->x.i=y.i->x=y
 | _,.cons h1 h2,x,y,hx,hy,e=>by
  rcases List.mem_cons.1 hx with ex|hx2
  ·rcases List.mem_cons.1 hy with ey|hy2
   ·rw[ex,ey]
   ·rw[ex]at e
    exact absurd e.symm (h1 y hy2)
  ·rcases List.mem_cons.1 hy with ey|hy2
   ·rw[ey]at e
    exact absurd e (h1 x hx2)
   ·exact uC3.eq h2 hx2 hy2 e
theorem ul9{n0:Nat}{al:List AB}(hu:uC3 al)(hg:∀x∈al,x.g=n0+x.i){x:AB}(hx:x∈al)(hp:p x.i=true):uci p al x.g=some x.ob:=by
 cases h:uci p al x.g with
 | none=>
  exfalso;have:∀ {l:List AB},x∈l->uci p l x.g≠none:=by
   intro l;induction l with
   | nil=>intro h;cases h
   | cons y l ih=>
    intro hm;rw[uci];split
    ·simp
    ·rename_i hn
     rcases List.mem_cons.1 hm with rfl|hm
     ·exact absurd ⟨hp,rfl⟩ hn
     ·exact ih hm
  exact this hx h
 | some o=>
  obtain⟨y,h1,h2,h3,h4⟩:=ugx h;have:=hu.eq h1 hx (by have a:=hg y h1;have b:=hg x hx;omega)
  subst this;rw[h4]
end
theorem uja{b:Nat}:∀ {al:List AB} {t:Tr} {K:Tr->Bool},uEe b al t K=true->∃t',K t'=true/\∀g,t'.get g=mix t.get (tb b) al g
 | [],t,K,h=>⟨t,h,fun g=>by unfold mix;split<;>rename_i hg<;>rw[hg];rfl⟩
 | x::l,t,K,h=>by
  rw[uEe]at h;rcases uab h with⟨hb,h⟩|⟨hb,h⟩
  ·split at h
   ·rename_i o ho
    obtain⟨t',h,h1⟩:=uja h;refine⟨t',h,fun g=>?_⟩
    rw[h1];unfold mix;split
    ·rfl
    ·rename_i hg
     rw[uci,if_neg];rintro⟨_,rfl⟩;rw[ho]at hg;cases hg
   ·rename_i ho
    obtain⟨t1,h,g1,g2⟩:=udp h;obtain⟨t',h,h1⟩:=uja h;refine⟨t',h,fun g=>?_⟩
    rw[h1];unfold mix;by_cases hg:g=x.g
    ·subst hg
     rw[g1,ho,uci,if_pos ⟨hb,rfl⟩]
    ·rw[g2 _ hg,uci,if_neg fun h=>hg h.2.symm]
  ·obtain⟨t',h,h1⟩:=uja h
   refine⟨t',h,fun g=>?_⟩
   rw[h1];unfold mix;rw[uci,if_neg fun h=>by rw[hb]at h;cases h.1]
structure Grow (L:List Oper) (tm:Tm) (al:List AB) (tm':Tm) (al':List AB):Prop where
 n:tm'.n=tm.n
 vAb:∀t,(∀o∈L,o.dst≠some t)->(tm'.t.get t).getD undef=(tm.t.get t).getD undef
 al:∃pre,al'=pre++al
section
variable {P:Program} {L:List Oper}
theorem Grow.refl(tm:Tm)(al:List AB):Grow L tm al tm al:=⟨rfl,fun _ _=>rfl,[],rfl⟩
theorem Grow.trans{a3 a4 a5:Tm}{a0 a1 a2:List AB}(h1:Grow L a3 a0 a4 a1)(h2:Grow L a4 a1 a5 a2):Grow L a3 a0 a5 a2:=by
 obtain⟨p1,e1⟩:=h1.al;obtain⟨p2,e2⟩:=h2.al;exact⟨h2.n.trans h1.n,fun t ht=>(h2.vAb t ht).trans (h1.vAb t ht),p2++p1,by rw[e2,e1,aS]⟩
theorem Grow.put{tm a0:Tm}{al:List AB}{o:Oper}{v:Value}(ho:o∈L)(p1:a0.n=tm.n)(p2:∀i,(a0.t.get i).getD undef=if o.dst=some i then v else(tm.t.get i).getD undef):Grow L tm al a0 al:=
 ⟨p1,fun t ht=>by rw[p2,if_neg (ht o ho)],[],rfl⟩
theorem Grow.one(tm:Tm)(al:List AB)(x:AB):Grow L tm al tm (x::al):=⟨rfl,fun _ _=>rfl,[x],rfl⟩
theorem un8{tm:Tm}{o:Oper}{K:Bool->Bool}(h:ujq L tm o K=true):∃b,K b=true:=by
 obtain⟨b,h,_⟩:=uf7 (ops:=L.toArray) (fun i x hx=>by simpa using hx) h
 exact⟨b,h⟩
theorem uxi{n0 i:Nat}{t:Tr}{o:Oper}{tm:Tm}{al:List AB}{K:Tm->List AB->Bool}(ho:o∈L)(h:uwj P L n0 t o i tm al K=true):∃a2 a1,K a2 a1=true/\Grow L tm al a2 a1:=by
 unfold uwj at h;obtain⟨b,h⟩:=un8 h;cases b with
 | false=>
  obtain⟨a0,h,p1,p2,_⟩:=ufa h;exact⟨a0,al,h,.put ho p1 p2⟩
 | true=>
  simp only[]at h;split at h
  ·cases h
  ·obtain⟨ob,sh,h,_⟩:=uwz h
   have h:=uw h;obtain⟨a0,h,p1,p2,_⟩:=ufa h;exact⟨a0,_,h,(Grow.put ho p1 p2).trans (.one _ _ _)⟩
  ·obtain⟨v,h,_⟩:=ury h
   obtain⟨a0,h,p1,p2,_⟩:=ufa h;exact⟨a0,al,h,.put ho p1 p2⟩
theorem uf9{n0 sel:Nat}{t:Tr}:∀ {l:List Oper} {i D:Nat} {tm:Tm} {al:List AB} {K:Nat->Tm->List AB->Bool},(∀o∈l,o∈L)->ukj P L n0 sel t l i D tm al K=true->∃D' a1 a0,K D' a1 a0=true/\Grow L tm al a1 a0
 | [],i,D,tm,al,K,hl,h=>⟨D,tm,al,h,.refl _ _⟩
 | o::l,i,D,tm,al,K,hl,h=>by
  rw[ukj]at h;rcases uab h with⟨_,h⟩|⟨_,h⟩
  ·exact uf9 (fun o ho=>hl o (aG _ ho)) h
  ·have h:=uw h
   obtain⟨a5,a4,h,g1⟩:=uxi (hl o (by simp)) h
   obtain⟨D2,a3,a2,h,g2⟩:=uf9 (fun o ho=>hl o (aG _ ho)) h
   exact⟨D2,a3,a2,h,g1.trans g2⟩
theorem uG4{X:unv}{rec:ue9}{tm:Tm}{m:Mem}{o:Op}{K:Value->Mem->Bool}(h:wrE P X rec tm m o K=true):opE P X rec tm m o K=true:=by
 cases o<;>first|exact h|cases h
def Suf(l al:List AB):Prop:=∃pre,al=pre++l
theorem Suf.grow{l al a0:List AB}{tm a1:Tm}(h:Suf l al)(g:Grow L tm al a1 a0):Suf l a0:=by
 obtain⟨p1,e1⟩:=h;obtain⟨p2,e2⟩:=g.al;exact⟨p2++p1,by rw[e2,e1,aS]⟩
inductive Ch (P:Program) (L:List Oper) (B:List Nat) (s0:vAq):vAq->List vAq->List WL->Prop
 | nil:Ch P L B s0 s0 [] []
 | step {s:vAq} {S:List vAq} {W:List WL} {i b:Nat} {o:Oper} {tm:Tm} {t:Tr} {v:Value} {m:Mem} {vals:List Value} {al:List AB} (h:Ch P L B s0 s S W) (ho:L[i]? = some o) (hk:uEf o=true) (hb:B[i]? = some b) (hv:uf0 tm o.op.operands.toList=some vals)
  (ht:∀g,t.get g=mix s.m.t.get (tb b) al g) (hop:ul4 P o tm ⟨s.m.next,t⟩ v m) (hn:s.m.next<=m.next):Ch P L B s0 ⟨Nat.lor s.I (2^i),m⟩ (s::S) (⟨i,vals,v,al⟩::W)
theorem uma{X:unv}{rec:ue9}(a0:uyx P X)(a1:ui6 P rec){B:List Nat}{n0:Nat}{s0:vAq}:∀ {l:List Oper} {i D:Nat} {tm:Tm} {al:List AB} {s:vAq} {S:List vAq} {W:List WL} {K:Nat->Tm->List AB->vAq->List vAq->List WL->Bool},(∀k o,l[k]? = some o->L[i+k]? = some o) ->
 uFy P X rec L B n0 l i D tm al s S W K=true->Ch P L B s0 s S W->(∀x∈W,Suf x.al al)->∃D' a8 a2 s' S' W',K D' a8 a2 s' S' W'=true/\Grow L tm al a8 a2/\Ch P L B s0 s' S' W'/\(∀x∈W',Suf x.al a2)/\s.m.next<=s'.m.next
 | [],i,D,tm,al,s,S,W,K,hl,h,hc,hs=>⟨D,tm,al,s,S,W,h,.refl _ _,hc,hs,ab⟩
 | o::l,i,D,tm,al,s,S,W,K,hl,h,hc,hs=>by
  have ho:L[i]? = some o:=hl 0 o (by simp)
  have a6:o∈L:=List.mem_of_getElem? ho;have a4:∀k o,l[k]? = some o->L[i+1+k]? = some o:=fun k o hk=>by
   have:=hl (k+1) o (by simpa using hk)
   rw[show i+1+k=i+(k+1) by omega]
   exact this
  rw[uFy]at h;split at h
  ·exact uma a0 a1 a4 h hc hs
  ·rename_i hk
   rw[ubh]at h;split at h
   ·cases h
   ·rename_i b hb
    obtain⟨D1,b2,a9,h,g1⟩:=uf9 (fun o h=>h) h
    have h:=uw h;obtain⟨c,h⟩:=un8 h;have a7:∀x∈W,Suf x.al a9:=fun x hx=>(hs x hx).grow g1
    cases c with
    | false=>
     obtain⟨b1,h,p1,p2,_⟩:=ufa h;obtain⟨D3,a5,a3,s3,S3,W3,h,g3,c3,s4,n4⟩:=uma a0 a1 a4 h hc a7;exact⟨D3,a5,a3,s3,S3,W3,h,(g1.trans (.put a6 p1 p2)).trans g3,c3,s4,n4⟩
    | true=>
     obtain⟨b3,hv,h⟩:=udq h;obtain⟨t,h,ht⟩:=uja h;obtain⟨v,m1,h,hn,b0⟩:=uC0 a0 a1 (uG4 h);obtain⟨b1,h,p1,p2,_⟩:=ufa h;have h:=uw h;obtain⟨D3,a5,a3,s3,S3,W3,h,g3,c3,s4,n4⟩:=uma a0 a1 a4 h (.step hc ho hk hb hv ht b0 hn) (fun x hx=>by
      rcases List.mem_cons.1 hx with e|hx
      ·rw[e];exact⟨[],rfl⟩
      ·exact a7 x hx)
     exact⟨D3,a5,a3,s3,S3,W3,h,(g1.trans (.put a6 p1 p2)).trans g3,c3,s4,ag hn n4⟩
theorem uBb{X:unv}{rec:ue9}(a3:uyx P X)(a4:ui6 P rec){B:List Nat}{tm:Tm}{m:Mem}{K:Tm->Mem->Bool}(h:uEh P X rec L B tm m K=true):∃a1 a0 sF S W t,K a1 ⟨sF.m.next,t⟩=true/\Grow L tm [] a1 a0/\Ch P L B ⟨0,⟨m.next+L.length,m.t⟩⟩ sF S W /\
 (∀x∈W,Suf x.al a0)/\m.next+L.length<=sF.m.next/\uC3 a0/\ugq B W=true/\unw L B a1 a0 W=true/\(∀s∈sF::S,sameAt P L B a1 a0 sF.I s=true)/\(∀x∈a0,urq P L m.next a1 x=true)/\(∀s∈sF::S,uEg B a0 s=true)/\∀g,t.get g=mix sF.m.t.get (tb (unx 0 L)) a0 g:=by
 unfold uEh at h;have h:=uw h;rw[uah]at h;obtain⟨D1,a7,a6,s1,S1,W1,h,g1,c1,f1,n1⟩:=uma a3 a4 (fun k o hk=>by rw[Nat.zero_add];exact hk) h .nil (fun x hx=>by cases hx)
 obtain⟨D2,a5,a2,h,g2⟩:=uf9 (fun o h=>h) h
 rw[uk,uk,uk,uk,uk,uk]at h;obtain⟨h1,h2,h3,h4,h5,h6,h⟩:=h;obtain⟨t,h,ht⟩:=uja h;exact⟨a5,a2,s1,S1,W1,t,h,g1.trans g2,c1,fun x hx=>(f1 x hx).grow g2,n1,ur8 h1,h2,h3,ubw _ h4,ubw _ h5,ubw _ h6,ht⟩
end
structure Static (L:List Oper) (B:List Nat):Prop where
 bit:∀(i:Nat) (o:Oper),L[i]? = some o->∃b,B[i]? = some b
 one:∀(i j:Nat) (o o':Oper) (t:Nat),L[i]? = some o->L[j]? = some o'->o.dst=some t->o'.dst=some t->i=j
 guard:∀(i:Nat) (o:Oper) (b:Nat) (p:Nat×Bool),L[i]? = some o->B[i]? = some b->o.guard=some p->tb b p.1=true/\∃oj,L[p.1]? = some oj
 sees:∀(i:Nat) (o:Oper) (b t:Nat),L[i]? = some o->B[i]? = some b->Operand.tmp t∈o.op.operands.toList->∀(j:Nat) (o':Oper),L[j]? = some o'->o'.dst=some t->tb b j=true
theorem ur9{t:Nat}{o:Oper}(h:o.dst=some t):uAn t o=true:=by
 unfold uAn;rw[h];exact uJ.2 rfl
theorem uE1{L:List Oper}{B:List Nat}(h:stat L B=true):Static L B:=by
 have key:∀(i:Nat) (o:Oper),L[i]? = some o->∃b,B[i]? = some b/\uEd L i o b=true:=by
  intro i o ho;have:=ugw h i o ho;simp only[Nat.zero_add]at this;rw[ubh]at this;split at this
  ·rename_i b hb
   exact⟨b,hb,this⟩
  ·cases this
 have a1:∀(i:Nat) (o:Oper) (b:Nat),L[i]? = some o->B[i]? = some b->uwi L i o=true/\up5 L b o=true/\umm (uwh L b) o.op.operands.toList=true:=by
  intro i o b ho hb;obtain⟨b',a0,hs⟩:=key i o ho;rw[hb]at a0;injection a0 with a0;subst a0;unfold uEd at hs;rw[uk,uk]at hs;exact hs
 refine⟨fun i o ho=>?_,fun i j o o' t hi hj ht a2=>?_,fun i o b p ho hb hg=>?_,fun i o b t ho hb hm j o' hj ht=>?_⟩
 ·obtain⟨b,hb,_⟩:=key i o ho
  exact⟨b,hb⟩
 ·obtain⟨b,hb⟩:∃b,B[j]? = some b:=by obtain⟨b,hb,_⟩:=key j o' hj;exact⟨b,hb⟩
  have h1:=(a1 j o' b hj hb).1;unfold uwi at h1;rw[a2]at h1;have:=ugw h1 i o hi;simp only[ur9 ht,cond_true,Nat.zero_add]at this;exact uJ.1 this
 ·have h1:=(a1 i o b ho hb).2.1
  unfold up5 at h1;rw[hg]at h1;simp only[]at h1;rw[uk,ubh]at h1;refine⟨h1.1,?_⟩;have h2:=h1.2;split at h2
  ·rename_i oj hj
   exact⟨oj,hj⟩
  ·cases h2
 ·have h1:=ubw _ (a1 i o b ho hb).2.2 _ hm
  unfold uwh at h1;have:=ugw h1 j o' hj;simp only[ur9 ht,cond_true,Nat.zero_add]at this;exact this
section
variable {P:Program} {L:List Oper} {ops:Array Oper} {B:List Nat} {tm:Tm} {al:List AB} {n0 wm:Nat}
def Same(P:Program)(L:List Oper)(ops:Array Oper)(B:List Nat)(tm:Tm)(al:List AB)(wm:Nat)(s:vAq):Prop:=∀(i:Nat) (o:Oper) (b:Nat),L[i]? = some o->B[i]? = some b->∃c,un4 ops tm o c/\(c=false->ugr tm o undef=true)/\(c=true ->
 (kind o.op = .wr->tb wm i=true)/\(kind o.op = .al->∃x∈al,x.i=i)/\(kind o.op = .rd->uGv (Nat.land b wm) s.I=true->ual i s.I 0 B=true->∃v,ugr tm o v=true /\
  ∀(φ:Phi) (w:World) (ρ:Operand->Value),(∀x∈o.op.operands.toList,OR φ tm ρ x)->Rep φ s.m.t.get w->∃v',(execOp ρ o).run P w = .ok (.value v') w/\RV φ v v'))
theorem un9(hL:∀(i:Nat) (x:Oper),L[i]? = some x->ops[i]? = some x){s:vAq}(h:sameAt P L B tm al wm s=true):Same P L ops B tm al wm s:=by
 intro i o b ho hb;have:=ugw h i o ho;simp only[Nat.zero_add]at this;rw[ubh,hb]at this;simp only[]at this;unfold uGx at this;obtain⟨c,h,hw⟩:=uf7 hL this;refine⟨c,hw,fun e=>?_,fun e=>?_⟩
 ·subst e;exact h
 ·subst e
  simp only[]at h;cases hk:kind o.op with
  | wr=>rw[hk]at h;exact⟨fun _=>h,(fun e=>by cases e),(fun e=>by cases e)⟩
  | al=>
   rw[hk]at h;refine⟨(fun e=>by cases e),fun _=>?_,(fun e=>by cases e)⟩
   obtain⟨x,h1,h2⟩:=uqb h;exact⟨x,h1,uJ.1 h2⟩
  | rd=>
   rw[hk]at h;refine⟨(fun e=>by cases e),(fun e=>by cases e),fun _ h1 h2=>?_⟩
   simp only[]at h;rw[h1,h2]at h;simp only[cond_true]at h;obtain⟨v,h,hr⟩:=ury h;exact⟨v,h,hr⟩
theorem uBc{o:Op}{K:Ob->Sh->Bool}(h:alE P tm o K=true):kind o = .al:=by
 cases o<;>first|rfl|cases h
def uC4(P:Program)(L:List Oper)(ops:Array Oper)(n0:Nat)(tm:Tm)(x:AB):Prop:=x.g=n0+x.i/\∃o,L[x.i]? = some o/\kind o.op = .al/\un4 ops tm o true/\ufy x.ob=true/\∃sh,uAz P o tm x.ob sh/\ugr tm o (sh.val x.g)=true
theorem uxj(hL:∀(i:Nat) (x:Oper),L[i]? = some x->ops[i]? = some x){x:AB}(h:urq P L n0 tm x=true):uC4 P L ops n0 tm x:=by
 unfold urq at h;rw[uk,ubh]at h;obtain⟨h1,h⟩:=h;refine⟨uJ.1 h1,?_⟩;split at h
 ·cases h
 ·rename_i o ho
  obtain⟨c,h,hw⟩:=uf7 hL h;cases c with
  | false=>cases h
  | true=>
   simp only[]at h;rw[uk]at h;obtain⟨h2,h⟩:=h;refine⟨o,ho,uBc h,hw,h2,?_⟩;obtain⟨ob,sh,h,hm⟩:=uwz h;rw[uk]at h;rw[uE0 h.1]at hm;exact⟨sh,hm,h.2⟩
theorem usa{s:vAq}(h:uEg B al s=true):∀x∈al,(s.m.t.get x.g=none↔ual x.i s.I 0 B=true):=by
 intro x hx;have:=ubw _ h x hx;unfold uJn at this;split at this
 ·rename_i hg
  exact⟨fun _=>this,fun _=>hg⟩
 ·rename_i o hg
  rw[hg];refine⟨(fun e=>by cases e),fun e=>?_⟩
  rw[e]at this;cases this
structure vDf (L:List Oper) (ops:Array Oper) (B:List Nat) (tm:Tm) (al:List AB) (x:WL):Prop where
 out:∃o b,L[x.i]? = some o/\B[x.i]? = some b/\un4 ops tm o true/\uf0 tm o.op.operands.toList=some x.vals/\ugr tm o x.v=true/\∀y∈al,tb b y.i=true->∃z∈x.al,z.i=y.i
theorem uoa(hL:∀(i:Nat) (x:Oper),L[i]? = some x->ops[i]? = some x):∀ {W:List WL},unw L B tm al W=true->∀x∈W,vDf L ops B tm al x
 | [],h,x,hx=>by cases hx
 | w::W,h,x,hx=>by
  rw[unw,ubh]at h;split at h
  ·rename_i o ho
   obtain⟨c,h,hw⟩:=uf7 hL h;cases c with
   | false=>cases h
   | true=>
    simp only[]at h;obtain⟨vs,hv,h⟩:=udq h;rw[uk,uk]at h;obtain⟨h1,h2,h⟩:=h;rw[(uh3 _).2 _ _ h1]at hv;rw[ubh]at h;split at h
    ·rename_i b hb
     rw[uk]at h;obtain⟨h3,h⟩:=h;rcases List.mem_cons.1 hx with e|hx
     ·rw[e]
      refine⟨o,b,ho,hb,hw,hv,h2,fun y hy a0=>?_⟩
      have:=ubw _ h3 y hy;unfold uGw at this;rw[a0,cond_true]at this;obtain⟨z,z1,z2⟩:=uqb this;exact⟨z,z1,uJ.1 z2⟩
     ·exact uoa hL h x hx
    ·cases h
  ·cases h
structure Step (P:Program) (L:List Oper) (ops:Array Oper) (B:List Nat) (tm:Tm) (al:List AB) (s:vAq) (x:WL) (s':vAq):Prop where
 out:∃o b t,L[x.i]? = some o/\uEf o=true/\B[x.i]? = some b/\un4 ops tm o true/\ul4 P o tm ⟨s.m.next,t⟩ x.v s'.m/\(∀g,t.get g=mix s.m.t.get (tb b) al g)/\ugr tm o x.v=true
 set:s'.I=Nat.lor s.I (2^x.i)
 next:s.m.next<=s'.m.next
def uFz(B:List Nat)(x z:WL):Prop:=∃b,B[z.i]? = some b/\tb b x.i=true
inductive Fwd (vCi:vAq->Prop) (step:vAq->WL->vAq->Prop) (link:WL->WL->Prop):vAq->List WL->vAq->Prop
 | nil {s:vAq} (h:vCi s):Fwd vCi step link s [] s
 | cons {s s' sF:vAq} {x:WL} {l:List WL} (h:vCi s) (h1:step s x s') (h2:∀z l',l=z::l'->link x z) (h3:Fwd vCi step link s' l sF):Fwd vCi step link s (x::l) sF
theorem ukq{tm a0:Tm}:∀ {l:List Operand} {vs:List Value},uf0 tm l=some vs->uf0 a0 l=some vs->∀x∈l,un0 tm x=un0 a0 x
 | [],vs,h1,h2,x,hx=>by cases hx
 | y::l,vs,h1,h2,x,hx=>by
  rw[uf0]at h1 h2;split at h1
  ·rename_i v ws k1 k2
   split at h2
   ·rename_i v2 ws2 k3 k4
    injection h1 with h1;injection h2 with h2;rw[<-h1]at h2;injection h2 with e1 e2;rcases List.mem_cons.1 hx with e|hx
    ·rw[e,k1,k3,e1]
    ·exact ukq k2 (by rw[k4,e2]) x hx
   ·cases h2
  ·cases h1
theorem ul4.to{a0:Tm}{o:Oper}{m m':Mem}{v:Value}{a1:List Value}(h:ul4 P o tm m v m')(h1:uf0 tm o.op.operands.toList=some a1)(h2:uf0 a0 o.op.operands.toList=some a1):ul4 P o a0 m v m':=by
 intro φ w a ho;exact h φ w a fun x hx u hu=>ho x hx u (by rw[<-ukq h1 h2 x hx];exact hu)
theorem uG5{s0:vAq}{vCi:vAq->Prop}(hu:uC3 al){s:vAq}{S:List vAq}{W:List WL}(h:Ch P L B s0 s S W):(∀r∈s::S,vCi r)->ugq B W=true->(∀x∈W,vDf L ops B tm al x)->(∀x∈W,Suf x.al al) ->
 ∀(l:List WL) (sF:vAq),Fwd vCi (Step P L ops B tm al) (uFz B) s l sF->(∀v W' z l',W=v::W'->l=z::l'->uFz B v z)->Fwd vCi (Step P L ops B tm al) (uFz B) s0 (W.reverse++l) sF:=by
 induction h with
 | nil=>intro hg hc hv hs l sF hf hl;exact hf
 | @step s S W i b o tmj t v m vals alj h ho hk hb hvs ht hop hn ih=>
  intro hg hc hv hs l sF hf hl;have hx:=hv ⟨i,vals,v,alj⟩ (by simp)
  obtain⟨o',b',a1,a0,hw,a4,hd,a3⟩:=hx.out;simp only[]at a1 a0 a4 hd a3;rw[ho]at a1;injection a1 with a1;subst a1;rw[hb]at a0;injection a0 with a0;subst a0;have a5:Step P L ops B tm al s ⟨i,vals,v,alj⟩ ⟨Nat.lor s.I (2^i),m⟩:=by
   refine⟨⟨o,b,t,ho,hk,hb,hw,hop.to hvs a4,fun g=>?_,hd⟩,rfl,hn⟩
   rw[ht g];unfold mix;split
   ·rfl
   ·obtain⟨pre,a2⟩:=hs ⟨i,vals,v,alj⟩ (by simp)
    simp only[]at a2;rw[a2,un7];intro y hy a6;obtain⟨z,z1,z2⟩:=a3 y (by rw[a2];exact List.mem_append_left _ hy) a6
    rw[a2]at hu;exact(List.pairwise_append.1 hu).2.2 y hy z z1 z2
  rw[List.reverse_cons,aS];refine ih (fun r hr=>hg r (aG _ hr)) ?_ (fun x hx=>hv x (aG _ hx)) (fun x hx=>hs x (aG _ hx)) _ sF (.cons (hg s (by simp)) a5 (fun z l' e=>hl _ _ z l' rfl e) hf) ?_
  ·unfold ugq at hc
   split at hc
   ·rfl
   ·split at hc
    ·rw[uk]at hc;exact hc.2
    ·cases hc
  ·intro v2 W' z l' e1 e2
   simp at e2;obtain⟨rfl,_⟩:=e2;unfold ugq at hc;rw[e1]at hc;simp only[]at hc;rw[ubh]at hc;split at hc
   ·rename_i b2 hb2
    rw[uk]at hc;exact⟨b2,hb2,hc.1⟩
   ·cases hc
end
end AC.Ev
