/-
  Regions by reckoning: a table of symbolic values is reckoned from the operations; only calls and what cannot be reckoned are shown by hand.
-/
import Derived.Test.YtnbbpmagijpmpaaGreatDoorMVw
set_option linter.unusedVariables false
set_option linter.unusedSimpArgs false
namespace Go.Proofs.YtnbbpmagijpmpaaGreatDoor
open Go.Lib (hid)
open Go Go.RowKit AC
inductive BE where
 | t|f
 | x (i:Nat)
 | n (a:BE)
 | a (p q:BE)
 | o (p q:BE)
def BE.ev(s:List Bool):BE->Bool
 | .t=>true
 | .f=>false
 | .x i=>s.getD i false
 | .n p=> !p.ev s
 | .a p q=>p.ev s&&q.ev s
 | .o p q=>p.ev s||q.ev s
def BE.not:BE->BE
 | .t=> .f
 | .f=> .t
 | p=> .n p
def BE.and:BE->BE->BE
 | .t,q=>q
 | .f,_=> .f
 | p,.t=>p
 | _,.f=> .f
 | p,q=> .a p q
def BE.or:BE->BE->BE
 | .f,q=>q
 | .t,_=> .t
 | p,.f=>p
 | _,.t=> .t
 | p,q=> .o p q
theorem BE.vB1(s:List Bool)(p:BE):p.not.ev s = !p.ev s:=by cases p<;>simp[BE.not,BE.ev]
theorem BE.vBh(s:List Bool)(p q:BE):(p.and q).ev s=(p.ev s&&q.ev s):=by cases p<;>cases q<;>simp[BE.and,BE.ev]
theorem BE.vDh(s:List Bool)(p q:BE):(p.or q).ev s=(p.ev s||q.ev s):=by cases p<;>cases q<;>simp[BE.or,BE.ev]
def uDq:Nat->List (List Bool)
 | 0=>[[]]
 | n+1=>(uDq n).map (true :: ·)++(uDq n).map (false :: ·)
theorem uq8:∀s:List Bool,s∈uDq s.length
 | []=>by simp[uDq]
 | b::s=>by
  have:=uq8 s;rw[aB,uDq,List.mem_append,List.mem_map,List.mem_map];cases b
  ·exact .inr ⟨s,this,rfl⟩
  ·exact .inl ⟨s,this,rfl⟩
def uIn(n:Nat)(p:BE):BE->Bool
 | .t=>true
 | q=>(uDq n).all fun s=> !p.ev s||q.ev s
theorem ule{s:List Bool}{p q:BE}(h:uIn s.length p q=true)(hp:p.ev s=true):q.ev s=true:=by
 have key:((uDq s.length).all fun s=> !p.ev s||q.ev s)=true->q.ev s=true:=fun h=>by
  have:=aT.1 h s (uq8 s);rw[hp]at this;simpa using this
 cases q<;>first|rfl|exact key h
inductive Sy where
 | v (x:Value)
 | b (e:BE)
 | p (k o:Nat)
 | s (k o n c:Nat)
 | f (k:Nat)
structure Sp where
 mem:List (Nat×Nat×List Value)
 bs:List Bool
 fs:List (Value->World->Prop)
 ext:List (Nat×Sy)
 hint:List (Nat×Sy)
def nth{α:Type}:List α->Nat->Option α
 | [],_=>none
 | x::_,0=>some x
 | _::l,k+1=>nth l k
theorem uin{α:Type}:∀(l:List α) (k:Nat),nth l k=l[k]?
 | [],_=>rfl
 | _::_,0=>rfl
 | _::l,k+1=>by rw[nth,uin l k];rfl
def ud0:List (Nat×Sy)->Nat->Option Sy
 | [],_=>none
 | (i,s)::l,k=>if i=k then some s else ud0 l k
def idxOf:List Nat->Nat->Nat->Option Nat
 | [],_,_=>none
 | u::l,t,k=>if u=t then some k else idxOf l t (k+1)
theorem ugi:∀ {l:List Nat} {t k j:Nat},idxOf l t k=some j->k<=j/\l[j-k]? = some t
 | [],_,_,_,h=>by cases h
 | u::l,t,k,j,h=>by
  rw[idxOf]at h;split at h
  ·next hu=>injection h with h;subst h;subst hu;simp
  ·have:=ugi h
   refine⟨by omega,?_⟩
   rw[show j-k=(j-(k+1))+1 from by omega,List.getElem?_cons_succ]
   exact this.2
theorem ugj:∀ {l:List Nat} {t k:Nat},idxOf l t k=none->t∉l
 | [],_,_,_=>by simp
 | u::l,t,k,h=>by
  rw[idxOf]at h;split at h
  ·cases h
  ·next hu=>
   rw[List.mem_cons];rintro(rfl|h2)
   ·exact hu rfl
   ·exact ugj h h2
def Sp.blk(E:Sp)(k:Nat):Nat×Nat:=match nth E.mem k with
 | some z=>(z.1,z.2.1)
 | none=>(0,0)
def Sp.sat(E:Sp):Sy->Value->World->Prop
 | .v y,v,_=>v=y
 | .b e,v,_=>v = .bool (e.ev E.bs)
 | .p k o,v,_=>v = .pointer (some ⟨(E.blk k).1,(E.blk k).2+o,none⟩)
 | .s k o n c,v,_=>v = .slice (some ⟨(E.blk k).1,(E.blk k).2+o,none⟩) n c
 | .f k,v,x=>match nth E.fs k with
  | some P=>P v x
  | none=>True
def Sp.den(E:Sp):Sy->Value
 | .v y=>y
 | .b e=> .bool (e.ev E.bs)
 | .p k o=> .pointer (some ⟨(E.blk k).1,(E.blk k).2+o,none⟩)
 | .s k o n c=> .slice (some ⟨(E.blk k).1,(E.blk k).2+o,none⟩) n c
 | .f _=>undef
def isF:Sy->Bool
 | .f _=>true
 | _=>false
theorem Sp.vC6{E:Sp}{s:Sy}(h:isF s=false){v:Value}(hv:v=E.den s)(x:World):E.sat s v x:=by
 cases s<;>first|exact hv|cases h
def Sp.vBi(E:Sp)(z:BE×Sy)(v:Value)(x:World):Prop:=if z.1.ev E.bs=true then E.sat z.2 v x else v=undef
def asB:Sy->Option BE
 | .b e=>some e
 | .v (.bool true)=>some .t
 | .v (.bool false)=>some .f
 | _=>none
theorem ug8{E:Sp}{s:Sy}{e:BE}(h:asB s=some e){v:Value}{x:World}(hs:E.sat s v x):v = .bool (e.ev E.bs):=by
 unfold asB at h;split at h
 ·injection h with h;subst h;exact hs
 ·injection h with h;subst h;exact hs
 ·injection h with h;subst h;exact hs
 ·cases h
def uzw(E:Sp)(vAa:List Nat)(acc:List (BE×Sy))(i m:Nat):Operand->Option (BE×Sy)
 | .const v=>some (.t,.v v)
 | .global g=>some (.t,.v (.pointer (some ⟨g,0,none⟩)))
 | .func f=>some (.t,.v (.func (.func f) #[] #[]))
 | .tmp t=>match idxOf vAa t 0 with
  | some j=>if m.testBit j&&decide (j<i)then nth acc (i-1-j)else none
  | none=>match ud0 E.ext t with
   | some s=>some (.t,s)
   | none=>none
def ujn(n:Nat)(C:BE):Option (BE×Sy)->Option Sy
 | some (c,s)=>if uIn n C c then some s else none
 | none=>none
def uJg(op:BinOp):Option Sy->Option Sy->Option Sy
 | some (.v (.int k m)),some (.v (.int k' n))=>if k=k' then match ulc op m n with
  | some true=>some (.b .t)
  | some false=>some (.b .f)
  | none=>none
  else none
 | _,_=>none
def uGf(e:BE):Option BE->Option BE->Option Sy
 | some p,some q=>some (.b ((e.and p).or (e.not.and q)))
 | _,_=>none
def uDr(P:Program)(E:Sp)(n:Nat)(ev:Operand->Option (BE×Sy))(C:BE):Op->Option Sy
 | .move x=>ujn n C (ev x)
 | .assign x=>ujn n C (ev x)
 | .nilCheck x=>match ujn n C (ev x)with
  | some (.p k o)=>some (.p k o)
  | some (.v (.pointer (some p)))=>some (.v (.pointer (some p)))
  | _=>none
 | .fieldAddr T x f=>match ujn n C (ev x)with
  | some (.p k o)=>match ulb P T f with
   | some d=>some (.p k (o+d))
   | none=>none
  | _=>none
 | .load T x=>match ujn n C (ev x)with
  | some (.p k o)=>match nth E.mem k with
   | some (_,_,cs)=>if upf P T then(match nth cs o with|some y=>some (.v y)|none=>none)else match upg P T with
    | some r=>if o+r<=cs.length then some (.v (.agg ((cs.drop o).take r).toArray))else none
    | none=>none
   | none=>none
  | _=>none
 | .unOp .not T x=>match ujn n C (ev x)with
  | some s=>match asB s with
   | some e=>some (.b e.not)
   | none=>none
  | none=>none
 | .pick c x y=>match ujn n C (ev c)with
  | some s=>match asB s with
   | some .t=>ujn n C (ev x)
   | some .f=>ujn n C (ev y)
   | some e=>uGf e (match ujn n (C.and e) (ev x)with|some u=>asB u|none=>none) (match ujn n (C.and e.not) (ev y)with|some u=>asB u|none=>none)
   | none=>none
  | none=>none
 | .binOp op T x y U=>uJg op (ujn n C (ev x)) (ujn n C (ev y))
 | .indexAddr T x ix=>match ujn n C (ev x),ujn n C (ev ix)with
  | some (.s k o l c),some (.v (.int _ (.ofNat m)))=>match uar P T with
   | some sz=>if m<l then some (.p k (o+m*sz))else none
   | none=>none
  | _,_=>none
 | .call { callee:= .builtin .len,args:=⟨[x]⟩,argTypes:=⟨[T]⟩ }=>match ujn n C (ev x)with
  | some (.v (.slice _ l _))=>if(uar P T).isSome then some (.v (.int .i64 l))else none
  | some (.s _ _ l _)=>if(uar P T).isSome then some (.v (.int .i64 l))else none
  | _=>none
 | _=>none
def ulf(acc:List (BE×Sy))(i m:Nat):Option (Nat×Bool)->Option BE
 | none=>some .t
 | some (j,want)=>if m.testBit j&&decide (j<i)then match nth acc (i-1-j)with
  | some (c,s)=>match asB s with
   | some e=>some (c.and (if want then e else e.not))
   | none=>(match c with | .f=>some .f|_=>none)
  | none=>none
  else none
def uHq(P:Program)(E:Sp)(vAa:List Nat)(acc:List (BE×Sy))(i m:Nat)(o:Oper):Option (BE×Sy):=match ulf acc i m o.guard with
 | none=>none
 | some .f=>some (.f,.v undef)
 | some C=>match ud0 E.hint i with
  | some s=>some (C,s)
  | none=>match uDr P E E.bs.length (uzw E vAa acc i m) C o.op with
   | some s=>some (C,s)
   | none=>none
def uip(P:Program)(E:Sp)(vAa:List Nat):List Oper->List Nat->Nat->List (BE×Sy)->Option (List (BE×Sy))
 | o::r,m::ms,i,acc=>match uHq P E vAa acc i m o with
  | some z=>uip P E vAa r ms (i+1) (z::acc)
  | none=>none
 | _,_,_,acc=>some acc
def uj4(P:Program)(E:Sp)(ops:Array Oper)(vAa:List Nat):Option (List (BE×Sy)):=uip P E vAa (ops.toList.take vAa.length) (ua8 ops).toList 0 []
def ufq(x:World):List (Nat×Nat×List Value)->Prop
 | []=>True
 | z::l=>um x z.1 z.2.1 z.2.2/\ufq x l
theorem ufq.get{x:World}:∀ {l:List (Nat×Nat×List Value)} {k:Nat} {z:Nat×Nat×List Value},ufq x l->nth l k=some z->um x z.1 z.2.1 z.2.2
 | [],_,_,_,h=>by cases h
 | _::_,0,_,hm,h=>by injection h with h;subst h;exact hm.1
 | _::l,k+1,z,hm,h=>ufq.get (l:=l) hm.2 h
theorem ud{w:World}{b:Nat}{t:TypeId}{cs:Array Value}(h:Bk w b t cs):um w b 0 cs.toList:=fun j x hx=>(cell_of_row _ _ (0+j) _ _ _ h).trans (by simpa using hx)
theorem um.sure{w w':World}{b o:Nat}{u:List Value}(h:um w b o u)(hb:Below w.heap.size w w')(hl:b<w.heap.size):um w' b o u:=fun j x hx=>(World.cell?_of_block (w:=w) (hb.block b hl)).trans (h j x hx)
theorem ulg{n:Nat}{C:BE}{z:Option (BE×Sy)}{s:Sy}(h:ujn n C z=some s):∃c,z=some (c,s)/\uIn n C c=true:=by
 unfold ujn at h;split at h
 ·next c s'=>
  split at h
  ·next hi=>injection h with h;subst h;exact⟨c,rfl,hi⟩
  ·cases h
 ·cases h
section
variable {P:Program} {ops:Array Oper} {Q:Exit->Act->World->Prop} {E:Sp} {C:BE} {i:Nat} {o:Oper} {I:Act->World->Prop} {a:Act} {w:World} {ev:Operand->Option (BE×Sy)}
theorem uvm(a3:∀x c s,ev x=some (c,s)->c.ev E.bs=true->E.sat s (a.eval x) w)(hm:ufq w E.mem)(ho:ops[i]? = some o)(hw:Region.wanted o (yielded ops a.tmps)=true)(hC:C.ev E.bs=true){op:Op}(a0:o.op=op){s:Sy}(h:uDr P E E.bs.length ev C op=some s)
 (hI:∀v,E.sat s v w->I (a.put o.dst v) w):ua5 P ops Q i I a w:=by
 have get:∀ {x:Operand} {s:Sy},ujn E.bs.length C (ev x)=some s->E.sat s (a.eval x) w:=fun {x s} h=>by
  obtain⟨c,h1,h2⟩:=ulg h;exact a3 x c s h1 (ule h2 hC)
 have a1:∀ {e:BE} {x:Operand} {s:Sy},e.ev E.bs=true->ujn E.bs.length (C.and e) (ev x)=some s->E.sat s (a.eval x) w:=fun {e x s} he h=>by
  obtain⟨c,h1,h2⟩:=ulg h;exact a3 x c s h1 (ule h2 (by rw[BE.vBh,hC,he];rfl))
 unfold uDr at h;split at h
 ·exact uDp ho hw _ a0 rfl (hI _ (get h))
 ·exact uvj ho hw _ a0 rfl (hI _ (get h))
 ·split at h
  ·next k o' hg=>injection h with h;subst h;exact uCn ho hw _ a0 _ (get hg) (hI _ rfl)
  ·next p hg=>injection h with h;subst h;exact uCn ho hw _ a0 _ (get hg) (hI _ rfl)
  ·cases h
 ·split at h
  ·next k o' hg=>
   split at h
   ·next d hd=>injection h with h;subst h;exact uzs ho hw _ _ _ d a0 _ _ (get hg) hd (hI _ (by show _=_;rw[Nat.add_assoc]))
   ·cases h
  ·cases h
 ·split at h
  ·next k o' hg=>
   split at h
   ·next b base cs hk=>
    have a2:=hm.get hk;have hb:E.blk k=(b,base):=by unfold Sp.blk;rw[hk]
    have hp:=get hg;have hp:a.eval _ = .pointer (some ⟨(E.blk k).1,(E.blk k).2+o',none⟩):=hp;rw[hb]at hp;split at h
    ·next hs=>
     split at h
     ·next y hy=>
      injection h with h;subst h;rw[uin]at hy;exact uzt ho hw _ _ a0 _ hp hs (a2 o' y hy) (hI _ rfl)
     ·cases h
    ·split at h
     ·next r hr=>
      split at h
      ·next hlen=>
       injection h with h;subst h;have hl:((cs.drop o').take r).length=r:=by rw[List.length_take,List.length_drop];omega
       refine uzu ho hw _ _ a0 b _ hp ((cs.drop o').take r) (by rw[hl];exact hr) ?_ (hI _ rfl)
       intro j v hv;have hj:j<r:=by
        rcases ah j r with h1|h1
        ·exact h1
        ·rw[List.getElem?_eq_none (by omega)]at hv;cases hv
       have e:cs[o'+j]? = some v:=by
        rw[List.getElem?_take,if_pos hj,List.getElem?_drop]at hv;exact hv
       have:=a2 (o'+j) v e;rw[<-Nat.add_assoc]at this;exact this
      ·cases h
     ·cases h
   ·cases h
  ·cases h
 ·split at h
  ·next s' hg=>
   split at h
   ·next e he=>injection h with h;subst h;exact uGe ho hw _ _ a0 _ (ug8 he (get hg)) (hI _ (by show _=_;rw[BE.vB1]))
   ·cases h
  ·cases h
 ·split at h
  ·next s' hg=>
   split at h
   ·next he=>exact uph ho hw _ _ _ a0 true (ug8 he (get hg)) rfl (hI _ (get h))
   ·next he=>exact uph ho hw _ _ _ a0 false (ug8 he (get hg)) rfl (hI _ (get h))
   ·next e _ _ he=>
    have hc:=ug8 he (get hg);unfold uGf at h;split at h
    ·next p q hp hq=>
     injection h with h;subst h;refine uph ho hw _ _ _ a0 _ hc rfl (hI _ ?_);show _=_
     rw[BE.vDh,BE.vBh,BE.vBh,BE.vB1];cases hv:e.ev E.bs with
     | true=>
      split at hp
      ·next u hu=>rw[if_pos rfl,ug8 hp (a1 hv hu)];simp
      ·cases hp
     | false=>
      split at hq
      ·next u hu=>rw[if_neg (by decide),ug8 hq (a1 (by rw[BE.vB1,hv];rfl) hu)];simp
      ·cases hq
    ·cases h
   ·cases h
  ·cases h
 ·unfold uJg at h
  split at h
  ·next k m k' n hx hy=>
   split at h
   ·next hk=>
    subst hk;split at h
    ·next hc=>injection h with h;subst h;exact uq6 ho hw _ _ _ _ _ a0 _ _ _ (get hx) (get hy) _ hc (hI _ rfl)
    ·next hc=>injection h with h;subst h;exact uq6 ho hw _ _ _ _ _ a0 _ _ _ (get hx) (get hy) _ hc (hI _ rfl)
    ·cases h
   ·cases h
  ·cases h
 ·split at h
  ·next k o' l c kd m hx hy=>
   split at h
   ·next sz hsz=>
    split at h
    ·next hlt=>injection h with h;subst h;exact uld ho hw _ _ _ a0 _ _ _ _ (get hx) kd m (get hy) sz hsz hlt (hI _ (by show _=_;rw[Nat.add_assoc]))
    ·cases h
   ·cases h
  ·cases h
 ·split at h
  ·next hg=>
   split at h
   ·next hs=>injection h with h;subst h;exact uvk ho hw _ _ a0 _ _ _ (get hg) hs (hI _ rfl)
   ·cases h
  ·next hg=>
   split at h
   ·next hs=>injection h with h;subst h;exact uvk ho hw _ _ a0 _ _ _ (get hg) hs (hI _ rfl)
   ·cases h
  ·cases h
 ·cases h
end
theorem uiq{P:Program}{E:Sp}{vAa:List Nat}:∀ {l:List Oper} {ms:List Nat} {i:Nat} {acc T:List (BE×Sy)},uip P E vAa l ms i acc=some T->l.length<=ms.length->T.length=acc.length+l.length
 | [],_,_,_,_,h,_=>by unfold uip at h;injection h with h;subst h;simp
 | _::_,[],_,_,_,_,hl=>by simp at hl
 | o::r,m::ms,i,acc,T,h,hl=>by
  unfold uip at h;split at h
  ·have:=uiq h (by simpa using hl)
   rw[this];simp;omega
  ·cases h
theorem uj5{P:Program}{E:Sp}{vAa:List Nat}:∀ {l:List Oper} {ms:List Nat} {i:Nat} {acc T:List (BE×Sy)},uip P E vAa l ms i acc=some T->∃r,T=r++acc
 | [],_,_,_,_,h=>by unfold uip at h;injection h with h;exact⟨[],by simp[h]⟩
 | _::_,[],_,_,_,h=>by unfold uip at h;injection h with h;exact⟨[],by simp[h]⟩
 | o::r,m::ms,i,acc,T,h=>by
  unfold uip at h;split at h
  ·next z hz=>
   obtain⟨r',hr⟩:=uj5 h;exact⟨r'++[z],by rw[hr];simp⟩
  ·cases h
theorem ulh{P:Program}{E:Sp}{vAa:List Nat}:∀ {l:List Oper} {ms:List Nat} {i:Nat} {acc T:List (BE×Sy)},uip P E vAa l ms i acc=some T->acc.length=i->l.length<=ms.length->∀k (hk:k<l.length),∃z a0,uHq P E vAa a0 (i+k) (ms.getD k 0) l[k]=some z/\a0.length=i+k/\(∃r,T=r++z::a0)
 | [],_,_,_,_,_,_,_,k,hk=>absurd hk (by simp)
 | _::_,[],_,_,_,_,_,hl,_,_=>by simp at hl
 | o::r,m::ms,i,acc,T,h,ha,hl,k,hk=>by
  unfold uip at h;split at h
  ·next z hz=>
   rcases k with _|k
   ·exact⟨z,acc,by simpa using hz,by simpa using ha,uj5 h⟩
   ·obtain⟨z',a0,h1,h2,h3⟩:=ulh h (by simp[ha]) (by simpa using hl) k (by simpa using hk)
    refine⟨z',a0,?_,by omega,h3⟩
    rw[show i+(k+1)=i+1+k from by omega]
    simpa using h1
  ·cases h
def ent(T:List (BE×Sy))(n j:Nat):Option (BE×Sy):=if j<n then nth T (n-1-j)else none
theorem uvn{T r acc:List (BE×Sy)}{z:BE×Sy}{n i j:Nat}(hT:T=r++z::acc)(hn:T.length=n)(hi:acc.length=i)(hj:j<i):nth acc (i-1-j)=ent T n j:=by
 have hl:n=r.length+1+i:=by rw[<-hn,hT];simp;omega
 unfold ent;rw[if_pos (by omega),uin,uin,hT,List.getElem?_append_right (by omega),show n-1-j-r.length=(i-1-j)+1 from by omega,List.getElem?_cons_succ]
theorem uq9{T r acc:List (BE×Sy)}{z:BE×Sy}{n i:Nat}(hT:T=r++z::acc)(hn:T.length=n)(hi:acc.length=i):ent T n i=some z:=by
 have hl:n=r.length+1+i:=by rw[<-hn,hT];simp;omega
 unfold ent;rw[if_pos (by omega),uin,hT,List.getElem?_append_right (by omega),show n-1-i-r.length=0 from by omega]
 rfl
def Sp.tab(E:Sp)(P:Program)(ops:Array Oper)(vAa:List Nat)(j:Nat):Option (BE×Sy):=match uj4 P E ops vAa with
 | some T=>ent T vAa.length j
 | none=>none
def Sp.fact(E:Sp)(P:Program)(ops:Array Oper)(vAa:List Nat)(j:Nat)(v:Value)(x:World):Prop:=match E.tab P ops vAa j with
 | some z=>E.vBi z v x
 | none=>False
def Sp.vCy(E:Sp)(S:Nat->Value)(x:World):List (Nat×Sy)->Prop
 | []=>True
 | z::l=>E.sat z.2 (S z.1) x/\E.vCy S x l
theorem Sp.vA8{E:Sp}{P:Program}{ops:Array Oper}{vAa:List Nat}{S:Nat->Value}{x:World}(h:∀j,j<vAa.length->E.fact P ops vAa j (S j) x):∀ {l:List (Nat×Sy)},(l.map fun z=>E.tab P ops vAa z.1)=(l.map fun z=>some (.t,z.2))->E.vCy S x l
 | [],_=>trivial
 | z::l,he=>by
  simp only[List.map_cons,List.cons.injEq]at he;refine⟨?_,Sp.vA8 h he.2⟩;have hj:z.1<vAa.length:=by
   rcases ah z.1 vAa.length with h1|h1
   ·exact h1
   ·exfalso
    have e:=he.1;unfold Sp.tab at e;split at e
    ·unfold ent at e;rw[if_neg (by omega)]at e;cases e
    ·cases e
  have:=h z.1 hj;unfold Sp.fact at this;rw[he.1]at this;exact this
def stays:List (Value->World->Prop)->Prop
 | []=>True
 | R::l=>(∀v x x',R v x->Below x.heap.size x x'->R v x')/\stays l
theorem um7:∀ {l:List (Value->World->Prop)} {k:Nat} {R:Value->World->Prop},stays l->nth l k=some R->∀v x x',R v x->Below x.heap.size x x'->R v x'
 | [],_,_,_,h=>by cases h
 | _::_,0,_,hm,h=>by injection h with h;subst h;exact hm.1
 | _::l,k+1,R,hm,h=>um7 (l:=l) hm.2 h
theorem uj6{E:Sp}(hs:stays E.fs){z:BE×Sy}{v:Value}{x x':World}(h:E.vBi z v x)(hb:Below x.heap.size x x'):E.vBi z v x':=by
 unfold Sp.vBi at h ⊢;split at h
 ·next hc=>
  rw[if_pos hc];obtain⟨c,s⟩:=z;cases s with
  | f k=>
   show(match nth E.fs k with|some R=>R v x'|none=>True)
   have h:(match nth E.fs k with|some R=>R v x|none=>True):=h
   split
   ·next R hR=>rw[hR]at h;exact um7 hs hR v x x' h hb
   ·trivial
  | _=>exact h
 ·next hc=>rw[if_neg hc];exact h
def Sp.opT(E:Sp)(P:Program)(ops:Array Oper)(vAa:List Nat)(i:Nat):Operand->Option (BE×Sy)
 | .const v=>some (.t,.v v)
 | .global g=>some (.t,.v (.pointer (some ⟨g,0,none⟩)))
 | .func f=>some (.t,.v (.func (.func f) #[] #[]))
 | .tmp t=>match idxOf vAa t 0 with
  | some j=>if uP (ua8 ops) i j&&decide (j<i)then E.tab P ops vAa j else none
  | none=>match ud0 E.ext t with
   | some s=>some (.t,s)
   | none=>none
def Sp.cnd(E:Sp)(P:Program)(ops:Array Oper)(vAa:List Nat)(i:Nat):BE:=match E.tab P ops vAa i with
 | some z=>z.1
 | none=> .f
def Sp.opC(E:Sp)(P:Program)(ops:Array Oper)(vAa:List Nat)(i:Nat)(y:Operand):Option Sy:=ujn E.bs.length (E.cnd P ops vAa i) (E.opT P ops vAa i y)
def uzx(E:Sp)(a0:Act)(l:List (Nat×Sy)):Prop:=(l.map fun z=>a0.eval (.tmp z.1))=l.map fun z=>E.den z.2
def uCo:List (Nat×Sy)->Bool
 | []=>true
 | z::l=> !isF z.2&&uCo l
theorem upi{E:Sp}{a0:Act}:∀ {l:List (Nat×Sy)} {t:Nat} {s:Sy},uzx E a0 l->uCo l=true->ud0 l t=some s->∀x,E.sat s (a0.eval (.tmp t)) x
 | [],_,_,_,_,h=>by cases h
 | (i,s')::l,t,s,h1,h2,h=>by
  unfold uzx at h1;simp only[List.map_cons,List.cons.injEq]at h1;rw[uCo,ax,Bool.not_eq_true']at h2;rw[ud0]at h;split at h
  ·next hi=>
   injection h with h;subst h;subst hi;exact Sp.vC6 h2.1 h1.1
  ·exact upi (l:=l) h1.2 h2.2 h
section
variable {P:Program} {ops:Array Oper} {Q:Exit->Act->World->Prop}
def Sp.vB9(E:Sp)(P:Program)(ops:Array Oper)(Q:Exit->Act->World->Prop)(vAa:List Nat)(W:World)(i:Nat)(s:Sy):Prop:=
 ∀(o:Oper) (x:World) (a:Act),ops[i]? = some o->Below W.heap.size W x->(E.cnd P ops vAa i).ev E.bs=true->Region.wanted o (yielded ops a.tmps)=true ->
  (∀y u,E.opC P ops vAa i y=some u->E.sat u (a.eval y) x) ->
  ua5 P ops Q i (fun a' x'=>∃v,a'=a.put o.dst v/\E.sat s v x'/\Below x.heap.size x x') a x
def Sp.vBl(E:Sp)(P:Program)(ops:Array Oper)(Q:Exit->Act->World->Prop)(vAa:List Nat)(W:World):List (Nat×Sy)->Prop
 | []=>True
 | z::l=>E.vB9 P ops Q vAa W z.1 z.2/\E.vBl P ops Q vAa W l
theorem uj7{E:Sp}{vAa:List Nat}{W:World}:∀ {l:List (Nat×Sy)} {i:Nat} {s:Sy},E.vBl P ops Q vAa W l->ud0 l i=some s->E.vB9 P ops Q vAa W i s
 | [],_,_,_,h=>by cases h
 | (j,s')::l,i,s,h1,h=>by
  rw[ud0]at h;split at h
  ·next hi=>injection h with h;subst h;subst hi;exact h1.1
  ·exact uj7 h1.2 h
def ura(P:Program)(E:Sp)(ops:Array Oper)(vAa:List Nat):Bool:=
 uCo E.ext&&uyu ops&&(ucw ops vAa&&uvg (ua8 ops) ops vAa.length&&decide vAa.Nodup&&decide (vAa.length<=ops.size))&&(uj4 P E ops vAa).isSome&&decide ((ua8 ops).size=ops.size)
theorem uli:∀(l:List Oper) (acc:Array Nat),(bgo l acc).size=acc.size+l.length
 | [],acc=>by rw[bgo];simp
 | o::r,acc=>by rw[bgo,uli r];simp;omega
theorem ulj{E:Sp}{vAa:List Nat}{W:World}{T:List (BE×Sy)}(hT:uj4 P E ops vAa=some T)(c5:vAa.length<=ops.size)(e5:stays E.fs){a0:Act}(d4:uzx E a0 E.ext)(d5:uCo E.ext=true)(d8:∀x,Below W.heap.size W x->ufq x E.mem)
 (b9:ucw ops vAa=true) (d3:E.vBl P ops Q vAa W E.hint)
 (i:Nat) (o:Oper) (s:Nat->Value) (d:Nat->Bool) (x:World) (a:Act) (ho:ops[i]? = some o) (hi:i<vAa.length) (b6:Below W.heap.size W x)
 (d2:∀j,uP (ua8 ops) i j=true->j<vAa.length->d j=true/\E.fact P ops vAa j (s j) x)
 (ha:∀j,j<vAa.length->a.tmps[vAa.getD j 0]? = some (s j)) (hz:∀t,t∉vAa->a.tmps[t]? = a0.tmps[t]?) :
 ua5 P ops Q i (fun a' x'=>∃v,a'=a.put (some (vAa.getD i 0)) v/\E.fact P ops vAa i v x'/\Below x.heap.size x x') a x:=by
 have b5:(ua8 ops).toList.length=ops.size:=by have:=uli ops.toList #[];simpa[ua8]using this
 have a5:(ops.toList.take vAa.length).length=vAa.length:=by rw[List.length_take];simp;omega
 have b4:T.length=vAa.length:=by
  have:=uiq hT (by rw[a5,b5];exact c5)
  simpa[a5]using this
 obtain⟨z,acc,a3,b3,r,hr⟩:=ulh hT rfl (by rw[a5,b5];exact c5) i (by rw[a5];exact hi)
 rw[Nat.zero_add]at a3 b3;have e1:(ops.toList.take vAa.length)[i]'(by rw[a5];exact hi)=o:=by
  rw[List.getElem_take,Array.getElem_toList];exact(au.1 ho).2
 rw[e1]at a3;have d9:(ua8 ops).toList.getD i 0=(ua8 ops).getD i 0:=by
  rw[aj,ak,aH]
 rw[d9]at a3;have c6:∀j,E.tab P ops vAa j=ent T vAa.length j:=fun j=>by unfold Sp.tab;rw[hT]
 have c2:E.tab P ops vAa i=some z:=by rw[c6];exact uq9 hr b4 b3
 have a8:∀j,j<i->nth acc (i-1-j)=E.tab P ops vAa j:=fun j hj=>by rw[c6];exact uvn hr b4 b3 hj
 have b2:∀v x',E.vBi z v x'->E.fact P ops vAa i v x':=fun v x' h=>by unfold Sp.fact;rw[c2];exact h
 have c4:∀j,vAa[j]? = some (vAa.getD j 0)\/vAa.length<=j:=fun j=>by
  rcases ah j vAa.length with h|h
  ·exact .inl (by rw[aj,ai h];rfl)
  ·exact .inr h
 have b1:o.dst=some (vAa.getD i 0):=by
  have:=aT.1 b9 i (aX.2 hi);rw[ho]at this;have:=of_decide_eq_true this;rw[this];rcases c4 i with h|h
  ·exact h
  ·omega
 have c0:∀j c u,j<i->uP (ua8 ops) i j=true->nth acc (i-1-j)=some (c,u)->E.vBi (c,u) (s j) x:=fun j c u hj d0 hn=>by
  have hf:=(d2 j d0 (by omega)).2
  unfold Sp.fact at hf;rw[<-a8 j hj,hn]at hf;exact hf
 have d6:∀t u,t∉vAa->ud0 E.ext t=some u->E.sat u (a.eval (.tmp t)) x:=fun t u ht hu=>by
  have h1:=upi d4 d5 hu x;have e:a.eval (.tmp t)=a0.eval (.tmp t):=by
   show a.tmps.getD t undef=a0.tmps.getD t undef
   rw[ak,ak,hz t ht]
  rw[e];exact h1
 have c1:∀y c u,E.opT P ops vAa i y=some (c,u)->c.ev E.bs=true->E.sat u (a.eval y) x:=by
  intro y c u hy hc;cases y with
  | const v=>simp only[Sp.opT,Option.some.injEq,Prod.mk.injEq]at hy;obtain⟨rfl,rfl⟩:=hy;rfl
  | global g=>simp only[Sp.opT,Option.some.injEq,Prod.mk.injEq]at hy;obtain⟨rfl,rfl⟩:=hy;rfl
  | func f=>simp only[Sp.opT,Option.some.injEq,Prod.mk.injEq]at hy;obtain⟨rfl,rfl⟩:=hy;rfl
  | tmp t=>
   unfold Sp.opT at hy;simp only at hy;cases hix:idxOf vAa t 0 with
   | some j=>
    rw[hix]at hy;simp only at hy;by_cases a1:(uP (ua8 ops) i j&&decide (j<i))=true
    ·rw[if_pos a1]at hy
     rw[ax,aP]at a1;have c3:=(ugi hix).2;rw[Nat.sub_zero]at c3;have h1:=c0 j c u a1.2 a1.1 (by rw[a8 j a1.2];exact hy)
     unfold Sp.vBi at h1;rw[if_pos hc]at h1;have a6:j<vAa.length:=by omega
     have e:a.eval (.tmp t)=s j:=ev (by have:=ha j a6;rw[aj,c3]at this;exact this)
     rw[e];exact h1
    ·rw[if_neg a1]at hy;cases hy
   | none=>
    rw[hix]at hy;simp only at hy;cases hx:ud0 E.ext t with
    | none=>rw[hx]at hy;cases hy
    | some u'=>
     rw[hx]at hy;simp only[Option.some.injEq,Prod.mk.injEq]at hy;obtain⟨rfl,rfl⟩:=hy;exact d6 t u' (ugj hix) hx
 have e2:∀y c u,uzw E vAa acc i ((ua8 ops).getD i 0) y=some (c,u)->c.ev E.bs=true->E.sat u (a.eval y) x:=by
  intro y c u hy hc;refine c1 y c u ?_ hc;cases y with
  | tmp t=>
   unfold uzw at hy;unfold Sp.opT;simp only at hy ⊢;cases hix:idxOf vAa t 0 with
   | some j=>
    rw[hix]at hy;simp only at hy ⊢;by_cases a1:(((ua8 ops).getD i 0).testBit j&&decide (j<i))=true
    ·rw[if_pos a1]at hy
     have b7:=a1;rw[ax,aP]at b7;have d1:(uP (ua8 ops) i j&&decide (j<i))=true:=a1;rw[if_pos d1,<-a8 j b7.2];exact hy
    ·rw[if_neg a1]at hy;cases hy
   | none=>rw[hix]at hy;simp only at hy ⊢;exact hy
  | _=>exact hy
 unfold uHq at a3;have d7:∀C,ulf acc i ((ua8 ops).getD i 0) o.guard=some C ->
  (C.ev E.bs=true->Region.wanted o (yielded ops a.tmps)=true)/\(C.ev E.bs=false->∀I:Act->World->Prop,I (a.put o.dst undef) x->ua5 P ops Q i I a x):=by
  intro C hC;cases hg:o.guard with
  | none=>
   rw[hg]at hC;simp only[ulf,Option.some.injEq]at hC;subst hC;refine⟨fun _=>by unfold Region.wanted;rw[hg],fun h=>by cases h⟩
  | some jw=>
   obtain⟨j,want⟩:=jw;rw[hg]at hC;simp only[ulf]at hC;by_cases a1:(((ua8 ops).getD i 0).testBit j&&decide (j<i))=true
   ·rw[if_pos a1]at hC
    rw[ax,aP]at a1;cases hn:nth acc (i-1-j)with
    | none=>rw[hn]at hC;cases hC
    | some cu=>
     obtain⟨c,u⟩:=cu;rw[hn]at hC;simp only at hC;have a6:j<vAa.length:=by omega
     have a4:=c0 j c u a1.2 a1.1 hn;have b0:(ops[j]?).bind (·.dst)=some (vAa.getD j 0):=by
      have:=aT.1 b9 j (aX.2 a6);cases hoj:ops[j]? with
      | none=>rw[hoj]at this;cases this
      | some oj=>
       rw[hoj]at this;have:=of_decide_eq_true this;show oj.dst=_
       rw[this];rcases c4 j with h|h
       ·exact h
       ·omega
     have a9:=ha j a6;have c9:s j=undef->∀I:Act->World->Prop,I (a.put o.dst undef) x->ua5 P ops Q i I a x:=fun hu I hI=>uq5 ho hg _ b0 (by rw[a9,hu]) hI
     cases hb:asB u with
     | none=>
      rw[hb]at hC;simp only at hC;cases c with
      | f=>
       simp only[Option.some.injEq]at hC;subst hC;exact⟨fun h=>(by cases h),fun _=>c9 a4⟩
      | _=>cases hC
     | some e=>
      rw[hb]at hC;simp only[Option.some.injEq]at hC;subst hC;have c7:(if want then e else e.not).ev E.bs=(e.ev E.bs==want):=by cases want<;>simp[BE.vB1]
      cases hcv:c.ev E.bs with
      | false=>
       unfold Sp.vBi at a4;rw[if_neg (by simp[hcv])]at a4
       refine⟨fun h=>?_,fun _=>c9 a4⟩
       rw[BE.vBh,hcv]at h;cases h
      | true=>
       unfold Sp.vBi at a4;rw[if_pos hcv]at a4;have hv:=ug8 hb a4;refine⟨fun h=>?_,fun h I hI=>?_⟩
       ·rw[BE.vBh,hcv,c7,Bool.true_and,beq_iff_eq]at h
        exact uq4 hg _ b0 (by rw[a9,hv,h])
       ·rw[BE.vBh,hcv,c7,Bool.true_and]at h
        refine uvi ho hg _ b0 ?_ hI;rw[a9,hv];have:e.ev E.bs = !want:=by cases hq:e.ev E.bs<;>cases want<;>simp_all
        rw[this]
   ·rw[if_neg a1]at hC;cases hC
 cases hC:ulf acc i ((ua8 ops).getD i 0) o.guard with
 | none=>rw[hC]at a3;cases a3
 | some C=>
  rw[hC]at a3;obtain⟨c8,e0⟩:=d7 C hC;have a7:z.1=C->C.ev E.bs=false->ua5 P ops Q i (fun a' x'=>∃v,a'=a.put (some (vAa.getD i 0)) v/\E.fact P ops vAa i v x'/\Below x.heap.size x x') a x:=fun e4 a2=>
   e0 a2 _ ⟨undef,by rw[b1],b2 _ _ (by unfold Sp.vBi;rw[e4,if_neg (by simp[a2])]),aa⟩
  have main:(match ud0 E.hint i with
   | some s=>some (C,s)
   | none=>match uDr P E E.bs.length (uzw E vAa acc i ((ua8 ops).getD i 0)) C o.op with
    | some s=>some (C,s)
    | none=>none)=some z->ua5 P ops Q i (fun a' x'=>∃v,a'=a.put (some (vAa.getD i 0)) v/\E.fact P ops vAa i v x'/\Below x.heap.size x x') a x:=by
   intro hs;cases hh:ud0 E.hint i with
   | some u=>
    rw[hh]at hs;simp only[Option.some.injEq]at hs;subst hs;cases a2:C.ev E.bs with
    | false=>exact a7 rfl a2
    | true=>
     have b8:E.cnd P ops vAa i=C:=by unfold Sp.cnd;rw[c2]
     refine ua5.of (wpOp_mono ?_ (uj7 d3 hh o x a ho b6 (by rw[b8];exact a2) (c8 a2) (fun y u hy=>by
      obtain⟨c,h1,h2⟩:=ulg hy;rw[b8]at h2;exact c1 y c u h1 (ule h2 a2))).out)
     rintro a' x'⟨v,rfl,e3,hb⟩;exact⟨v,by rw[b1],b2 _ _ (by unfold Sp.vBi;rw[if_pos a2];exact e3),hb⟩
   | none=>
    rw[hh]at hs;simp only at hs;cases hau:uDr P E E.bs.length (uzw E vAa acc i ((ua8 ops).getD i 0)) C o.op with
    | none=>rw[hau]at hs;cases hs
    | some u=>
     rw[hau]at hs;simp only[Option.some.injEq]at hs;subst hs;cases a2:C.ev E.bs with
     | false=>exact a7 rfl a2
     | true=>
      refine uvm e2 (d8 x b6) ho (c8 a2) a2 rfl hau fun v hv=>?_
      exact⟨v,by rw[b1],b2 _ _ (by unfold Sp.vBi;rw[if_pos a2];exact hv),aa⟩
  cases C with
  | f=>
   simp only[Option.some.injEq]at a3;subst a3;exact a7 rfl rfl
  | _=>exact main a3
theorem ue{id:Nat}{a0:Act}{w0:World}{dr:Bool}(E:Sp)(vAa:List Nat)(W:World)(hW:Below W.heap.size W (if dr=true then w0.drew else w0))(hm:P.follows .mixedOrders=true)(a2:ura P E ops vAa=true)(b4:vAa.all (fun t=>decide (t<a0.tmps.size))=true)
 (a5:stays E.fs) (a8:(E.ext.map fun z=>a0.eval (.tmp z.1))=E.ext.map fun z=>E.den z.2) (b1:∀x,Below W.heap.size W x->ufq x E.mem) (a7:E.vBl P ops Q vAa W E.hint)
 (fin:∀(s:Nat->Value) (x:World),Below W.heap.size W x->(∀ {l:List (Nat×Sy)},(l.map fun z=>E.tab P ops vAa z.1)=(l.map fun z=>some (.t,z.2))->E.vCy s x l)->wpList P ops Q (ops.toList.drop vAa.length) (uj a0 vAa 0 s) x) :
 (Code.region id ops dr).wp P Q a0 w0:=by
 unfold ura at a2;rw[ax,ax,ax,ax]at a2;obtain⟨⟨⟨⟨a9,b0⟩,b2⟩,b7⟩,_⟩:=a2;obtain⟨T,hT⟩:=Option.isSome_iff_exists.1 b7;have b3:=b2;simp only[ax,aP]at b3;obtain⟨⟨⟨a4,_⟩,b6⟩,a6⟩:=b3;have b5:∀(d:Nat->Bool) i j v x x',i<vAa.length->j<vAa.length->i≠j->d i=true->d j=false->(∀k,uP (ua8 ops) j k=true->d k=true)->E.fact P ops vAa i v x->Below x.heap.size x x'->E.fact P ops vAa i v x':=by
  intro d i j v x x' _ _ _ _ _ _ h hb;unfold Sp.fact at h ⊢;split at h
  ·exact uj6 a5 h hb
  ·exact h.elim
 cases dr with
 | true=>
  refine ufp hm b0 vAa b2 b4 (fun _ x=>Below W.heap.size W x) (fun _ x x'=>Below x.heap.size x x') (fun _ i v x=>E.fact P ops vAa i v x) hW (fun d j x x' h _ hg=>h.trans (hg.mono h.size)) b5 ?_ ?_
  ·intro i o s d x a ho hi hd a1 a3 ha hz
   exact ulj hT a6 a5 a8 a9 b1 a4 a7 i o s d x a ho hi a1 a3 ha hz
  ·intro s d x a1 hF
   exact fin s x a1 fun {l} hl=>Sp.vA8 (fun j hj=>(hF j hj).2) hl
 | false=>
  refine ug7 b0 vAa (by simp only[ax,aP];exact⟨⟨a4,b6⟩,a6⟩) b4 (fun _ x=>Below W.heap.size W x) (fun _ x x'=>Below x.heap.size x x') (fun _ i v x=>E.fact P ops vAa i v x) hW (fun d j x x' h _ hg=>h.trans (hg.mono h.size)) b5 ?_ ?_
  ·intro i o s d x a ho hi hd a1 a3 ha hz
   exact ulj hT a6 a5 a8 a9 b1 a4 a7 i o s d x a ho hi a1 a3 ha hz
  ·intro s d x a1 hF
   exact fin s x a1 fun {l} hl=>Sp.vA8 (fun j hj=>(hF j hj).2) hl
theorem dN{E:Sp}{vAa:List Nat}{W:World}:E.vBl P ops Q vAa W []:=trivial
theorem dI{E:Sp}{vAa:List Nat}{W:World}{i:Nat}{s:Sy}{l:List (Nat×Sy)}(h:E.vB9 P ops Q vAa W i s)(t:E.vBl P ops Q vAa W l):E.vBl P ops Q vAa W ((i,s)::l):=⟨h,t⟩
theorem mN{x:World}:ufq x []:=trivial
theorem mI{x:World}{z:Nat×Nat×List Value}{l:List (Nat×Nat×List Value)}(h:um x z.1 z.2.1 z.2.2)(t:ufq x l):ufq x (z::l):=⟨h,t⟩
theorem sN:stays []:=trivial
theorem sI{R:Value->World->Prop}{l:List (Value->World->Prop)}(h:∀v x x',R v x->Below x.heap.size x x'->R v x')(t:stays l):stays (R::l):=⟨h,t⟩
section
variable {E:Sp} {vAa:List Nat} {W:World} {i:Nat} {s:Sy}
def Sp.vC0(E:Sp)(x:World):List Sy->List Value->Prop
 | [],[]=>True
 | s::l,v::r=>E.sat s v x/\E.vC0 x l r
 | _,_=>False
theorem ulk{a:Act}{x:World}(h:∀y u,E.opC P ops vAa i y=some u->E.sat u (a.eval y) x):∀ {l:List Operand} {ss:List Sy},(l.map (E.opC P ops vAa i))=ss.map some->E.vC0 x ss (l.map a.eval)
 | [],[],_=>trivial
 | [],_::_,h=>by cases h
 | _::_,[],h=>by cases h
 | y::l,u::ss,he=>by
  simp only[List.map_cons,List.cons.injEq]at he;exact⟨h y u he.1,ulk h he.2⟩
theorem ug(ss:List Sy){o:Oper}(ho:ops[i]? = some o){f:FuncId}{args:List Operand}{a1:Array TypeId}(a3:o.op = .call { callee:= .value (.func f),args:=args.toArray,argTypes:=a1 }) (hf:uim P f=true) (hA:(args.map (E.opC P ops vAa i))=ss.map some)
 (K:∀(x:World) (vs:List Value),Below W.heap.size W x->(E.cnd P ops vAa i).ev E.bs=true->E.vC0 x ss vs->Calls P f vs.toArray x (fun e w'=>∃v,e = .returned v/\E.sat s v w'/\Below x.heap.size x w')):E.vB9 P ops Q vAa W i s:=by
 intro o' x a a0 a2 hC hw a4;rw[ho]at a0;injection a0 with a0;subst a0;refine uvl ho hw f args a1 a3 hf _ rfl (K x _ a2 hC (ulk a4 hA)) ?_;rintro e w'⟨v,he,hs,hb⟩;exact⟨v,he,v,rfl,hs,hb⟩
theorem ubg{x:World}{s1:Sy}{vs:List Value}(h:E.vC0 x [s1] vs):∃v1,vs=[v1]/\E.sat s1 v1 x:=by
 rcases vs with _|⟨v1,_|⟨_,_⟩⟩
 ·exact h.elim
 ·exact⟨v1,rfl,h.1⟩
 ·exact h.2.elim
theorem uec{x:World}{s1 s2:Sy}{vs:List Value}(h:E.vC0 x [s1,s2] vs):∃v1 v2,vs=[v1,v2]/\E.sat s1 v1 x/\E.sat s2 v2 x:=by
 rcases vs with _|⟨v1,vs⟩
 ·exact h.elim
 ·obtain⟨v2,rfl,h2⟩:=ubg h.2
  exact⟨v1,v2,rfl,h.1,h2⟩
theorem um8{x:World}{s1 s2 s3:Sy}{vs:List Value}(h:E.vC0 x [s1,s2,s3] vs):∃v1 v2 v3,vs=[v1,v2,v3]/\E.sat s1 v1 x/\E.sat s2 v2 x/\E.sat s3 v3 x:=by
 rcases vs with _|⟨v1,vs⟩
 ·exact h.elim
 ·obtain⟨v2,v3,rfl,h2⟩:=uec h.2
  exact⟨v1,v2,v3,rfl,h.1,h2⟩
def uJh:BinOp->Int->Int->Prop
 | .eql,m,n=>m=n
 | .neq,m,n=>m≠n
 | .lss,m,n=>m<n
 | .leq,m,n=>m<=n
 | .gtr,m,n=>m>n
 | .geq,m,n=>m≥n
 | _,_,_=>False
def uJi:BinOp->Int->Int->Prop
 | .eql,m,n=>¬m=n
 | .neq,m,n=>¬m≠n
 | .lss,m,n=>¬m<n
 | .leq,m,n=>¬m<=n
 | .gtr,m,n=>¬m>n
 | .geq,m,n=>¬m≥n
 | _,_,_=>False
theorem uzy{op:BinOp}{m n:Int}{s:List Bool}(h:uJh op m n):ulc op m n=some (BE.t.ev s):=by
 cases op<;>first|exact h.elim|(simp only[ulc,BE.ev];congr 1;have h:_:=h;unfold uJh at h;simpa using h)
theorem utg{op:BinOp}{m n:Int}{s:List Bool}(h:uJi op m n):ulc op m n=some (BE.f.ev s):=by
 cases op<;>first|exact h.elim|(simp only[ulc,BE.ev];congr 1;have h:_:=h;unfold uJi at h;simpa using h)
theorem ub3{o:Oper}(ho:ops[i]? = some o){op:BinOp}{T U:TypeId}{x y:Operand}(a2:o.op = .binOp op T x y U)(k:IntKind)(m n:Int)(e:BE)(hA:[E.opC P ops vAa i x,E.opC P ops vAa i y]=[some (.v (.int k m)),some (.v (.int k n))])(hb:ulc op m n=some (e.ev E.bs)):E.vB9 P ops Q vAa W i (.b e):=by
 intro o' w a a0 a3 hC hw a1;rw[ho]at a0;injection a0 with a0;subst a0;simp only[List.cons.injEq,and_true]at hA;exact uq6 ho hw op T U x y a2 k m n (a1 x _ hA.1) (a1 y _ hA.2) _ hb ⟨_,rfl,rfl,aa⟩
theorem uas{o:Oper}(ho:ops[i]? = some o){T:TypeId}{x y:Operand}(a3:o.op = .indexAddr T x y)(b off n c:Nat)(kd:IntKind)(m sz kb:Nat)(hA:[E.opC P ops vAa i x,E.opC P ops vAa i y]=[some (.v (.slice (some ⟨b,off,none⟩) n c)),some (.v (.int kd m))])(hs:uar P T=some sz)(a2:(E.cnd P ops vAa i).ev E.bs=true->m<n)(hp:E.blk kb=(b,off+m*sz)):E.vB9 P ops Q vAa W i (.p kb 0):=by
 intro o' w a a0 a4 hC hw a1;rw[ho]at a0;injection a0 with a0;subst a0;simp only[List.cons.injEq,and_true]at hA;refine uld ho hw T x y a3 b off n c (a1 x _ hA.1) kd m (a1 y _ hA.2) sz hs (a2 hC) ⟨_,rfl,?_,aa⟩;show _=_
 rw[hp];rfl
theorem wrap_i64{n:Int}(h : -9223372036854775808<=n/\n<=9223372036854775807):IntKind.wrap .i64 n=n:=by
 rw[IntKind.wrap_i64];omega
theorem uj8{o:Oper}(ho:ops[i]? = some o){op:BinOp}{T U:TypeId}{x y:Operand}(a2:o.op = .binOp op T x y U)(m n r:Int)(hA:[E.opC P ops vAa i x,E.opC P ops vAa i y]=[some (.v (.int .i64 m)),some (.v (.int .i64 n))])
 (h:(op = .add/\m+n=r)\/(op = .sub/\m-n=r)) (hr:(E.cnd P ops vAa i).ev E.bs=true -> -9223372036854775808<=r/\r<=9223372036854775807):E.vB9 P ops Q vAa W i (.v (.int .i64 r)):=by
 intro o' w a a0 a3 hC hw a1;rw[ho]at a0;injection a0 with a0;subst a0;simp only[List.cons.injEq,and_true]at hA;have hx:=a1 x _ hA.1;have hy:=a1 y _ hA.2;have hx:a.eval x = .int .i64 m:=hx;have hy:a.eval y = .int .i64 n:=hy;refine ubr ho hw (v:= .int .i64 r) ?_ ⟨_,rfl,rfl,aa⟩;unfold execOp;rw[a2];simp only[hx,hy];rcases h with⟨rfl,rfl⟩|⟨rfl,rfl⟩
 ·simp[eqGuard,binOp,Op.intArith,aD,wrap_i64 (hr hC)]
 ·simp[eqGuard,binOp,Op.intArith,aD,wrap_i64 (hr hC)]
end
end
section
variable {P:Program} {ops:Array Oper} {Q:Exit->Act->World->Prop} {E:Sp} {vAa:List Nat} {W:World} {i:Nat} {s:Sy}
theorem urb{a:Act}{x:World}:∀ {parts:List (Nat×Operand)} {pv:List (Nat×Value)},(∀y u,E.opC P ops vAa i y=some u->E.sat u (a.eval y) x)->(parts.map fun z=>E.opC P ops vAa i z.2)=(pv.map fun z=>some (Sy.v z.2))->parts.map Prod.fst=pv.map Prod.fst->parts.map (fun z=>(z.1,a.eval z.2))=pv
 | [],[],_,_,_=>rfl
 | [],_::_,_,h,_=>by simp at h
 | _::_,[],_,h,_=>by simp at h
 | (k,y)::parts,(k',v)::pv,hop,h,h2=>by
  simp only[List.map_cons,List.cons.injEq]at h h2;have h3:a.eval y=v:=hop y _ h.1;have h4:=urb hop h.2 h2.2;rw[List.map_cons,h4];show(k,a.eval y)::pv=(k',v)::pv
  rw[h3,h2.1]
theorem ueu{o:Oper}(ho:ops[i]? = some o){T:TypeId}{n:Nat}{parts:List (Nat×Operand)}(a2:o.op = .buildSlice T n parts.toArray)(pv:List (Nat×Value))(hA:(parts.map fun z=>E.opC P ops vAa i z.2)=(pv.map fun z=>some (Sy.v z.2)))(hI:parts.map Prod.fst=pv.map Prod.fst)
 (e:TypeId) (cells:List Value) (hb:uq3 P T n pv=some (e,cells)) (K:∀x,Below W.heap.size W x->(E.cnd P ops vAa i).ev E.bs=true->E.sat s (.slice (some ⟨x.heap.size,0,none⟩) n n) (x.alloc (.cells cells.toArray e))):E.vB9 P ops Q vAa W i s:=by
 intro o' x a a0 a1 hC hw a3;rw[ho]at a0;injection a0 with a0;subst a0;exact uq7 ho hw T n parts a2 pv (urb a3 hA hI) e cells hb ⟨_,rfl,K x a1 hC,aa.alloc ab _⟩
theorem ug9{o:Oper}(ho:ops[i]? = some o){y:Operand}{k:Nat}(a1:o.op = .extract y k)(vs:Array Value)(v:Value)(hA:[E.opC P ops vAa i y]=[some (.v (.tuple vs))])(hv:vs[k]? = some v):E.vB9 P ops Q vAa W i (.v v):=by
 intro o' x a a0 a3 hC hw a2;rw[ho]at a0;injection a0 with a0;subst a0;simp only[List.cons.injEq,and_true]at hA;exact uj3 ho hw y k a1 vs (a2 y _ hA) hv ⟨_,rfl,rfl,aa⟩
theorem ub4{o:Oper}(ho:ops[i]? = some o){y:Operand}{k:Nat}(a1:o.op = .extract y k)(kf:Nat)(hA:[E.opC P ops vAa i y]=[some (.f kf)])(K:∀v x,E.sat (.f kf) v x->∃vs u,v = .tuple vs/\vs[k]? = some u/\E.sat s u x):E.vB9 P ops Q vAa W i s:=by
 intro o' x a a0 a3 hC hw a2;rw[ho]at a0;injection a0 with a0;subst a0;simp only[List.cons.injEq,and_true]at hA;obtain⟨vs,u,h1,h2,h3⟩:=K _ _ (a2 y _ hA);exact uj3 ho hw y k a1 vs h1 h2 ⟨_,rfl,h3,aa⟩
theorem uvo{o:Oper}(ho:ops[i]? = some o){T:TypeId}{y:Operand}(a1:o.op = .call { callee:= .builtin .len,args:=#[y],argTypes:=#[T] }) (kf n:Nat) (hA:[E.opC P ops vAa i y]=[some (.f kf)]) (hs:(uar P T).isSome=true) (K:∀v x,E.sat (.f kf) v x->∃A c,v = .slice A n c):E.vB9 P ops Q vAa W i (.v (.int .i64 (n:Nat))):=by
 intro o' x a a0 a3 hC hw a2;rw[ho]at a0;injection a0 with a0;subst a0;simp only[List.cons.injEq,and_true]at hA;obtain⟨A,c,h1⟩:=K _ _ (a2 y _ hA);exact uvk ho hw y T a1 A n c h1 hs ⟨_,rfl,rfl,aa⟩
end
section
variable {P:Program} {ops:Array Oper} {Q:Exit->Act->World->Prop} {E:Sp} {vAa:List Nat} {W:World} {i:Nat} {s:Sy}
theorem uth{I:Act->World->Prop}{o:Oper}{a:Act}{w:World}(ho:ops[i]? = some o)(hw:Region.wanted o (yielded ops a.tmps)=true)(T:TypeId)(parts:List (Nat×Operand))(a0:o.op = .build T parts.toArray){v:Value}(hr:(Instr.build T ((parts.map fun z=>(z.1,a.eval z.2)).toArray)).run P w = .ok v w)(h:I (a.put o.dst v) w):ua5 P ops Q i I a w:=by
 refine ubr ho hw ?_ h;unfold execOp;rw[a0];have e:(parts.toArray.map fun(z:Nat×Operand)=>(z.1,a.eval z.2))=(parts.map fun z=>(z.1,a.eval z.2)).toArray:=by simp
 simp only[e];simp[aD,hr]
def upj(P:Program)(T:TypeId):Option (List Value):=match P.info? T with
 | some q=>q.zero.map fun z=>z.cells.toList
 | none=>none
theorem uvp{I:Act->World->Prop}{o:Oper}{a:Act}{w:World}(ho:ops[i]? = some o)(hw:Region.wanted o (yielded ops a.tmps)=true)(T:TypeId)(a0:o.op = .alloc T)(cells:List Value)(hz:upj P T=some cells)(h:I (a.put o.dst (.pointer (some ⟨w.heap.size,0,none⟩))) (w.alloc (.cells cells.toArray T))):ua5 P ops Q i I a w:=by
 refine ubr ho hw ?_ h;unfold execOp;rw[a0];unfold upj at hz;split at hz
 ·rename_i q hq
  obtain⟨z,a1,a2⟩:=aL.1 hz;subst a2;simp[Instr.alloc,aD,zeroValue,typeInfo,hq,a1,newVar,newRow,newObj];rfl
 ·cases hz
theorem upk{o:Oper}(ho:ops[i]? = some o){T:TypeId}(a2:o.op = .alloc T)(cells:List Value)(hz:upj P T=some cells)(K:∀x,Below W.heap.size W x->E.sat s (.pointer (some ⟨x.heap.size,0,none⟩)) (x.alloc (.cells cells.toArray T))):E.vB9 P ops Q vAa W i s:=by
 intro o' x a a0 a1 hC hw a3;rw[ho]at a0;injection a0 with a0;subst a0;exact uvp ho hw T a2 cells hz ⟨_,rfl,K x a1,aa.alloc ab _⟩
theorem uX{o:Oper}(ho:ops[i]? = some o){T:TypeId}{parts:List (Nat×Operand)}(a2:o.op = .build T parts.toArray)
 (K:∀(x:World) (a:Act),Below W.heap.size W x->(∀y u,E.opC P ops vAa i y=some u->E.sat u (a.eval y) x)->∃v,(Instr.build T ((parts.map fun z=>(z.1,a.eval z.2)).toArray)).run P x = .ok v x/\E.sat s v x):E.vB9 P ops Q vAa W i s:=by
 intro o' x a a0 a1 hC hw a3;rw[ho]at a0;injection a0 with a0;subst a0;obtain⟨v,h1,h2⟩:=K x a a1 a3;exact uth ho hw T parts a2 h1 ⟨_,rfl,h2,aa⟩
theorem uac{o:Oper}(ho:ops[i]? = some o){T:TypeId}{n:Nat}{parts:List (Nat×Operand)}(a2:o.op = .buildSlice T n parts.toArray)
 (K:∀(x:World) (a:Act),Below W.heap.size W x->(∀y u,E.opC P ops vAa i y=some u->E.sat u (a.eval y) x)->∃e cells,uq3 P T n (parts.map fun z=>(z.1,a.eval z.2))=some (e,cells)/\E.sat s (.slice (some ⟨x.heap.size,0,none⟩) n n) (x.alloc (.cells cells.toArray e))):E.vB9 P ops Q vAa W i s:=by
 intro o' x a a0 a1 hC hw a3;rw[ho]at a0;injection a0 with a0;subst a0;obtain⟨e,cells,h1,h2⟩:=K x a a1 a3;exact uq7 ho hw T n parts a2 _ rfl e cells h1 ⟨_,rfl,h2,aa.alloc ab _⟩
end
open Go.RowKit AC
theorem ull:(Tryz.prog.info? 25).map (fun i=>(i.size,i.bytes,i.zero.map fun z=>z.cells.size))=some (3,40,some 3):=by kernel_rfl
theorem uN(w2:World){ops:Array Oper}{rest:List Oper}{op:Oper}{a:Act}{Q:Exit->Act->World->Prop}(a5:op.guard=none)(sl x:Operand)(t e:TypeId)
 (ho:op.op = .call { callee:= .builtin .append,args:=#[sl,x],argTypes:=#[t,t] })
 (ht:Tryz.prog.underlying t=some (.slice e)) (sz a0:Nat) (a6:(Tryz.prog.info? e).map (fun i=>(i.size,i.bytes,i.zero.map fun z=>z.cells.size))=some (sz,a0,some sz)) (a9:0<sz) (a3:a0<=4096)
 (base:Nat) (lv:Value) (n:Nat) (xs v:List Value) (hs:a.eval sl=lv) (a7:w2.ownsRow base e sz lv n xs) (b:Nat) (T:TypeId) (hk:Bk w2 b T v.toArray) (hx:a.eval x = .slice (some ⟨b,0,none⟩) 1 1) (hv:v.length=sz) (h1:∀u∈v,u.oneCell'=true)
 (hn:n<=100000000) (a2:base<=w2.heap.size)
 (h:∀g cap w3,w3.ownsRow base e sz (.slice (some ⟨g,0,none⟩) (n+1) cap) (n+1) (xs++v)->w2.grownBy w3 lv.ownBlock->(lv.ownBlock=some g\/g=w2.heap.size)->g<w3.heap.size->wpList Tryz.prog ops Q rest (a.put op.dst (.slice (some ⟨g,0,none⟩) (n+1) cap)) w3) :
 wpList Tryz.prog ops Q (op::rest) a w2:=by
 obtain⟨i,hi,a1⟩:=aL.1 a6;simp only[Prod.mk.injEq]at a1;obtain⟨a8,a4,b2⟩:=a1;obtain⟨z,b0,b1⟩:=aL.1 b2;refine wpList_append_lies _ a5 sl x t ho base e i z sz a0 ht hi b0 a8 a4 b1 a9 lv n xs hs a7 ⟨b,0,none⟩ 1 1 v hx (by omega) ?_ h1 (by omega) (by unfold maxLen;omega) ?_ a2 w2.heap.size rfl ?_
 ·intro j u hu
  rw[Addr.add_lit,hk.cell,Nat.zero_add];simpa using hu
 ·have:(n+1)*a0<=100000001*4096:=Nat.mul_le_mul (by omega) a3
  omega
 ·intro g cap w3 h2 h3 h4 h5
  exact h g cap w3 h2 h3 h4 h5
theorem uhr.vDi{base:Nat}{e:TypeId}{w w3:World}{lv:Value}{l:List Tr}{us:Nat->List Value}(h:uhr base e w lv l us){t:Tr}{v:List Value}(hv:TrR w (fun b=>base<=b/\some b≠lv.ownBlock) t v)(a4:v.length=3){g cap:Nat}
 (a3:w3.ownsRow base e 3 (.slice (some ⟨g,0,none⟩) (l.length+1) cap) (l.length+1) (ucr us l.length++v)) (hg:w.grownBy w3 lv.ownBlock) (a0:lv.ownBlock=some g\/g=w.heap.size) :
 uhr base e w3 (.slice (some ⟨g,0,none⟩) (l.length+1) cap) (l++[t]) fun i=>if i=l.length then v else us i:=by
 have a2:∀b,b<w.heap.size->some b≠lv.ownBlock->some b≠(Value.slice (some ⟨g,0,none⟩) (l.length+1) cap).ownBlock:=by
  intro b hb a1 e;have e':b=g:=by simpa[Value.ownBlock]using e
  subst e';rcases a0 with h|h
  ·exact a1 h.symm
  ·omega
 have vAb:∀ {t:Tr} {v:List Value},TrR w (fun b=>base<=b/\some b≠lv.ownBlock) t v->TrR w3 (fun b=>base<=b/\some b≠(Value.slice (some ⟨g,0,none⟩) (l.length+1) cap).ownBlock) t v:=fun h=>
  TrR.vAb ⟨hg.size,fun b hb hD=>hg.block b hb (hD.2.2)⟩ (D:=fun b=>b<w.heap.size/\base<=b/\some b≠lv.ownBlock) (h.sub fun b hb hD=>⟨hb,hD⟩) |>.sub fun b _ hD=>⟨hD.2.1,a2 b hD.1 hD.2.2⟩
 refine⟨?_,fun i hi=>?_⟩
 ·have e1:ucr (fun i=>if i=l.length then v else us i) (l++[t]).length=ucr us l.length++v:=by
   rw[ay,List.length_singleton,uay,ucu (us':=us) fun i hi=>if_neg (by omega),if_pos rfl]
  rw[e1];simpa using a3
 ·rw[ay,List.length_singleton]at hi
  rcases ah i l.length with h1|h1
  ·simp only[if_neg (show ¬i=l.length from by omega)]
   rw[List.getElem_append_left h1];exact⟨(h.2 i h1).1,vAb (h.2 i h1).2⟩
  ·obtain rfl:i=l.length:=by omega
   simp only[if_true];rw[List.getElem_append_right ab];simp only[Nat.sub_self,List.getElem_cons_zero];exact⟨a4,vAb hv⟩
theorem uhr.fw{k base:Nat}{e:TypeId}{w w':World}{lv:Value}{l:List Tr}{us:Nat->List Value}(h:uhr base e w lv l us)(f:Fw (fun b=>b=k) w w')(hk:k<base):uhr base e w' lv l us:=by
 refine⟨h.1.kept (row:=some k) ⟨f.os,f.tape,f.output,f.size,fun j hj a0=>f.block j hj fun e=>a0 (e▸rfl)⟩ (.inr fun e=>?_),fun i hi=>⟨(h.2 i hi).1,(h.2 i hi).2.vAb (uc.fw f fun b hD e=>?_)⟩⟩
 ·have:=(h.1.lt k e).1;omega
 ·have h1:base<=b:=hD.1
  have h2:b=k:=e;omega
theorem uj9(ar:List Tr):∀(l:List Tr),(vAj ar l).length=l.length
 | []=>by rw[vAj]
 | t::l=>by rw[vAj,aB,aB,uj9 ar l]
theorem ufr(ar:List Tr)(t:Tr):∀(l:List Tr),vAj ar (l++[t])=vAj ar l++[subst ar t]
 | []=>by simp[vAj]
 | u::l=>by rw[List.cons_append,vAj,vAj,ufr ar t l];rfl
def uIo(ar:List Tr):Prop:=∀(D:Nat->Prop) (i:Nat) (h:i<ar.length) (w:World) (v:List Value),TrR w D ar[i] v->Calls Tryz.prog 295 #[.agg v.toArray,.slice none 0 0] w (uIa ar[i] w)
def uDs(ar:List Tr)(n:Nat):Prop:=∀(D D':Nat->Prop) (t:Tr) (w:World) (v:List Value) (B:Option Addr) (l2 c2:Nat),t.size<=n->t.size<=100000->TrR w D t v->TrS w D' ar B l2 c2->Calls Tryz.prog 295 #[.agg v.toArray,.slice B l2 c2] w (uIa (subst ar t) w)
set_option maxHeartbeats 16000000
set_option maxRecDepth 100000
theorem ugk(ar:List Tr)(d6:uIo ar):∀(n:Nat),uDs ar n
 | 0=>fun D D' t w v B l2 c2 h _ _ _=>absurd t.size_pos (by omega)
 | n+1=>fun D D' t w v B l2 c2 hn d4 hr b3=>by
  have IH:=hid (ugk ar d6 n);have g7:=hid d6;have d9:=hid b3;have j8:l2=ar.length:=b3.1;have l3:=b3.2.1;have j4:c2<=maxLen:=b3.2.2.1;unfold maxLen at j4;obtain⟨A,len,cap,rfl,hs,hk,hm⟩:=hr.form;obtain⟨x0,c8⟩:∃x,t.k=x:=⟨_,rfl⟩;obtain⟨x1,b5⟩:∃x,t.m=x:=⟨_,rfl⟩;obtain⟨l,hl⟩:∃l,t.kids=l:=⟨_,rfl⟩;rw[hl]at hs;rw[c8]at hk;rw[b5]at hm;unfold rng at hk hm;have ht:t = .n x0 x1 l:=by
   cases t;rw[<-c8,<-b5,<-hl];rfl
  rw[c8,b5];have HS:=hid hs;have HT:=hid ht;clear hs hr c8 b5 hl ht d6 b3;show Calls Tryz.prog 295 #[.agg #[.int .i64 x0,.int .i64 x1,.slice A len cap],.slice B l2 c2] w _
  go_enter Tryz.func295,Tryz.ntmps295
  go_upto_region 1 with(fail)
  obtain⟨C,hC⟩:∃C,C=(w.alloc (.cells #[.int .i64 x0,.int .i64 x1,.slice A len cap] 25)).alloc (.cells #[.int .i64 0,.int .i64 0,.slice none 0 0] 25):=⟨_,rfl⟩;have a8:Hid (Below w.heap.size w C):=by rw[hC];exact(aa.alloc ab _).alloc (by simp) _
  have c9:Hid (Bk C w.heap.size 25 #[.int .i64 x0,.int .i64 x1,.slice A len cap]):=by rw[hC];exact(Bk.new _ _ _).alloc _
  have b8:Hid (Bk C (w.heap.size+1) 25 #[.int .i64 0,.int .i64 0,.slice none 0 0]):=by rw[hC];exact uax _ _ _ _
  have e8:C.heap.size=w.heap.size+2:=by rw[hC];simp
  rw[<-hC];clear hC;have a4:=hid e8;clear e8;obtain⟨k4,k5,_⟩:=c9.out.facts;by_cases hv:x0=4/\0<=x1/\x1<l2
  ·obtain⟨rfl,b5,l5⟩:=hv
   obtain⟨i,rfl⟩:∃i:Nat,x1=i:=⟨x1.toNat,by omega⟩
   have a5:i<ar.length:=by omega
   obtain⟨b,off,A',b6,b1,rfl,hb,e0,e1,e2,b4⟩:=(d9.out.below a8.out).get (i:=i) a5;have d2:=hid (g7.out D' i a5 C _ b4);clear b4;generalize ar[i].k=y0 at *;generalize ar[i].m=y1 at *;go_wp2_with fail
   refine d2.out.mono ?_;rintro e w2⟨v2,rfl,d5,c4⟩;obtain⟨A3,a1,a0,rfl,_,_,_⟩:=d5.form;have b0:=hid d5;have HQ:=hid (show subst ar t=ar[i] by rw[HT.out,subst,if_pos (by simp;omega),Int.toNat_natCast,aj,ai a5];rfl)
   generalize ar[i]=r at *;have b9:=hid (b8.out.below c4 b8.out.lt);have f7:=hid (a8.out.trans (c4.mono a8.out.size));have k3:=hid c4.size;clear d5 c4;obtain⟨z0,f3⟩:∃x,r.k=x:=⟨_,rfl⟩;obtain⟨z1,f4⟩:∃x,r.m=x:=⟨_,rfl⟩;rw[f3,f4]at b0 ⊢;clear f3 f4;obtain⟨hy,k1,_⟩:=b9.out.facts;go_wp2;have hg:Bk (((w2.setCell ⟨w.heap.size+1,0,none⟩ (.int .i64 z0)).setCell ⟨w.heap.size+1,1,none⟩ (.int .i64 z1)).setCell ⟨w.heap.size+1,2,none⟩ (.slice A3 a1 a0)) (w.heap.size+1) 25 #[.int .i64 z0,.int .i64 z1,.slice A3 a1 a0]:=udy b9.out;refine bodyPost_ret (results_cell_row rfl _ _ (w.heap.size+1) 25 #[.int .i64 z0,.int .i64 z1,.slice A3 a1 a0] (0,0) _ rfl hg Tryz.underlying25 rfl (by kernel_rfl)) rfl ?_
   have hf:Fw (fun b=>b=w.heap.size\/b=w.heap.size+1) w2 (((w2.setCell ⟨w.heap.size+1,0,none⟩ (.int .i64 z0)).setCell ⟨w.heap.size+1,1,none⟩ (.int .i64 z1)).setCell ⟨w.heap.size+1,2,none⟩ (.slice A3 a1 a0)):=
    (((Fw.refl _ _).setCell (p:=⟨w.heap.size+1,0,none⟩) (.inl (.inr rfl)) _).setCell (p:=⟨w.heap.size+1,1,none⟩) (.inl (.inr rfl)) _).setCell (p:=⟨w.heap.size+1,2,none⟩) (.inl (.inr rfl)) _
   rw[HQ.out];refine⟨[.int .i64 z0,.int .i64 z1,.slice A3 a1 a0],rfl,(b0.out.vAb (uc.fw hf fun b hD e=>?_)).sub fun b _ hD=>?_,?_⟩
   ·have h1:C.heap.size<=b:=hD
    have h2:=a4.out;omega
   ·have h1:C.heap.size<=b:=hD
    have h2:=a4.out;show w.heap.size<=b
    omega
   ·exact uo f7.out (by omega) _ _ _
  ·have f1:subst ar t = .n x0 x1 (vAj ar l):=by
    rw[HT.out,subst,if_neg];intro h;simp at h;exact hv ⟨h.1.1,h.1.2,by omega⟩
   have g6:=hid f1;have e9:len=l.length:=HS.out.1;have j5:cap<=maxLen:=HS.out.2.2.1;have l1:=HS.out.2.1;unfold maxLen at j5;have d0:=hid e9;have HN:Hid (∀(i:Nat) (h:i<l.length),l[i].size<=n/\l[i].size<=100000):=fun i h=>by
    have:=ubo h;rw[HT.out,Tr.size]at hn d4;omega
   have l0:len<=100000:=by
    have:=ud6 l;rw[HT.out,Tr.size]at d4;omega
   have h3:x0≠4\/(x0=4/\¬0<=x1)\/(x0=4/\0<=x1/\¬x1<l2):=by omega
   clear hv e9 f1 hn d4;obtain⟨W1,b2⟩:∃W1,W1=C.alloc (.cells #[.int .i64 x0,.int .i64 x1,.slice none 0 0] 25):=⟨_,rfl⟩;have c3:Below C.heap.size C W1:=by rw[b2];exact aa.alloc ab _
   have f8:Hid (Bk W1 C.heap.size 25 #[.int .i64 x0,.int .i64 x1,.slice none 0 0]):=by rw[b2];exact Bk.new _ _ _
   have g8:=hid (c9.out.below c3 c9.out.lt);have h6:=hid (b8.out.below c3 b8.out.lt);have f6:=hid (a8.out.trans (c3.mono a8.out.size));have g3:Hid (C.heap.size+1<=W1.heap.size):=by
    have h:C.heap.size=w.heap.size+2:=a4.out;show C.heap.size+1<=W1.heap.size
    rw[b2];simp
   have e7:=hid b2;clear c3 b2;rcases h3 with h1|⟨h1,h2⟩|⟨h1,h2,h3⟩
   all_goals
    go_wp2;first|rw[<-e7.out]|rw[<-(show W1=C.alloc (.cells #[.int .i64 4,.int .i64 x1,.slice none 0 0] 25) from by rw[e7.out,h1])]
    clear h1;go_loopw [37] (fun jv wr=>∃(i:Nat) (us:Nat->List Value) (lv:Value),i<=len/\jv = .int .i64 i/\Hid (uhr (C.heap.size+1) 25 wr lv (vAj ar (l.take i)) us)/\Hid (Below w.heap.size w wr)/\Hid (Bk wr w.heap.size 25 #[.int .i64 x0,.int .i64 x1,.slice A len cap])/\Hid (Bk wr (w.heap.size+1) 25 #[.int .i64 0,.int .i64 0,.slice none 0 0])/\Hid (Bk wr C.heap.size 25 #[.int .i64 x0,.int .i64 x1,lv])/\Hid (C.heap.size+1<=wr.heap.size)) (fun jv _=>len-(intOf jv).toNat)
    case atStart=>exact⟨0,fun _=>[],.slice none 0 0,by omega,rfl,uhr.nil _ _ _,f6,g8,h6,f8,g3⟩
    case round=>
     obtain⟨i,us,lv,hi,rfl,HO,HB,HX,HY,HZ,HC⟩:=hrel;by_cases l4:i<len
     ·have a5:i<l.length:=by have:=d0.out;omega
      obtain⟨b,off,A',b6,b1,rfl,hb,e0,e1,e2,b4⟩:=(HS.out.below HB.out).get (i:=i) a5;have e6:=hid b4;clear b4;obtain⟨y0,d7⟩:∃x,l[i].k=x:=⟨_,rfl⟩;obtain⟨y1,d8⟩:∃x,l[i].m=x:=⟨_,rfl⟩;rw[d7,d8]at e6;rw[d7]at e0;rw[d8]at e1;clear d7 d8;go_upto_region 7 with(fail)
      generalize hwi:(wr.alloc (.cells #[.int .i64 y0,.int .i64 y1,.slice A' b6 b1] 25))=wi;have c5:Below wr.heap.size wr wi:=by rw[<-hwi];exact aa.alloc ab _
      have e3:Hid (Bk wi wr.heap.size 25 #[.int .i64 y0,.int .i64 y1,.slice A' b6 b1]):=by rw[<-hwi];exact Bk.new _ _ _
      have b7:=hid c5;have g2:=hid (e6.out.below c5);have c0:=hid (HZ.out.below c5 HZ.out.lt);clear hwi c5;refine ufn (by kernel_rfl) (by kernel_rfl) [41,42,43,44,45,46] 40 (by kernel_rfl) (fun d x=>Below wi.heap.size wi x) (fun j x x'=>Below x.heap.size x x') (fun io v x=>match io with
       | 0=>v = .pointer (some ⟨C.heap.size,2,none⟩)
       | 1=>v=lv
       | 2=>v = .agg #[.int .i64 y0,.int .i64 y1,.slice A' b6 b1]
       | 3=>v = .slice B ar.length c2
       | 4=>∃u,v = .agg u.toArray/\TrR x (wi.heap.size <= ·) (subst ar l[i]) u
       | _=>∃u g,v = .slice (some ⟨g,0,none⟩) 1 1/\TrR x (wi.heap.size <= ·) (subst ar l[i]) u/\Bk x g 25 u.toArray/\wi.heap.size<=g) aa.drew ?_ ?_ ?_ ?_
      ·intro d j x x' h _ hg
       exact h.trans (hg.mono h.size)
      ·intro io jo v x x' hi hj k9 ha h hg
       rcases io with _|_|_|_|_|io
       ·exact h
       ·exact h
       ·exact h
       ·exact h
       ·obtain⟨u,h1,h2⟩:=h
        exact⟨u,h1,h2.below hg⟩
       ·obtain⟨u,g,h1,h2,h3,h4⟩:=h
        exact⟨u,g,h1,h2.below hg,h3.below hg h3.lt,h4⟩
      ·intro io oo S d x ho a6 hd a2 a3
       rcases io with _|_|_|_|_|_|io
       ·cases ho
        refine uh rfl rfl fun KK HK=>?_
        clear a3 a6;simp only[nv,Nat.reduceAdd]at HK ⊢;go_wp2;exact HK.out _ _ ⟨_,rfl,rfl,aa⟩
       ·cases ho
        have h0:S 0 = .pointer (some ⟨C.heap.size,2,none⟩):=a3 0 (by kernel_rfl) (by decide)
        have cc:=(c0.out.below a2 c0.out.lt).facts.1;refine uh rfl rfl fun KK HK=>?_
        clear a3 a6;simp only[nv,Nat.reduceAdd]at HK ⊢;generalize S 0=t0 at *;subst h0;go_wp2;exact HK.out _ _ ⟨_,rfl,rfl,aa⟩
       ·cases ho
        have cc:=(e3.out.below a2 e3.out.lt).facts.1;refine uh rfl rfl fun KK HK=>?_
        clear a3 a6;simp only[nv,Nat.reduceAdd]at HK ⊢;go_wp2;exact HK.out _ _ ⟨_,rfl,rfl,aa⟩
       ·cases ho
        refine uh rfl rfl fun KK HK=>?_
        clear a3 a6;simp only[nv,Nat.reduceAdd]at HK ⊢;go_wp2;exact HK.out _ _ ⟨_,rfl,rfl,aa⟩
       ·cases ho
        have h2:S 2 = .agg #[.int .i64 y0,.int .i64 y1,.slice A' b6 b1]:=a3 2 (by kernel_rfl) (by decide)
        have h3:S 3 = .slice B ar.length c2:=a3 3 (by kernel_rfl) (by decide)
        have d2:=hid (IH.out D D' l[i] x _ B ar.length c2 (HN.out i a5).1 (HN.out i a5).2 (g2.out.below a2) (j8▸(((d9.out.below HB.out).below b7.out).below a2)));refine uh rfl rfl fun KK HK=>?_
        clear a3 a6;simp only[nv,Nat.reduceAdd]at HK ⊢;generalize S 2=t2 at *;generalize S 3=t3 at *;subst h2;subst h3;go_wp2_with fail
        refine d2.out.mono ?_;rintro e xN⟨u,rfl,hu,j1⟩;exact HK.out _ _ ⟨_,rfl,⟨u,rfl,hu.sub fun b _ hD=>ag a2.size hD⟩,j1⟩
       ·cases ho
        have h4:∃u,S 4 = .agg u.toArray/\TrR x (wi.heap.size <= ·) (subst ar l[i]) u:=a3 4 (by kernel_rfl) (by decide)
        refine uh rfl rfl fun KK HK=>?_
        clear a3 a6;simp only[nv,Nat.reduceAdd]at HK ⊢;obtain⟨u,h4,hu⟩:=h4;obtain⟨Au,lu,cu,rfl,_,_,_⟩:=hu.form;generalize S 4=t4 at *;subst h4;generalize (subst ar l[i]).k=z0 at *;generalize (subst ar l[i]).m=z1 at *;go_wp2;exact HK.out _ _ ⟨_,rfl,⟨_,_,rfl,hu.below (aa.alloc ab _),Bk.new _ _ _,a2.size⟩,aa.alloc ab _⟩
       ·exact absurd a6 (by simp)
      ·intro S d x a2 hF
       have g1:S 1=lv:=hF 1 (by decide)
       have g0:S 0 = .pointer (some ⟨C.heap.size,2,none⟩):=hF 0 (by decide)
       have g5:∃u g,S 5 = .slice (some ⟨g,0,none⟩) 1 1/\TrR x (wi.heap.size <= ·) (subst ar l[i]) u/\Bk x g 25 u.toArray/\wi.heap.size<=g:=hF 5 (by decide)
       clear hF;simp only[nv,Nat.reduceAdd,aB,aE,aC,List.drop_zero];obtain⟨u,gb,g5,hu,j3,k6⟩:=g5;generalize S 0=t0 at *;generalize S 1=t1 at *;generalize S 2=t2 at *;generalize S 3=t3 at *;generalize S 4=t4 at *;generalize S 5=t5 at *;subst g0;subst g1;subst g5;have a9:=hid (show Below wr.heap.size wr x from b7.out.trans (a2.mono b7.out.size))
       have d1:=hid (HO.out.below a9.out);have f2:u.length=3:=by obtain⟨_,_,_,rfl,_⟩:=hu.form;rfl
       have k0:∀y∈u,y.oneCell'=true:=by obtain⟨_,_,_,rfl,_⟩:=hu.form;intro y hy;simp at hy;rcases hy with rfl|rfl|rfl<;>rfl
       have c7:(vAj ar (l.take i)).length=i:=by rw[uj9,List.length_take];have:=d0.out;omega
       have b0:Hid (TrR x (fun b=>C.heap.size+1<=b/\some b≠t1.ownBlock) (subst ar l[i]) u):=hu.sub fun b _ hD=>by
        have h1:wi.heap.size<=b:=hD;have h2:=b7.out.size;have h3:C.heap.size+1<=wr.heap.size:=HC.out;exact⟨by omega,fun e=>by have:=(HO.out.1.lt b e.symm).2;omega⟩
       have j2:C.heap.size+1<=x.heap.size:=by have h3:C.heap.size+1<=wr.heap.size:=HC.out;have:=a9.out.size;omega
       have c1:=d1.out.1;obtain⟨r,hr⟩:∃r,subst ar l[i]=r:=⟨_,rfl⟩;obtain⟨q,hq⟩:∃q,vAj ar (l.take i)=q:=⟨_,rfl⟩;have f0:vAj ar (l.take (i+1))=q++[r]:=by rw[aJ a5,ufr,hq,hr]
       rw[hr]at b0;rw[hq]at c1 d1 c7;rw[c7]at c1;have f9:=hid f0;have e5:=hid c7;have h8:=hid (c0.out.below a2 c0.out.lt);have h5:=hid (HX.out.below a9.out HX.out.lt);have h7:=hid (HY.out.below a9.out HY.out.lt);clear hu hr hq f0 c7 a2;refine uN x rfl _ _ 23 25 rfl Tryz.underlying23 3 40 ull (by decide) (by decide) (C.heap.size+1) t1 i (ucr us i) u (by rfl) c1 gb _ j3 (by rfl) f2 k0 (by omega) j2 ?_
       intro g a0 w3 j9 hg j7 k8;have e4:Hid (uhr (C.heap.size+1) 25 w3 (.slice (some ⟨g,0,none⟩) (i+1) a0) (vAj ar (l.take (i+1))) fun j=>if j=i then u else us j):=by
        have h1:=d1.out.vDi (by exact b0.out) f2 (g:=g) (cap:=a0) (by rw[e5.out];exact j9) hg j7
        rw[e5.out]at h1;rw[f9.out];exact h1
       have c6:∀k,k<C.heap.size+1->some k≠t1.ownBlock:=fun k hk e=>by have:=(HO.out.1.lt k e.symm).1;omega
       have g9:=hid (h5.out.grown hg (c6 _ (by have h1:C.heap.size=w.heap.size+2:=a4.out;omega)))
       have b9:=hid (h7.out.grown hg (c6 _ (by have h1:C.heap.size=w.heap.size+2:=a4.out;omega)))
       have f5:=h8.out.grown hg (c6 _ (by omega))
       have a7:Below w.heap.size w x:=HB.out.trans (a9.out.mono HB.out.size);have j0:Below w.heap.size w w3:=⟨hg.os.trans a7.os,hg.tape.trans a7.tape,hg.output.trans a7.output,ag a7.size hg.size,fun k hk=>(hg.block k (af hk a7.size) (c6 k (by have h1:C.heap.size=w.heap.size+2:=a4.out;omega))).trans (a7.block k hk)⟩
       obtain⟨hz,k2,l6⟩:=f5.facts;clear c1;go_wp2;go_roundw
       case rel=>
        have h1:C.heap.size=w.heap.size+2:=a4.out;have k7:C.heap.size+1<=g:=(e4.out.1.lt g rfl).1;have j6:Fw (fun b=>b=C.heap.size) w3 (w3.setCell ⟨C.heap.size,2,none⟩ (.slice (some ⟨g,0,none⟩) (i+1) a0)):=(Fw.refl (fun b=>b=C.heap.size) _).setCell (p:=⟨C.heap.size,2,none⟩) (.inl rfl) _
        exact⟨i+1,_,_,by omega,by go_num,e4.out.fw j6 (by omega),j0.setCell (p:=⟨C.heap.size,2,none⟩) (by show w.heap.size<=C.heap.size;omega) _,g9.out.far (p:=⟨C.heap.size,2,none⟩) (by show w.heap.size≠C.heap.size;omega) _,b9.out.far (p:=⟨C.heap.size,2,none⟩) (by show w.heap.size+1≠C.heap.size;omega) _,hid (by have:=f5.set 2 (.slice (some ⟨g,0,none⟩) (i+1) a0);simpa using this),by show C.heap.size+1<=_;simp[World.setCell];omega⟩
       case measure=>simp[intOf];omega
     ·obtain rfl:i=len:=by omega
      obtain⟨A3,a1,a0,rfl,d3⟩:=HO.out.done;rw[show l.take i=l from by rw[d0.out,List.take_length]]at d3
      have g4:=hid d3;clear d3;obtain⟨hz,k2,_⟩:=HZ.out.facts;obtain⟨hy,k1,_⟩:=HY.out.facts;go_wp2;have hg:Bk (((wr.setCell ⟨w.heap.size+1,0,none⟩ (.int .i64 x0)).setCell ⟨w.heap.size+1,1,none⟩ (.int .i64 x1)).setCell ⟨w.heap.size+1,2,none⟩ (.slice A3 a1 a0)) (w.heap.size+1) 25 #[.int .i64 x0,.int .i64 x1,.slice A3 a1 a0]:=udy HY.out;refine bodyPost_ret (results_cell_row rfl _ _ (w.heap.size+1) 25 #[.int .i64 x0,.int .i64 x1,.slice A3 a1 a0] (0,0) _ rfl hg Tryz.underlying25 rfl (by kernel_rfl)) rfl ?_
      have hf:Fw (fun b=>b=w.heap.size\/b=w.heap.size+1) wr (((wr.setCell ⟨w.heap.size+1,0,none⟩ (.int .i64 x0)).setCell ⟨w.heap.size+1,1,none⟩ (.int .i64 x1)).setCell ⟨w.heap.size+1,2,none⟩ (.slice A3 a1 a0)):=
       (((Fw.refl _ _).setCell (p:=⟨w.heap.size+1,0,none⟩) (.inl (.inr rfl)) _).setCell (p:=⟨w.heap.size+1,1,none⟩) (.inl (.inr rfl)) _).setCell (p:=⟨w.heap.size+1,2,none⟩) (.inl (.inr rfl)) _
      rw[g6.out];have h9:=(g4.out.vAb (uc.fw hf fun b hD e=>by
       have h1:C.heap.size+1<=b:=hD;have h2:C.heap.size=w.heap.size+2:=a4.out;omega)).sub (D':=(w.heap.size <= ·)) fun b _ hD=>by
        have h1:C.heap.size+1<=b:=hD;have h2:C.heap.size=w.heap.size+2:=a4.out;show w.heap.size<=b
        omega
      refine⟨[.int .i64 x0,.int .i64 x1,.slice A3 a1 a0],rfl,?_,uo HB.out (by omega) _ _ _⟩
      rw[TrR];exact⟨hk,hm,A3,a1,a0,rfl,h9⟩
set_option maxHeartbeats 200000
set_option maxRecDepth 512
mutual
theorem urc:∀t:Tr,subst [] t=t
 | .n k m l=>by
  rw[subst,if_neg (by intro h;simp at h;omega),vB5 l]
theorem vB5:∀l:List Tr,vAj [] l=l
 | []=>by rw[vAj]
 | t::l=>by rw[vAj,urc t,vB5 l]
end
theorem uvq(n:Nat):uDs [] n:=ugk [] (fun D i h=>absurd h (by simp)) n
theorem uvr(ar:List Tr)(hs:∀a∈ar,a.size<=100000)(n:Nat):uDs ar n:=ugk ar (fun D i h w v hr=>by
 have:=uvq 100000 D D ar[i] w v none 0 0 (hs _ (aq h)) (hs _ (aq h)) hr ⟨rfl,ab,by unfold maxLen;omega,fun h=>absurd h (by omega)⟩
 rw[urc]at this;exact this) n
end Go.Proofs.YtnbbpmagijpmpaaGreatDoor
