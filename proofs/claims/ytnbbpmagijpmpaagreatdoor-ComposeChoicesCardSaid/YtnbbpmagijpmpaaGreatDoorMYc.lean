/-
  Closed calls by reflection: operations.
-/
import Derived.Test.YtnbbpmagijpmpaaGreatDoorMYb
set_option linter.unusedVariables false
set_option linter.unusedSimpArgs false
namespace AC.Ev
open Go
section
variable {P:Program}
theorem urw{α β:Type}(f:α->Sem β)(g:α->β)(w:World):∀(l:List α),(∀x∈l,(f x).run P w = .ok (g x) w)->(l.mapM f).run P w = .ok (l.map g) w
 | [],_=>by simp
 | x::l,h=>by
  rw[List.mapM_cons,aD,h x (by simp)]
  simp only[aA];rw[aD,urw f g w l fun y hy=>h y (aG _ hy)]
  simp
theorem uAu{α β:Type}(f:α->Sem β)(g:α->β)(w:World)(l:Array α)(h:∀x∈l.toList,(f x).run P w = .ok (g x) w):(l.mapM f).run P w = .ok (l.map g) w:=by
 rw[Array.mapM_eq_mapM_toList,Sem.run_map,urw f g w l.toList h];simp[<-Array.toList_map]
theorem uwq{tm:Tm}{L:ucd}{ty:TypeId}{ps:Array (Nat×Operand)}{K:Value->Bool}(h:urm P tm ty ps K=true):∃v,K v=true/\Reads P tm L (ps.toList.map (·.2)) (fun ρ=>Instr.build ty (ps.map fun(i,x)=>(i,ρ x))) v:=by
 unfold urm at h;obtain⟨z,h,hz,a3⟩:=udr h;obtain⟨vs,h,hi,hv⟩:=ui1 h;split at h
 ·rename_i d hd
  split at h
  ·rename_i fs
   rw[uk]at h;obtain⟨a0,h⟩:=h;have a0:=ubw _ a0;obtain⟨l,h,hl,hf⟩:=urv (P:=P) (fs:=fs.toList) (G:=fs.map fun f=>(f.offset,((P.info? f.type).map (·.size)).getD 0)) (by
    intro i f n a2 ⟨ti,e1,e2⟩;rw[aH]at a2;simp[Array.getElem?_map,a2,e1,e2]) h
   refine⟨_,h,fun φ w ρ ho hr=>?_⟩
   obtain⟨l',k1,k2⟩:=hf φ (ps.toList.map fun p=>(p.1,ρ p.2)) z.cells (by rw[uau];exact hz φ) (by rw[hi];simp) (by
    have:=hv φ ρ fun p hp=>ho p.2 (List.mem_map_of_mem hp)
    simpa[Function.comp_def]using this)
   refine⟨.agg l',?_,.agg k2⟩;have hm:(fs.mapM fun f=>do pure (f.offset,<-Go.sizeOf f.type):Sem (Array (Nat×Nat))).run P w = .ok (fs.map fun f=>(f.offset,((P.info? f.type).map (·.size)).getD 0)) w:=by
    refine uAu _ (fun f=>(f.offset,((P.info? f.type).map (·.size)).getD 0)) w fs fun f hf=>?_
    have:=a0 f hf;cases hi:P.info? f.type with
    | none=>rw[hi]at this;cases this
    | some ti=>simp[Go.sizeOf,typeInfo,program,Sem.run,hi]
   have a1:(ps.map fun(i,x)=>(i,ρ x)).toList=ps.toList.map fun p=>(p.1,ρ p.2):=by simp
   simp only[Instr.build,aD,a3,aA,ur hd,hm,a1,k1];rfl
  ·rename_i len e
   obtain⟨n,h,_,hn⟩:=uat h;obtain⟨l,h,hl,hf⟩:=ul0 h;refine⟨_,h,fun φ w ρ ho hr=>?_⟩
   obtain⟨l',k1,k2⟩:=hf φ (ps.toList.map fun p=>(p.1,ρ p.2)) z.cells (by rw[uau];exact hz φ) (by rw[hi];simp) (by
    have:=hv φ ρ fun p hp=>ho p.2 (List.mem_map_of_mem hp)
    simpa[Function.comp_def]using this)
   refine⟨.agg l',?_,.agg k2⟩;have a1:(ps.map fun(i,x)=>(i,ρ x)).toList=ps.toList.map fun p=>(p.1,ρ p.2):=by simp
   simp only[Instr.build,aD,a3,aA,ur hd,hn,a1,k1];rfl
  ·cases h
 ·cases h
def gq:Value->Bool
 | .nilIface=>false
 | .agg _=>false
 | _=>true
theorem un3{op:BinOp}{t:TypeId}{X Y:Operand}{a b:Value}(h:gq a=true)(w:World):(eqGuard op t X Y a b).run P w = .ok () w:=by
 unfold eqGuard;cases a<;>first|(cases h;done)|(cases op<;>rfl)
theorem ufb{t:TypeId}{n:Nat}(h:uAf P t n=true):∃d,P.underlying t=some d/\uur d=n:=by
 unfold uAf at h;split at h
 ·rename_i d hd
  exact⟨d,hd,uJ.1 h⟩
 ·cases h
theorem uAv{α:Type}{a b:Option α}{K:Bool->Bool}(h:ut2 a b K=true):(a=none/\K b.isNone=true)\/(∃x,a=some x/\b=none/\K false=true):=by
 unfold ut2 at h;split at h
 ·have:=uc3 h
  refine .inl ⟨rfl,?_⟩;cases b<;>exact this
 ·split at h
  ·exact .inr ⟨_,rfl,rfl,h⟩
  ·cases h
theorem RV.vA9{φ:Phi}{a:Option Addr}{v':Value}(h:RV φ (.pointer a) v'):∃a',v' = .pointer a'/\a'.isNone=a.isNone:=by
 cases h with
 | nilp=>exact⟨_,rfl,rfl⟩
 | ptr h=>exact⟨_,rfl,rfl⟩
theorem RV.vBf{φ:Phi}{a:Option Addr}{l c:Nat}{v':Value}(h:RV φ (.slice a l c) v'):∃a' c',v' = .slice a' l c'/\a'.isNone=a.isNone:=by
 cases h with
 | nils=>exact⟨_,_,rfl,rfl⟩
 | sli h=>exact⟨_,_,rfl,rfl⟩
theorem RV.vCc{φ:Phi}{a:Option Nat}{v':Value}(h:RV φ (.map a) v'):∃a',v' = .map a'/\a'.isNone=a.isNone:=by
 cases h with
 | nilm=>exact⟨_,rfl,rfl⟩
 | map h=>exact⟨_,rfl,rfl⟩
theorem RV.vB4{φ:Phi}{f:Fn}{a c:Array Value}{v':Value}(h:RV φ (.func f a c) v'):∃f' a' c',v' = .func f' a' c':=by
 cases h with
 | func h=>exact⟨_,_,_,rfl⟩
theorem RV.vBo{φ:Phi}{v':Value}(h:RV φ .nilFunc v'):v' = .nilFunc:=by cases h;rfl
theorem uI3{d:TypeDesc}(h:uur d=2):∃e,d = .pointer e:=by cases d<;>first|exact⟨_,rfl⟩|simp[uur]at h
theorem uI4{d:TypeDesc}(h:uur d=3):∃e,d = .slice e:=by cases d<;>first|exact⟨_,rfl⟩|simp[uur]at h
theorem uI5{d:TypeDesc}(h:uur d=4):∃k e,d = .map k e:=by cases d<;>first|exact⟨_,_,rfl⟩|simp[uur]at h
theorem uEl{d:TypeDesc}(h:uur d=5):∃a b c,d = .func a b c:=by cases d<;>first|exact⟨_,_,_,rfl⟩|simp[uur]at h
theorem uI6{d:TypeDesc}(h:uur d=1):d = .bool:=by cases d<;>first|rfl|simp[uur]at h
theorem ui2{α:Type}{a b:Option α}{K:Bool->Bool}(h:ut2 a b K=true):∃r,K r=true/\(a.isNone=true/\r=b.isNone\/a.isNone=false/\b.isNone=true/\r=false):=by
 rcases uAv h with⟨rfl,h1⟩|⟨x,rfl,rfl,h1⟩
 ·exact⟨_,h1,.inl ⟨rfl,rfl⟩⟩
 ·exact⟨_,h1,.inr ⟨rfl,rfl,rfl⟩⟩
theorem toList_data(s:ByteArray):s.toList=bytesOf s:=ByteArray.toList_eq s
theorem uwr{t:TypeId}{x y:Value}{K:Bool->Bool}(h:uus P t x y K=true):∃b,K b=true/\∀(φ:Phi) (x' y':Value) (w:World),RV φ x x'->RV φ y y'->gq x'=true /\
 (binOp .eql t x' y').run P w = .ok (.bool b) w/\(binOp .neq t x' y').run P w = .ok (.bool !b) w:=by
 cases x with
 | int j a=>
  cases y with
  | int k b=>
   rw[uus,uk]at h;obtain⟨h1,h⟩:=h;obtain rfl:=ufz h1;refine⟨_,uc3 h,fun φ x' y' w hx hy=>?_⟩
   rw[hx.vAc,hy.vAc,urr];refine⟨rfl,?_,?_⟩
   ·simp[binOp,Op.intCmp];rfl
   ·simp[binOp,Op.intCmp];rfl
  | _=>cases h
 | string a=>
  cases y with
  | string b=>
   rw[uus]at h;refine⟨_,uc3 h,fun φ x' y' w hx hy=>?_⟩
   have hd:(a.toList==b.toList)=decide (bytesOf a=bytesOf b):=by
    rw[toList_data,toList_data];by_cases he:bytesOf a=bytesOf b
    ·simp[he]
    ·rw[aQ he]
     exact aw.2 he
   rw[hx.vAg,hy.vAg,unz,<-hd];exact⟨rfl,rfl,rfl⟩
  | _=>cases h
 | bool a=>
  cases y with
  | bool b=>
   unfold uus at h;simp only[]at h;rw[uk]at h;obtain⟨ht,h⟩:=h;obtain⟨d,hd,hn⟩:=ufb ht;obtain rfl:=uI6 hn;have key:K (a==b)=true:=by
    cases a with
    | true=>have:=uc3 h;simpa using this
    | false=>have:=uc3 h;simpa using this
   refine⟨_,key,fun φ x' y' w hx hy=>?_⟩
   rw[hx.vAt,hy.vAt];have he:(Op.equal t (.bool a) (.bool b)).run P w = .ok (a==b) w:=by
    unfold Op.equal Op.maxDepth;rw[Op.equalIn,aD,ur hd];rfl
   exact⟨rfl,by simp[binOp,he],by simp[binOp,he]⟩
  | _=>cases h
 | pointer a=>
  cases y with
  | pointer b=>
   rw[uus,uk]at h;obtain⟨ht,h⟩:=h;obtain⟨d,hd,hn⟩:=ufb ht;obtain⟨e,rfl⟩:=uI3 hn;obtain⟨r,hr,hk⟩:=ui2 h;refine⟨r,hr,fun φ x' y' w hx hy=>?_⟩
   obtain⟨a',rfl,ea⟩:=hx.vA9;obtain⟨b',rfl,eb⟩:=hy.vA9;have he:(Op.equal t (.pointer a') (.pointer b')).run P w = .ok r w:=by
    unfold Op.equal Op.maxDepth;rw[Op.equalIn,aD,ur hd];simp only[aA];rcases hk with⟨k1,rfl⟩|⟨k1,k2,rfl⟩
    ·rw[k1]at ea
     rw[<-eb];cases a' with
     | none=>rfl
     | some _=>cases ea
    ·rw[k1]at ea
     rw[k2]at eb;cases a' with
     | none=>cases ea
     | some _=>cases b' with
      | none=>rfl
      | some _=>cases eb
   exact⟨rfl,by simp[binOp,he],by simp[binOp,he]⟩
  | _=>cases h
 | slice a l c=>
  cases y with
  | slice b l2 c2=>
   rw[uus,uk]at h;obtain⟨ht,h⟩:=h;obtain⟨d,hd,hn⟩:=ufb ht;obtain⟨e,rfl⟩:=uI4 hn;obtain⟨r,hr,hk⟩:=ui2 h;refine⟨r,hr,fun φ x' y' w hx hy=>?_⟩
   obtain⟨a',c',rfl,ea⟩:=hx.vBf;obtain⟨b',d',rfl,eb⟩:=hy.vBf;have he:(Op.equal t (.slice a' l c') (.slice b' l2 d')).run P w = .ok r w:=by
    unfold Op.equal Op.maxDepth;rw[Op.equalIn,aD,ur hd];simp only[aA];rcases hk with⟨k1,rfl⟩|⟨k1,k2,rfl⟩
    ·rw[k1]at ea
     rw[<-eb];cases a' with
     | none=>rfl
     | some _=>cases ea
    ·rw[k1]at ea
     rw[k2]at eb;cases a' with
     | none=>cases ea
     | some _=>cases b' with
      | none=>rfl
      | some _=>cases eb
   exact⟨rfl,by simp[binOp,he],by simp[binOp,he]⟩
  | _=>cases h
 | map a=>
  cases y with
  | map b=>
   rw[uus,uk]at h;obtain⟨ht,h⟩:=h;obtain⟨d,hd,hn⟩:=ufb ht;obtain⟨kk,e,rfl⟩:=uI5 hn;obtain⟨r,hr,hk⟩:=ui2 h;refine⟨r,hr,fun φ x' y' w hx hy=>?_⟩
   obtain⟨a',rfl,ea⟩:=hx.vCc;obtain⟨b',rfl,eb⟩:=hy.vCc;have he:(Op.equal t (.map a') (.map b')).run P w = .ok r w:=by
    unfold Op.equal Op.maxDepth;rw[Op.equalIn,aD,ur hd];simp only[aA];rcases hk with⟨k1,rfl⟩|⟨k1,k2,rfl⟩
    ·rw[k1]at ea
     rw[<-eb];cases a' with
     | none=>rfl
     | some _=>cases ea
    ·rw[k1]at ea
     rw[k2]at eb;cases a' with
     | none=>cases ea
     | some _=>cases b' with
      | none=>rfl
      | some _=>cases eb
   exact⟨rfl,by simp[binOp,he],by simp[binOp,he]⟩
  | _=>cases h
 | nilFunc=>
  cases y with
  | nilFunc=>
   rw[uus,uk]at h;obtain⟨ht,h⟩:=h;obtain⟨d,hd,hn⟩:=ufb ht;obtain⟨_,_,_,rfl⟩:=uEl hn;refine⟨_,h,fun φ x' y' w hx hy=>?_⟩
   rw[hx.vBo,hy.vBo];have he:(Op.equal t .nilFunc .nilFunc).run P w = .ok true w:=by
    unfold Op.equal Op.maxDepth;rw[Op.equalIn,aD,ur hd];rfl
   exact⟨rfl,by simp[binOp,he],by simp[binOp,he]⟩
  | func f a c=>
   rw[uus,uk]at h;obtain⟨ht,h⟩:=h;obtain⟨d,hd,hn⟩:=ufb ht;obtain⟨_,_,_,rfl⟩:=uEl hn;refine⟨_,h,fun φ x' y' w hx hy=>?_⟩
   obtain⟨f',a',c',rfl⟩:=hy.vB4;rw[hx.vBo];have he:(Op.equal t .nilFunc (.func f' a' c')).run P w = .ok false w:=by
    unfold Op.equal Op.maxDepth;rw[Op.equalIn,aD,ur hd];rfl
   exact⟨rfl,by simp[binOp,he],by simp[binOp,he]⟩
  | _=>cases h
 | func f a c=>
  cases y with
  | nilFunc=>
   rw[uus,uk]at h;obtain⟨ht,h⟩:=h;obtain⟨d,hd,hn⟩:=ufb ht;obtain⟨_,_,_,rfl⟩:=uEl hn;refine⟨_,h,fun φ x' y' w hx hy=>?_⟩
   obtain⟨f',a',c',rfl⟩:=hx.vB4;rw[hy.vBo];have he:(Op.equal t (.func f' a' c') .nilFunc).run P w = .ok false w:=by
    unfold Op.equal Op.maxDepth;rw[Op.equalIn,aD,ur hd];rfl
   exact⟨rfl,by simp[binOp,he],by simp[binOp,he]⟩
  | _=>cases h
 | _=>cases h
theorem uws{op:BinOp}{k:IntKind}{a b:Int}{K:Value->Bool}(h:uns op k a b K=true):∃v,K v=true/\∀(φ:Phi) (t:TypeId) (w:World),RV φ v v/\(binOp op t (.int k a) (.int k b)).run P w = .ok v w:=by
 cases op with
 | add=>refine⟨_,ugt h,fun φ t w=>⟨.int _ _,?_⟩⟩;rw[uwm];simp[binOp,Op.intArith]
 | sub=>refine⟨_,ugt h,fun φ t w=>⟨.int _ _,?_⟩⟩;rw[uwm,uwn];simp[binOp,Op.intArith,Int.sub_eq_add_neg]
 | mul=>
  unfold uns at h;cases a with
  | ofNat m=>
   cases b with
   | ofNat n=>refine⟨_,ugt h,fun φ t w=>⟨.int _ _,?_⟩⟩;simp[binOp,Op.intArith]
   | negSucc n=>cases h
  | negSucc m=>cases h
 | quo=>
  unfold uns at h;cases a with
  | ofNat m=>
   cases b with
   | ofNat n=>
    cases n with
    | zero=>cases h
    | succ n=>
     refine⟨_,ugt h,fun φ t w=>⟨.int _ _,?_⟩⟩
     simp[binOp,Op.intDiv];intro h0;omega
   | negSucc n=>cases h
  | negSucc m=>cases h
 | rem=>
  unfold uns at h;cases a with
  | ofNat m=>
   cases b with
   | ofNat n=>
    cases n with
    | zero=>cases h
    | succ n=>
     refine⟨_,uw (K:=fun r=>K (.int k (.ofNat r))) h,fun φ t w=>⟨.int _ _,?_⟩⟩
     simp[binOp,Op.intDiv];rw[if_neg (by omega)]
     rfl
   | negSucc n=>cases h
  | negSucc m=>cases h
 | lss=>refine⟨_,udo h,fun φ t w=>⟨.bool _,?_⟩⟩;rw[ukk];simp[binOp,Op.intCmp];try omega
 | leq=>refine⟨_,udo h,fun φ t w=>⟨.bool _,?_⟩⟩;rw[ukk];simp[binOp,Op.intCmp];rw[<-decide_not];exact decide_eq_decide.2 (by omega)
 | gtr=>refine⟨_,udo h,fun φ t w=>⟨.bool _,?_⟩⟩;rw[ukk];simp[binOp,Op.intCmp];try omega
 | geq=>refine⟨_,udo h,fun φ t w=>⟨.bool _,?_⟩⟩;rw[ukk];simp[binOp,Op.intCmp];rw[<-decide_not];exact decide_eq_decide.2 (by omega)
 | _=>cases h
end
section
variable {P:Program}
theorem ut8{op:BinOp}{t:TypeId}{X Y:Operand}{a b:Value}(h1:op ≠ .eql)(h2:op ≠ .neq)(w:World):(eqGuard op t X Y a b).run P w = .ok () w:=by
 unfold eqGuard;cases op<;>first|rfl|exact absurd rfl h1|exact absurd rfl h2
theorem uf3{s:ByteArray}{l:List UInt8}(h:bytesOf s=l):s=⟨⟨l⟩⟩:=by
 obtain⟨⟨d⟩⟩:=s;subst h;rfl
theorem uEm{op:BinOp}{x y:Value}{K:Value->Bool}(h:uGo op x y K=true):∃v,K v=true/\∀(φ:Phi) (x' y':Value) (t:TypeId) (w:World),RV φ x x'->RV φ y y'->RV φ v v/\(binOp op t x' y').run P w = .ok v w:=by
 cases x with
 | int j a=>
  cases y with
  | int k b=>
   rw[uGo,uk]at h;obtain⟨h1,h⟩:=h;obtain rfl:=ufz h1;obtain⟨v,hv,hr⟩:=uws (P:=P) h;refine⟨v,hv,fun φ x' y' t w hx hy=>?_⟩
   rw[hx.vAc,hy.vAc];exact hr φ t w
  | _=>cases h
 | string a=>
  cases y with
  | string b=>
   unfold uGo at h;simp only[]at h;cases op with
   | add=>
    have h:=ugs _ _ _ h;rw[uk,uah]at h;obtain⟨h1,h⟩:=h;have h1:=uW.1 h1;refine⟨_,h,fun φ x' y' t w hx hy=>⟨.string _,?_⟩⟩
    rw[hx.vAg,hy.vAg,binOp_string_add];have e:a++b=⟨⟨bytesOf a++bytesOf b⟩⟩:=uf3 (by simp[bytesOf])
    have ha:∀s:ByteArray,s.size=(bytesOf s).length:=fun s=>by obtain⟨⟨d⟩⟩:=s;rfl
    rw[run_string_add_sum w a b (by rw[ha,ha];rw[ay]at h1;omega),e]
   | lss=>
    refine⟨_,udo h,fun φ x' y' t w hx hy=>⟨.bool _,?_⟩⟩
    rw[hx.vAg,hy.vAg,binOp_string_lss,uCv,toList_data,toList_data];rfl
   | _=>cases h
  | _=>cases h
 | _=>cases h
theorem uEn{tm:Tm}{L:ucd}{op:BinOp}{t:TypeId}{x y:Operand}{K:Value->Bool}(h:uHu P tm op t x y K=true):∃v,K v=true/\Reads P tm L [x,y] (fun ρ=>do eqGuard op t x y (ρ x) (ρ y);binOp op t (ρ x) (ρ y)) v:=by
 unfold uHu at h;obtain⟨a,ha,h⟩:=uy h;obtain⟨b,hb,h⟩:=uy h;have a1:∀op:BinOp,op ≠ .eql->op ≠ .neq->uGo op a b K=true->∃v,K v=true/\Reads P tm L [x,y] (fun ρ=>do eqGuard op t x y (ρ x) (ρ y);binOp op t (ρ x) (ρ y)) v:=by
  intro op h1 h2 h;obtain⟨v,hv,hr⟩:=uEm (P:=P) h;refine⟨v,hv,fun φ w ρ ho a0=>?_⟩
  obtain⟨k1,k2⟩:=hr φ (ρ x) (ρ y) t w (ho x (by simp) _ ha) (ho y (by simp) _ hb)
  refine⟨v,?_,k1⟩;simp only[aD,ut8 h1 h2,aA];exact k2
 cases op with
 | eql=>
  obtain⟨r,hr,hk⟩:=uwr (P:=P) h;refine⟨_,hr,fun φ w ρ ho a0=>?_⟩
  obtain⟨k1,k2,k3⟩:=hk φ (ρ x) (ρ y) w (ho x (by simp) _ ha) (ho y (by simp) _ hb)
  refine⟨_,?_,.bool _⟩;simp only[aD,un3 k1,aA];exact k2
 | neq=>
  obtain⟨r,hr,hk⟩:=uwr (P:=P) h;have hr:=udo hr;refine⟨_,hr,fun φ w ρ ho a0=>?_⟩
  obtain⟨k1,k2,k3⟩:=hk φ (ρ x) (ρ y) w (ho x (by simp) _ ha) (ho y (by simp) _ hb)
  refine⟨_,?_,.bool _⟩;simp only[aD,un3 k1,aA];exact k3
 | _=>exact a1 _ (by simp) (by simp) h
theorem uG2{tm:Tm}{L:ucd}{op:UnOp}{x:Operand}{K:Value->Bool}(h:unE tm op x K=true):∃v,K v=true/\Reads P tm L [x] (fun ρ=>Op.unary op (ρ x)) v:=by
 unfold unE at h;obtain⟨a,ha,h⟩:=uy h;cases op with
 | not=>
  cases a with
  | bool b=>
   refine⟨_,udo h,fun φ w ρ ho hr=>⟨_,?_,.bool _⟩⟩
   simp only[(ho x (by simp) _ ha).vAt]
   rfl
  | _=>cases h
 | neg=>
  cases a with
  | int k n=>
   refine⟨_,ugt h,fun φ w ρ ho hr=>⟨_,?_,.int _ _⟩⟩
   simp only[(ho x (by simp) _ ha).vAc]
   rw[uwn];simp[Op.unary,Op.intArith]
  | _=>cases h
 | _=>cases h
theorem uAw{tm:Tm}{L:ucd}{a1 a0:TypeId}{x:Operand}{K:Value->Bool}(h:uAg P tm a1 a0 x K=true):∃v,K v=true/\Reads P tm L [x] (fun ρ=>convert a1 a0 (ρ x)) v:=by
 unfold uAg at h;obtain⟨a,ha,h⟩:=uy h;split at h
 ·rename_i s hs
  split at h
  ·rename_i d hd
   split at h
   ·rename_i k
    cases a with
    | int j n=>
     refine⟨_,ugt h,fun φ w ρ ho hr=>⟨_,?_,.int _ _⟩⟩
     simp only[(ho x (by simp) _ ha).vAc]
     simp only[convert,aD,ur hs,ur hd,aA];rfl
    | _=>cases h
   ·cases a with
    | string b=>
     refine⟨_,h,fun φ w ρ ho hr=>⟨_,?_,.string _⟩⟩
     simp only[(ho x (by simp) _ ha).vAg]
     simp only[convert,aD,ur hs,ur hd,aA];cases s<;>rfl
    | _=>cases h
   ·cases h
  ·cases h
 ·cases h
theorem uEo{tm:Tm}{L:ucd}{fn:Fn}{a c:Array Operand}{K:Value->Bool}(h:uHv tm fn a c K=true):∃v,K v=true/\Reads P tm L (a.toList++c.toList) (fun ρ=>Instr.makeFunc fn (a.map ρ) (c.map ρ)) v:=by
 unfold uHv at h;split at h
 ·obtain⟨va,ha,h⟩:=udq h
  obtain⟨vc,hc,h⟩:=udq h;refine⟨_,h,fun φ w ρ ho hr=>⟨_,rfl,.func ?_ ?_⟩⟩
  ·have:=ugu (ρ:=ρ) (φ:=φ) ha fun y hy=>ho y (by simp[hy])
   simpa using this
  ·have:=ugu (ρ:=ρ) (φ:=φ) hc fun y hy=>ho y (by simp[hy])
   simpa using this
 ·cases h
theorem ucm{v:Value}{K:Nat->Bool}(h:ujp v K=true):∃k n,v = .int k (.ofNat n)/\K n=true:=by
 unfold ujp at h;split at h
 ·split at h
  ·exact⟨_,_,rfl,h⟩
  ·cases h
 ·cases h
theorem urx{v:Value}{K:List Value->Bool}(h:asAgg v K=true):∃cs,v = .agg cs/\K cs.toList=true:=by
 unfold asAgg at h;split at h
 ·exact⟨_,rfl,h⟩
 ·cases h
theorem ul1{v:Value}{K:List UInt8->Bool}(h:uwb v K=true):∃s,v = .string s/\K (bytesOf s)=true:=by
 unfold uwb at h;split at h
 ·exact⟨_,rfl,h⟩
 ·cases h
theorem uh0{v:Value}{Kn:Nat->Nat->Bool}{K:Nat->Nat->Nat->Nat->Bool}(h:utz v Kn K=true):(∃l c,v = .slice none l c/\Kn l c=true)\/∃g off l c,v = .slice (some ⟨g,off,none⟩) l c/\K g off l c=true:=by
 unfold utz at h;split at h
 ·split at h
  ·exact .inl ⟨_,_,rfl,h⟩
  ·obtain⟨h1,h2⟩:=uds h
   exact .inr ⟨_,_,_,_,by rw[h1],h2⟩
 ·cases h
theorem ut9{tm:Tm}{L:ucd}{s:TypeId}{x:Operand}{f:Nat}{K:Value->Bool}(h:ulv P tm s x f K=true):∃v,K v=true/\Reads P tm L [x] (fun ρ=>Instr.fieldAt s (ρ x) f) v:=by
 unfold ulv at h;obtain⟨a,ha,h⟩:=uy h;obtain⟨g,off,e0,h⟩:=uf2 h;rw[e0]at ha;obtain⟨fs,a1,h⟩:=ukl h;rw[ubh]at h;split at h
 ·rename_i fd hf
  obtain⟨n,h,_,hn⟩:=uat h;cases n with
  | zero=>cases h
  | succ n=>
   refine⟨_,uw (K:=fun o=>K (ptr g o)) h,fun φ w ρ ho hr=>?_⟩
   obtain⟨im,hi,he⟩:=(ho x (by simp) _ ha).vBk
   have a0:fs[f]? = some fd:=by rw[<-aH];exact hf
   refine⟨.pointer (some ⟨im.b,im.d+(off+fd.offset),none⟩),?_,.ptr hi⟩;simp only[he,Instr.fieldAt,aD,ur a1,aA,a0,Instr.sureAddr,fieldPlace,Sem.run_pure,hn];rw[if_neg (by simp)]
   simp only[Sem.run_pure,aA];congr 3
   unfold Addr.add;split
   ·rename_i h0;rw[h0];simp
   ·simp[Nat.add_assoc]
 ·cases h
theorem uwt{tm:Tm}{L:ucd}{s:TypeId}{x:Operand}{f:Nat}{K:Value->Bool}(h:urn P tm s x f K=true):∃v,K v=true/\Reads P tm L [x] (fun ρ=>Instr.field s (ρ x) f) v:=by
 unfold urn at h;obtain⟨a,ha,h⟩:=uy h;obtain⟨cs,e0,h⟩:=urx h;rw[e0]at ha;obtain⟨fs,a1,h⟩:=ukl h;rw[ubh]at h;split at h
 ·rename_i fd hf
  obtain⟨v,hv,hp⟩:=uru h;refine⟨v,hv,fun φ w ρ ho hr=>?_⟩
  obtain⟨a',e,a2⟩:=(ho x (by simp) _ ha).vCm
  obtain⟨v',k1,k2⟩:=hp φ a' w a2;have a0:fs[f]? = some fd:=by rw[<-aH];exact hf
  exact⟨v',by simp[Instr.field,ur a1,a0,e,Go.asAgg,k1],k2⟩
 ·cases h
end
section
variable {P:Program}
theorem uua{tm:Tm}{L:ucd}{ty:TypeId}{x i:Operand}{K:Value->Bool}(h:ulw P tm ty x i K=true):∃v,K v=true/\Reads P tm L [x,i] (fun ρ=>Instr.indexAt ty (ρ x) (ρ i)) v:=by
 unfold ulw at h;obtain⟨a,ha,h⟩:=uy h;obtain⟨b,hb,h⟩:=uy h;obtain⟨k,n,e0,h⟩:=ucm h;rw[e0]at hb;split at h
 ·rename_i d hd
  split at h
  ·rename_i e
   rcases uh0 h with⟨l,c,_,h0⟩|⟨g,off,l,c,e0,h0⟩
   ·cases h0
   have h:=h0;rw[e0]at ha;rw[uk]at h;obtain⟨h1,h⟩:=h;have h1:=uW.1 h1;obtain⟨z,h,_,hz⟩:=uat h;refine⟨_,uw (K:=fun o=>K (ptr g o)) h,fun φ w ρ ho hr=>?_⟩
   obtain⟨im,o',c',hi,he,a1,a2,a3,a4⟩:=(ho x (by simp) _ ha).vAu
   have ei:=(ho i (by simp) _ hb).vAc
   have a0:o'=im.d+off:=by
    rcases a4 with a4|a4
    ·exact a4.1
    ·omega
   refine⟨.pointer (some ⟨im.b,im.d+(off+n*z),none⟩),?_,.ptr hi⟩;simp only[he,ei,Instr.indexAt,aD,Sem.run_pure,asIntOf,ur hd,aA,hz,Int.ofNat_eq_natCast,Int.toNat_natCast];rw[if_pos (by omega)]
   simp only[aD,hz,aA,Sem.run_pure];congr 3
   unfold Addr.add;split
   ·rename_i h0;rw[h0,a0];simp
   ·rw[a0];simp[Nat.add_assoc]
  ·rename_i len e
   obtain⟨g,off,e0,h⟩:=uf2 h;rw[e0]at ha;rw[uk]at h;obtain⟨h1,h⟩:=h;have h1:=uW.1 h1;obtain⟨z,h,_,hz⟩:=uat h;refine⟨_,uw (K:=fun o=>K (ptr g o)) h,fun φ w ρ ho hr=>?_⟩
   obtain⟨im,hi,he⟩:=(ho x (by simp) _ ha).vBk
   have ei:=(ho i (by simp) _ hb).vAc
   refine⟨.pointer (some ⟨im.b,im.d+(off+n*z),none⟩),?_,.ptr hi⟩;simp only[he,ei,Instr.indexAt,Instr.sureAddr,aD,Sem.run_pure,asIntOf,ur hd,aA,hz,Int.ofNat_eq_natCast,Int.toNat_natCast];rw[if_pos (by omega)]
   simp only[aD,hz,aA,Sem.run_pure];congr 3
   unfold Addr.add;split
   ·rename_i h0;rw[h0];simp
   ·simp[Nat.add_assoc]
  ·cases h
 ·cases h
theorem uwu{tm:Tm}{L:ucd}{ty:TypeId}{x i:Operand}{K:Value->Bool}(h:uro P tm ty x i K=true):∃v,K v=true/\Reads P tm L [x,i] (fun ρ=>Instr.index ty (ρ x) (ρ i)) v:=by
 unfold uro at h;obtain⟨a,ha,h⟩:=uy h;obtain⟨b,hb,h⟩:=uy h;obtain⟨k,n,e0,h⟩:=ucm h;rw[e0]at hb;split at h
 ·rename_i d hd
  split at h
  ·rename_i len e
   obtain⟨cs,e0,h⟩:=urx h;rw[e0]at ha;rw[uk]at h;obtain⟨h1,h⟩:=h;have h1:=uW.1 h1;obtain⟨z,h,_,hz⟩:=uat h;obtain⟨v,hv,hp⟩:=uru h;refine⟨v,hv,fun φ w ρ ho hr=>?_⟩
   obtain⟨a',ea,a0⟩:=(ho x (by simp) _ ha).vCm
   have ei:=(ho i (by simp) _ hb).vAc
   obtain⟨v',k1,k2⟩:=hp φ a' w a0;refine⟨v',?_,k2⟩;simp only[ea,ei,Instr.index,aD,Sem.run_pure,asIntOf,ur hd,aA,Int.ofNat_eq_natCast,Int.toNat_natCast];rw[if_pos (by omega)]
   simp only[aD,hz,aA,k1]
  ·obtain⟨s,e0,h⟩:=ul1 h
   rw[e0]at ha;rw[ubh]at h;split at h
   ·rename_i u hu
    refine⟨_,uw (K:=fun n=>K (.int .u8 (.ofNat n))) h,fun φ w ρ ho hr=>?_⟩
    have ea:=(ho x (by simp) _ ha).vAg
    have ei:=(ho i (by simp) _ hb).vAc
    refine⟨_,?_,.int _ _⟩;have hs:s[n]? = some u:=by
     obtain⟨⟨l⟩⟩:=s;have hn:n<l.length:=(aI.1 hu).1;have hv:=(aI.1 hu).2;rw[getElem?_pos (⟨⟨l⟩⟩:ByteArray) n hn];congr 1
    simp only[ea,ei,Instr.index,aD,Sem.run_pure,asIntOf,ur hd,aA,Int.ofNat_eq_natCast,Int.toNat_natCast];rw[if_pos (by omega),hs]
    rfl
   ·cases h
  ·cases h
 ·cases h
theorem ui3{tm:Tm}{x:Option Operand}{d:Nat}{K:Nat->Bool}(h:uD9 tm x d K=true):∃n,K n=true/\((x=none/\n=d)\/∃y,x=some y/\∀(φ:Phi) (ρ:Operand->Value),OR φ tm ρ y->∃k,ρ y = .int k (.ofNat n)):=by
 unfold uD9 at h;split at h
 ·exact⟨d,h,.inl ⟨rfl,rfl⟩⟩
 ·rename_i y
  obtain⟨v,hv,h⟩:=uy h;obtain⟨k,n,e0,h0⟩:=ucm h;refine⟨n,h0,.inr ⟨y,rfl,fun φ ρ ho=>?_⟩⟩
  rw[e0]at hv;exact⟨k,(ho _ hv).vAc⟩
theorem ubd{k:IntKind}{n y:Nat}(h:n<=y)(c:BoundsCode)(w:World):(Instr.sliceBound (.int k (.ofNat n)) y c).run P w = .ok n w:=by
 simp only[Instr.sliceBound,asIntOf,aD,Sem.run_pure,aA,Int.ofNat_eq_natCast];rw[if_pos (by omega)]
 simp
theorem ugv{b:Bool}{len cap l h:Nat}{lo hi:Option Value}(hh:(hi=none/\h=len)\/∃k,hi=some (.int k (.ofNat h))/\h<=cap)(hl:(lo=none/\l=0)\/∃k,lo=some (.int k (.ofNat l))/\l<=h)(w:World):(Instr.sliceBounds b len cap lo hi none).run P w = .ok (l,h,cap) w:=by
 unfold Instr.sliceBounds;rcases hh with⟨rfl,rfl⟩|⟨k,rfl,h1⟩
 ·rcases hl with⟨rfl,rfl⟩|⟨k2,rfl,h2⟩
  ·rfl
  ·simp only[aD,Sem.run_pure,aA,ubd h2]
 ·rcases hl with⟨rfl,rfl⟩|⟨k2,rfl,h2⟩
  ·simp only[aD,Sem.run_pure,aA,ubd h1]
  ·simp only[aD,Sem.run_pure,aA,ubd h1,ubd h2]
theorem extract_eq(s:ByteArray)(l h:Nat):s.extract l h=⟨⟨((bytesOf s).drop l).take (h-l)⟩⟩:=by
 refine uf3 ?_;unfold bytesOf;rw[ByteArray.data_extract,Array.toList_extract]
theorem uEp{tm:Tm}{t:Tr}{ty:TypeId}{x:Operand}{lo hi:Option Operand}{K:Value->Bool}(h:uHw P tm t ty x lo hi K=true):∃v,K v=true/\Reads P tm t.get (x::(lo.toList++hi.toList)) (fun ρ=>Instr.sliceAt ty (ρ x) (lo.map ρ) (hi.map ρ) none) v:=by
 unfold uHw at h;obtain⟨a,ha,h⟩:=uy h;have a7:∀ {φ:Phi} {ρ:Operand->Value},(∀y∈x::(lo.toList++hi.toList),OR φ tm ρ y)->∀ {n d:Nat},((hi=none/\n=d)\/∃y,hi=some y/\∀(φ:Phi) (ρ:Operand->Value),OR φ tm ρ y->∃k,ρ y = .int k (.ofNat n))->(hi.map ρ=none/\n=d)\/∃k,hi.map ρ=some (.int k (.ofNat n)):=by
  intro φ ρ ho n d hn;rcases hn with⟨rfl,e⟩|⟨y,rfl,hy⟩
  ·exact .inl ⟨rfl,e⟩
  ·obtain⟨k,hk⟩:=hy φ ρ (ho y (by simp))
   exact .inr ⟨k,by rw[Option.map_some,hk]⟩
 have a6:∀ {φ:Phi} {ρ:Operand->Value},(∀y∈x::(lo.toList++hi.toList),OR φ tm ρ y)->∀ {n d:Nat},((lo=none/\n=d)\/∃y,lo=some y/\∀(φ:Phi) (ρ:Operand->Value),OR φ tm ρ y->∃k,ρ y = .int k (.ofNat n))->(lo.map ρ=none/\n=d)\/∃k,lo.map ρ=some (.int k (.ofNat n)):=by
  intro φ ρ ho n d hn;rcases hn with⟨rfl,e⟩|⟨y,rfl,hy⟩
  ·exact .inl ⟨rfl,e⟩
  ·obtain⟨k,hk⟩:=hy φ ρ (ho y (by simp))
   exact .inr ⟨k,by rw[Option.map_some,hk]⟩
 cases a with
 | string s=>
  simp only[]at h;split at h
  ·rename_i d hd
   split at h
   ·obtain⟨hh,h,h1⟩:=ui3 h
    obtain⟨l,h,h2⟩:=ui3 h;rw[uk,uk,uah]at h;obtain⟨h3,h4,h⟩:=h;have h3:=uW.1 h3;have h4:=uW.1 h4;obtain⟨h,_⟩:=ub5 _ _ _ _ h;refine⟨_,h,fun φ w ρ ho hr=>⟨_,?_,.string _⟩⟩
    have ea:=(ho x (by simp) _ ha).vAg
    have b1:=a7 ho h1;have b2:=a6 ho h2;have a9:s.size=(bytesOf s).length:=by obtain⟨⟨d⟩⟩:=s;rfl
    rw[uah,<-a9]at b1;simp only[ea,Instr.sliceAt,Instr.slice,aD,ur hd,aA,Option.isSome_none,Bool.false_eq_true,if_false];rw[ugv (l:=l) (h:=hh) (b1.imp id fun⟨k,e⟩=>⟨k,e,by omega⟩) (b2.imp id fun⟨k,e⟩=>⟨k,e,h3⟩)]
    simp only[aA,Sem.run_pure];rw[extract_eq]
   ·cases h
  ·cases h
 | slice a len cap=>
  simp only[]at h;obtain⟨e,he,h⟩:=uc4 h;obtain⟨hh,h,h1⟩:=ui3 h;obtain⟨l,h,h2⟩:=ui3 h;rw[uk,uk]at h;obtain⟨h3,h4,h⟩:=h;have h3:=uW.1 h3;have h4:=uW.1 h4;obtain⟨n,h,_,hn⟩:=uat h;have h:=uw h;have h:=uw h;cases a with
  | none=>
   refine⟨_,h,fun φ w ρ ho hr=>⟨_,?_,.nils _ _⟩⟩
   have ea:=(ho x (by simp) _ ha).vAx
   have b1:=a7 ho h1;have b2:=a6 ho h2;simp only[ea,Instr.sliceAt,Instr.slice,aD,ur he,aA];rw[ugv (l:=l) (h:=hh) (b1.imp id fun⟨k,e⟩=>⟨k,e,h4⟩) (b2.imp id fun⟨k,e⟩=>⟨k,e,h3⟩)]
   simp only[aA,aD,hn,Sem.run_pure,Option.map_none,ite_self]
  | some a=>
   obtain⟨e1,h⟩:=uds h;obtain⟨c,el,ex,un,top,st,hg,h⟩:=ucl h;rw[uk]at h;obtain⟨hx,h⟩:=h;rw[e1]at ha;generalize a.block=g at *;generalize a.off=off at *;refine⟨_,uw (K:=fun o=>K (sli g o (hh-l) (cap-l))) h,fun φ w ρ ho hr=>?_⟩
   obtain⟨im,o',c',a8,ea,a1,a2,a3,a4⟩:=(ho x (by simp) _ ha).vAu
   obtain⟨b3,k1,k2,k3,k4,k5⟩:=hr.ob _ _ hg;rw[a8]at k1;injection k1 with k1;subst k1;have b1:=a7 ho h1;have b2:=a6 ho h2;refine⟨.slice (some ⟨im.b,if c'=l then o' else o'+l*n,none⟩) (hh-l) (c'-l),?_,.sli a8 (by omega) (by omega) (fun h=>by rw[a3 h]) ?_⟩
   ·simp only[ea,Instr.sliceAt,Instr.slice,aD,ur he,aA]
    rw[ugv (l:=l) (h:=hh) (b1.imp id fun⟨k,e⟩=>⟨k,e,by omega⟩) (b2.imp id fun⟨k,e⟩=>⟨k,e,h3⟩)]
    simp only[aA,aD,hn,Sem.run_pure,Option.map_some];congr 2
    split
    ·rfl
    ·unfold Addr.add
     split
     ·rename_i h0;rw[h0];simp
     ·rfl
   ·by_cases hc:c'=l
    ·exact .inr (by omega)
    ·rw[if_neg hc]
     rcases a4 with⟨a4,a5⟩|a4
     ·refine .inl ⟨by rw[a4];omega,fun a0=>?_⟩
      rw[k2]at a0;have b0:un=n:=by
       rw[a0]at hx;exact uJ.1 hx
      have:=a5 (by rw[k2,a0])
      rw[k3 a0,b0]at this ⊢;have hm:(c'-l)*n+l*n=c'*n:=by rw[<-Nat.add_mul];congr 1;omega
      omega
     ·omega
 | _=>cases h
theorem up7{len cap l h m:Nat}{lo:Option Value}{k1 k2:IntKind}(hm:m<=cap)(hh:h<=m)(hl:(lo=none/\l=0)\/∃k,lo=some (.int k (.ofNat l))/\l<=h)(w:World):(Instr.sliceBounds true len cap lo (some (.int k1 (.ofNat h))) (some (.int k2 (.ofNat m)))).run P w = .ok (l,h,m) w:=by
 unfold Instr.sliceBounds;rcases hl with⟨rfl,rfl⟩|⟨k2,rfl,h2⟩
 ·simp only[aD,Sem.run_pure,aA,ubd hm,ubd hh]
 ·simp only[aD,Sem.run_pure,aA,ubd hm,ubd hh,ubd h2]
theorem uAx{tm:Tm}{t:Tr}{ty:TypeId}{x mx:Operand}{lo hi:Option Operand}{K:Value->Bool}(h:uAh P tm t ty x lo hi mx K=true):∃v,K v=true/\Reads P tm t.get (x::(lo.toList++hi.toList++[mx])) (fun ρ=>Instr.sliceAt ty (ρ x) (lo.map ρ) (hi.map ρ) (some (ρ mx))) v:=by
 unfold uAh at h;obtain⟨a,ha,h⟩:=uy h;cases a with
 | slice a len cap=>
  simp only[]at h;cases a with
  | none=>cases h
  | some a=>
   simp only[]at h;obtain⟨e,he,h⟩:=uc4 h;obtain⟨mv,a8,h⟩:=uy h;obtain⟨k2,m,b0,h⟩:=ucm h;rw[b0]at a8;cases hi with
   | none=>cases h
   | some hi=>
    simp only[]at h;obtain⟨hv,a6,h⟩:=uy h;obtain⟨k1,hh,a9,h⟩:=ucm h;rw[a9]at a6;obtain⟨l,h,h2⟩:=ui3 h;rw[uk,uk,uk]at h;obtain⟨h3,h4,h5,h⟩:=h;have h3:=uW.1 h3;have h4:=uW.1 h4;have h5:=uW.1 h5;obtain⟨n,h,_,hn⟩:=uat h;have h:=uw h;have h:=uw h;obtain⟨e1,h⟩:=uds h;obtain⟨c,el,ex,un,top,st,hg,h⟩:=ucl h;rw[uk]at h;obtain⟨hx,h⟩:=h;rw[e1]at ha;generalize a.block=g at *;generalize a.off=off at *;refine⟨_,uw (K:=fun o=>K (sli g o (hh-l) (m-l))) h,fun φ w ρ ho hr=>?_⟩
    obtain⟨im,o',c',a7,ea,a1,a2,a3,a4⟩:=(ho x (by simp) _ ha).vAu
    obtain⟨b4,i1,i2,i3,i4,i5⟩:=hr.ob _ _ hg;rw[a7]at i1;injection i1 with i1;subst i1;have em:=(ho mx (by simp) _ a8).vAc
    have eh:=(ho hi (by simp) _ a6).vAc
    have b2:(lo.map ρ=none/\l=0)\/∃k,lo.map ρ=some (.int k (.ofNat l)):=by
     rcases h2 with⟨rfl,e⟩|⟨y,rfl,hy⟩
     ·exact .inl ⟨rfl,e⟩
     ·obtain⟨k,hk⟩:=hy φ ρ (ho y (by simp))
      exact .inr ⟨k,by rw[Option.map_some,hk]⟩
    refine⟨.slice (some ⟨im.b,if m=l then o' else o'+l*n,none⟩) (hh-l) (m-l),?_,.sli a7 (by omega) ab (fun _=>rfl) ?_⟩
    ·simp only[ea,em,eh,Option.map_some,Instr.sliceAt,Instr.slice,aD,ur he,aA]
     rw[up7 (l:=l) (h:=hh) (m:=m) (by omega) h4 (b2.imp id fun⟨k,e⟩=>⟨k,e,h3⟩)]
     simp only[aA,aD,hn,Sem.run_pure,Option.map_some];congr 2
     split
     ·rfl
     ·unfold Addr.add
      split
      ·rename_i h0;rw[h0];simp
      ·rfl
    ·by_cases hc:m=l
     ·exact .inr (by omega)
     ·rw[if_neg hc]
      rcases a4 with⟨a4,a5⟩|a4
      ·refine .inl ⟨by rw[a4];omega,fun a0=>?_⟩
       rw[i2]at a0;have b1:un=n:=by
        rw[a0]at hx;exact uJ.1 hx
       have:=a5 (by rw[i2,a0])
       rw[i3 a0,b1]at this ⊢;have hm:(m-l)*n+l*n=m*n:=by rw[<-Nat.add_mul];congr 1;omega
       have b3:m*n<=c'*n:=aF _ (by omega)
       omega
      ·omega
 | _=>cases h
end
section
variable {P:Program}
theorem ucn{t:TypeId}{k:Value}(h:vA4 P t k=true):(∃j n,(∃kk,P.underlying t=some (.int kk))/\k = .int j n)\/∃s,P.underlying t=some .string/\k = .string s:=by
 unfold vA4 at h;split at h
 ·rename_i d hd
  split at h
  ·split at h
   ·exact .inl ⟨_,_,⟨_,hd⟩,rfl⟩
   ·cases h
  ·split at h
   ·exact .inr ⟨_,hd,rfl⟩
   ·cases h
  ·cases h
 ·cases h
theorem run_checkKey{t:TypeId}{k:Value}(h:vA4 P t k=true)(e:Bool)(w:World):(Instr.checkKey e 10000 t k).run P w = .ok () w:=by
 rcases ucn h with⟨j,n,⟨kk,hd⟩,rfl⟩|⟨s,hd,rfl⟩
 ·rw[Instr.checkKey,aD,ur hd];rfl
 ·rw[Instr.checkKey,aD,ur hd];rfl
theorem ul2{t:TypeId}{k:Value}(hk:vA4 P t k=true):∀ {es:List MapEntry} {i:Nat} {K:Option (Nat×Value)->Bool},unt k es i K=true->∃r,K r=true /\
 ∀(φ:Phi) (a0:List MapEntry),RMs φ es a0->∃r',Instr.findNow ((P.underlying t).getD .invalid) k a0 i=some r'/\((r=none/\r'=none)\/∃j v v',r=some (j,v)/\r'=some (j,v')/\RV φ v v'/\i<=j/\∃e e',es[j-i]? = some e/\a0[j-i]? = some e'/\e.val=v/\e'.val=v'/\RV φ e.key e'.key/\e'.key=k)
 | [],i,K,h=>⟨none,h,fun φ a0 hr=>by cases hr;exact⟨none,rfl,.inl ⟨rfl,rfl⟩⟩⟩
 | e::es,i,K,h=>by
  have step:∀(b:Bool),(∀(φ:Phi) (e':MapEntry),RV φ e.key e'.key->Instr.sameNow ((P.underlying t).getD .invalid) k e'.key=some b/\(b=true->e'.key=k))->(if b=true then K (some (i,e.val))=true else unt k es (i+1) K=true)->∃r,K r=true /\
   ∀(φ:Phi) (a0:List MapEntry),RMs φ (e::es) a0->∃r',Instr.findNow ((P.underlying t).getD .invalid) k a0 i=some r'/\((r=none/\r'=none)\/∃j v v',r=some (j,v)/\r'=some (j,v')/\RV φ v v'/\i<=j/\∃e2 e',(e::es)[j-i]? = some e2/\a0[j-i]? = some e'/\e2.val=v/\e'.val=v'/\RV φ e2.key e'.key/\e'.key=k):=by
   intro b hb h;cases b with
   | true=>
    rw[if_pos rfl]at h;refine⟨_,h,fun φ a0 hr=>?_⟩
    cases hr with
    | @cons _ x' _ l' h0 h1 h2 h3=>
     obtain⟨g1,g2⟩:=hb φ x' h0;refine⟨some (i,x'.val),by rw[Instr.findNow,g1],.inr ⟨i,e.val,x'.val,rfl,rfl,h1,ab,e,x',by simp,by simp,rfl,rfl,h0,g2 rfl⟩⟩
   | false=>
    rw[if_neg (by simp)]at h
    obtain⟨r,hr,hh⟩:=ul2 hk h;refine⟨r,hr,fun φ a0 hr=>?_⟩
    cases hr with
    | @cons _ x' _ l' h0 h1 h2 h3=>
     obtain⟨g1,g2⟩:=hb φ x' h0;obtain⟨r',k1,k2⟩:=hh φ l' h3;refine⟨r',by rw[Instr.findNow,g1];exact k1,?_⟩
     rcases k2 with k2|⟨j,v,v',a1,a2,a3,a4,e2,e3,a5,a6,a7⟩
     ·exact .inl k2
     ·refine .inr ⟨j,v,v',a1,a2,a3,by omega,e2,e3,?_,?_,a7⟩
      ·rw[show j-i=(j-(i+1))+1 by omega];simpa using a5
      ·rw[show j-i=(j-(i+1))+1 by omega];simpa using a6
  rcases ucn hk with⟨j,n,⟨kk,hd⟩,rfl⟩|⟨s,hd,rfl⟩
  ·unfold unt at h
   simp only[]at h;split at h
   ·rename_i l b hkey
    rw[uk]at h;obtain⟨h1,h⟩:=h;obtain rfl:=ufz h1;refine step (decide (n=b)) (fun φ e' hr=>?_) ?_
    ·rw[hkey]at hr
     rw[hr.vAc,hd];refine⟨by simp[Instr.sameNow];rfl,fun hb=>by simpa using(of_decide_eq_true hb).symm⟩
    ·rcases uab h with⟨h2,h⟩|⟨h2,h⟩
     ·rw[urr]at h2
      rw[h2,if_pos rfl];exact h
     ·rw[urr]at h2
      rw[h2,if_neg (by simp)];exact h
   ·cases h
  ·unfold unt at h
   simp only[]at h;split at h
   ·rename_i b hkey
    refine step (decide (bytesOf s=bytesOf b)) (fun φ e' hr=>?_) ?_
    ·rw[hkey]at hr
     rw[hr.vAg,hd];have a8:∀x y:ByteArray,bytesOf x=bytesOf y↔x=y:=fun x y=>⟨fun e=>(uf3 e).trans (uf3 (s:=y) rfl).symm,fun e=>by rw[e]⟩
     refine⟨?_,fun hb=>by rw[(a8 _ _).1 (of_decide_eq_true hb)]⟩
     simp only[Option.getD_some,Instr.sameNow];congr 1
     rw[beq_toListBytes,toList_data,toList_data];by_cases he:bytesOf s=bytesOf b
     ·simp[he]
     ·rw[aQ he]
      exact aw.2 he
    ·rcases uab h with⟨h2,h⟩|⟨h2,h⟩
     ·rw[unz]at h2
      rw[h2,if_pos rfl];exact h
     ·rw[unz]at h2
      rw[h2,if_neg (by simp)];exact h
   ·cases h
theorem uc5{w:World}{b:Nat}{es:Array MapEntry}{c:Nat}(h:w.heap[b]? = some (.map es c)):(getObj b).run P w = .ok (.map es c) w:=by simp[getObj,Sem.run,h]
theorem run_findKey{t:TypeId}{d:TypeDesc}(hd:P.underlying t=some d){k:Value}{es:List MapEntry}{r:Option (Nat×Value)}(h:Instr.findNow d k es 0=some r)(w:World):(Instr.findKey t k es).run P w = .ok r w:=by
 unfold Instr.findKey;rw[aD,ur hd];simp only[aA,h];rfl
theorem RV.key{φ:Phi}{t:TypeId}{k v':Value}(hk:vA4 P t k=true)(h:RV φ k v'):v'=k:=by
 rcases ucn hk with⟨j,n,_,rfl⟩|⟨s,_,rfl⟩
 ·exact h.vAc
 ·exact h.vAg
theorem uCw{v:Value}{ok c:Bool}{K:Value->Bool}(h:okV v ok c K=true):∃r,K r=true/\∀(φ:Phi) (v':Value),RV φ v v'->RV φ r (if c=true then .tuple #[v',.bool ok]else v'):=by
 unfold okV at h;cases c with
 | true=>exact⟨_,h,fun φ v' hv=> .tuple (.cons hv (.cons (.bool _) .nil))⟩
 | false=>exact⟨_,h,fun φ v' hv=>hv⟩
theorem uub{tm:Tm}{t:Tr}{ty:TypeId}{x i:Operand}{c:Bool}{K:Value->Bool}(h:ulx P tm t ty x i c K=true):∃v,K v=true/\Reads P tm t.get [x,i] (fun ρ=>Instr.lookup ty (ρ x) (ρ i) c) v:=by
 unfold ulx at h;obtain⟨a,ha,h⟩:=uy h;obtain⟨k,hk,h⟩:=uy h;obtain⟨kt,e,hm,h⟩:=uwp h;rw[uk]at h;obtain⟨a1,h⟩:=h;obtain⟨d,hd⟩:∃d,P.underlying kt=some d:=by
  rcases ucn a1 with⟨_,_,⟨_,h⟩,_⟩|⟨_,h,_⟩<;>exact⟨_,h⟩
 have zero:∀(K:Value->Bool),zeroV P e (fun z=>okV z false c K)=true->∃v,K v=true/\∀(φ:Phi) (w:World),∃z v',(zeroValue e).run P w = .ok z w/\v'=(if c=true then Value.tuple #[z,.bool false]else z)/\RV φ v v':=by
  intro K h;obtain⟨z,h,hz,a4⟩:=urt h;obtain⟨r,hr,a2⟩:=uCw h;exact⟨r,hr,fun φ w=>⟨z,_,a4 w,rfl,a2 φ z (hz φ)⟩⟩
 cases a with
 | map g=>
  simp only[]at h;cases g with
  | none=>
   obtain⟨v,hv,hz⟩:=zero K h;refine⟨v,hv,fun φ w ρ ho hr=>?_⟩
   obtain⟨z,v',z1,z2,z3⟩:=hz φ w;refine⟨v',?_,z3⟩;have ea:=(ho x (by simp) _ ha).vCe
   have ek:=RV.key a1 (ho i (by simp) _ hk)
   simp only[ea,ek,Instr.lookup,aD,ur hm,aA,Sem.run_pure,run_checkKey a1];rw[run_findKey hd (r:=none) rfl];simp only[aA,aD,z1,Sem.run_pure,z2]
  | some g=>
   obtain⟨es,cl,hg,h⟩:=ulz h;obtain⟨r,h,hf⟩:=ul2 a1 h;rw[hd]at hf;have real:∀(φ:Phi) (w:World),Rep φ t.get w->∀im,φ g=some im->∃a0,w.heap[im.b]? = some (.map a0 cl)/\RMs φ es a0.toList:=by
    intro φ w hr im hi;obtain⟨a5,a0,k1,k2,k3⟩:=hr.ob _ _ hg;rw[hi]at k1;injection k1 with k1;subst k1;exact⟨a0,k2,k3⟩
   cases r with
   | none=>
    obtain⟨v,hv,hz⟩:=zero K h;refine⟨v,hv,fun φ w ρ ho hr=>?_⟩
    obtain⟨z,v',z1,z2,z3⟩:=hz φ w;refine⟨v',?_,z3⟩;obtain⟨im,hi,ea⟩:=(ho x (by simp) _ ha).vBt
    have ek:=RV.key a1 (ho i (by simp) _ hk)
    obtain⟨a0,m1,m2⟩:=real φ w hr im hi;obtain⟨r',f1,f2⟩:=hf φ a0.toList m2;have:r'=none:=by
     rcases f2 with⟨_,f2⟩|⟨j,v,v',f2,_⟩
     ·exact f2
     ·cases f2
    subst this;simp only[ea,ek,Instr.lookup,aD,ur hm,aA,Sem.run_pure,uc5 m1,run_checkKey a1];rw[run_findKey hd (r:=none) f1];simp only[aA,aD,z1,Sem.run_pure,z2]
   | some p=>
    obtain⟨r,a3,a2⟩:=uCw h;refine⟨r,a3,fun φ w ρ ho hr=>?_⟩
    obtain⟨im,hi,ea⟩:=(ho x (by simp) _ ha).vBt
    have ek:=RV.key a1 (ho i (by simp) _ hk)
    obtain⟨a0,m1,m2⟩:=real φ w hr im hi;obtain⟨r',f1,f2⟩:=hf φ a0.toList m2;rcases f2 with⟨f2,_⟩|⟨j,v,v',f2,f3,f4,_⟩
    ·cases f2
    ·injection f2 with f2
     subst f2;subst f3;refine⟨_,?_,a2 φ v' f4⟩;simp only[ea,ek,Instr.lookup,aD,ur hm,aA,Sem.run_pure,uc5 m1,run_checkKey a1];rw[run_findKey hd f1];simp only[aA,aD,Sem.run_pure]
 | _=>cases h
end
section
variable {P:Program}
theorem uEq{tm:Tm}{t:Tr}{ty:TypeId}{x:Operand}{K:Value->Bool}{T:Array TypeId}{rt:TypeId}(hT:T[0]? = some ty)(h:uIu P tm t ty x K=true):∃v,K v=true/\Reads P tm t.get [x] (fun ρ=>Builtin.len_ T rt #[ρ x]) v:=by
 unfold uIu at h;obtain⟨a,ha,h⟩:=uy h;split at h
 ·rename_i d hd
  split at h
  ·obtain⟨s,e0,h⟩:=ul1 h
   rw[e0]at ha;have h:=uw (K:=fun n=>K (.int .i64 (.ofNat n))) h
   refine⟨_,h,fun φ w ρ ho hr=>⟨_,?_,.int _ _⟩⟩
   have ea:=(ho x (by simp) _ ha).vAg
   have a2:s.size=(bytesOf s).length:=by obtain⟨⟨d⟩⟩:=s;rfl
   simp[Builtin.len_,hT,ea,ur hd,goInt,a2,uah]
  ·split at h
   ·refine⟨_,h,fun φ w ρ ho hr=>⟨_,?_,.int _ _⟩⟩
    obtain⟨a',c',ea,_⟩:=(ho x (by simp) _ ha).vBf
    simp[Builtin.len_,hT,ea,ur hd,goInt]
   ·cases h
  ·split at h
   ·split at h
    ·refine⟨_,h,fun φ w ρ ho hr=>⟨_,?_,.int _ _⟩⟩
     have ea:=(ho x (by simp) _ ha).vCe
     simp[Builtin.len_,hT,ea,ur hd,goInt]
    ·rename_i g
     obtain⟨es,cl,hg,h⟩:=ulz h;have h:=uw (K:=fun n=>K (.int .i64 (.ofNat n))) h
     refine⟨_,h,fun φ w ρ ho hr=>⟨_,?_,.int _ _⟩⟩
     obtain⟨im,hi,ea⟩:=(ho x (by simp) _ ha).vBt
     obtain⟨a3,a0,k1,k2,k3⟩:=hr.ob _ _ hg;rw[hi]at k1;injection k1 with k1;subst k1;have hl:a0.size=es.length:=by
      have:∀ {a b:List MapEntry},RMs φ a b->a.length=b.length:=by
       intro a b a1;induction a1 with
       | nil=>rfl
       | cons _ _ _ _ ih=>simp[ih]
      rw[<-aM,this k3]
     simp[Builtin.len_,hT,ea,ur hd,goInt,uc5 k2,hl,uah]
   ·cases h
  ·cases h
 ·cases h
theorem uEr{tm:Tm}{t:Tr}{ty:TypeId}{x:Operand}{K:Value->Bool}{T:Array TypeId}{rt:TypeId}(hT:T[0]? = some ty)(h:uIv P tm t ty x K=true):∃v,K v=true/\Reads P tm t.get [x] (fun ρ=>Builtin.cap_ T rt #[ρ x]) v:=by
 unfold uIv at h;obtain⟨a,ha,h⟩:=uy h;obtain⟨e,hd,h⟩:=uc4 h;split at h
 ·split at h
  ·refine⟨_,h,fun φ w ρ ho hr=>⟨_,?_,.int _ _⟩⟩
   have ea:=(ho x (by simp) _ ha).vAx
   simp[Builtin.cap_,hT,ea,ur hd,goInt]
  ·rename_i n c a
   obtain⟨e1,h⟩:=uds h;obtain⟨cs,el,ex,un,top,st,hg,h⟩:=ucl h;cases ex with
   | true=>
    refine⟨_,h,fun φ w ρ ho hr=>⟨_,?_,.int _ _⟩⟩
    rw[e1]at ha;obtain⟨im,o',c',a0,ea,a1,a2,a3,a4⟩:=(ho x (by simp) _ ha).vAu
    obtain⟨a5,k1,k2,_⟩:=hr.ob _ _ hg;rw[a0]at k1;injection k1 with k1;subst k1;have:=a3 k2;subst this;simp[Builtin.cap_,hT,ea,ur hd,goInt]
   | false=>cases h
 ·cases h
theorem uwv{tm:Tm}{L:ucd}{b:Bool}{x y:Operand}{K:Value->Bool}{T:Array TypeId}{rt:TypeId}(h:uHx tm b x y K=true):∃v,K v=true/\Reads P tm L [x,y] (fun ρ=>if b=true then Builtin.max_ T rt #[ρ x,ρ y]else Builtin.min_ T rt #[ρ x,ρ y]) v:=by
 unfold uHx at h;obtain⟨u,hu,h⟩:=uy h;obtain⟨v,hv,h⟩:=uy h;split at h
 ·rename_i k a
  split at h
  ·rename_i k2 c
   rw[ukk,ukk]at h;cases b with
   | true=>
    simp only[cond_true]at h;rcases uab h with⟨h1,h⟩|⟨h1,h⟩
    ·refine⟨_,h,fun φ w ρ ho hr=>⟨_,?_,.int _ _⟩⟩
     have e1:=(ho x (by simp) _ hu).vAc
     have e2:=(ho y (by simp) _ hv).vAc
     have h1:=of_decide_eq_true h1;simp[Builtin.max_,Builtin.max2,e1,e2,h1]
    ·refine⟨_,h,fun φ w ρ ho hr=>⟨_,?_,.int _ _⟩⟩
     have e1:=(ho x (by simp) _ hu).vAc
     have e2:=(ho y (by simp) _ hv).vAc
     have h1:=of_decide_eq_false h1;simp[Builtin.max_,Builtin.max2,e1,e2,h1]
   | false=>
    simp only[cond_false]at h;rcases uab h with⟨h1,h⟩|⟨h1,h⟩
    ·refine⟨_,h,fun φ w ρ ho hr=>⟨_,?_,.int _ _⟩⟩
     have e1:=(ho x (by simp) _ hu).vAc
     have e2:=(ho y (by simp) _ hv).vAc
     have h1:=of_decide_eq_true h1;simp[Builtin.min_,Builtin.min2,e1,e2,h1]
    ·refine⟨_,h,fun φ w ρ ho hr=>⟨_,?_,.int _ _⟩⟩
     have e1:=(ho x (by simp) _ hu).vAc
     have e2:=(ho y (by simp) _ hv).vAc
     have h1:=of_decide_eq_false h1;simp[Builtin.min_,Builtin.min2,e1,e2,h1]
  ·cases h
 ·cases h
theorem uww(T:Array TypeId)(rt:TypeId)(l c:Nat):Builtin.unsafeSliceData_ T rt #[.slice none l c]=pure (.pointer none):=rfl
theorem uwx(T:Array TypeId)(rt:TypeId)(a:Addr)(l c:Nat):Builtin.unsafeSliceData_ T rt #[.slice (some a) l c]=(if c≠0 then pure (.pointer (some a))else do if(<-viewAt a.block).isSome then pure (.pointer (some a))else pure (.pointer (some ⟨<-newObj (.view a (<-elemOf rt)),0,none⟩))):=rfl
theorem uAy{tm:Tm}{L:ucd}{x:Operand}{K:Value->Bool}{T:Array TypeId}{rt:TypeId}(h:uEa tm x K=true):∃v,K v=true/\Reads P tm L [x] (fun ρ=>Builtin.unsafeSliceData_ T rt #[ρ x]) v:=by
 unfold uEa at h;obtain⟨u,hu,h⟩:=uy h;split at h
 ·rename_i a l c
  cases a with
  | none=>
   refine⟨_,h,fun φ w ρ ho hr=>⟨_,?_,.nilp⟩⟩
   simp only[(ho x (by simp) _ hu).vAx]
   rw[uww];rfl
  | some a=>
   cases c with
   | zero=>cases h
   | succ c=>
    refine⟨_,h,fun φ w ρ ho hr=>?_⟩
    have hx:=ho x (by simp) _ hu
    generalize hρ:ρ x=r at hx;cases hx with
    | @sli g off _ _ c' o' im h0 h1 h2 h3 h4=>
     have a0:o'=im.d+off:=by rcases h4 with h4|h4;exact h4.1;omega
     subst a0;refine⟨_,?_,.ptr h0⟩;simp only[hρ];rw[uwx,if_pos (by omega)]
     rfl
 ·cases h
theorem uEs{tm:Tm}{t:Tr}{b:Builtin}{T:Array TypeId}{rt:TypeId}{args:Array Operand}{cs:Array Bool}{K:Value->Bool}(h:uGp P tm t b T.toList args.toList K=true):∃v,K v=true /\
 ∀(φ:Phi) (w:World) (ρ:Operand->Value),(∀x∈args.toList,OR φ tm ρ x)->Rep φ t.get w->∃v',(builtin b T rt cs (args.map ρ)).run P w = .ok (.value v') w/\RV φ v v':=by
 unfold uGp at h;obtain⟨args⟩:=args;have fin:∀ {xs:List Operand} {v:Value} {s:(Operand->Value)->Sem Value},K v=true->Reads P tm t.get xs s v->xs=args->(∀ρ,builtin b T rt cs ((⟨args⟩:Array Operand).map ρ)=do pure (.value (<-s ρ)))->∃v,K v=true /\
  ∀(φ:Phi) (w:World) (ρ:Operand->Value),(∀x∈args,OR φ tm ρ x)->Rep φ t.get w->∃v',(builtin b T rt cs ((⟨args⟩:Array Operand).map ρ)).run P w = .ok (.value v') w/\RV φ v v':=by
  intro xs v s hv hr hx hs;refine⟨v,hv,fun φ w ρ ho a0=>?_⟩
  subst hx;obtain⟨v',k1,k2⟩:=hr φ w ρ ho a0;exact⟨v',by rw[hs,aD,k1];rfl,k2⟩
 match args,h with
 | [],h=>cases h
 | [x],h=>
  simp only[]at h;cases b with
  | len=>
   simp only[]at h;split at h
   ·cases h
   ·rename_i ty Ts hTs
    obtain⟨v,hv,hr⟩:=uEq (rt:=rt) (T:=T) (by rw[<-aH,hTs];rfl) h
    exact fin hv hr rfl fun ρ=>by simp[builtin]
  | cap=>
   simp only[]at h;split at h
   ·cases h
   ·rename_i ty Ts hTs
    obtain⟨v,hv,hr⟩:=uEr (rt:=rt) (T:=T) (by rw[<-aH,hTs];rfl) h
    exact fin hv hr rfl fun ρ=>by simp[builtin]
  | unsafeSliceData=>
   obtain⟨v,hv,hr⟩:=uAy (P:=P) (L:=t.get) (T:=T) (rt:=rt) h;exact fin hv hr rfl fun ρ=>by simp[builtin]
  | _=>cases h
 | [x,y],h=>
  simp only[]at h;cases b with
  | max=>
   obtain⟨v,hv,hr⟩:=uwv (P:=P) (L:=t.get) (T:=T) (rt:=rt) h;exact fin hv hr rfl fun ρ=>by simp[builtin]
  | min=>
   obtain⟨v,hv,hr⟩:=uwv (P:=P) (L:=t.get) (T:=T) (rt:=rt) h;exact fin hv hr rfl fun ρ=>by simp[builtin]
  | _=>cases h
 | x::y::z::l,h=>cases h
theorem ury{tm:Tm}{t:Tr}{o:Oper}{K:Value->Bool}(h:rdE P tm t o.op K=true):∃v,K v=true /\
 ∀(φ:Phi) (w:World) (ρ:Operand->Value),(∀x∈o.op.operands.toList,OR φ tm ρ x)->Rep φ t.get w->∃v',(execOp ρ o).run P w = .ok (.value v') w/\RV φ v v':=by
 obtain⟨a1,op,ty,pos,a2,a3⟩:=o;simp only[]at h;have fin:∀ {xs:List Operand} {v:Value} {s:(Operand->Value)->Sem Value},K v=true->Reads P tm t.get xs s v->(∀x∈xs,x∈op.operands.toList)->(∀ρ,execOp ρ ⟨a1,op,ty,pos,a2,a3⟩=do pure (.value (<-s ρ)))->∃v,K v=true /\
  ∀(φ:Phi) (w:World) (ρ:Operand->Value),(∀x∈op.operands.toList,OR φ tm ρ x)->Rep φ t.get w->∃v',(execOp ρ ⟨a1,op,ty,pos,a2,a3⟩).run P w = .ok (.value v') w/\RV φ v v':=by
  intro xs v s hv hr hx hs;refine⟨v,hv,fun φ w ρ ho a0=>?_⟩
  obtain⟨v',k1,k2⟩:=hr φ w ρ (fun x a4=>ho x (hx x a4)) a0
  exact⟨v',by rw[hs,aD,k1];rfl,k2⟩
 cases op with
 | move x=>
  obtain⟨v,hv,h⟩:=uy h;exact⟨v,h,fun φ w ρ ho hr=>⟨ρ x,rfl,ho x (by simp[Op.operands]) _ hv⟩⟩
 | assign x=>
  obtain⟨v,hv,h⟩:=uy h;exact⟨v,h,fun φ w ρ ho hr=>⟨ρ x,rfl,ho x (by simp[Op.operands]) _ hv⟩⟩
 | pick c a b=>
  obtain⟨v,hv,hr⟩:=uAt (P:=P) (L:=t.get) h;refine fin hv hr (by simp[Op.operands]) fun ρ=>?_
  simp[execOp]
 | build ty ps=>
  obtain⟨v,hv,hr⟩:=uwq (L:=t.get) h;exact fin hv hr (by simp[Op.operands]) fun ρ=>rfl
 | load ty a=>
  obtain⟨v,hv,hr⟩:=uAs h;exact fin hv hr (by simp[Op.operands]) fun ρ=>rfl
 | nilCheck x=>
  obtain⟨v,hv,hr⟩:=uEk (L:=t.get) h;refine⟨v,hv,fun φ w ρ ho a0=>?_⟩
  obtain⟨k1,k2⟩:=hr φ ρ (ho x (by simp[Op.operands]))
  refine⟨ρ x,?_,k1⟩;rcases k2 with⟨a,e⟩|⟨f,a,c,e⟩
  ·simp[execOp,e]
  ·simp[execOp,e]
 | binOp op ty x y yt=>
  obtain⟨v,hv,hr⟩:=uEn (L:=t.get) h;exact fin hv hr (by simp[Op.operands]) fun ρ=>rfl
 | unOp op ty x=>
  obtain⟨v,hv,hr⟩:=uG2 (P:=P) (L:=t.get) h;exact fin hv hr (by simp[Op.operands]) fun ρ=>rfl
 | convert src a1 x=>
  obtain⟨v,hv,hr⟩:=uAw (L:=t.get) h;exact fin hv hr (by simp[Op.operands]) fun ρ=>rfl
 | makeFunc fn a c=>
  obtain⟨v,hv,hr⟩:=uEo (P:=P) (L:=t.get) h;exact fin hv hr (by simp[Op.operands]) fun ρ=>rfl
 | slice ty x lo hi mx=>
  cases mx with
  | none=>
   obtain⟨v,hv,hr⟩:=uEp h;refine fin hv hr (fun y hy=>?_) fun ρ=>rfl
   cases lo<;>cases hi<;>simpa[Op.operands]using hy
  | some m=>
   obtain⟨v,hv,hr⟩:=uAx h;refine fin hv hr (fun y hy=>?_) fun ρ=>rfl
   cases lo<;>cases hi<;>simpa[Op.operands]using hy
 | fieldAddr s x f=>
  obtain⟨v,hv,hr⟩:=ut9 (L:=t.get) h;exact fin hv hr (by simp[Op.operands]) fun ρ=>rfl
 | field s x f=>
  obtain⟨v,hv,hr⟩:=uwt (L:=t.get) h;exact fin hv hr (by simp[Op.operands]) fun ρ=>rfl
 | indexAddr ty x i=>
  obtain⟨v,hv,hr⟩:=uua (L:=t.get) h;exact fin hv hr (by simp[Op.operands]) fun ρ=>rfl
 | index ty x i=>
  obtain⟨v,hv,hr⟩:=uwu (L:=t.get) h;exact fin hv hr (by simp[Op.operands]) fun ρ=>rfl
 | lookup ty x i c=>
  obtain⟨v,hv,hr⟩:=uub h;exact fin hv hr (by simp[Op.operands]) fun ρ=>rfl
 | extract x i=>
  obtain⟨v,hv,hr⟩:=up6 (P:=P) (L:=t.get) h;exact fin hv hr (by simp[Op.operands]) fun ρ=>rfl
 | call c=>
  unfold rdE uGq at h;simp only[]at h;split at h
  ·rename_i b hb
   obtain⟨v,hv,hr⟩:=uEs (rt:=ty) (cs:=c.args.map fun | .const _=>true|_=>false) h
   refine⟨v,hv,fun φ w ρ ho a0=>?_⟩
   obtain⟨v',k1,k2⟩:=hr φ w ρ (fun x hx=>ho x (by simp[Op.operands,Call.operands,hb];exact Array.mem_toList_iff.1 hx)) a0
   refine⟨v',?_,k2⟩;simp only[execOp,resolve,hb,aD,Sem.run_pure,aA,Go.invoke];exact k1
  ·cases h
 | _=>cases h
end
end AC.Ev
