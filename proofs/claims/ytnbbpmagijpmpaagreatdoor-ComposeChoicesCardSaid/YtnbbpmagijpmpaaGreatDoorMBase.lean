/-
  Short names for what is used often.
-/
import Derived.RowKit
import Derived.Below
import Derived.Laws.Sem
open Go Go.RowKit
theorem aa{n:Nat}{w:World}:Below n w w:=Below.refl n w
theorem ab{n:Nat}:n≤n:=Nat.le_refl n
theorem ae{α:Type}:(∀(l:List α)(i:Nat),l.toArray[i]?=l[i]?)∧(∀(a:α)(l:List α),(a::l)[0]?=some a)∧(∀(a:α)(l:List α)(i:Nat),(a::l)[i+1]?=l[i]?):=⟨fun _ _=>by simp,fun _ _=>rfl,fun _ _ _=>rfl⟩
theorem aA{α β:Type}(a:α)(w:World)(f:α→World→Result β):(Result.ok a w).andThen f=f a w:=rfl
theorem aB{α:Type}{a:α}{l:List α}:(a::l).length=l.length+1:=rfl
theorem aC{α:Type}{a:α}{l:List α}{i:Nat}:(a::l).drop (i+1)=l.drop i:=rfl
theorem af{n m k:Nat}:n<m→m≤k→n<k:=Nat.lt_of_lt_of_le
theorem ag{n m k:Nat}:n≤m→m≤k→n≤k:=Nat.le_trans
theorem ah(n m:Nat):n<m∨n≥m:=Nat.lt_or_ge n m
theorem ai{α:Type _}{l:List α}{i:Nat}(h:i<l.length):l[i]?=some l[i]:=List.getElem?_eq_getElem h
theorem aj{α:Type _}{l:List α}{i:Nat}{a:α}:l.getD i a=l[i]?.getD a:=List.getD_eq_getElem?_getD
theorem ak{α:Type _}{xs:Array α}{i:Nat}{d:α}:xs.getD i d=xs[i]?.getD d:=Array.getD_eq_getD_getElem?
theorem aq{α:Type _}{l:List α}{n:Nat}(h:n<l.length):l[n]∈l:=List.getElem_mem h
theorem au{α:Type _}{i:Nat}{b:α}{xs:Array α}:xs[i]?=some b↔∃h:i<xs.size,xs[i]=b:=Array.getElem?_eq_some_iff
theorem aw{α:Type _}[BEq α][LawfulBEq α]{a b:α}:(a==b)=false↔a≠b:=beq_eq_false_iff_ne
theorem ax(a b:Bool):((a&&b)=true)=(a=true∧b=true):=Bool.and_eq_true a b
theorem ay{α:Type _}{as bs:List α}:(as++bs).length=as.length+bs.length:=List.length_append
theorem aD{α β:Type}(P:Program)(w:World)(x:Sem α)(f:α→Sem β):(x>>=f).run P w=(x.run P w).andThen fun a w'=>(f a).run P w':=Sem.run_bind P w x f
theorem aE{α:Type _}:([]:List α).length=0:=rfl
theorem aF{n m:Nat}(k:Nat):n≤m→n*k≤m*k:=Nat.mul_le_mul_right k
theorem aG{α:Type _}(y:α){a:α}{l:List α}:a∈l→a∈y::l:=List.mem_cons_of_mem y
theorem aH{α:Type _}{xs:Array α}{i:Nat}:xs.toList[i]?=xs[i]?:=Array.getElem?_toList
theorem aI{α:Type _}{i:Nat}{a:α}{l:List α}:l[i]?=some a↔∃h:i<l.length,l[i]=a:=List.getElem?_eq_some_iff
theorem aJ{α:Type _}{i:Nat}{l:List α}(h:i<l.length):l.take (i+1)=l.take i++[l[i]]:=List.take_succ_eq_append_getElem h
theorem aK(n:Nat):n=0∨n>0:=Nat.eq_zero_or_pos n
theorem aL{α:Type _}{b:α}{β:Type _}{x:Option β}{f:β→α}:Option.map f x=some b↔∃a,x=some a∧f a=b:=Option.map_eq_some_iff
theorem aM{α:Type _}{xs:Array α}:xs.toList.length=xs.size:=Array.length_toList
theorem aN{α:Type _}{i:Nat}{l:List α}(h:i<l.length):l.drop i=l[i]::l.drop (i+1):=List.drop_eq_getElem_cons h
theorem aO{α:Type _}{xs:Array α}{i:Nat}{a:α}:i<xs.size→(xs.setIfInBounds i a)[i]?=some a:=Array.getElem?_setIfInBounds_self_of_lt
theorem aP{p:Prop}[Decidable p]:(decide p=true)=p:=decide_eq_true_eq
theorem aQ{p:Prop}[Decidable p]:¬p→decide p=false:=decide_eq_false
theorem aR{α:Type _}{xs:Array α}{i:Nat}(h:i<xs.size):xs[i]?=some xs[i]:=Array.getElem?_eq_getElem h
theorem aS{α:Type _}(as bs cs:List α):as++bs++cs=as++(bs++cs):=List.append_assoc as bs cs
theorem aT{α:Type _}{p:α→Bool}{l:List α}:l.all p=true↔∀x,x∈l→p x=true:=List.all_eq_true
theorem aU(a b:Bool):((a||b)=true)=(a=true∨b=true):=Bool.or_eq_true a b
theorem aV{a b:Nat}:a<b→a%b=a:=Nat.mod_eq_of_lt
theorem aW{α:Type _}{a:α}{l:List α}:a∈l→∃(i:Nat)(h:i<l.length),l[i]=a:=List.getElem_of_mem
theorem aX{m n:Nat}:m∈List.range n↔m<n:=List.mem_range
