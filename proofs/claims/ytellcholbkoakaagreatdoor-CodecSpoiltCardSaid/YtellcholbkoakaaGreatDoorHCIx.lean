/-
  strings.IndexAny at the signs that end a word, for any text.
-/
import Derived.Test.YtellcholbkoakaaGreatDoorHShelf
import Derived.Test.YtellcholbkoakaaGreatDoorHNum
import Derived.Test.YtellcholbkoakaaGreatDoorHMem
import Derived.WalkKit
import Derived.WalkSpells
import Derived.WalkLawsBesides
import Derived.RegionTactic
import Derived.Deep.QuietTactic
import Derived.BigQuiet
import Derived.Outline
import Derived.LoopTactic
import Derived.Laws.RangeAny
import Derived.Laws.Runes
import Derived.Lib.OthersKept
import Derived.Lib.IndexAny
import Derived.Lib.Hide
import Derived.Test.YtellcholbkoakaaGreatDoorHCRa
import Derived.Lib.ParseIntBTie
import Derived.Lib.AtoiErrMem
import Derived.Lib.AppendIntMem
import Derived.Shelf.Strconv.Itoa3
namespace Go.Proofs.YtellcholbkoakaaGreatDoor
open Go.Lib (hid)
open Go.RowKit AC
set_option linter.unusedVariables false
set_option linter.unusedSimpArgs false
theorem uve{s:ByteArray}{j:Nat}{b:UInt8}(h:s.data.toList[j]? = some b):s.get! j=b:=by
 obtain⟨hj,rfl⟩:=List.getElem?_eq_some_iff.1 h;have hj':j<s.size:=by simpa using hj
 simp[ByteArray.get!,hj']
theorem ul6(s:ByteArray)(pos:Nat)(h:pos<s.size)(ha:128≤(s[pos]'h).toNat) :
 (Utf8.valid (Utf8.decode s pos).1=true∨(Utf8.decode s pos).1=65533)∧pos+(Utf8.decode s pos).2≤s.size∧∀j b,pos≤j→j<pos+(Utf8.decode s pos).2→s.data.toList[j]? = some b→128≤b.toNat:=by
 have hn:¬(s[pos]'h).toNat<128:=by omega
 have h256:(s[pos]'h).toNat<256:=(s[pos]'h).toNat_lt;have key:∀j b,s.data.toList[j]? = some b→(s.get! j).toNat=b.toNat:=fun j b hb=>by rw[uve hb]
 have k0:∀b,s.data.toList[pos]? = some b→128≤b.toNat:=fun b hb=>by rw[←key pos b hb,show pos=pos+0 by rfl,get_at s pos h];exact ha
 have b1:(s.get! (pos+1)).toNat<256:=(s.get! (pos+1)).toNat_lt;have b2:(s.get! (pos+2)).toNat<256:=(s.get! (pos+2)).toNat_lt;have b3:(s.get! (pos+3)).toNat<256:=(s.get! (pos+3)).toNat_lt;have one:∀j b,pos≤j→j<pos+1→s.data.toList[j]? = some b→128≤b.toNat:=fun j b h1 h2 hb=>by
  obtain rfl:j=pos:=by omega
  exact k0 b hb
 simp only[Utf8.decode,get_at s pos h,hn,if_false];split
 ·rename_i hc
  simp only[Bool.and_eq_true,beq_iff_eq,decide_eq_true_eq]at hc;split
  ·rename_i hc2
   refine⟨.inl ?_,by omega,fun j b h1 h2 hb=>?_⟩
   ·simp only[Utf8.valid,Bool.or_eq_true,Bool.and_eq_true,decide_eq_true_eq]
    left
    have h2:((s[pos]'h).toNat%32*64+(s.get! (pos+1)).toNat%64)<2048:=by omega
    omega
   ·rcases (by omega:j=pos∨j=pos+1)with rfl|rfl
    ·exact k0 b hb
    ·have:=key _ b hb;omega
  ·exact⟨.inr rfl,by show pos+1≤_;omega,one⟩
 ·split
  ·rename_i hc
   simp only[Bool.and_eq_true,beq_iff_eq,decide_eq_true_eq]at hc;split
   ·rename_i hc2
    simp only[Bool.and_eq_true,decide_eq_true_eq]at hc2;refine⟨.inl hc2.2,by omega,fun j b h1 h2 hb=>?_⟩
    rcases (by omega:j=pos∨j=pos+1∨j=pos+2)with rfl|rfl|rfl
    ·exact k0 b hb
    ·have:=key _ b hb;omega
    ·have:=key _ b hb;omega
   ·exact⟨.inr rfl,by show pos+1≤_;omega,one⟩
  ·split
   ·rename_i hc
    simp only[Bool.and_eq_true,beq_iff_eq,decide_eq_true_eq]at hc;split
    ·rename_i hc2
     simp only[Bool.and_eq_true,decide_eq_true_eq]at hc2;refine⟨.inl hc2.2,by omega,fun j b h1 h2 hb=>?_⟩
     rcases (by omega:j=pos∨j=pos+1∨j=pos+2∨j=pos+3)with rfl|rfl|rfl|rfl
     ·exact k0 b hb
     ·have:=key _ b hb;omega
     ·have:=key _ b hb;omega
     ·have:=key _ b hb;omega
    ·exact⟨.inr rfl,by show pos+1≤_;omega,one⟩
   ·exact⟨.inr rfl,by show pos+1≤_;omega,one⟩
theorem ul7(r:Int)(hv:Utf8.valid r=true)(h:128≤r):(∃a b:UInt8,Utf8.encode r=⟨#[a,b]⟩∧128≤b.toNat)∨(∃a b c:UInt8,Utf8.encode r=⟨#[a,b,c]⟩∧128≤c.toNat)∨(∃a b c d:UInt8,Utf8.encode r=⟨#[a,b,c,d]⟩):=by
 unfold Utf8.encode;simp only[hv,if_true];have key:∀n:Nat,128≤(UInt8.ofNat (0x80+n%64)).toNat:=fun n=>by
  rw[UInt8.toNat_ofNat'];omega
 rw[if_neg (by omega)]
 split
 ·exact .inl ⟨_,_,rfl,key _⟩
 ·split
  ·exact .inr (.inl ⟨_,_,_,rfl,key _⟩)
  ·exact .inr (.inr ⟨_,_,_,_,rfl⟩)
theorem uid{P:Program}{f:FuncId}{args:Array Value}{w:World}{a n:Nat}{v:Value}
 (h:Calls P f args (w.drewN (a+n)) fun e w'=>e = .returned v∧w'=w.drewN (a+n)) :
 Calls P f args (w.drewN (a+n)) fun e w''=>e = .returned v∧∃m,w''=w.drewN (a+m):=
 h.mono fun _ _ ⟨he,hm⟩=>⟨he,n,hm⟩
def ud3(w:World)(e:Ending)(w':World):Prop:=e = .returned (.int .i64 (-1))∧Below w.heap.size w w'
theorem ukb{l:List UInt8}{y:UInt8}(h:∀c∈l,c≠y):Lib.indexByte l y = -1:=by
 induction l with
 | nil=>rfl
 | cons a l ih=>
  unfold Lib.indexByte;rw[if_neg (by simpa using h a List.mem_cons_self),ih fun c hc=>h c (List.mem_cons_of_mem _ hc)]
  rfl
set_option maxHeartbeats 2000000 in
set_option maxRecDepth 100000 in
theorem ui5(w:World)(r:Int)(x y:UInt8)(h1:128≤r)(hv:Lib.validRune r=true)(hne:r≠65533)(he:Utf8.encode r=⟨#[x,y]⟩)(hy:128≤y.toNat) :
 Calls Tryz.prog 253 #[.string ⟨#[32,40,41]⟩,.int .i32 r] w (ud3 w):=by
 have t1:decide (r<128)=false:=by simp;omega
 have t2:(r==65533)=false:=by simp;omega
 have t3:((40:Int) != (y.toNat:Int))=true:=by simp;omega
 have t4:Lib.indexByte [41] y = -1:=ukb fun c hc e=>by simp at hc;subst hc;subst e;simp at hy
 have g1:(⟨#[32,40,41]⟩:ByteArray)[1]'(by decide)=40:=rfl
 have g2:(⟨#[x,y]⟩:ByteArray)[1]'(by decide:1<2)=y:=rfl
 have HV:=hid hv;clear hv;go_enter Tryz.func253,Tryz.ntmps253
 go_wp2_with fail
 refine(Tryz.utf8_ValidRune _ _).mono ?_;rintro e w'⟨rfl,rfl⟩;rw[HV.out];go_wp2_with fail
 go_step3
 go_wp2_with fail
 refine wp_loop_rounds 1 ?_;rw[rounds_succ];go_wp2_with fail
 go_step3
 go_wp2_with fail
 go_quiet (fail)
 go_wp2_with fail
 go_quiet ((go_at_call 305;exact uid (Tryz.strings_IndexByte _ _ _)))
 go_wp2_with fail
 rw[Exit.noGoto_ret];go_wp2;rw[Exit.noGoto_ret];go_ret
 exact⟨rfl,(Qt.of _ _).below _⟩
set_option maxHeartbeats 2000000 in
set_option maxRecDepth 100000 in
theorem ugw(w:World)(r:Int)(x z y:UInt8)(h1:128≤r)(hv:Lib.validRune r=true)(hne:r≠65533)(he:Utf8.encode r=⟨#[x,z,y]⟩)(hy:128≤y.toNat) :
 Calls Tryz.prog 253 #[.string ⟨#[32,40,41]⟩,.int .i32 r] w (ud3 w):=by
 have t1:decide (r<128)=false:=by simp;omega
 have t2:(r==65533)=false:=by simp;omega
 have t3:((41:Int) != (y.toNat:Int))=true:=by simp;omega
 have t4:Lib.indexByte [] y = -1:=rfl;have g1:(⟨#[32,40,41]⟩:ByteArray)[2]'(by decide)=41:=rfl
 have g2:(⟨#[x,z,y]⟩:ByteArray)[2]'(by decide:2<3)=y:=rfl
 have HV:=hid hv;clear hv;go_enter Tryz.func253,Tryz.ntmps253
 go_wp2_with fail
 refine(Tryz.utf8_ValidRune _ _).mono ?_;rintro e w'⟨rfl,rfl⟩;rw[HV.out];go_wp2_with fail
 go_step3
 go_wp2_with fail
 refine wp_loop_rounds 1 ?_;rw[rounds_succ];go_wp2_with fail
 go_step3
 go_wp2_with fail
 go_quiet (fail)
 go_wp2_with fail
 go_quiet ((go_at_call 305;exact uid (Tryz.strings_IndexByte _ _ _)))
 go_wp2_with fail
 rw[Exit.noGoto_ret];go_wp2;rw[Exit.noGoto_ret];go_ret
 exact⟨rfl,(Qt.of _ _).below _⟩
set_option maxHeartbeats 2000000 in
set_option maxRecDepth 100000 in
theorem uhp(w:World)(r:Int)(x y z u:UInt8)(h1:128≤r)(hv:Lib.validRune r=true)(hne:r≠65533)(he:Utf8.encode r=⟨#[x,y,z,u]⟩) :
 Calls Tryz.prog 253 #[.string ⟨#[32,40,41]⟩,.int .i32 r] w (ud3 w):=by
 have t1:decide (r<128)=false:=by simp;omega
 have t2:(r==65533)=false:=by simp;omega
 have HV:=hid hv;clear hv;go_enter Tryz.func253,Tryz.ntmps253
 go_wp2_with fail
 refine(Tryz.utf8_ValidRune _ _).mono ?_;rintro e w'⟨rfl,rfl⟩;rw[HV.out];go_wp2_with fail
 go_step3
 go_wp2_with fail
 refine wp_loop_rounds 1 ?_;rw[rounds_succ];go_wp2_with fail
 rw[Exit.noGoto_ret];go_ret
 exact⟨rfl,Below.refl _ _⟩
set_option maxHeartbeats 2000000 in
set_option maxRecDepth 100000 in
theorem ui6(w:World):Calls Tryz.prog 253 #[.string ⟨#[32,40,41]⟩,.int .i32 65533] w (ud3 w):=by
 have n0:=fun ty=>run_next_ascii (P:=Tryz.prog) w ⟨#[32,40,41]⟩ 0 ty (by decide) (by decide)
 have n1:=fun ty=>run_next_ascii (P:=Tryz.prog) w ⟨#[32,40,41]⟩ 1 ty (by decide) (by decide)
 have n2:=fun ty=>run_next_ascii (P:=Tryz.prog) w ⟨#[32,40,41]⟩ 2 ty (by decide) (by decide)
 have n3:=fun ty=>run_next_end (P:=Tryz.prog) w ⟨#[32,40,41]⟩ 3 ty (by decide)
 have g0:(⟨#[32,40,41]⟩:ByteArray)[0]'(by decide)=32:=rfl
 have g1:(⟨#[32,40,41]⟩:ByteArray)[1]'(by decide)=40:=rfl
 have g2:(⟨#[32,40,41]⟩:ByteArray)[2]'(by decide)=41:=rfl
 simp only[g0,g1,g2]at n0 n1 n2;go_enter Tryz.func253,Tryz.ntmps253
 go_wp2_with fail
 refine wp_loop_rounds 4 ?_;rw[rounds_succ];go_wp2;rw[rounds_succ];go_wp2;rw[rounds_succ];go_wp2;rw[rounds_succ];go_wp2;go_ret
 exact⟨rfl,(Below.refl _ _).alloc (Nat.le_refl _) _⟩
theorem uhq(w:World)(r:Nat)(h1:128≤r)(hv:Utf8.valid r=true∨r=65533):Calls Tryz.prog 253 #[.string ⟨#[32,40,41]⟩,.int .i32 r] w (ud3 w):=by
 by_cases he:r=65533
 ·subst he;exact ui6 w
 ·have hv:Utf8.valid r=true:=by rcases hv with h|h;exact h;exact absurd h he
  have hv':Lib.validRune r=true:=by unfold Utf8.valid at hv;simp at hv;simp[Lib.validRune];omega
  rcases ul7 (r:Int) hv (by omega)with⟨a,b,e1,e2⟩|⟨a,b,c,e1,e2⟩|⟨a,b,c,d,e1⟩
  ·exact ui5 w r a b (by omega) hv' (by omega) e1 e2
  ·exact ugw w r a b c (by omega) hv' (by omega) e1 e2
  ·exact uhp w r a b c d (by omega) hv' (by omega) e1
def ue1:List UInt8:=[32,40,41]
def usi(l:List UInt8)(w:World)(e:Ending)(w':World):Prop:=e = .returned (.int .i64 (Lib.indexAny l ue1))∧Below w.heap.size w w'
theorem ups{b:UInt8}(h:128≤b.toNat):ue1.contains b=false:=by
 unfold ue1;simp;refine⟨?_,?_,?_⟩<;>(rintro rfl;simp at h)
theorem NoAny.skip{l:List UInt8}{i n:Nat}(h:Lib.NoAny l ue1 i)(hb:∀j b,i≤j→j<i+n→l[j]? = some b→128≤b.toNat):Lib.NoAny l ue1 (i+n):=by
 intro j b hj hb';rcases Nat.lt_or_ge j i with h1|h1
 ·exact h j b h1 hb'
 ·exact ups (hb j b h1 hj hb')
def IterAt(w:World)(s:ByteArray)(i:Nat)(wx:World):Prop:=wx.heap[w.heap.size]? = some (.stringIter s i)∧Below w.heap.size w wx
theorem IterAt.move{w wx:World}{s:ByteArray}{i:Nat}(h:IterAt w s i wx)(j:Nat):IterAt w s j (wx.iterAt w.heap.size s j):=
 ⟨Lib.iterAt_heap _ _ _ _ _ h.1,Lib.below_iterAt h.2 (Nat.le_refl _) _ _⟩
theorem IterAt.below{w wx w':World}{s:ByteArray}{i:Nat}(h:IterAt w s i wx)(hb:Below wx.heap.size wx w'):IterAt w s i w':=
 ⟨(hb.block _ (Array.getElem?_eq_some_iff.1 h.1).1).trans h.1,h.2.trans (hb.mono h.2.size)⟩
set_option maxHeartbeats 4000000 in
set_option maxRecDepth 100000 in
theorem uhr(w:World)(s:ByteArray)(h8:s.size≤8):Calls Tryz.prog 182 #[.string s,.string ⟨#[32,40,41]⟩] w (usi s.data.toList w):=by
 have h8z:decide ((8:Int)<(s.size:Int))=false:=decide_eq_false (by omega)
 have H8:=hid h8z;clear h8z;go_enter Tryz.func182,Tryz.ntmps182
 go_wp2_with (go_at_call 254;refine(Tryz.strings_shouldUseASCIISet _ _).mono ?_;rintro e w' ⟨rfl,hw⟩;rw[hw,H8.out];clear hw)
 go_loopg [9,10] s.size (fun g _ _ wx=>∃i:Nat,i≤s.size∧i+g=s.size∧Hid (IterAt w s i wx)∧Hid (Lib.NoAny s.data.toList ue1 i))
 case atStart=>exact⟨0,by omega,by omega,⟨by show(w.heap.push _)[_]? = _;simp,(Below.refl _ _).alloc (Nat.le_refl _) _⟩,Lib.NoAny.zero _ _⟩
 case round=>
  obtain⟨i,hi,hig,hit,hno⟩:=hrel;by_cases hlt:i<s.size
  ·have hnx:=fun ty=>Lib.run_next_any_at (P:=Tryz.prog) wr w.heap.size s i ty hit.out.1 hlt
   obtain⟨x,hx⟩:∃x:UInt8,s[i]'hlt=x:=⟨_,rfl⟩;have hxl:s.data.toList[i]? = some x:=by rw[←hx];exact Lib.data_getElem? s i hlt
   by_cases h128:x.toNat<128
   ·have hd:Utf8.decode s i=(x.toNat,1):=by rw[decode_ascii s i hlt (by rw[hx];exact h128),hx]
    rw[hd]at hnx;have HX:=hid hxl;have HI:=hid (hit.out.move (i+1));have hcon:=Lib.contains_iff_indexByte ue1 x;have hback:((x.toNat:Int)).toNat.toUInt8=x:=by simp
    have HB:=hid hback;clear hxl hx hd hback;cases hin:ue1.contains x
    ·rw[hin]at hcon
     have hlt0:¬((0:Int)≤Lib.indexByte [32,40,41] x):=of_decide_eq_false hcon.symm;have HN:=hid hin;clear hcon hin;go_wp2_with (go_at_call 253;refine(Tryz.strings_IndexRune_ascii _ _ _ (by omega) (by omega)).mono ?_;rintro e w' ⟨rfl,hw⟩;rw[hw,HB.out];clear hw)
     go_roundg (s.size-(i+1))
     case measure=>omega
     case rel=>exact⟨i+1,by omega,by omega,HI,hno.out.succ HX.out HN.out⟩
    ·rw[hin]at hcon
     have hge:(0:Int)≤Lib.indexByte [32,40,41] x:=of_decide_eq_true hcon.symm;have HN:=hid hin;clear hcon hin;go_wp2_with (go_at_call 253;refine(Tryz.strings_IndexRune_ascii _ _ _ (by omega) (by omega)).mono ?_;rintro e w' ⟨rfl,hw⟩;rw[hw,HB.out];clear hw)
     go_ret
     exact⟨by rw[Lib.indexAny_hit hno.out HX.out HN.out];rfl,HI.out.2⟩
   ·obtain⟨q1,q2,q3⟩:=ul6 s i hlt (by rw[hx];omega)
    obtain⟨q4,q5⟩:=decode_high s i hlt (by rw[hx];omega)
    obtain⟨r,n,hrn⟩:∃r n,Utf8.decode s i=(r,n):=⟨_,_,rfl⟩;rw[hrn]at q1 q2 q3 q4 q5 hnx;have q2:i+n≤s.size:=q2;have q5:1≤n:=q5;have HI:=hid (hit.out.move (i+n));have HN:=hid (NoAny.skip hno.out q3);have HV:=hid q1;clear hxl hx hrn q3 q1;go_wp2_with fail
    refine(uhq _ r q4 HV.out).mono ?_;rintro e w2⟨rfl,hb⟩;have HB:=hid (HI.out.below hb);clear hb;go_wp2;go_roundg (s.size-(i+n))
    case measure=>omega
    case rel=>exact⟨i+n,q2,by omega,HB,HN⟩
  ·have hnx:=fun ty=>Lib.run_next_end_at (P:=Tryz.prog) wr w.heap.size s i ty hit.out.1 hlt
   obtain rfl:i=s.size:=by omega
   go_wp2;go_ret
   exact⟨by rw[Lib.indexAny_none (by rw[←Lib.size_eq];exact hno.out)];rfl,hit.out.2⟩
theorem uf7(w:World)(s:ByteArray)(h:s.size≤262144):Calls Tryz.prog 182 #[.string s,.string ⟨#[32,40,41]⟩] w (usi s.data.toList w):=by
 rcases Nat.lt_or_ge 8 s.size with h8|h8
 ·refine(Tryz.strings_IndexAny_long (fun _=>by kernel_rfl) s ⟨#[32,40,41]⟩ w (by decide) h8 (by omega) (by decide) ?_).mono ?_
  ·intro j b hb
   match j,hb with
   | 0,hb=>simp at hb;subst hb;decide
   | 1,hb=>simp at hb;subst hb;decide
   | 2,hb=>simp at hb;subst hb;decide
   | j+3,hb=>simp at hb
  ·rintro e w' ⟨rfl,rfl⟩
   exact⟨rfl,((Below.refl _ _).alloc (Nat.le_refl _) _).alloc (by simp) _⟩
 ·exact uhr w s h8
theorem ufg:∀l:List UInt8,Lib.indexAny l ue1=if(uar l).length=l.length then -1 else((uar l).length:Int)
 | []=>rfl
 | b::l=>by
  have ih:=ufg l;have hle:(uar l).length≤l.length:=by have:=ucb l;omega
  unfold Lib.indexAny;by_cases hb:ue1.contains b=true
  ·have hs:uer b=true:=by unfold ue1 at hb;unfold uer;simpa[Bool.or_assoc]using hb
   have hw:uar (b::l)=[]:=by unfold uar;rw[List.takeWhile_cons,hs];rfl
   rw[if_pos hb,hw];rfl
  ·have hs:uer b=false:=by unfold ue1 at hb;unfold uer;simpa[Bool.or_assoc]using hb
   have hw:uar (b::l)=b::uar l:=by unfold uar;rw[List.takeWhile_cons,hs];rfl
   rw[if_neg hb,hw,ih];simp only[List.length_cons];by_cases he:(uar l).length=l.length
   ·simp[he]
   ·have h1:(((uar l).length:Int) == -1)=false:=by simp
    simp[he,h1]
def ubm:Option (List UInt8)→List UInt8
 | some r=>uar r
 | none=>[]
def uw8(br:Nat)(str:ByteArray)(o:Option (List UInt8))(w:World)(e:Ending)(w':World):Prop:=
 e = .returned (.string ⟨(ubm o).toArray⟩)∧Rst w' br str (o.map ubn)∧Fr (· = br) w w'
theorem ukc(s:ByteArray)(pos:Nat):(s.extract pos s.size).data.toList=s.data.toList.drop pos:=Lib.extract_to_end s pos
theorem usj{s:ByteArray}{pos:Nat}(h:pos≤s.size):(uar (s.data.toList.drop pos)).length≤s.size-pos:=by
 have:=ucb (s.data.toList.drop pos);simp at this;omega
theorem ul8(l:List UInt8):ubn l=l.drop (uar l).length:=by
 have h:∀a b:List UInt8,a++b=l→b=l.drop a.length:=fun a b h=>by rw[←h];simp
 exact h _ _ (uds l)
theorem ul9(l:List UInt8):uar l=l.take (uar l).length:=by
 have h:∀a b:List UInt8,a++b=l→a=l.take a.length:=fun a b h=>by rw[←h];simp
 exact h _ _ (uds l)
theorem usk{w w1:World}{br pos k:Nat}{str t:ByteArray}{r:List UInt8}{p:Int}(hk:Bk w br 48 #[.string str,.int .i64 pos,.bool false])(hgl:Gl w)(hgn:GN≤br)(h2:str.size≤262144)(hb:Below w.heap.size w w1)
 (hr:str.data.toList.drop pos=r) (hrest:ubn r=str.data.toList.drop (pos+k)) (hle:pos+k≤str.size) (ht:t.data.toList=uar r) (hp:p=((pos+k:Nat):Int)) :
 uw8 br str (some (str.data.toList.drop pos)) w (.returned (.string t)) (w1.setCell ⟨br,1,none⟩ (.int .i64 p)):=by
 have et:t=⟨(uar r).toArray⟩:=by rw[←ht]
 rw[hr];refine⟨by rw[et];rfl,⟨pos+k,false,?_,hle,h2,?_,(hgl.below hb).set hgn _ _,hgn⟩,((Fr.refl _ _).below hb).wr _ _⟩
 ·rw[hp];exact(hk.below hb hk.lt).set 1 _
 ·show some (ubn r)=_
  rw[hrest];rfl
set_option maxHeartbeats 2000000 in
theorem ui7(w:World)(br:Nat)(str:ByteArray)(o:Option (List UInt8))(h:Rst w br str o):Calls Tryz.prog 88 #[.pointer (some ⟨br,0,none⟩)] w (uw8 br str o w):=by
 have HR:=hid h;have hlt:=h.lt;obtain⟨pos,bad,hk,h1,h2,rfl,hgl,hgn⟩:=h;have c0:=hk.cell 0;have c1:=hk.cell 1;have c2:=hk.cell 2;have f1:=hk.frozen 1;simp only[gq]at c0 c1 c2;have HK:=hid hk;have HG:=hid hgl;clear hk hgl;cases bad with
 | true=>
  go_enter Tryz.func88,Tryz.ntmps88
  go_wp2;go_ret
  exact⟨rfl,HR.out,Fr.refl _ _⟩
 | false=>
  obtain⟨r,hr⟩:∃r,str.data.toList.drop pos=r:=⟨_,rfl⟩;obtain⟨k,hkk⟩:∃k,(uar r).length=k:=⟨_,rfl⟩;have hle:k≤str.size-pos:=by rw[←hkk,←hr];exact usj h1
  have hrl:r.length=str.size-pos:=by rw[←hr];simp
  have hex:(str.extract pos str.size).data.toList=r:=(ukc str pos).trans hr;have hexs:(str.extract pos str.size).size=str.size-pos:=by simp
  have hans:Lib.indexAny r ue1=if k=str.size-pos then -1 else(k:Int):=by rw[ufg,hkk,hrl]
  have hrest:ubn r=str.data.toList.drop (pos+k):=by rw[ul8,hkk,←hr,List.drop_drop]
  have HX:=hid hex;have HXS:=hid hexs;have HA:=hid hans;have HT:=hid hrest;have HKK:=hid hkk;have HRL:=hid hrl;have HRR:=hid hr;clear hex hans hrest hkk hr hrl hexs;have p1:decide (pos≤str.size)=true:=by simp;omega
  by_cases hall:k=str.size-pos
  ·have HALL:=hid hall
   clear hall;have hv:Lib.indexAny r ue1 = -1:=by rw[HA.out,if_pos HALL.out]
   have hw:uar r=r:=by
    have h3:=ucb r;have h4:=uds r;have:(ubn r).length=0:=by rw[HKK.out,HALL.out,HRL.out]at h3;omega
    rw[List.length_eq_zero_iff.1 this,List.append_nil]at h4;exact h4
   have HV:=hid hv;have HW:=hid hw;clear hv hw;go_enter Tryz.func88,Tryz.ntmps88
   go_wp2;go_quiet (fail)
   go_wp2_with fail
   refine(uf7 _ _ (by rw[HXS.out];omega)).mono ?_
   rintro e w1⟨rfl,hb⟩;rw[HX.out,HV.out];have d1:=(hb.cell (p:=⟨br,1,none⟩) hlt).trans c1;have g1:=(hb.frozen (p:=⟨br,1,none⟩) hlt).trans f1;have HB:=hid hb;clear hb;go_wp2;go_ret
   exact usk (k:=k) HK.out HG.out hgn h2 (((Below.refl _ w).drewN nq).trans HB.out) HRR.out HT.out (by omega) (HX.out.trans HW.out.symm) (by have:=HALL.out;omega)
  ·have hv:Lib.indexAny r ue1=(k:Int):=by rw[HA.out,if_neg hall]
   have HV:=hid hv;clear hv;have hkb:k≤262144:=by omega
   have p2:decide (k≤str.size-pos)=true:=by simp;omega
   go_enter Tryz.func88,Tryz.ntmps88
   go_wp2;go_quiet (fail)
   go_wp2_with fail
   refine(uf7 _ _ (by rw[HXS.out];omega)).mono ?_
   rintro e w1⟨rfl,hb⟩;rw[HX.out,HV.out];have d1:=(hb.cell (p:=⟨br,1,none⟩) hlt).trans c1;have g1:=(hb.frozen (p:=⟨br,1,none⟩) hlt).trans f1;have HB:=hid hb;clear hb;go_wp2;go_ret
   refine usk (k:=k) HK.out HG.out hgn h2 (((Below.refl _ w).drewN nq).trans HB.out) HRR.out HT.out (by omega) ?_ (by first|omega|(simp;omega))
   have hx2:((str.extract pos str.size).extract 0 k).data.toList=((str.extract pos str.size).data.toList).take k:=by rw[Lib.extract_data];simp
   rw[hx2,HX.out];rw[←HKK.out];exact(ul9 r).symm
theorem uog(ok:List UInt8→Bool)(h0:ok []=false)(o:Option (List UInt8)):ubh ok o=if ok (ubm o)then o.map ubn else none:=by
 cases o with
 | none=>show none=_;rw[show ubm none=[] from rfl,h0];rfl
 | some r=>rfl
theorem ua4{ok:List UInt8→Bool}{o:Option (List UInt8)}(h0:ok []=false)(h:ok (ubm o)=true):ubh ok o=o.map ubn:=by rw[uog ok h0,h];rfl
theorem uc3{ok:List UInt8→Bool}{o:Option (List UInt8)}(h0:ok []=false)(h:ok (ubm o)=false):ubh ok o=none:=by rw[uog ok h0,h];rfl
theorem ucl{ok:List UInt8→Bool}{o:Option (List UInt8)}{r r':List UInt8}(ho:o=some r)(h:o.map ubn=some r'):r=ubm o++r':=by
 subst ho;injection h with h;rw[←h];exact(uds r).symm
set_option maxHeartbeats 2000000 in
theorem ufh(L:Nat):Reads 33 .bool L:=by
 intro w br str o hr hl;have HR:=hid hr;clear hr hl;obtain⟨l,hl⟩:∃l,ubm o=l:=⟨_,rfl⟩;have HL:=hid hl;clear hl;go_enter Tryz.func33,Tryz.ntmps33
 go_wp2_with fail
 refine(ui7 _ br str o HR.out).mono ?_;rintro e w1⟨rfl,hst,hf⟩;rw[HL.out];have HST:=hid hst;have HF:=hid hf;have c2:=hst.cell;have f2:=hst.frozen 2;clear hst hf;by_cases h0:l=[48]
 ·subst h0
  go_wp2;go_ret
  have hok:ubu (ubm o)=true:=by rw[HL.out];rfl
  refine⟨[.bool false],rfl,⟨false,rfl⟩,?_,HF.out,fun r r' ho hr'=>?_⟩
  ·show Rst _ _ _ (ubh ubu o);rw[ua4 rfl hok];exact HST.out
  ·have hr2:ubh ubu o=some r':=hr'
   rw[ua4 rfl hok]at hr2;exact⟨_,ucl (ok:=ubu) ho hr2,false,rfl,by rw[HL.out];rfl⟩
 ·by_cases h1:l=[49]
  ·subst h1
   go_wp2;go_ret
   have hok:ubu (ubm o)=true:=by rw[HL.out];rfl
   refine⟨[.bool true],rfl,⟨true,rfl⟩,?_,HF.out,fun r r' ho hr'=>?_⟩
   ·show Rst _ _ _ (ubh ubu o);rw[ua4 rfl hok];exact HST.out
   ·have hr2:ubh ubu o=some r':=hr'
    rw[ua4 rfl hok]at hr2;exact⟨_,ucl (ok:=ubu) ho hr2,true,rfl,by rw[HL.out];rfl⟩
  ·have e0:(l==[48])=false:=by simpa using h0
   have e1:(l==[49])=false:=by simpa using h1
   clear h0 h1;go_wp2;go_ret
   have hok:ubu (ubm o)=false:=by rw[HL.out];unfold ubu;rw[e0,e1];rfl
   have hno:rd .bool 0 o=none:=uc3 rfl hok;refine⟨[.bool false],?_,⟨false,rfl⟩,?_,HF.out.wr _ _,fun r r' ho hr'=>?_⟩
   ·rfl
   ·rw[hno];exact HST.out.spoil
   ·rw[hno]at hr';cases hr'
def FmtPost(l:List UInt8)(w:World)(e:Ending)(w':World):Prop:=e = .returned (.string ⟨l.toArray⟩)∧Below w.heap.size w w'
theorem ufi(w:World)(n:Int)(h0 : -9223372036854775808≤n)(h1:n≤9223372036854775807)(hg:Gl w):Calls Tryz.prog 258 #[.int .i64 n,.int .i64 10] w (FmtPost (Lib.itoa n) w):=
 (Tryz.strconv_FormatInt_10 n h0 h1 w hg.1).mono fun e w' ⟨he,k,os,hw⟩=>⟨he,by rw[hw];exact Lib.below_grow _ _ (Nat.le_refl _) k os⟩
theorem uvf(w:World)(n:Int)(h0 : -9223372036854775808≤n)(h1:n≤9223372036854775807)(hg:Gl w):Calls Tryz.prog 233 #[.int .i64 n] w (FmtPost (Lib.itoa n) w):=
 (Tryz.strconv_Itoa n h0 h1 w hg.1).mono fun e w' ⟨he,k,os,hw⟩=>⟨he,by rw[hw];exact Lib.below_grow _ _ (Nat.le_refl _) k os⟩
def uyx(l:List UInt8)(w:World)(e:Ending)(w':World):Prop:=
 (∃v,Lib.parseIntB 64 l = .ok v∧e = .returned (.tuple #[.int .i64 v,.nilIface])∧Below w.heap.size w w') ∨
 (∃z T p,(∀v,Lib.parseIntB 64 l ≠ .ok v)∧e = .returned (.tuple #[.int .i64 z,.iface T p])∧Below w.heap.size w w')
theorem ukd(w:World)(s:ByteArray)(hs:s.size≤262144)(hg:Gl w):Calls Tryz.prog 257 #[.string s,.int .i64 10,.int .i64 64] w (uyx s.data.toList w):=by
 obtain⟨_,⟨tp,p,h2⟩,⟨tp',p',h3⟩,_⟩:=hg;rcases h:Lib.parseIntB 64 s.data.toList with v|_|_
 ·refine(Tryz.strconv_ParseInt_10_at64_ok s (by omega) v h w).mono fun e w' ⟨he,hw⟩=> .inl ⟨v,h,he,?_⟩
  rcases hw with rfl|⟨t,rfl⟩
  ·exact Below.refl _ _
  ·exact Lib.bytesWorld_below _ _ _
 ·refine(Tryz.strconv_ParseInt_10_at64_syntax_var s (by omega) h tp p w h2).mono fun e w' ⟨N,he,_,_,hb⟩=> .inr ⟨_,_,_,fun v=>by rw[h];simp,he,hb⟩
 ·refine(Tryz.strconv_ParseInt_10_at64_range_var s (by omega) h tp' p' w h3).mono fun e w' ⟨N,he,_,_,hb⟩=> .inr ⟨_,_,_,fun v=>by rw[h];simp,he,hb⟩
theorem uvg{l:List UInt8}{v:Int}(h:Lib.parseIntB 64 l = .ok v):ubl l=(Lib.itoa v==l):=by unfold ubl;rw[h]
theorem usl{l:List UInt8}(h:∀v,Lib.parseIntB 64 l ≠ .ok v):ubl l=false:=by
 unfold ubl;cases h2:Lib.parseIntB 64 l with
 | ok v=>exact absurd h2 (h v)
 | _=>rfl
theorem uie{w:World}{br:Nat}{str:ByteArray}{o:Option (List UInt8)}(h:Rst w br str o):(ubm o).length≤262144:=by
 cases o with
 | none=>simp[ubm]
 | some r=>have:=h.short;have:=ucb r;simp only[ubm];omega
set_option maxHeartbeats 2000000 in
theorem uc4(L:Nat):Reads 184 .int L:=by
 intro w br str o hr hl;have HR:=hid hr;have hsz:=uie hr;clear hr hl;obtain⟨l,hl⟩:∃l,ubm o=l:=⟨_,rfl⟩;rw[hl]at hsz;have HL:=hid hl;clear hl;go_enter Tryz.func184,Tryz.ntmps184
 go_wp2_with fail
 refine(ui7 _ br str o HR.out).mono ?_;rintro e w1⟨rfl,hst,hf⟩;rw[HL.out];have HST:=hid hst;have HF:=hid hf;have HG:=hid hst.gl.1;clear hst hf;go_wp2_with fail
 refine(ukd _ _ (by show l.toArray.size≤_;simpa using hsz) HG.out).mono ?_
 rintro e w2(⟨v,hv,rfl,hb⟩|⟨z,T,p,hv,rfl,hb⟩)
 ·have hbd:=Lib.parseIntB_bounds hv
  have b0 : -9223372036854775808≤v:=by have:=hbd.1;simp at this;omega
  have b1:v≤9223372036854775807:=by have:=hbd.2;simp at this;omega
  have hok:=uvg hv;have HST2:=hid (HST.out.below hb);have HF2:=hid (HF.out.below hb);have HOK:=hid hok;have HG2:=hid (HG.out.below hb);clear hv hbd hok hb;go_wp2_with fail
  refine(ufi _ v b0 b1 HG2.out).mono ?_;rintro e w3⟨rfl,hb⟩;have HST3:=hid (HST2.out.below hb);have HF3:=hid (HF2.out.below hb);have c2:=HST3.out.cell;have f2:=HST3.out.frozen 2;clear hb;by_cases hq:Lib.itoa v=l
  ·have e0:(Lib.itoa v==l)=true:=by simpa using hq
   have e1:(Lib.itoa v != l)=false:=by simp[hq]
   have HQ:=hid hq;clear hq;go_wp2;go_ret
   have hok:ubl (ubm o)=true:=by rw[HL.out,HOK.out];exact e0
   refine⟨[.int .i64 v],rfl,⟨v,rfl,b0,b1⟩,?_,HF3.out,fun r r' ho hr'=>?_⟩
   ·show Rst _ _ _ (ubh ubl o);rw[ua4 rfl hok];exact HST3.out
   ·have hr2:ubh ubl o=some r':=hr'
    rw[ua4 rfl hok]at hr2;exact⟨_,ucl (ok:=ubl) ho hr2,v,rfl,b0,b1,by rw[HL.out,HQ.out]⟩
  ·have e0:(Lib.itoa v==l)=false:=by simpa using hq
   have e1:(Lib.itoa v != l)=true:=by simp[hq]
   clear hq;go_wp2;go_ret
   have hok:ubl (ubm o)=false:=by rw[HL.out,HOK.out];exact e0
   have hno:rd .int 0 o=none:=uc3 rfl hok;refine⟨[.int .i64 0],rfl,⟨0,rfl,by omega,by omega⟩,?_,HF3.out.wr _ _,fun r r' ho hr'=>?_⟩
   ·rw[hno];exact HST3.out.spoil
   ·rw[hno]at hr';cases hr'
 ·have hok:ubl (ubm o)=false:=by rw[HL.out];exact usl hv
  have HNO:=hid (uc3 (ok:=ubl) rfl hok);have HST2:=hid (HST.out.below hb);have HF2:=hid (HF.out.below hb);have c2:=HST2.out.cell;have f2:=HST2.out.frozen 2;clear hv hok hb;go_wp2;go_ret
  refine⟨[.int .i64 0],rfl,⟨0,rfl,by omega,by omega⟩,?_,HF2.out.wr _ _,fun r r' ho hr'=>?_⟩
  ·show Rst _ _ _ (ubh ubl o);rw[HNO.out];exact HST2.out.spoil
  ·have hr2:ubh ubl o=some r':=hr'
   rw[HNO.out]at hr2;cases hr2
set_option maxHeartbeats 2000000 in
theorem uG(L:Nat):Reads 105 .int L:=by
 intro w br str o hr hl;have HR:=hid hr;have HL:=hid hl;clear hr hl;go_enter Tryz.func105,Tryz.ntmps105
 go_wp2_with fail
 refine(uc4 L _ br str o HR.out HL.out).mono ?_;rintro e w1⟨v,rfl,hp⟩;have hty:=hp.1;obtain⟨zn,rfl⟩:=ug hty;rw[uo];have HP:=hid hp;clear hp hty;go_wp2;go_ret
 exact⟨_,rfl,HP.out⟩
open Go.RowKit AC Go.Sort
set_option maxHeartbeats 4000000 in
set_option maxRecDepth 100000 in
theorem ugx(w:World)(u:Nat)(hu64:u<18446744073709551616)(hg:Gl w):Calls Tryz.prog 377 #[.int .u64 u,.int .i64 10] w (FmtPost (Lib.decDigits u) w):=by
 have htab:=hg.1;by_cases hs:u<100
 ·go_enter Tryz.func377,Tryz.ntmps377
  go_wp2_with (go_at_call 341;refine(Tryz.internal_strconv_small u hs _).mono ?_;rintro e w' ⟨rfl,hw⟩;rw[hw];clear hw)
  go_ret
  exact⟨rfl,Below.refl _ _⟩
 ·have hu1:1≤u:=by omega
  have hnd20:Lib.nDigits u≤20:=by have:=Lib.numDigits_eq u hu1 hu64;split at this<;>omega
  have hb3:Lib.nDigits u≤24:=by omega
  have hal:Tryz.prog.arrayLen 307=24:=by kernel_rfl
  have hsl1:∀W,(Instr.sliceAt 307 (.pointer (some ⟨w.heap.size,0,none⟩)) none (some (.int .i64 (Lib.nDigits u:Int))) none).run Tryz.prog W = .ok (.slice (some ⟨w.heap.size,0,none⟩) (Lib.nDigits u) 24) W:=fun W=>by
   rw[run_sliceAt_array_h W 307 ⟨w.heap.size,0,none⟩ (by kernel_rfl) .i64 (Lib.nDigits u:Int) (by omega) (by rw[hal];omega)]
   go_simp
  have hH0:=Lib.holds_zero0 w 307 (Lib.nDigits u) (by omega)
  have hfmt:=Tryz.internal_strconv_formatBase10 w.heap.size 0 24 u (Array.replicate (Lib.nDigits u) 0) (w.alloc (.cells Lib.zeros24 307)) hH0 (by rw[Array.size_replicate];exact Lib.lt_pow_nDigits u) hu64 (by rw[Array.size_replicate];omega)
  rw[Array.size_replicate]at hfmt;have HH0:=hid hH0;have HFM:=hid hfmt;clear hH0 hal hfmt;go_enter Tryz.func377,Tryz.ntmps377
  go_wp2_with (go_at_call 342;refine(Tryz.internal_strconv_numDigits u hu1 hu64 _ (Lib.tabIs_alloc htab _)).mono ?_;rintro e w' ⟨rfl,hw⟩;rw[hw];clear hw)
  go_at_call 343
  refine HFM.out.mono ?_;rintro e w'⟨rfl,k,v',dk,rfl,hF⟩;have hcv:(convert 44 9 (.slice (some ⟨w.heap.size,0,none⟩) (Lib.nDigits u) 24)).run Tryz.prog ((putRow (fun(b:UInt8)=>Value.int .u8 (b.toNat:Int)) (w.alloc (.cells Lib.zeros24 307)) w.heap.size 0 dk).drewN k) = .ok (.string ⟨(Lib.decDigits u).toArray⟩) ((putRow (fun(b:UInt8)=>Value.int .u8 (b.toNat:Int)) (w.alloc (.cells Lib.zeros24 307)) w.heap.size 0 dk).drewN k):=by
   have h:=run_convert_bytes_back (P:=Tryz.prog) ((putRow (fun(b:UInt8)=>Value.int .u8 (b.toNat:Int)) (w.alloc (.cells Lib.zeros24 307)) w.heap.size 0 dk).drewN k) 44 9 5 ⟨w.heap.size,0,none⟩ 24 (Lib.decDigits u) Tryz.underlying44 Tryz.underlying5 Tryz.underlying9 (fun j hj=>by
    rw[Lib.row_is_numeral hF j hj,Lib.add_plain,World.cell?_drewN];exact cell?_putRow (fun(b:UInt8)=>Value.int .u8 (b.toNat:Int)) _ w.heap.size 0 _ dk HH0.out (by rw[hF.size,Array.size_replicate]) j (by rw[hF.size];rw[Lib.decDigits_length]at hj;exact hj))
   rw[Lib.decDigits_length]at h;exact h
  have HF:=hid hF;clear hF;go_wp2;go_ret
  obtain⟨os,eo⟩:=Lib.fin_at w (.cells Lib.zeros24 307) dk k 0;refine⟨rfl,?_⟩;rw[eo];exact Lib.below_grow _ _ (Nat.le_refl _) k os
set_option maxHeartbeats 1000000 in
theorem uhs(w:World)(u:Nat)(hu64:u<18446744073709551616)(hg:Gl w):Calls Tryz.prog 351 #[.int .u64 u,.int .i64 10] w (FmtPost (Lib.decDigits u) w):=by
 have H:=hid (ugx w u hu64 hg);clear hg;go_enter Tryz.func351,Tryz.ntmps351
 go_wp2_with fail
 refine H.out.mono ?_;rintro e w1⟨rfl,hb⟩;go_wp2;go_ret
 exact⟨rfl,hb⟩
end Go.Proofs.YtellcholbkoakaaGreatDoor
