/- strings.ContainsAny of the three bytes that end a line, head.Value. The walks of head.lines: an iterator that writes its own box. -/
import Derived.Test.YtdlkjofnnefjfaaGreatDoorZShort
import Derived.Test.YtdlkjofnnefjfaaGreatDoorZHeadA
set_option linter.all false
namespace Go.Proofs.YtdlkjofnnefjfaaGreatDoor
set_option maxRecDepth 100000
section
open Go.RowKit
theorem zc0 (w:World) (s:ByteArray) (p:Nat):Below w.heap.size w (w.iter s p) :=
 (Below.refl _ _).alloc (yV _) _
theorem zf0 (r:Int) (h:128≤r):(∃ a z,Utf8.encode r=⟨#[a,z]⟩∧128≤z.toNat)∨(∃ a b z,Utf8.encode r=⟨#[a,b,z]⟩∧128≤z.toNat)∨(∃ a b c z,Utf8.encode r=⟨#[a,b,c,z]⟩∧128≤z.toNat):=by
 have hz:∀ c:Nat,128≤(UInt8.ofNat (128 + c % 64)).toNat:=fun c=>by
  rw[UInt8.toNat_ofNat'];omega
 have hc:128≤(if Utf8.valid r then r.toNat else Utf8.runeError):=by
  split
  ·omega
  ·decide
 obtain⟨c,hcc⟩:∃ c,c=(if Utf8.valid r then r.toNat else Utf8.runeError):=⟨_,rfl⟩
 unfold Utf8.encode
 simp only[← hcc] at hc ⊢
 rw[if_neg (by omega)]
 split
 ·exact .inl ⟨_,_,rfl,hz c⟩
 ·split
  ·exact .inr (.inl ⟨_,_,_,rfl,hz c⟩)
  ·exact .inr (.inr ⟨_,_,_,_,rfl,hz c⟩)
theorem zcu (r:Int) (w:World):(convert 21 9 (.int .i32 r)).run Tryz.prog w=.ok (.string (Utf8.encode r)) w:=by
 simp[convert,run_underlying Tryz.underlying21,run_underlying Tryz.underlying9,Conv.intToString]
theorem zge (l:List UInt8) (z:UInt8) (h:128≤z.toNat) (hl:∀ b∈l,b.toNat < 128):Lib.indexByte l z=-1:=by
 have h1:¬ z∈l:=fun hm=>by have:=hl z hm;omega
 have:=Lib.contains_iff_indexByte l z
 rw[show l.contains z=false by simpa using h1] at this
 have h2:=indexByte_le l z
 have h3:=of_decide_eq_false this.symm
 omega
def c3:ByteArray:=⟨#[0,10,13]⟩
set_option maxHeartbeats 1000000 in
theorem zfp (r:Int) (w:World) (h0:128≤r) (h1:r≤2147483647) :
  Calls Tryz.prog 113 #[.string ⟨#[0,10,13]⟩,.int .i32 r] w fun e w'=>e=.returned (.int .i64 (-1))∧Below w.heap.size w w':=by
 have e0:(0:Int)≤r:=by omega
 have e1:¬ r < 128:=by omega
 have HV:=Lib.hid (Tryz.utf8_ValidRune r w)
 obtain⟨vb,hvb⟩:∃ vb,vb=Lib.validRune r:=⟨_,rfl⟩
 rw[← hvb] at HV
 by_cases hr:r=65533
 ·subst hr
  clear HV hvb
  go_enter Tryz.func113,Tryz.ntmps113
  go_wp2
  go_loopg [5,6] 3 (fun g _ _ wx=>∃ i:Nat,i + g=3∧wx=w.iter ⟨#[0,10,13]⟩ i)
  case atStart=>exact⟨0,by omega,rfl⟩
  case round =>
   obtain⟨i,hig,rfl⟩:=hrel
   cases gk with
   | zero =>
    obtain rfl:i=3:=by omega
    have hnx:=fun ty=>run_next_end (P:=Tryz.prog) w ⟨#[0,10,13]⟩ 3 ty (by show ¬ 3 < 3;omega)
    go_wp2
    go_ret
    exact⟨rfl,zc0 w _ _⟩
   | succ g =>
    have hi:i < (⟨#[0,10,13]⟩:ByteArray).size:=by show i < 3;omega
    obtain⟨x,hx⟩:∃ x:UInt8,(⟨#[0,10,13]⟩:ByteArray)[i]'hi=x:=⟨_,rfl⟩
    have hx128:x.toNat < 128:=by
     rw[← hx]
     rcases(by omega:i=0∨i=1∨i=2) with rfl|rfl|rfl
     ·exact(by decide:(0:UInt8).toNat < 128)
     ·exact(by decide:(10:UInt8).toNat < 128)
     ·exact(by decide:(13:UInt8).toNat < 128)
    have hnx:=fun ty=>run_next_ascii (P:=Tryz.prog) w ⟨#[0,10,13]⟩ i ty hi (by rw[hx];exact hx128)
    rw[hx] at hnx
    have hxe:((x.toNat:Int) == 65533)=false:=by simp;omega
    clear hx
    go_wp2
    go_roundg g
    case measure=>omega
    case rel=>exact⟨i + 1,by omega,rfl⟩
 ·have e2:(r == 65533)=false:=by simp[hr]
  cases vb with
  | false =>
   clear hvb
   go_enter Tryz.func113,Tryz.ntmps113
   go_wp2_with (first|(go_at_call 169;refine HV.out.mono ?_;rintro e w1 ⟨rfl,rfl⟩))
   go_ret
   exact⟨rfl,Below.refl _ _⟩
  | true =>
   have HVB:=Lib.hid hvb
   clear hvb
   rcases zf0 r h0 with ⟨a,z,he,hz⟩|⟨a,b,z,he,hz⟩|⟨a,b,c,z,he,hz⟩
   ·have hcv:∀ w,(convert 21 9 (.int .i32 r)).run Tryz.prog w=.ok (.string ⟨#[a,z]⟩) w:=fun w=>by rw[zcu,he]
    have hz1:((10:Int) != (z.toNat:Int))=true:=by simp;omega
    have hz2:((13:Int) != (z.toNat:Int))=true:=by simp;omega
    have HI:∀ w',Hid (Calls Tryz.prog 100 #[.string ⟨#[13]⟩,.int .u8 z.toNat] w' fun e w''=>e=.returned (.int .i64 (-1))∧w'=w''):=fun w'=>by
     have h:=indexByte_any ⟨#[13]⟩ z w'
     rw[zge _ z hz (by decide)] at h
     exact h
    go_enter Tryz.func113,Tryz.ntmps113
    go_wp2_with (first|(go_at_call 169;refine HV.out.mono ?_;rintro e w1 ⟨rfl,rfl⟩))
    go_step3
    go_wp2
    go_loopw [9,10,11,12] (fun i _ _ _ wr=>i=.int .i64 1∧w1=wr) (fun _ _ _ _ _=>0)
    case atStart=>exact⟨rfl,rfl⟩
    case round =>
     obtain⟨rfl,rfl⟩:=hrel
     have q1:((⟨#[0,10,13]⟩:ByteArray)[1]'(by decide)).toNat=10:=rfl
     have q2:((⟨#[a,z]⟩:ByteArray)[1]'(by show 1 < 2;omega)).toNat=z.toNat:=rfl
     go_wp2_with fail
     go_step3
     go_wp2_with fail
     go_quiet (fail)
     go_wp2
     go_region_with (go_at_call 100;refine(HI _).out.mono ?_;rintro e w2 ⟨rfl,rfl⟩)
     all_goals go_wp2
     all_goals rw[Exit.noGoto_ret]
     all_goals simp(config:={ zetaDelta:=true }) only[Exit.inBlock,Exit.then]
     all_goals rw[Exit.noGoto_ret]
     all_goals go_ret
     all_goals exact⟨rfl,below_drewN _ _⟩
   ·have hcv:∀ w,(convert 21 9 (.int .i32 r)).run Tryz.prog w=.ok (.string ⟨#[a,b,z]⟩) w:=fun w=>by rw[zcu,he]
    have hz1:((10:Int) != (z.toNat:Int))=true:=by simp;omega
    have hz2:((13:Int) != (z.toNat:Int))=true:=by simp;omega
    have HI:∀ w',Hid (Calls Tryz.prog 100 #[.string ⟨#[]⟩,.int .u8 z.toNat] w' fun e w''=>e=.returned (.int .i64 (-1))∧w'=w''):=fun w'=>by
     have h:=indexByte_any ⟨#[]⟩ z w'
     rw[zge _ z hz (by decide)] at h
     exact h
    go_enter Tryz.func113,Tryz.ntmps113
    go_wp2_with (first|(go_at_call 169;refine HV.out.mono ?_;rintro e w1 ⟨rfl,rfl⟩))
    go_step3
    go_wp2
    go_loopw [9,10,11,12] (fun i _ _ _ wr=>i=.int .i64 2∧w1=wr) (fun _ _ _ _ _=>0)
    case atStart=>exact⟨rfl,rfl⟩
    case round =>
     obtain⟨rfl,rfl⟩:=hrel
     have q1:((⟨#[0,10,13]⟩:ByteArray)[2]'(by decide)).toNat=13:=rfl
     have q2:((⟨#[a,b,z]⟩:ByteArray)[2]'(by show 2 < 3;omega)).toNat=z.toNat:=rfl
     go_wp2_with fail
     go_step3
     go_wp2_with fail
     go_quiet (fail)
     go_wp2
     go_region_with (go_at_call 100;refine(HI _).out.mono ?_;rintro e w2 ⟨rfl,rfl⟩)
     all_goals go_wp2
     all_goals rw[Exit.noGoto_ret]
     all_goals simp(config:={ zetaDelta:=true }) only[Exit.inBlock,Exit.then]
     all_goals rw[Exit.noGoto_ret]
     all_goals go_ret
     all_goals exact⟨rfl,below_drewN _ _⟩
   ·have hcv:∀ w,(convert 21 9 (.int .i32 r)).run Tryz.prog w=.ok (.string ⟨#[a,b,c,z]⟩) w:=fun w=>by rw[zcu,he]
    go_enter Tryz.func113,Tryz.ntmps113
    go_wp2_with (first|(go_at_call 169;refine HV.out.mono ?_;rintro e w1 ⟨rfl,rfl⟩))
    go_step3
    go_wp2
    go_loopw [9,10,11,12] (fun i _ _ _ wr=>i=.int .i64 3∧w1=wr) (fun _ _ _ _ _=>0)
    case atStart=>exact⟨rfl,rfl⟩
    case round =>
     obtain⟨rfl,rfl⟩:=hrel
     go_wp2_with fail
     rw[Exit.noGoto_ret]
     simp(config:={ zetaDelta:=true }) only[Exit.inBlock,Exit.then]
     go_ret
     exact⟨rfl,Below.refl _ _⟩
def zdC (s:ByteArray):Nat→Nat→Bool
 | 0,_=>false
 | f + 1,i=>if i < s.size then (decide ((Utf8.decode s i).1 < 128) && c3.data.toList.contains ((Utf8.decode s i).1).toUInt8) || zdC s f (i + (Utf8.decode s i).2) else false
def anyB (s:ByteArray):Bool:=if 8 < s.size then decide (0≤Lib.indexAny s.data.toList c3.data.toList) else zdC s s.size 0
set_option maxHeartbeats 1000000 in
theorem zex (s:ByteArray) (w:World) (h8:s.size≤8) :
  Calls Tryz.prog 115 #[.string s,.string ⟨#[0,10,13]⟩] w fun e w'=>(∃ v,e=.returned (.int .i64 v)∧decide (0≤v)=zdC s s.size 0)∧Below w.heap.size w w':=by
 have h8z:decide ((8:Int) < (s.size:Int))=false:=decide_eq_false (by omega)
 obtain⟨t,ht⟩:∃ t,t=zdC s s.size 0:=⟨_,rfl⟩
 rw[← ht]
 have HT:=Lib.hid ht
 clear ht
 go_enter Tryz.func115,Tryz.ntmps115
 go_wp2_with (first|(go_at_call 171;refine(Tryz.strings_shouldUseASCIISet _ _).mono ?_;rintro e w' ⟨rfl,hw⟩;rw[hw,h8z]))
 go_loopg [9,10] s.size (fun g _ _ wx=>∃ i:Nat,s.size≤i + g∧(wx.heap[w.heap.size]? = some (.stringIter s i)∧Below w.heap.size w wx)∧zdC s g i=t)
 case atStart=>exact⟨0,by omega,⟨World.iter_heap w s 0,zc0 w s 0⟩,HT.out.symm⟩
 case round =>
  obtain⟨i,hig,⟨hit,hbe⟩,hno⟩:=hrel
  have HB:=Lib.hid hbe
  clear hbe
  have HN:=Lib.hid hno
  clear hno
  rcases Nat.lt_or_ge i s.size with hi|hi
  ·cases gk with
   | zero=>omega
   | succ g =>
    have hnx:=fun ty=>Go.Lib.run_next_any_at (P:=Tryz.prog) wr w.heap.size s i ty hit hi
    have HD:Hid (1≤(Utf8.decode s i).2∧((Utf8.decode s i).1 < 128∨128≤(Utf8.decode s i).1)):=Lib.hid (by
     rcases Nat.lt_or_ge (s[i]'hi).toNat 128 with h|h
     ·rw[decode_ascii s i hi h]
      exact⟨yV _,.inl h⟩
     ·exact⟨(decode_high s i hi h).2,.inr (decode_high s i hi h).1⟩)
    have HL:Hid ((Utf8.decode s i).1≤2147483647):=Lib.hid (decode_le s i)
    obtain⟨r,hr⟩:∃ r,r=(Utf8.decode s i).1:=⟨_,rfl⟩
    obtain⟨k,hk⟩:∃ k,k=(Utf8.decode s i).2:=⟨_,rfl⟩
    have HN2:=HN.out
    unfold zdC at HN2
    rw[if_pos hi,← hr,← hk] at HN2
    rw[← hr] at HL HD hnx
    rw[← hk] at HD hnx
    clear hr hk HN
    rcases HD.out.2 with hr1|hr1
    ·have e1:((r:Nat).toUInt8)=((r:Int)).toNat.toUInt8:=rfl
     have hcon:=Lib.contains_iff_indexByte c3.data.toList ((r:Int)).toNat.toUInt8
     rw[decide_eq_true hr1,Bool.true_and,e1,hcon] at HN2
     clear hcon e1
     obtain⟨v,hv⟩:∃ v,v=Lib.indexByte c3.data.toList ((r:Int)).toNat.toUInt8:=⟨_,rfl⟩
     rw[← hv] at HN2
     have HV:∀ w',Hid (Calls Tryz.prog 113 #[.string ⟨#[0,10,13]⟩,.int .i32 r] w' fun e w''=>e=.returned (.int .i64 v)∧w''=w'):=fun w'=>by
      rw[hv]
      exact Tryz.strings_IndexRune_ascii ⟨#[0,10,13]⟩ r w' (by omega) (by omega)
     clear hv
     by_cases h0:(0:Int)≤v
     ·rw[decide_eq_true h0,Bool.true_or] at HN2
      have HN3:=Lib.hid HN2
      clear HN2
      go_wp2_with (first|(go_at_call 113;refine(HV _).out.mono ?_;rintro e w' ⟨rfl,rfl⟩))
      go_ret
      exact⟨⟨_,rfl,by rw[← HN3.out];exact decide_eq_true (by omega)⟩,Go.Lib.below_iterAt HB.out (yV _) _ _⟩
     ·rw[decide_eq_false h0,Bool.false_or] at HN2
      have HN3:=Lib.hid HN2
      clear HN2
      go_wp2_with (first|(go_at_call 113;refine(HV _).out.mono ?_;rintro e w' ⟨rfl,rfl⟩))
      go_roundg g
      case measure=>omega
      case rel=>exact⟨i + k,by have:=HD.out.1;omega,⟨Go.Lib.iterAt_heap _ _ _ _ _ hit,Go.Lib.below_iterAt HB.out (yV _) _ _⟩,HN3.out⟩
    ·rw[decide_eq_false (by omega),Bool.false_and,Bool.false_or] at HN2
     have HN3:=Lib.hid HN2
     clear HN2
     have hL:=HL.out
     go_wp2_with (first|(go_at_call 113;refine(zfp _ _ (by omega) (by omega)).mono ?_;rintro e w5 ⟨rfl,hw⟩))
     have hw2:=hw
     rw[Go.Lib.iterAt_size] at hw2
     go_roundg g
     case measure=>omega
     case rel=>exact⟨i + k,by have:=HD.out.1;omega,⟨(hw2.block _ (Array.getElem?_eq_some_iff.1 hit).1).trans (Go.Lib.iterAt_heap _ _ _ _ _ hit),(Go.Lib.below_iterAt HB.out (yV _) _ _).trans (hw2.mono HB.out.size)⟩,HN3.out⟩
  ·have hnx:=fun ty=>Go.Lib.run_next_end_at (P:=Tryz.prog) wr w.heap.size s i ty hit (by omega)
   have h0:zdC s gk i=false:=by
    cases gk with
    | zero=>rfl
    | succ g=>unfold zdC;rw[if_neg (by omega)]
   have HN3:=Lib.hid (HN.out.symm.trans h0)
   clear h0 HN
   go_wp2
   go_ret
   exact⟨⟨_,rfl,by rw[HN3.out];rfl⟩,HB.out⟩
theorem zgd (s:ByteArray) (w:World) (hs:s.size≤1000000) :
  Calls Tryz.prog 115 #[.string s,.string ⟨#[0,10,13]⟩] w fun e w'=>(∃ v,e=.returned (.int .i64 v)∧decide (0≤v)=anyB s)∧Below w.heap.size w w':=by
 unfold anyB
 split
 ·rename_i h
  exact(Tryz.strings_IndexAny_long (zero_of_info (n:=256) (by kernel_rfl)).1 s ⟨#[0,10,13]⟩ w (by decide) h (by omega) (by decide) (ascii_of_all (by decide))).mono fun e w' ⟨h1,h2⟩=>⟨⟨_,h1,rfl⟩,by rw[h2];exact((Below.refl _ _).alloc (yV _) _).alloc (by simp) _⟩
 ·rename_i h
  exact zex s w (by omega)
theorem zfn (s:ByteArray) (w:World) (hs:s.size≤1000000) :
  Calls Tryz.prog 69 #[.string s,.string ⟨#[0,10,13]⟩] w fun e w'=>e=.returned (.bool (anyB s))∧Below w.heap.size w w':=by
 have HI:=fun w=>Lib.hid (zgd s w hs)
 go_enter Tryz.func69,Tryz.ntmps69
 go_wp2_with (first|(go_at_call 115;refine(HI _).out.mono ?_;rintro e w1 ⟨⟨v,rfl,hv⟩,hb⟩))
 go_ret
 exact⟨rfl,hb⟩
def zcg (s:ByteArray):Bool:=!anyB s && ((bs (Lib.trimS s.data.toList [32,9])).toList == s.toList)
theorem zed (s:ByteArray) (w:World) (hs:s.size≤1000000) :
  Calls Tryz.prog 30 #[.string s] w fun e w'=>e=.returned (.bool (zcg s))∧Below w.heap.size w w':=by
 have HC:=fun w=>Lib.hid (zfn s w hs)
 have HT:=fun w=>Lib.hid (trimBlank_any s w (by omega))
 unfold zcg
 obtain⟨q,hq⟩:∃ q,q=bs (Lib.trimS s.data.toList [32,9]):=⟨_,rfl⟩
 simp only[← hq] at HT ⊢
 clear hq
 obtain⟨c,hc⟩:∃ c,c=anyB s:=⟨_,rfl⟩
 simp only[← hc] at HC ⊢
 clear hc
 cases c with
 | true =>
  go_enter Tryz.func30,Tryz.ntmps30
  go_wp2_with (first|(go_at_call 69;refine(HC _).out.mono ?_;rintro e w1 ⟨rfl,hb⟩))
  go_ret
  exact⟨rfl,hb⟩
 | false =>
  go_enter Tryz.func30,Tryz.ntmps30
  go_wp2_with (first|(go_at_call 69;refine(HC _).out.mono ?_;rintro e w1 ⟨rfl,hb⟩)|(go_at_call 28;refine(HT _).out.mono ?_;rintro e w2 ⟨rfl,hb2⟩))
  go_ret
  exact⟨by simp,hb.trans (hb2.mono hb.size)⟩
end
section
open Go.RowKit Go.Shelf
attribute [local go_sem] Oper.semAt_some
def lnX (s:ByteArray):ByteArray×Bool:=(bs (Lib.cut s.data.toList [13,10]).1,(Lib.cut s.data.toList [13,10]).2.2)
def lnR (s:ByteArray):ByteArray:=bs (Lib.cut s.data.toList [13,10]).2.1
def zbX:Nat→ByteArray→List (ByteArray×Bool)
 | 0,_=>[]
 | k + 1,s=>if s.size=0 then [] else lnX s::zbX k (lnR s)
def zaK (s:ByteArray):List (ByteArray×Bool):=zbX s.size s
theorem ze1 (s:ByteArray) (h:s.size≠0):(lnR s).size < s.size:=by
 unfold lnR Lib.cut
 have hl:s.data.toList.length=s.size:=(size_len s).symm
 split
 ·show (List.drop _ _).toArray.size < _
  rw[List.size_toArray,List.length_drop,hl]
  show _ - (_ + 2) < _
  omega
 ·show ([]:List UInt8).length < s.size
  simp;omega
theorem zbM:∀ (k:Nat) (s:ByteArray),s.size≤k→zbX k s=zbX s.size s
 | 0,s,h=>by rw[show s.size=0 by omega]
 | k + 1,s,h=>by
  by_cases h0:s.size=0
  ·rw[h0];unfold zbX;rw[if_pos h0]
  ·have hlt:=ze1 s h0
   obtain⟨m,hm⟩:∃ m,s.size=m + 1:=⟨s.size - 1,by omega⟩
   rw[hm]
   unfold zbX
   rw[if_neg h0,if_neg h0,zbM k _ (by omega),zbM m _ (by omega)]
theorem zfr (s:ByteArray) (h:s.size=0):zaK s=[]:=by unfold zaK;rw[h];rfl
theorem zey (s:ByteArray) (h:s.size≠0):zaK s=lnX s::zaK (lnR s):=by
 have hlt:=ze1 s h
 obtain⟨m,hm⟩:∃ m,s.size=m + 1:=⟨s.size - 1,by omega⟩
 unfold zaK
 rw[hm]
 show (if s.size=0 then [] else _)=_
 rw[if_neg h,zbM m _ (by omega)]
theorem zcy {p:Nat→Prop} (hp:∀ k,k < 6→p k) {w w':World} (h:Glob w) (hb:KeepAt p w w'):Glob w':=by
 have c:∀ b o,b < 6→w'.cell? ⟨b,o,none⟩=w.cell? ⟨b,o,none⟩:=fun b o hlt=>hb.cell (a:=⟨b,o,none⟩) (hp _ hlt)
 refine⟨(c 0 0 (by omega)).trans h.err,?_,fun j hj=>(c 2 j (by omega)).trans (h.bodies j hj),⟨fun j hj=>(c 3 j (by omega)).trans (h.u8.1 j hj),fun i hi=>⟨(c 4 _ (by omega)).trans (h.u8.2 i hi).1,(c 4 _ (by omega)).trans (h.u8.2 i hi).2⟩⟩,fun j hj=>(c 5 j (by omega)).trans (h.names j hj),yW h.lt hb.1⟩
 obtain⟨m,hm⟩:=h.max
 exact⟨m,(c 1 0 (by omega)).trans hm⟩
def zgB (w:World) (b:Nat):Nat:=match w.heap[b]? with|some (.cells #[.string s] _ _)=>s.size|_=>0
theorem zd3 {w:World} {b:Nat} {s:ByteArray} (h:Boxed w b 9 (.string s)):zgB w b=s.size:=by unfold zgB;rw[show w.heap[b]? = _ from h];rfl
set_option maxHeartbeats 2000000 in
theorem zhZ (n:Nat) (hn:2≤n) (l Bs:Nat) (h6:6≤Bs) (s:ByteArray) (hs:s.size≤1000000) (J Jx:List (ByteArray×Bool)→World→Prop) (p:Nat→Prop) (hp1:p Bs) (hp2:∀ k,k < 6→p k)
  (hY:∀ pre x W,J pre W→(∃ post,zaK s=pre++x::post)→YieldAt Fence.wide (n - 1) Tryz.prog l #[.string x.1,.bool x.2] W fun e W' =>
   (e=.returned (.bool true)∧J (pre++[x]) W'∧KeepAt p W W')∨(e=.returned (.bool false)∧Jx (pre++[x]) W'))
  (hJb:∀ pre W W',J pre W→Below W.heap.size W W'→J pre W')
  (hJw:∀ pre W v,J pre W→J pre (W.setCell ⟨Bs,0,none⟩ v))
  (W:World) (hG:Glob W) (hBs:Boxed W Bs 9 (.string s)) (h0:J [] W) :
  CallsIn Fence.wide n Tryz.prog 55 #[.func (.yield l) #[] #[],.pointer (some ⟨Bs,0,none⟩)] W fun e W'=>(∃ v,e=.returned v) ∧
   ((∃ ys,ys=zaK s∧J ys W')∨(∃ pre,(∃ post,zaK s=pre++post)∧Jx pre W')):=by
 refine callsIn_of_wp Tryz.func55 rfl trivial ?_ rfl
 simp only[Tryz.ntmps55,List.size_toArray,List.length_cons,List.length_nil,Nat.reduceAdd,Nat.reduceSub,Array.replicate_succ,Array.replicate_zero,List.push_toArray,List.append_toArray,List.nil_append,List.cons_append]
 gi_wp2
 gi_loopw [3,4,5] (fun _ _ _ wr=>∃ (pre:List (ByteArray×Bool)) (r:ByteArray),r.size≤s.size∧Boxed wr Bs 9 (.string r)∧Glob wr∧J pre wr∧zaK s=pre++zaK r)
  (fun _ _ _ wr=>zgB wr Bs)
 case atStart=>exact⟨[],s,yV _,hBs,hG,h0,rfl⟩
 case round =>
  obtain⟨pre,r,hr,hb,hg,hJs,hl⟩:=hrel
  have hsz:=zd3 hb
  have hc:=hb.cell
  have hf:=hb.frozen
  by_cases hz:r.size=0
  ·have hne:r.toList.isEmpty=true:=(empty_iff r).2 hz
   rw[zfr r hz,List.append_nil] at hl
   have HL:=Lib.hid hl
   clear hl
   gi_wp2
   go_end0
   exact⟨⟨_,rfl⟩,.inl ⟨_,HL.out.symm,hJs⟩⟩
  ·have hne:r.toList.isEmpty=false:=empty_no hz
   have HLT:=Lib.hid (ze1 r hz)
   rw[zey r hz] at hl
   have HC:=fun w'=>Lib.hid (fun (G':Glob w')=>cut_any r ⟨#[13,10]⟩ w' G' (by omega))
   have HCC:∀ w',Glob w'→Hid (Calls Tryz.prog 27 #[.string r,.string ⟨#[13,10]⟩] w' fun e w''=>e=.returned (.tuple #[.string (lnX r).1,.string (lnR r),.bool (lnX r).2])∧Below w'.heap.size w' w''):=fun w' G'=>(HC w').out G'
   clear HC
   obtain⟨x,hx⟩:∃ x,x=lnX r:=⟨_,rfl⟩
   obtain⟨q,hq⟩:∃ q,q=lnR r:=⟨_,rfl⟩
   simp only[← hx,← hq] at HCC HLT
   rw[← hx,← hq] at hl
   clear hx hq
   have HL:=Lib.hid hl
   have HY:∀ w1,J pre w1→Hid (YieldAt Fence.wide (n - 1) Tryz.prog l #[.string x.1,.bool x.2] w1 fun e W'=>∃ t,e=.returned (.bool t)∧Went J Jx p w1 (pre++[x]) t W'):=fun w1 j1=>by
    obtain⟨fn,tmps,assign,body,hy,hR⟩:=hY pre x w1 j1 ⟨_,hl⟩
    refine⟨fn,tmps,assign,body,hy,hR.mono ?_⟩
    rintro e W' (⟨rfl,h1,h2⟩|⟨rfl,h1⟩)
    ·exact⟨true,rfl,h1,h2⟩
    ·exact⟨false,rfl,h1⟩
   clear hl
   gi_wp2_with (first|(refine⟨trivial,fun _=>by omega,?_⟩;gi_at_call 27;refine(callsIn_wide.2 (HCC _ hg).out).mono ?_;rintro e w1 ⟨rfl,b1⟩;have B1:=Boxed.kept hb (grown_below b1) (by simp);have g1:=hg.below b1;have j1:=hJb _ _ _ hJs b1;obtain⟨fn,tmps,assign,body,hy,hR⟩:=(HY _ j1).out;have hRR:=Lib.hid hR;clear hR))
   refine⟨fun _=>by omega,?_⟩
   refine hRR.out.mono ?_
   rintro e w2 ⟨t,rfl,hw⟩
   cases t with
   | true =>
    obtain⟨h1,h2⟩:=hw
    have b2:Boxed w2 Bs 9 (.string r):=(h2.2 _ hp1).trans B1
    have g2:=zcy hp2 g1 h2
    have hf2:=b2.frozen
    have hc2:=b2.cell
    gi_wp2
    go_roundw
    case rel=>exact⟨pre++[x],q,by have:=HLT.out;omega,Boxed.set (.string q) b2,zcy (p:=fun k=>k < 6) (fun _ h=>h) g2 (KeepAt.setCell w2 ⟨Bs,0,none⟩ (.string q) (by show ¬ Bs < 6;omega)),hJw _ _ _ h1,by rw[HL.out];simp⟩
    case measure=>rw[hsz,zd3 (Boxed.set (.string q) b2)];exact HLT.out
   | false =>
    have h1:Jx _ _:=hw
    gi_wp2
    refine yO (results_none rfl _ _ _) rfl ?_
    exact⟨⟨_,rfl⟩,.inr ⟨_,⟨zaK q,by rw[HL.out];simp⟩,h1⟩⟩
theorem zgi (s:ByteArray) (w:World):Calls Tryz.prog 26 #[.string s] w fun e w'=>e=.returned (.func (.func 55) #[] #[.pointer (some ⟨w.heap.size,0,none⟩)])∧w.alloc (.cells #[.string s] 9)=w':=by
 have hmf:∀ (fn:Fn) (first cap:Array Value) (w:World),(Instr.makeFunc fn first cap).run Tryz.prog w=.ok (.func fn first cap) w:=fun _ _ _ _=>rfl
 go_enter Tryz.func26,Tryz.ntmps26
 go_wp2
 go_ret
 exact⟨rfl,rfl⟩
theorem zfq (n:Nat) (hn:2≤n) (Bs:Nat) (h6:6≤Bs) (s:ByteArray) (hs:s.size≤1000000) (w:World) (hG:Glob w) (h1:Boxed w Bs 9 (.string s)) :
  SeqW n Tryz.prog 55 #[.pointer (some ⟨Bs,0,none⟩)] (fun x:ByteArray×Bool=>#[.string x.1,.bool x.2]) (KeepAt fun k=>k=Bs∨k < 6) (fun pre x _=>∃ post,zaK s=pre++x::post)
   (fun A B=>∃ v,B=A.setCell ⟨Bs,0,none⟩ v) (fun xs=>xs=zaK s) (fun pre=>∃ post,zaK s=pre++post) w:=fun l J Jx W hW hJ _ hJw _ hY h0=>by
 have hk:KeepAt (fun k=>k=Bs∨k < 6) w W:=KeepAt.below (n:=w.heap.size) (fun k hk=>by have:=h1.lt;omega) hW
 refine(zhZ n hn l Bs h6 s hs J Jx (fun k=>k=Bs∨k < 6) (Or.inl rfl) (fun k h=>Or.inr h) hY (fun pre A B h hb=>abides_below hJ h hb) (fun pre A v h=>hJw _ _ _ h ⟨v,rfl⟩) W (zcy (fun k h=>Or.inr h) hG hk) ((hk.2 _ (Or.inl rfl)).trans h1) h0).mono ?_
 rintro e W' ⟨he,⟨ys,hy,hj⟩|⟨pre,hp,hj⟩⟩
 ·exact⟨he,.inl ⟨ys,hy,hj⟩⟩
 ·exact⟨he,.inr ⟨pre,hp,hj⟩⟩
end
end Go.Proofs.YtdlkjofnnefjfaaGreatDoor
