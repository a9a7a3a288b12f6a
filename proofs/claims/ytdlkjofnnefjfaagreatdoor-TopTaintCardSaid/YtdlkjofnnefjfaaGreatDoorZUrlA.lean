/- The walks of the questions that the program asks of characters, and of what asks them: names of fields, schemes, ends of texts: for every text of at most 1000000 bytes. The walks of layer 9's small functions: the port of a scheme, opaque schemes, going wrong, the scheme and the tail of a text: for every text of at most 1000000 bytes. -/
import Derived.Test.YtdlkjofnnefjfaaGreatDoorZLib
set_option linter.all false
namespace Go.Proofs.YtdlkjofnnefjfaaGreatDoor
set_option maxRecDepth 100000
section
open Go.RowKit
def nameOddMarks:ByteArray:=⟨#[33,35,36,37,38,39,42,43,45,46,94,95,96,124,126]⟩
def nameOdd (r:Nat):Bool:=decide (128≤r) || (!isA (UInt8.ofNat r) && (!Deci.isD (UInt8.ofNat r) && !decide (0≤Lib.indexByte nameOddMarks.data.toList (UInt8.ofNat r))))
theorem nameOdd_at (w:World):PredAt Tryz.prog 64 #[] encR nameOdd w:=fun W r _=>by
 unfold FnGives
 show Calls Tryz.prog 64 #[.int .i32 (r:Int)] W fun e w'=>e=.returned (.bool (nameOdd r))∧∃ q,w'=W.drewN q
 by_cases h:128≤r
 ·have e:nameOdd r=true:=by unfold nameOdd;rw[decide_eq_true h];rfl
  rw[e]
  clear e
  go_enter Tryz.func64,Tryz.ntmps64
  go_wp2
  go_ret
  exact⟨rfl,0,rfl⟩
 ·have HE:Hid (nameOdd r=(!isA (UInt8.ofNat r) && (!Deci.isD (UInt8.ofNat r) && !decide (0≤Lib.indexByte nameOddMarks.data.toList (UInt8.ofNat r))))):=by
   show _=_;unfold nameOdd;rw[decide_eq_false h,Bool.false_or]
  obtain⟨c,hc⟩:∃ c,c=UInt8.ofNat r:=⟨_,rfl⟩
  have hr:r=c.toNat:=by rw[hc];simp;omega
  obtain⟨b,hb⟩:∃ b,b=nameOdd r:=⟨_,rfl⟩
  rw[← hc,← hb] at HE
  rw[← hb]
  clear hb hc
  subst hr
  have H1:=Lib.hid (alpha_any c W)
  have H2:=Lib.hid (digit_any c W)
  have h3:Calls Tryz.prog 67 #[.string nameOddMarks,.int .i32 c.toNat] W fun e w'=>e=.returned (.bool (decide (0≤Lib.indexByte nameOddMarks.data.toList c)))∧W=w':=by
   have:=containsRune_any nameOddMarks c.toNat W (by omega) (by omega)
   simpa using this
  have H3:=Lib.hid h3
  clear h3
  obtain⟨b1,h1⟩:∃ b,b=isA c:=⟨_,rfl⟩
  obtain⟨b2,h2⟩:∃ b,b=Deci.isD c:=⟨_,rfl⟩
  obtain⟨b3,h3⟩:∃ b,b=decide (0≤Lib.indexByte nameOddMarks.data.toList c):=⟨_,rfl⟩
  rw[← h1,← h2,← h3] at HE
  rw[← h1] at H1
  rw[← h2] at H2
  rw[← h3] at H3
  clear h1 h2 h3
  have hw:IntKind.u8.wrap (c.toNat:Int)=c.toNat:=by have:=c.toNat_lt;exact wrap_u8 (by omega) (by omega)
  cases b1 with
  | true =>
   go_enter Tryz.func64,Tryz.ntmps64
   go_wp2_with fail
   refine H1.out.mono ?_
   rintro e w' ⟨rfl,rfl⟩
   go_wp2
   go_ret
   exact⟨ret_bool (by rw[HE.out];simp <;> omega),0,rfl⟩
  | false =>
   cases b2 with
   | true =>
    go_enter Tryz.func64,Tryz.ntmps64
    go_wp2_with fail
    refine H1.out.mono ?_
    rintro e w' ⟨rfl,rfl⟩
    go_wp2_with fail
    refine H2.out.mono ?_
    rintro e w' ⟨rfl,rfl⟩
    go_wp2
    go_ret
    exact⟨ret_bool (by rw[HE.out];simp <;> omega),0,rfl⟩
   | false =>
    go_enter Tryz.func64,Tryz.ntmps64
    go_wp2_with fail
    refine H1.out.mono ?_
    rintro e w' ⟨rfl,rfl⟩
    go_wp2_with fail
    refine H2.out.mono ?_
    rintro e w' ⟨rfl,rfl⟩
    go_wp2_with fail
    refine H3.out.mono ?_
    rintro e w' ⟨rfl,rfl⟩
    go_wp2
    go_ret
    exact⟨ret_bool (by rw[HE.out];simp <;> omega),0,rfl⟩
def schOddMarks:ByteArray:=⟨#[43,45,46]⟩
def schOdd (r:Nat):Bool:=decide (128≤r) || (!isA (UInt8.ofNat r) && (!Deci.isD (UInt8.ofNat r) && !decide (0≤Lib.indexByte schOddMarks.data.toList (UInt8.ofNat r))))
theorem schOdd_at (w:World):PredAt Tryz.prog 149 #[] encR schOdd w:=fun W r _=>by
 unfold FnGives
 show Calls Tryz.prog 149 #[.int .i32 (r:Int)] W fun e w'=>e=.returned (.bool (schOdd r))∧∃ q,w'=W.drewN q
 by_cases h:128≤r
 ·have e:schOdd r=true:=by unfold schOdd;rw[decide_eq_true h];rfl
  rw[e]
  clear e
  go_enter Tryz.func149,Tryz.ntmps149
  go_wp2
  go_ret
  exact⟨rfl,0,rfl⟩
 ·have HE:Hid (schOdd r=(!isA (UInt8.ofNat r) && (!Deci.isD (UInt8.ofNat r) && !decide (0≤Lib.indexByte schOddMarks.data.toList (UInt8.ofNat r))))):=by
   show _=_;unfold schOdd;rw[decide_eq_false h,Bool.false_or]
  obtain⟨c,hc⟩:∃ c,c=UInt8.ofNat r:=⟨_,rfl⟩
  have hr:r=c.toNat:=by rw[hc];simp;omega
  obtain⟨b,hb⟩:∃ b,b=schOdd r:=⟨_,rfl⟩
  rw[← hc,← hb] at HE
  rw[← hb]
  clear hb hc
  subst hr
  have H1:=Lib.hid (alpha_any c W)
  have H2:=Lib.hid (digit_any c W)
  have h3:Calls Tryz.prog 67 #[.string schOddMarks,.int .i32 c.toNat] W fun e w'=>e=.returned (.bool (decide (0≤Lib.indexByte schOddMarks.data.toList c)))∧W=w':=by
   have:=containsRune_any schOddMarks c.toNat W (by omega) (by omega)
   simpa using this
  have H3:=Lib.hid h3
  clear h3
  obtain⟨b1,h1⟩:∃ b,b=isA c:=⟨_,rfl⟩
  obtain⟨b2,h2⟩:∃ b,b=Deci.isD c:=⟨_,rfl⟩
  obtain⟨b3,h3⟩:∃ b,b=decide (0≤Lib.indexByte schOddMarks.data.toList c):=⟨_,rfl⟩
  rw[← h1,← h2,← h3] at HE
  rw[← h1] at H1
  rw[← h2] at H2
  rw[← h3] at H3
  clear h1 h2 h3
  have hw:IntKind.u8.wrap (c.toNat:Int)=c.toNat:=by have:=c.toNat_lt;exact wrap_u8 (by omega) (by omega)
  cases b1 with
  | true =>
   go_enter Tryz.func149,Tryz.ntmps149
   go_wp2_with fail
   refine H1.out.mono ?_
   rintro e w' ⟨rfl,rfl⟩
   go_wp2
   go_ret
   exact⟨ret_bool (by rw[HE.out];simp <;> omega),0,rfl⟩
  | false =>
   cases b2 with
   | true =>
    go_enter Tryz.func149,Tryz.ntmps149
    go_wp2_with fail
    refine H1.out.mono ?_
    rintro e w' ⟨rfl,rfl⟩
    go_wp2_with fail
    refine H2.out.mono ?_
    rintro e w' ⟨rfl,rfl⟩
    go_wp2
    go_ret
    exact⟨ret_bool (by rw[HE.out];simp <;> omega),0,rfl⟩
   | false =>
    go_enter Tryz.func149,Tryz.ntmps149
    go_wp2_with fail
    refine H1.out.mono ?_
    rintro e w' ⟨rfl,rfl⟩
    go_wp2_with fail
    refine H2.out.mono ?_
    rintro e w' ⟨rfl,rfl⟩
    go_wp2_with fail
    refine H3.out.mono ?_
    rintro e w' ⟨rfl,rfl⟩
    go_wp2
    go_ret
    exact⟨ret_bool (by rw[HE.out];simp <;> omega),0,rfl⟩
theorem blank_at (w:World):PredAt Tryz.prog 163 #[] encR (fun r=>decide (r≤32)) w:=fun W r _=>by
 unfold FnGives
 show Calls Tryz.prog 163 #[.int .i32 (r:Int)] W fun e w'=>e=.returned (.bool (decide (r≤32)))∧∃ q,w'=W.drewN q
 go_enter Tryz.func163,Tryz.ntmps163
 go_wp2
 go_ret
 exact⟨ret_bool (by rw[decide_eq_decide];omega),0,rfl⟩
def trimB (s:ByteArray):ByteArray:=Lib.trimF (fun r=>decide (r≤32)) s
theorem trim_any (s:ByteArray) (w:World) (G:Glob w) (hs:s.size≤1000000) :
  Calls Tryz.prog 106 #[.string s] w fun e w'=>e=.returned (.string (trimB s))∧Below w.heap.size w w':=by
 have H:=Lib.hid (Tryz.strings_TrimFunc 163 #[] (enters_of Tryz.func163 (by kernel_rfl) rfl) (fun r=>decide (r≤32)) s w (by omega) G.u8 (blank_at w))
 go_enter Tryz.func106,Tryz.ntmps106
 go_wp2_with fail
 refine H.out.mono ?_
 rintro e w1 ⟨rfl,b1⟩
 go_wp2
 go_ret
 exact⟨rfl,b1⟩
def nameB (s:ByteArray):Bool:=decide (s.size≠0) && !decide (0≤Lib.idxFunc nameOdd true s)
theorem name_any (s:ByteArray) (w:World) (hs:s.size≤1000000) :
  Calls Tryz.prog 29 #[.string s] w fun e w'=>e=.returned (.bool (nameB s))∧Below w.heap.size w w':=by
 by_cases h0:s.size=0
 ·have e:nameB s=false:=by unfold nameB;rw[decide_eq_false (by omega)];rfl
  rw[e]
  have he:s.toList.isEmpty=true:=(empty_iff s).2 h0
  have he2:s.data.toList=[]:=List.length_eq_zero_iff.1 (by rw[size_len];exact h0)
  clear e h0
  go_enter Tryz.func29,Tryz.ntmps29
  go_wp2
  go_ret
  exact⟨rfl,Below.refl _ _⟩
 ·have he:s.toList.isEmpty=false:=empty_no h0
  have HE:Hid (nameB s=!decide (0≤Lib.idxFunc nameOdd true s)):=by show _=_;unfold nameB;rw[decide_eq_true h0,Bool.true_and]
  have H:=Lib.hid (Tryz.strings_ContainsFunc 64 #[] (enters_of Tryz.func64 (by kernel_rfl) rfl) nameOdd s w (nameOdd_at w))
  obtain⟨b,hb⟩:∃ b,b=decide (0≤Lib.idxFunc nameOdd true s):=⟨_,rfl⟩
  rw[← hb] at HE H
  clear hb h0
  go_enter Tryz.func29,Tryz.ntmps29
  go_wp2_with fail
  refine H.out.mono ?_
  rintro e w1 ⟨rfl,b1⟩
  go_wp2
  go_ret
  exact⟨ret_bool (by rw[HE.out]),b1⟩
end
section
open Go.RowKit
def sHttp:ByteArray:=⟨#[104,116,116,112]⟩
def sHttps:ByteArray:=⟨#[104,116,116,112,115]⟩
def webP (s:ByteArray):Int:=if s=sHttp then 80 else if s=sHttps then 443 else 0
theorem web_any (s:ByteArray) (w:World):Calls Tryz.prog 33 #[.string s] w fun e w'=>e=.returned (.int .i64 (webP s))∧w=w':=by
 by_cases h1:s=sHttp
 ·subst h1
  show Calls Tryz.prog 33 #[.string ⟨#[104,116,116,112]⟩] w fun e w'=>e=.returned (.int .i64 80)∧w=w'
  go_enter Tryz.func33,Tryz.ntmps33
  go_wp2
  go_ret
  exact⟨rfl,rfl⟩
 ·have n1:=beq_no h1
  have n1':(s.data.toList == [104,116,116,112])=false:=by have:=n1;rw[toList_data,toList_data] at this;exact this
  by_cases h2:s=sHttps
  ·subst h2
   show Calls Tryz.prog 33 #[.string ⟨#[104,116,116,112,115]⟩] w fun e w'=>e=.returned (.int .i64 443)∧w=w'
   clear h1 n1 n1'
   go_enter Tryz.func33,Tryz.ntmps33
   go_wp2
   go_ret
   exact⟨rfl,rfl⟩
  ·have n2:=beq_no h2
   have n2':(s.data.toList == [104,116,116,112,115])=false:=by have:=n2;rw[toList_data,toList_data] at this;exact this
   have e:webP s=0:=by unfold webP;rw[if_neg h1,if_neg h2]
   rw[e]
   have m1:(s.toList == [104,116,116,112])=false:=by rw[toList_data];exact n1'
   have m2:(s.toList == [104,116,116,112,115])=false:=by rw[toList_data];exact n2'
   clear h1 h2 e n1 n2
   go_enter Tryz.func33,Tryz.ntmps33
   go_wp2
   go_ret
   exact⟨rfl,rfl⟩
def opqNames:List ByteArray:=[⟨#[97,98,111,117,116]⟩,⟨#[100,97,116,97]⟩,⟨#[98,108,111,98]⟩]
def opqB (s:ByteArray):Bool:=Lib.containsS opqNames s
theorem opaque_any (s:ByteArray) (w:World):Calls Tryz.prog 72 #[.string s] w fun e w'=>e=.returned (.bool (opqB s))∧Below w.heap.size w w':=by
 have H:=fun (w1:World) (hc:∀ j,j < opqNames.length→w1.cell? ⟨w.heap.size,0 + j,none⟩=some (.string (opqNames.getD j ByteArray.empty)))=>Tryz.slices_Contains_string w.heap.size 0 3 3 opqNames s w1 (by decide) (by decide) hc
 have HH:Hid (Calls Tryz.prog 116 #[.slice (some ⟨w.heap.size,0,none⟩) 3 3,.string s] (w.alloc (.cells #[.string ⟨#[97,98,111,117,116]⟩,.string ⟨#[100,97,116,97]⟩,.string ⟨#[98,108,111,98]⟩] 9)) fun e w'=>e=.returned (.bool (opqB s))∧(w.alloc (.cells #[.string ⟨#[97,98,111,117,116]⟩,.string ⟨#[100,97,116,97]⟩,.string ⟨#[98,108,111,98]⟩] 9))=w'):=by
  refine(H _ fun j hj=>?_).mono fun e w' ⟨he,hw⟩=>⟨he,hw.symm⟩
  rw[World.cell?_alloc_at _ _ _ _ rfl]
  have:j < 3:=hj
  match j,this with
  | 0,_=>rfl
  | 1,_=>rfl
  | 2,_=>rfl
 clear H
 go_enter Tryz.func72,Tryz.ntmps72
 go_wp2_with fail
 refine HH.out.mono ?_
 rintro e w' ⟨rfl,rfl⟩
 go_wp2
 go_ret
 exact⟨rfl,(Below.refl _ _).alloc (Nat.le_refl _) _⟩
def wrongE:List PanicEntry:=[{ v:=.iface 95 (.agg #[]),recovered:=false }]
theorem must_yes (w:World):Calls Tryz.prog 96 #[.bool true] w fun e w'=>e=.returned (.tuple #[])∧w=w':=by
 have hnot:∀ (x:Bool) (w:World),(Op.unary .not (.bool x)).run Tryz.prog w=.ok (.bool (!x)) w:=fun _ _=>rfl
 go_enter Tryz.func96,Tryz.ntmps96
 go_wp2
 go_end0
 exact⟨rfl,rfl⟩
theorem must_no (w:World):Calls Tryz.prog 96 #[.bool false] w fun e w'=>e=.panicked wrongE∧w=w':=by
 go_enter Tryz.func96,Tryz.ntmps96
 go_wp2
 exact⟨rfl,rfl,rfl⟩
def tail1 (s:ByteArray):ByteArray:=bs (Lib.cut s.data.toList [35]).1
def tailT (s:ByteArray):ByteArray:=bs (Lib.cut (tail1 s).data.toList [63]).1
def tailQ (s:ByteArray):ByteArray:=bs (Lib.cut (tail1 s).data.toList [63]).2.1
def tailF (s:ByteArray):ByteArray:=bs (Lib.cut s.data.toList [35]).2.1
def tailHQ (s:ByteArray):Bool:=(Lib.cut (tail1 s).data.toList [63]).2.2
def tailHF (s:ByteArray):Bool:=(Lib.cut s.data.toList [35]).2.2
theorem cut_le (s sep:List UInt8):(Lib.cut s sep).1.length≤s.length∧(Lib.cut s sep).2.1.length≤s.length:=by
 unfold Lib.cut
 split <;> simp <;> omega
theorem tail_any (s:ByteArray) (w:World) (G:Glob w) (hs:s.size≤1000000) :
  Calls Tryz.prog 97 #[.string s] w fun e w'=>e=.returned (.tuple #[.string (tailT s),.string (tailQ s),.string (tailF s),.bool (tailHQ s),.bool (tailHF s)])∧Below w.heap.size w w':=by
 have H1:Hid (Calls Tryz.prog 27 #[.string s,.string ⟨#[35]⟩] w fun e w'=>e=.returned (.tuple #[.string (tail1 s),.string (tailF s),.bool (tailHF s)])∧Below w.heap.size w w'):=cut_any s ⟨#[35]⟩ w G (by omega)
 have hz:(tail1 s).size≤1000000:=by
  have:=(cut_le s.data.toList [35]).1
  rw[size_len] at this
  unfold tail1;rw[bs_size];omega
 have H2:Hid (∀ w1:World,Glob w1→Calls Tryz.prog 27 #[.string (tail1 s),.string ⟨#[63]⟩] w1 fun e w'=>e=.returned (.tuple #[.string (tailT s),.string (tailQ s),.bool (tailHQ s)])∧Below w1.heap.size w1 w'):=fun w1 G1=>cut_any (tail1 s) ⟨#[63]⟩ w1 G1 (by omega)
 clear hz
 go_enter Tryz.func97,Tryz.ntmps97
 go_wp2_with fail
 refine H1.out.mono ?_
 rintro e w1 ⟨rfl,b1⟩
 go_wp2_with fail
 refine(H2.out _ (G.below b1)).mono ?_
 rintro e w2 ⟨rfl,b2⟩
 go_wp2
 exact bodyPost_ret (v:=.tuple #[.string (tailT s),.string (tailQ s),.string (tailF s),.bool (tailHQ s),.bool (tailHF s)]) (by simp[results,Tryz.results97,go_sem]) rfl ⟨rfl,below_then b1 b2⟩
def schName (s:ByteArray):ByteArray:=bs (Lib.cut s.data.toList [58]).1
def schRest (s:ByteArray):ByteArray:=bs (Lib.cut s.data.toList [58]).2.1
def schHas (s:ByteArray):Bool:=(Lib.cut s.data.toList [58]).2.2
def schOK (s:ByteArray):Bool:=schHas s && (decide ((schName s).size≠0) && (isA ((schName s).data.toList.getD 0 0) && !decide (0≤Lib.idxFunc schOdd true (schName s))))
def schS (s:ByteArray):ByteArray:=if schOK s=true then bs (lowL (schName s).data.toList) else ⟨#[]⟩
def schR (s:ByteArray):ByteArray:=if schOK s=true then schRest s else ⟨#[]⟩
def SchLeft (s:ByteArray) (w:World) (e:Ending) (w':World):Prop:=e=.returned (.tuple #[.string (schS s),.string (schR s),.bool (schOK s)])∧Below w.heap.size w w'
theorem sch_no {s:ByteArray} {w w':World} (h:schOK s=false) (hb:Below w.heap.size w w'):SchLeft s w (.returned (.tuple #[.string ⟨#[]⟩,.string ⟨#[]⟩,.bool false])) w':=by
 refine⟨?_,hb⟩
 unfold schS schR
 rw[h];rfl
set_option maxHeartbeats 1000000 in
theorem scheme_any (s:ByteArray) (w:World) (G:Glob w) (hs:s.size≤1000000) :
  Calls Tryz.prog 95 #[.string s] w (SchLeft s w):=by
 have H1:Hid (Calls Tryz.prog 27 #[.string s,.string ⟨#[58]⟩] w fun e w'=>e=.returned (.tuple #[.string (schName s),.string (schRest s),.bool (schHas s)])∧Below w.heap.size w w'):=cut_any s ⟨#[58]⟩ w G (by omega)
 have hz:(schName s).size≤1000000:=by
  have:=(cut_le s.data.toList [58]).1
  rw[size_len] at this
  unfold schName;rw[bs_size];omega
 have HOK:Hid (schOK s=(schHas s && (decide ((schName s).size≠0) && (isA ((schName s).data.toList.getD 0 0) && !decide (0≤Lib.idxFunc schOdd true (schName s)))))):=rfl
 have HYES:Hid (∀ w',schOK s=true→Below w.heap.size w w'→SchLeft s w (.returned (.tuple #[.string (bs (lowL (schName s).data.toList)),.string (schRest s),.bool true])) w'):=fun w' h hb=>⟨by unfold schS schR;rw[h];rfl,hb⟩
 obtain⟨n,hn⟩:∃ n,n=schName s:=⟨_,rfl⟩
 obtain⟨r,hr⟩:∃ r,r=schRest s:=⟨_,rfl⟩
 obtain⟨b,hb⟩:∃ b,b=schHas s:=⟨_,rfl⟩
 rw[← hn] at H1 hz HOK HYES
 rw[← hr] at H1 HYES
 rw[← hb] at H1 HOK
 clear hn hr hb
 cases b with
 | false =>
  have HF:=Lib.hid (fun w'=>sch_no (w:=w) (w':=w') (by rw[HOK.out,Bool.false_and]))
  go_enter Tryz.func95,Tryz.ntmps95
  go_wp2_with fail
  refine H1.out.mono ?_
  rintro e w1 ⟨rfl,b1⟩
  go_wp2
  exact bodyPost_ret (v:=.tuple #[.string ⟨#[]⟩,.string ⟨#[]⟩,.bool false]) (by simp[results,Tryz.results95,go_sem]) rfl (HF.out _ b1)
 | true =>
  by_cases h0:n.size=0
  ·have HF:=Lib.hid (fun w'=>sch_no (w:=w) (w':=w') (by rw[HOK.out,h0];rfl))
   have he:n.toList.isEmpty=true:=(empty_iff n).2 h0
   have he2:n.data.toList=[]:=List.length_eq_zero_iff.1 (by rw[size_len];exact h0)
   clear h0
   go_enter Tryz.func95,Tryz.ntmps95
   go_wp2_with fail
   refine H1.out.mono ?_
   rintro e w1 ⟨rfl,b1⟩
   go_wp2
   exact bodyPost_ret (v:=.tuple #[.string ⟨#[]⟩,.string ⟨#[]⟩,.bool false]) (by simp[results,Tryz.results95,go_sem]) rfl (HF.out _ b1)
  ·have hp:0 < n.size:=by omega
   have he:n.toList.isEmpty=false:=empty_no h0
   have HG:Hid (schOK s=(isA (n[0]'hp) && !decide (0≤Lib.idxFunc schOdd true n))):=by
    show _=_
    rw[HOK.out,decide_eq_true h0,Bool.true_and,Bool.true_and]
    congr 2
    rw[List.getD,Array.getElem?_toList,Array.getElem?_eq_getElem (by exact hp)];rfl
   have HA:=Lib.hid (alpha_any (n[0]'hp))
   have HC:Hid (∀ w1:World,Calls Tryz.prog 68 #[.string n,.func (.func 149) #[] #[]] w1 fun e w'=>e=.returned (.bool (decide (0≤Lib.idxFunc schOdd true n)))∧Below w1.heap.size w1 w'):=fun w1=>Tryz.strings_ContainsFunc 149 #[] (enters_of Tryz.func149 (by kernel_rfl) rfl) schOdd n w1 (schOdd_at w1)
   obtain⟨a,ha⟩:∃ a,a=isA (n[0]'hp):=⟨_,rfl⟩
   obtain⟨c,hc⟩:∃ c,c=decide (0≤Lib.idxFunc schOdd true n):=⟨_,rfl⟩
   rw[← ha] at HG HA
   rw[← hc] at HG HC
   clear ha hc h0 HOK
   cases a with
   | false =>
    have HF:=Lib.hid (fun w'=>sch_no (w:=w) (w':=w') (by rw[HG.out,Bool.false_and]))
    go_enter Tryz.func95,Tryz.ntmps95
    go_wp2_with fail
    refine H1.out.mono ?_
    rintro e w1 ⟨rfl,b1⟩
    go_wp2_with fail
    refine(HA.out _).mono ?_
    rintro e w' ⟨rfl,rfl⟩
    go_wp2
    exact bodyPost_ret (v:=.tuple #[.string ⟨#[]⟩,.string ⟨#[]⟩,.bool false]) (by simp[results,Tryz.results95,go_sem]) rfl (HF.out _ b1)
   | true =>
    cases c with
    | true =>
     have HF:=Lib.hid (fun w'=>sch_no (w:=w) (w':=w') (by rw[HG.out];rfl))
     go_enter Tryz.func95,Tryz.ntmps95
     go_wp2_with fail
     refine H1.out.mono ?_
     rintro e w1 ⟨rfl,b1⟩
     go_wp2_with fail
     refine(HA.out _).mono ?_
     rintro e w' ⟨rfl,rfl⟩
     go_wp2_with fail
     refine(HC.out _).mono ?_
     rintro e w2 ⟨rfl,b2⟩
     go_wp2
     exact bodyPost_ret (v:=.tuple #[.string ⟨#[]⟩,.string ⟨#[]⟩,.bool false]) (by simp[results,Tryz.results95,go_sem]) rfl (HF.out _ (below_then b1 b2))
    | false =>
     have HY:=Lib.hid (fun w'=>HYES.out w' (by rw[HG.out];rfl))
     go_enter Tryz.func95,Tryz.ntmps95
     go_wp2_with fail
     refine H1.out.mono ?_
     rintro e w1 ⟨rfl,b1⟩
     go_wp2_with fail
     refine(HA.out _).mono ?_
     rintro e w' ⟨rfl,rfl⟩
     go_wp2_with fail
     refine(HC.out _).mono ?_
     rintro e w2 ⟨rfl,b2⟩
     go_wp2_with fail
     refine(lower_any n _ (by omega)).mono ?_
     rintro e w3 ⟨rfl,b3⟩
     go_wp2
     exact bodyPost_ret (v:=.tuple #[.string (bs (lowL n.data.toList)),.string r,.bool true]) (by simp[results,Tryz.results95,go_sem]) rfl (HY.out _ (below_then (below_then b1 b2) b3))
end
end Go.Proofs.YtdlkjofnnefjfaaGreatDoor
