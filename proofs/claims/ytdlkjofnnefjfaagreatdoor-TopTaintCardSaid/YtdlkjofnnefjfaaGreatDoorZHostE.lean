/- host.Show, host.Local. The walk of layer 7's Parse: for every text of at most 1000000 bytes. -/
import Derived.Test.YtdlkjofnnefjfaaGreatDoorZSixD
set_option linter.all false
namespace Go.Proofs.YtdlkjofnnefjfaaGreatDoor
set_option maxRecDepth 100000
section
open Go.RowKit
theorem domShow_any (s:ByteArray) (w:World):Calls Tryz.prog 307 #[.string s] w fun e w'=>e=.returned (.string s)∧w=w':=by
 go_enter Tryz.func307,Tryz.ntmps307
 go_wp2
 go_ret
 exact⟨rfl,rfl⟩
theorem numShow_any (n:Int) (w:World) (h:inFour n=true):Calls Tryz.prog 308 #[.int .i64 n] w (TextLeft w):=by
 have H4:=fun w'=>Lib.hid (fourShow_in n w' (of_decide_eq_true (Bool.and_eq_true_iff.1 h).1) (of_decide_eq_true (Bool.and_eq_true_iff.1 h).2))
 go_enter Tryz.func308,Tryz.ntmps308
 go_wp2_with fail
 refine(H4 _).out.mono ?_
 rintro e w1 ⟨⟨t,rfl,_,ht⟩,b1⟩
 go_wp2_with fail
 go_ret
 exact⟨⟨_,rfl,by omega⟩,b1⟩
theorem pcsShow_any (p:Six) (w:World):Calls Tryz.prog 309 #[.agg (sixC p)] w fun e w'=>(∃ t:ByteArray,e=.returned (.string t)∧t.size≤4000)∧Below w.heap.size w w':=by
 have R0:=row1 w (.cells (sixC p) 238)
 have B0:=bel1 w (.cells (sixC p) 238)
 have HS:=fun w'=>Lib.hid (sixShow_any p w')
 have i238:(Tryz.prog.info? 238).map (·.size)=some 8:=by kernel_rfl
 go_enter Tryz.func309,Tryz.ntmps309
 go_wp2_with (first|((with_reducible (show wpList _ _ _ (Oper.mk _ (.load 238 _) _ _ _ none::_) _ _));refine wpList_load_row rfl 238 _ rfl w.heap.size rfl 238 _ (0,0) _ R0 Tryz.underlying238 rfl i238 ?_))
 refine(HS _).out.mono ?_
 rintro e w1 ⟨⟨t,rfl,ht⟩,b1⟩
 have hz1:¬ (9223372036854775807 < 1 + t.size):=by omega
 have hz2:¬ (9223372036854775807 < 1 + t.size + 1):=by omega
 go_wp2_with fail
 go_ret
 exact⟨⟨_,rfl,by simp only[app_size];have e1:(⟨#[91]⟩:ByteArray).size=1:=rfl;have e2:(⟨#[93]⟩:ByteArray).size=1:=rfl;omega⟩,bel_on B0 b1⟩
def HostText (h:Host) (t:ByteArray):Prop:=t.size≤4000 + h.name.size∧(h.kind=1→mayH h=true→t=h.name)
theorem ofH_some {h:Host} {x:HX} (e:ofH h=some x):(∃ s,x=.dom s∧s=h.name∧h.kind=1)∨(∃ n,x=.num n∧inFour n=true∧h.kind≠1)∨(∃ p,x=.pcs p∧h.kind≠1):=by
 unfold ofH at e
 split at e
 ·rename_i h1
  split at e
  ·cases e;exact .inl ⟨_,rfl,rfl,h1⟩
  ·cases e
 ·rename_i h1
  split at e
  ·split at e
   ·rename_i h3;cases e;exact .inr (.inl ⟨_,rfl,h3.1,h1⟩)
   ·cases e
  ·split at e
   ·split at e
    ·cases e;exact .inr (.inr ⟨_,rfl,h1⟩)
    ·cases e
   ·cases e
set_option maxHeartbeats 1000000 in
theorem hostShow_any (h:Host) (w:World) (G:Glob w) (hs:h.name.size≤1000000) :
  Calls Tryz.prog 135 #[.agg (hostC h)] w fun e w'=>(∃ t:ByteArray,e=.returned (.string t)∧HostText h t)∧Below w.heap.size w w':=by
 have R0:=row1 w (.cells (hostC h) 24)
 have B0:=bel1 w (.cells (hostC h) 24)
 have HO:=Lib.hid (of_any h _ (G.below B0) hs)
 have HE:Hid (∀ x,ofH h=some x→_):=fun x hx=>ofH_some hx
 have HM:Hid (mayH h=(ofH h).isSome):=rfl
 obtain⟨o,ho⟩:∃ o,o=ofH h:=⟨_,rfl⟩
 rw[← ho] at HO HM
 simp only[← ho] at HE
 clear ho
 go_enter Tryz.func135,Tryz.ntmps135
 go_wp2_with (first|((with_reducible (show wpList _ _ _ (Oper.mk _ (.load 24 _) _ _ _ none::_) _ _));refine wpList_load_row rfl 24 _ rfl w.heap.size rfl 24 _ (0,0) _ R0 Tryz.underlying24 rfl host_info ?_))
 refine HO.out.mono ?_
 rintro e w1 ⟨rfl,b1⟩
 have B1:=bel_on B0 b1
 clear R0 B0 b1 HO
 cases o with
 | none =>
  clear HE
  unfold valX
  go_wp2_with fail
  go_ret
  exact⟨⟨_,rfl,Nat.zero_le _,fun _ h2=>by rw[HM.out] at h2;cases h2⟩,B1⟩
 | some x =>
  rcases HE.out x rfl with ⟨s,rfl,hsn,hk⟩|⟨n,rfl,hn,hk⟩|⟨p,rfl,hk⟩
  ·have hm:∀ (w:World),(method 488 235 (.string s) "postmark/host.show").run Tryz.prog w=.ok (307,.string s) w:=fun _=>by kernel_rfl
   have HD:=fun w'=>Lib.hid (domShow_any s w')
   have HS:=Lib.hid hsn
   clear HE HM hsn hk
   unfold valX HX.val
   go_wp2_with (first|(go_at_call 307;refine(HD _).out.mono ?_;rintro e w2 ⟨rfl,rfl⟩))
   go_ret
   exact⟨⟨_,rfl,by rw[HS.out];omega,fun _ _=>HS.out⟩,B1⟩
  ·have hm:∀ (w:World),(method 488 236 (.int .i64 n) "postmark/host.show").run Tryz.prog w=.ok (308,.int .i64 n) w:=fun _=>by kernel_rfl
   have HD:=fun w'=>Lib.hid (numShow_any n w' hn)
   have HS:=Lib.hid hk
   clear HE HM hn hk
   unfold valX HX.val
   go_wp2_with (first|(go_at_call 308;refine(HD _).out.mono ?_;rintro e w2 ⟨⟨t,rfl,ht⟩,b2⟩))
   go_ret
   exact⟨⟨_,rfl,by omega,fun h1 _=>absurd h1 HS.out⟩,bel_on B1 b2⟩
  ·have hm:∀ (w:World),(method 488 238 (.agg (sixC p)) "postmark/host.show").run Tryz.prog w=.ok (309,.agg (sixC p)) w:=fun _=>by kernel_rfl
   have HD:=fun w'=>Lib.hid (pcsShow_any p w')
   have HS:=Lib.hid hk
   clear HE HM hk
   unfold valX HX.val
   go_wp2_with (first|(go_at_call 309;refine(HD _).out.mono ?_;rintro e w2 ⟨⟨t,rfl,ht⟩,b2⟩))
   go_ret
   exact⟨⟨_,rfl,by omega,fun h1 _=>absurd h1 HS.out⟩,bel_on B1 b2⟩
theorem eq238 (w:World) (a0 a1 a2 a3 a4 a5 a6 a7:Int):(Op.equalIn 10000 238 (.agg #[.int .i64 a0,.int .i64 a1,.int .i64 a2,.int .i64 a3,.int .i64 a4,.int .i64 a5,.int .i64 a6,.int .i64 a7]) (.agg #[.int .i64 0,.int .i64 0,.int .i64 0,.int .i64 0,.int .i64 0,.int .i64 0,.int .i64 0,.int .i64 1])).run Tryz.prog w=.ok (decide ((⟨a0,a1,a2,a3,a4,a5,a6,a7⟩:Six)=⟨0,0,0,0,0,0,0,1⟩)) w:=by
 have h:=eqS w a0 a1 a2 a3 a4 a5 a6 a7 0 0 0 0 0 0 0 1
 unfold Op.equalIn at h ⊢
 simp only[Sem.run_bind,run_underlying Tryz.underlying22,run_underlying Tryz.underlying238,Result.andThen_ok] at h ⊢
 exact h
def SomeB (w:World) (e:Ending) (w':World):Prop:=(∃ b,e=.returned (.bool b))∧Below w.heap.size w w'
set_option maxHeartbeats 1000000 in
theorem local_any (h:Host) (w:World) (G:Glob w) (hs:h.name.size≤1000000):Calls Tryz.prog 249 #[.agg (hostC h)] w (SomeB w):=by
 have R0:=row1 w (.cells (hostC h) 24)
 have B0:=bel1 w (.cells (hostC h) 24)
 have HO:=Lib.hid (of_any h _ (G.below B0) hs)
 have HE:Hid (∀ x,ofH h=some x→_):=fun x hx=>ofH_some hx
 obtain⟨o,ho⟩:∃ o,o=ofH h:=⟨_,rfl⟩
 rw[← ho] at HO
 simp only[← ho] at HE
 clear ho
 go_enter Tryz.func249,Tryz.ntmps249
 go_wp2_with (first|((with_reducible (show wpList _ _ _ (Oper.mk _ (.load 24 _) _ _ _ none::_) _ _));refine wpList_load_row rfl 24 _ rfl w.heap.size rfl 24 _ (0,0) _ R0 Tryz.underlying24 rfl host_info ?_))
 refine HO.out.mono ?_
 rintro e w1 ⟨rfl,b1⟩
 have B1:=bel_on B0 b1
 clear R0 B0 b1 HO
 cases o with
 | none =>
  clear HE
  unfold valX
  go_wp2_with fail
  go_ret
  exact⟨⟨_,rfl⟩,B1⟩
 | some x =>
  rcases HE.out x rfl with ⟨s,rfl,hsn,hk⟩|⟨n,rfl,hn,hk⟩|⟨p,rfl,hk⟩
  ·have HD:=fun w'=>Lib.hid (hasSuffix_any s ⟨#[46,108,111,99,97,108,104,111,115,116]⟩ w' (by rw[hsn];omega))
   clear HE hsn hk
   unfold valX HX.val
   by_cases hb:(s.toList == [108,111,99,97,108,104,111,115,116])=true
   ·go_wp2_with fail
    go_ret
    exact⟨⟨_,rfl⟩,B1⟩
   ·have hb':(s.toList == [108,111,99,97,108,104,111,115,116])=false:=by simpa using hb
    clear hb
    go_wp2_with (first|(go_at_call 261;refine(HD _).out.mono ?_;rintro e w2 ⟨rfl,rfl⟩))
    go_ret
    exact⟨⟨_,rfl⟩,B1⟩
  ·have hn2:=of_decide_eq_true (Bool.and_eq_true_iff.1 hn).1
   have hn3:=of_decide_eq_true (Bool.and_eq_true_iff.1 hn).2
   have HD:=fun w'=>Lib.hid (inner_any n w' (by omega) (by omega))
   clear HE hn hk hn2 hn3
   unfold valX HX.val
   go_wp2_with (first|(go_at_call 262;refine(HD _).out.mono ?_;rintro e w2 ⟨⟨b,rfl⟩,rfl⟩))
   go_ret
   exact⟨⟨_,rfl⟩,B1⟩
  ·have i238:(Tryz.prog.info? 238).map (·.size)=some 8:=by kernel_rfl
   obtain⟨p0,p1,p2,p3,p4,p5,p6,p7⟩:=p
   have HE2:=eq238
   clear HE hk
   unfold valX HX.val
   go_wp2_with fail
   go_ret
   exact⟨⟨_,rfl⟩,B1.alloc B1.size _⟩
end
section
open Go.RowKit
def brIn (s:ByteArray):ByteArray:=bs (Lib.trimPrefix s.data.toList [91])
def brS (s:ByteArray):ByteArray:=bs (Lib.trimSuffix (brIn s).data.toList [93])
def hostX (s:ByteArray):Option HX :=
 if Lib.hasPrefix s.data.toList [91]=true then (if (Lib.hasSuffix (brIn s).data.toList [93] && sixOK (brS s))=true then some (.pcs (sixN (brS s))) else none)
 else if looks s=true then (if fourOK s=true then some (.num (fourN s)) else none)
 else if fitsB (bs (lowL s.data.toList))=true then some (.dom (bs (lowL s.data.toList))) else none
def hostOf:Option HX→Host
 | none=>host0
 | some x=>x.host
theorem trimP_le (a b:List UInt8):(Lib.trimPrefix a b).length≤a.length:=by unfold Lib.trimPrefix;split <;> simp
theorem trimS_le (a b:List UInt8):(Lib.trimSuffix a b).length≤a.length:=by unfold Lib.trimSuffix;split <;> simp
theorem lowL_size (s:ByteArray):(bs (lowL s.data.toList)).size=s.size:=by rw[bs_size];unfold lowL;rw[List.length_map,size_len]
set_option maxHeartbeats 2000000 in
theorem hostParse_any (s:ByteArray) (w:World) (G:Glob w) (hs:s.size≤1000000) :
  Calls Tryz.prog 156 #[.string s] w fun e w'=>e=.returned (.tuple #[.agg (hostC (hostOf (hostX s))),.bool (hostX s).isSome])∧Below w.heap.size w w':=by
 have HP:∀ w',Hid (Calls Tryz.prog 99 #[.string s,.string ⟨#[91]⟩] w' fun e w''=>e=.returned (.tuple #[.string (brIn s),.bool (Lib.hasPrefix s.data.toList [91])])∧w'=w''):=fun w'=>cutPrefix_any s ⟨#[91]⟩ w'
 have hz:(brIn s).size≤1000000:=by unfold brIn;rw[bs_size];have:=trimP_le s.data.toList [91];rw[size_len] at this;omega
 have hz2:(brS s).size≤1000000:=by unfold brS;rw[bs_size];have:=trimS_le (brIn s).data.toList [93];rw[size_len] at this;omega
 have HS:∀ w',Hid (Calls Tryz.prog 208 #[.string (brIn s),.string ⟨#[93]⟩] w' fun e w''=>e=.returned (.tuple #[.string (brS s),.bool (Lib.hasSuffix (brIn s).data.toList [93])])∧w'=w''):=fun w'=>cutSuffix_any (brIn s) ⟨#[93]⟩ w' (by omega)
 have H6:∀ w',Glob w'→Hid (Calls Tryz.prog 209 #[.string (brS s)] w' fun e w''=>e=.returned (.tuple #[.agg (sixC (sixN (brS s))),.bool (sixOK (brS s))])∧Below w'.heap.size w' w''):=fun w' G'=>sixParse_any (brS s) w' G' hz2
 have HL:=fun w'=>Lib.hid (looks_any s w' hs)
 have H4:∀ w',Glob w'→Hid (Calls Tryz.prog 211 #[.string s] w' fun e w''=>e=.returned (.tuple #[.int .i64 (fourN s),.bool (fourOK s)])∧Below w'.heap.size w' w''):=fun w' G'=>fourParse_any s w' G' hs
 have HW:=fun w'=>Lib.hid (lower_any s w' (by omega))
 have HF:∀ w',Glob w'→Hid (Calls Tryz.prog 173 #[.string (bs (lowL s.data.toList))] w' fun e w''=>e=.returned (.bool (fitsB (bs (lowL s.data.toList))))∧Below w'.heap.size w' w''):=fun w' G'=>fits_any _ w' G' (by rw[lowL_size];exact hs)
 have HX':Hid (hostX s=_):=(hostX.eq_1 s)
 obtain⟨x,hx⟩:∃ x,x=hostX s:=⟨_,rfl⟩
 obtain⟨i,hi⟩:∃ i,i=brIn s:=⟨_,rfl⟩
 obtain⟨j,hj⟩:∃ j,j=brS s:=⟨_,rfl⟩
 obtain⟨l,hl⟩:∃ l,l=bs (lowL s.data.toList):=⟨_,rfl⟩
 rw[← hx] at HX' ⊢
 simp only[← hi,← hj,← hl] at HP HS H6 HF HX' HW
 clear hx hi hj hl hz hz2
 obtain⟨b1,h1⟩:∃ b,b=Lib.hasPrefix s.data.toList [91]:=⟨_,rfl⟩
 obtain⟨b2,h2⟩:∃ b,b=Lib.hasSuffix i.data.toList [93]:=⟨_,rfl⟩
 obtain⟨p,h3⟩:∃ b,b=sixN j:=⟨_,rfl⟩
 obtain⟨b3,h4⟩:∃ b,b=sixOK j:=⟨_,rfl⟩
 obtain⟨b4,h5⟩:∃ b,b=looks s:=⟨_,rfl⟩
 obtain⟨n,h6⟩:∃ b,b=fourN s:=⟨_,rfl⟩
 obtain⟨b5,h7⟩:∃ b,b=fourOK s:=⟨_,rfl⟩
 obtain⟨b6,h8⟩:∃ b,b=fitsB l:=⟨_,rfl⟩
 simp only[← h1,← h2,← h3,← h4,← h5,← h6,← h7,← h8] at HP HS H6 HL H4 HF HX'
 clear h1 h2 h3 h4 h5 h6 h7 h8
 cases b1 with
 | true =>
  obtain⟨p0,p1,p2,p3,p4,p5,p6,p7⟩:=p
  have HN:Hid (b2=false→x=none):=fun h=>by rw[HX'.out,h];rfl
  have HN2:Hid (b2=true→b3=false→x=none):=fun h h'=>by rw[HX'.out,h,h'];rfl
  have HY:Hid (b2=true→b3=true→x=some (.pcs ⟨p0,p1,p2,p3,p4,p5,p6,p7⟩)):=fun h h'=>by rw[HX'.out,h,h'];rfl
  clear HX'
  go_enter Tryz.func156,Tryz.ntmps156
  go_wp2_with fail
  refine(HP _).out.mono ?_
  rintro e w1 ⟨rfl,rfl⟩
  go_wp2_with fail
  refine(HS _).out.mono ?_
  rintro e w1 ⟨rfl,rfl⟩
  go_wp2_with fail
  refine((H6 _ (G.below (bel1 _ _))).out).mono ?_
  rintro e w1 ⟨rfl,b1⟩
  have B1:=bel_on (bel1 w _) b1
  have q2:=kept b1 (row1 w _)
  have hlt:w.heap.size < w1.heap.size:=by have:=b1.size;simp at this;omega
  clear b1
  have fail:∀ (w2:World) (h:x=none) (hB:Below w.heap.size w w2),Hid (x=none):=fun _ h _=>h
  cases b2 with
  | false =>
   have HZ:=Lib.hid (HN.out (by trivial))
   clear HN HN2 HY
   go_wp2_with (refine wpList_store_row rfl 24 _ _ rfl w.heap.size _ rfl rfl 24 _ ((Below.heap_alloc _ _ _ hlt).trans q2) host_info rfl (by simp[Value.oneCell']) ?_)
   rw[HZ.out]
   exact bodyPost_ret (results_host rfl _ _ w.heap.size 24 host0 (0,0) rfl (setRow_heap _ _ _ _ _ _ ((Below.heap_alloc _ _ _ hlt).trans q2)) _ rfl) rfl ⟨rfl,below_setRow (B1.alloc (Nat.le_of_lt hlt) _) (Nat.le_refl _) _⟩
  | true =>
   cases b3 with
   | false =>
    have HZ:=Lib.hid (HN2.out (by trivial) (by trivial))
    clear HN HN2 HY
    go_wp2_with (refine wpList_store_row rfl 24 _ _ rfl w.heap.size _ rfl rfl 24 _ ((Below.heap_alloc _ _ _ hlt).trans q2) host_info rfl (by simp[Value.oneCell']) ?_)
    rw[HZ.out]
    exact bodyPost_ret (results_host rfl _ _ w.heap.size 24 host0 (0,0) rfl (setRow_heap _ _ _ _ _ _ ((Below.heap_alloc _ _ _ hlt).trans q2)) _ rfl) rfl ⟨rfl,below_setRow (B1.alloc (Nat.le_of_lt hlt) _) (Nat.le_refl _) _⟩
   | true =>
    have HZ:=Lib.hid (HY.out (by trivial) (by trivial))
    clear HN HN2 HY
    go_wp2_with fail
    refine(host_pcs ⟨p0,p1,p2,p3,p4,p5,p6,p7⟩ _).mono ?_
    rintro e w3 ⟨rfl,b3⟩
    have B3:=bel_on (B1.alloc (Nat.le_of_lt hlt) _) b3
    have Q3:=kept b3 ((Below.heap_alloc _ _ _ hlt).trans q2)
    clear b3
    go_wp2_with (refine wpList_store_row rfl 24 _ _ rfl w.heap.size _ rfl rfl 24 _ Q3 host_info rfl (by simp[Value.oneCell',HX.host]) ?_)
    rw[HZ.out]
    exact bodyPost_ret (results_host rfl _ _ w.heap.size 24 (HX.host (.pcs ⟨p0,p1,p2,p3,p4,p5,p6,p7⟩)) (0,0) rfl (setRow_heap _ _ _ _ _ _ Q3) _ rfl) rfl ⟨rfl,below_setRow B3 (Nat.le_refl _) _⟩
 | false =>
  have HN:Hid (b4=true→b5=false→x=none):=fun h h'=>by rw[HX'.out,h,h'];rfl
  have HY:Hid (b4=true→b5=true→x=some (.num n)):=fun h h'=>by rw[HX'.out,h,h'];rfl
  have HN2:Hid (b4=false→b6=false→x=none):=fun h h'=>by rw[HX'.out,h,h'];rfl
  have HY2:Hid (b4=false→b6=true→x=some (.dom l)):=fun h h'=>by rw[HX'.out,h,h'];rfl
  clear HX'
  go_enter Tryz.func156,Tryz.ntmps156
  go_wp2_with fail
  refine(HP _).out.mono ?_
  rintro e w1 ⟨rfl,rfl⟩
  go_wp2_with fail
  refine(HL _).out.mono ?_
  rintro e w1 ⟨rfl,rfl⟩
  cases b4 with
  | true =>
   go_wp2_with fail
   refine((H4 _ (G.below (bel1 _ _))).out).mono ?_
   rintro e w1 ⟨rfl,b1⟩
   have B1:=bel_on (bel1 w _) b1
   have q2:=kept b1 (row1 w _)
   clear b1
   cases b5 with
   | false =>
    have HZ:=Lib.hid (HN.out (by trivial) (by trivial))
    clear HN HN2 HY HY2
    go_wp2_with (refine wpList_store_row rfl 24 _ _ rfl w.heap.size _ rfl rfl 24 _ q2 host_info rfl (by simp[Value.oneCell']) ?_)
    rw[HZ.out]
    exact bodyPost_ret (results_host rfl _ _ w.heap.size 24 host0 (0,0) rfl (setRow_heap _ _ _ _ _ _ q2) _ rfl) rfl ⟨rfl,below_setRow B1 (Nat.le_refl _) _⟩
   | true =>
    have HZ:=Lib.hid (HY.out (by trivial) (by trivial))
    clear HN HN2 HY HY2
    go_wp2_with fail
    refine(host_num n _).mono ?_
    rintro e w3 ⟨rfl,b3⟩
    have B3:=bel_on B1 b3
    have Q3:=kept b3 q2
    clear b3
    go_wp2_with (refine wpList_store_row rfl 24 _ _ rfl w.heap.size _ rfl rfl 24 _ Q3 host_info rfl (by simp[Value.oneCell',HX.host]) ?_)
    rw[HZ.out]
    exact bodyPost_ret (results_host rfl _ _ w.heap.size 24 (HX.host (.num n)) (0,0) rfl (setRow_heap _ _ _ _ _ _ Q3) _ rfl) rfl ⟨rfl,below_setRow B3 (Nat.le_refl _) _⟩
  | false =>
   go_wp2_with fail
   refine((HW _).out).mono ?_
   rintro e w1 ⟨rfl,b1⟩
   have B1:=bel_on (bel1 w _) b1
   have q2:=kept b1 (row1 w _)
   clear b1
   go_wp2_with fail
   refine((HF _ (G.below B1)).out).mono ?_
   rintro e w2 ⟨rfl,b2⟩
   have B2:=bel_on B1 b2
   have Q2:=kept b2 q2
   clear b2
   cases b6 with
   | false =>
    have HZ:=Lib.hid (HN2.out (by trivial) (by trivial))
    clear HN HN2 HY HY2
    go_wp2_with (refine wpList_store_row rfl 24 _ _ rfl w.heap.size _ rfl rfl 24 _ Q2 host_info rfl (by simp[Value.oneCell']) ?_)
    rw[HZ.out]
    exact bodyPost_ret (results_host rfl _ _ w.heap.size 24 host0 (0,0) rfl (setRow_heap _ _ _ _ _ _ Q2) _ rfl) rfl ⟨rfl,below_setRow B2 (Nat.le_refl _) _⟩
   | true =>
    have HZ:=Lib.hid (HY2.out (by trivial) (by trivial))
    clear HN HN2 HY HY2
    go_wp2_with fail
    refine(host_dom l _).mono ?_
    rintro e w3 ⟨rfl,b3⟩
    have B3:=bel_on B2 b3
    have Q3:=kept b3 Q2
    clear b3
    go_wp2_with (refine wpList_store_row rfl 24 _ _ rfl w.heap.size _ rfl rfl 24 _ Q3 host_info rfl (by simp[Value.oneCell',HX.host]) ?_)
    rw[HZ.out]
    exact bodyPost_ret (results_host rfl _ _ w.heap.size 24 (HX.host (.dom l)) (0,0) rfl (setRow_heap _ _ _ _ _ _ Q3) _ rfl) rfl ⟨rfl,below_setRow B3 (Nat.le_refl _) _⟩
end
end Go.Proofs.YtdlkjofnnefjfaaGreatDoor
