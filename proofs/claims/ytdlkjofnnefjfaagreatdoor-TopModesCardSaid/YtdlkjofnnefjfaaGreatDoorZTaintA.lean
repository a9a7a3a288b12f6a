/- taint.hides: a map of questions. taint.Sends: what tells who asks. -/
import Derived.Test.YtdlkjofnnefjfaaGreatDoorZShort
import Derived.Test.YtdlkjofnnefjfaaGreatDoorZReferA
import Derived.WideMake
set_option linter.all false
namespace Go.Proofs.YtdlkjofnnefjfaaGreatDoor
set_option maxRecDepth 100000
section
open Go.RowKit
theorem zgF:Tryz.prog.underlying 143=some (.map 3 34):=by kernel_rfl
theorem zb6 (r:Nat) (es:Array MapEntry) (clock:Nat) (k:Int) (val:Value) (W:World) (hb:W.heap[r]? = some (.map es clock)) (hf:Instr.findNow (.int .i64) (.int .i64 k) es.toList 0=some none) :
  ∃ W',(Instr.mapUpdate 143 (.map (some r)) (.int .i64 k) val).run Tryz.prog W=.ok () W'∧W'.heap[r]? = some (.map (es.push ⟨.int .i64 k,val,clock⟩) (clock + 1))∧Only r W W':=by
 have hc:(Instr.checkKey false 10000 3 (.int .i64 k)).run Tryz.prog W=.ok () W:=MapKept.run_checkKey (k:=.int .i64 k) yC (by simp[MapKept.IsKey]) false 9999
 refine⟨{ W with heap:=W.heap.setIfInBounds r (.map (es.push ⟨.int .i64 k,val,clock⟩) (clock + 1)) },?_,?_,?_⟩
 ·simp[Instr.mapUpdate,run_underlying zgF,MapKept.run_getObj_map hb,hc,MapKept.run_findKey yC hf,MapKept.run_setObj_map _ hb,Result.andThen]
 ·have hl:=yS hb
  simp[hl]
 ·refine⟨⟨rfl,rfl,rfl,by simp,fun k hk=>?_⟩,fun k hk hne=>?_⟩
  ·show (W.heap.setIfInBounds r _)[k]? = _
   rw[Array.getElem?_setIfInBounds_ne (by omega)]
  ·show (W.heap.setIfInBounds r _)[k]? = _
   rw[Array.getElem?_setIfInBounds_ne (Ne.symm hne)]
theorem zhb (r:Nat) (es:Array MapEntry) (clock:Nat) (k:Int) (res:Option (Nat×Value)) (W:World) (hb:W.heap[r]? = some (.map es clock)) (hf:Instr.findNow (.int .i64) (.int .i64 k) es.toList 0=some res) :
  (Instr.lookup 143 (.map (some r)) (.int .i64 k) true).run Tryz.prog W=.ok (.tuple #[(res.map (·.2)).getD .nilFunc,.bool res.isSome]) W:=by
 have hc:∀ b,(Instr.checkKey b 10000 3 (.int .i64 k)).run Tryz.prog W=.ok () W:=fun b=>MapKept.run_checkKey (k:=.int .i64 k) yC (by simp[MapKept.IsKey]) b 9999
 have hz:(zeroValue 34).run Tryz.prog W=.ok .nilFunc W:=by kernel_rfl
 cases res with
 | none=>simp[Instr.lookup,run_underlying zgF,MapKept.run_getObj_map hb,hc,MapKept.run_findKey yC hf,Result.andThen,hz]
 | some x=>simp[Instr.lookup,run_underlying zgF,MapKept.run_getObj_map hb,hc,MapKept.run_findKey yC hf,Result.andThen]
def zcw (g:Nat):Value:=.func (.func 144) #[] #[.pointer (some ⟨g,0,none⟩)]
def fYes:Value:=.func (.func 145) #[] #[]
def zdH (g:Nat):Value:=.func (.func 146) #[] #[.pointer (some ⟨g,0,none⟩)]
def zf9 (g:Nat):Array MapEntry:=#[⟨.int .i64 1,fYes,0⟩,⟨.int .i64 0,zcw g,1⟩,⟨.int .i64 2,zcw g,2⟩,⟨.int .i64 5,zcw g,3⟩,⟨.int .i64 7,zcw g,4⟩,⟨.int .i64 3,zdH g,5⟩]
def zdz (r:Req) (pu hv:Value) (w:World) (e:Ending) (w':World):Prop:=∃ m,e=.returned (.map (some m))∧w'.heap[m]? = some (.map (zf9 w.heap.size) 6)∧w'.heap[w.heap.size]? = some (.cells (reqC r pu hv) 32 (0,0))∧Below w.heap.size w w'
set_option maxHeartbeats 1000000 in
theorem zga (r:Req) (pu hv:Value) (w:World):Calls Tryz.prog 93 #[.agg (reqC r pu hv)] w (zdz r pu hv w):=by
 have hmf:∀ (fn:Fn) (first cap:Array Value) (w:World),(Instr.makeFunc fn first cap).run Tryz.prog w=.ok (.func fn first cap) w:=fun _ _ _ _=>rfl
 have hmm:=@run_makeMap Tryz.prog
 have R0:=row2a w (.cells (reqC r pu hv) 32) (.map #[] 0)
 have M0:=row2b w (.cells (reqC r pu hv) 32) (.map #[] 0)
 have B0:=bel2 w (.cells (reqC r pu hv) 32) (.map #[] 0)
 obtain⟨W1,h1,M1,N1⟩:=zb6 (w.heap.size + 1) _ _ 1 fYes _ M0 rfl
 obtain⟨W2,h2,M2,N2⟩:=zb6 (w.heap.size + 1) _ _ 0 (zcw w.heap.size) W1 M1 rfl
 obtain⟨W3,h3,M3,N3⟩:=zb6 (w.heap.size + 1) _ _ 2 (zcw w.heap.size) W2 M2 rfl
 obtain⟨W4,h4,M4,N4⟩:=zb6 (w.heap.size + 1) _ _ 5 (zcw w.heap.size) W3 M3 rfl
 obtain⟨W5,h5,M5,N5⟩:=zb6 (w.heap.size + 1) _ _ 7 (zcw w.heap.size) W4 M4 rfl
 obtain⟨W6,h6,M6,N6⟩:=zb6 (w.heap.size + 1) _ _ 3 (zdH w.heap.size) W5 M5 rfl
 have N:=((((N1.trans N2).trans N3).trans N4).trans N5).trans N6
 have HQ:Hid (zdz r pu hv w (.returned (.map (some (w.heap.size + 1)))) W6):=⟨_,rfl,M6,(N.2 _ (yS R0) (by omega)).trans R0,B0.trans (N.1.mono (Nat.le_succ _))⟩
 clear M0 M1 M2 M3 M4 M5 M6 N1 N2 N3 N4 N5 N6 N R0 B0
 unfold fYes zcw zdH at *
 go_enter Tryz.func93,Tryz.ntmps93
 go_wp2_with fail
 go_ret
 exact HQ.out
end
section
open Go.RowKit
theorem zih (w:World):Calls Tryz.prog 145 #[] w (SomeB w):=by
 go_enter Tryz.func145,Tryz.ntmps145
 go_wp2
 go_ret
 exact⟨⟨_,rfl⟩,Below.refl _ _⟩
set_option maxHeartbeats 1000000 in
theorem zgZ (g:Nat) (r:Req) (pu hv:Value) (w:World) (hR:w.heap[g]? = some (.cells (reqC r pu hv) 32 (0,0))):Calls Tryz.prog 144 #[.pointer (some ⟨g,0,none⟩)] w (SomeB w):=by
 have c24:=yE hR 24 (.bool r.orig.opq) rfl
 have c25:=yE hR 25 (.string r.orig.scheme) rfl
 have c0:=yE hR 0 (.string r.url.scheme) rfl
 cases ho:r.orig.opq with
 | true =>
  rw[ho] at c24
  go_enter Tryz.func144,Tryz.ntmps144
  go_wp2
  go_ret
  exact⟨⟨_,rfl⟩,Below.refl _ _⟩
 | false =>
  rw[ho] at c24
  by_cases hs:(r.orig.scheme.toList == [104,116,116,112,115])=true
  ·go_enter Tryz.func144,Tryz.ntmps144
   go_wp2
   go_ret
   exact⟨⟨_,rfl⟩,Below.refl _ _⟩
  ·have hs':(r.orig.scheme.toList == [104,116,116,112,115])=false:=by simpa using hs
   clear hs
   go_enter Tryz.func144,Tryz.ntmps144
   go_wp2
   go_ret
   exact⟨⟨_,rfl⟩,Below.refl _ _⟩
set_option maxHeartbeats 2000000 in
theorem zeB (g:Nat) (r:Req) (pu hv:Value) (w:World) (G:Glob w) (hR:w.heap[g]? = some (.cells (reqC r pu hv) 32 (0,0))) (hp:Strs w pu r.url.path) (hf:r.url.Fits) (hn:r.orig.host.name.size≤1000000):Calls Tryz.prog 146 #[.pointer (some ⟨g,0,none⟩)] w (SomeB w):=by
 have HO:=fun w' g h=>Lib.hid (zaJ r.url pu w' g h hf)
 have HS:=fun o w' g=>Lib.hid (zbk r.orig o w' g hn)
 have HP:=Lib.hid hp
 clear hp hf
 go_enter Tryz.func146,Tryz.ntmps146
 go_wp2_with fail
 refine yQ (S:=fun W=>W.heap[g]? = some (.cells (reqC r pu hv) 32 (0,0))) (by kernel_rfl) hR (fun h0=>?_)
 refine tk (i:=0) (v:=?v1) rfl (Or.inl ⟨by rfl,?y1⟩) h0 ?r1
 case y1 =>
  intro W hW
  go_simp
  try with_reducible rfl
 simp only[Act.put,zA,zB,zC,zD,zE,zF]
 refine tk (i:=1) rfl (zaQ g 24 r.orig (by rfl) _ rfl rfl (fun W h=>zae h 24 _ rfl)) h0 ?_
 simp only[Act.put,zA,zB,zC,zD,zE,zF]
 refine tk (i:=2) (v:=?v2) rfl (Or.inl ⟨by rfl,?y2⟩) h0 ?r2
 case y2 =>
  intro W hW
  go_simp
  try with_reducible rfl
 simp only[Act.put,zA,zB,zC,zD,zE,zF]
 refine tk (i:=3) rfl (zao g 0 r.url pu (by rfl) _ rfl rfl (fun W h=>zae h 0 _ rfl)) h0 ?_
 simp only[Act.put,zA,zB,zC,zD,zE,zF]
 refine zrd (i:=4) rfl (fun K hK=>?_)
 try simp only[zA,zB,zC]
 rw[if_pos (by rfl)]
 go_simp
 go_at_call 13
 refine(HO _ (G.below (yR _)) (HP.out.below (yR _))).out.mono ?_
 rintro e w1 ⟨rfl,b1⟩
 have R1:=kept b1 (show w.drew.heap[g]? = _ from hR)
 have B1:=yD (yR _) b1
 refine hK.out _ _ R1 (fun h0=>?_)
 clear hK K
 try simp only[Act.put,zA,zB,zC,zD,zE,zF]
 refine zrd (i:=5) rfl (fun K hK=>?_)
 try simp only[zA,zB,zC]
 rw[if_pos (by rfl)]
 go_simp
 go_at_call 12
 refine(HS _ _ (G.below B1)).out.mono ?_
 rintro e w2 ⟨rfl,b2⟩
 have R2:=kept b2 R1
 refine hK.out _ _ R2 (fun h0=>?_)
 clear hK K
 try simp only[Act.put,zA,zB,zC,zD,zE,zF]
 refine tk (i:=6) (v:=?v3) rfl (Or.inl ⟨by rfl,?y3⟩) h0 ?r3
 case y3 =>
  intro W hW
  go_simp
  try with_reducible rfl
 simp only[Act.put,zA,zB,zC,zD,zE,zF]
 refine tk (i:=7) (v:=?v4) rfl (Or.inl ⟨by rfl,?y4⟩) h0 ?r4
 case y4 =>
  intro W hW
  go_simp
  try with_reducible rfl
 simp only[Act.put,zA,zB,zC,zD,zE,zF]
 refine yX (by kernel_rfl) ?_ _
 go_wp2_with fail
 go_ret
 exact⟨⟨_,rfl⟩,yD B1 b2⟩
def HidF (g:Nat) (f:Value):Prop:=f=fYes∨f=zcw g∨f=zdH g
theorem zfj (g:Nat) (p:Int):∃ res,Instr.findNow (.int .i64) (.int .i64 p) (zf9 g).toList 0=some res∧(res=none∨∃ i f,res=some (i,f)∧HidF g f):=by
 unfold zf9
 simp only[Instr.findNow,Instr.sameNow,if_true]
 by_cases h1:p=1
 ·subst h1;exact⟨_,rfl,.inr ⟨_,_,rfl,.inl rfl⟩⟩
 have e1:(p == 1)=false:=by simpa using h1
 by_cases h0:p=0
 ·subst h0;exact⟨_,rfl,.inr ⟨_,_,rfl,.inr (.inl rfl)⟩⟩
 have e0:(p == 0)=false:=by simpa using h0
 by_cases h2:p=2
 ·subst h2;exact⟨_,rfl,.inr ⟨_,_,rfl,.inr (.inl rfl)⟩⟩
 have e2:(p == 2)=false:=by simpa using h2
 by_cases h5:p=5
 ·subst h5;exact⟨_,rfl,.inr ⟨_,_,rfl,.inr (.inl rfl)⟩⟩
 have e5:(p == 5)=false:=by simpa using h5
 by_cases h7:p=7
 ·subst h7;exact⟨_,rfl,.inr ⟨_,_,rfl,.inr (.inl rfl)⟩⟩
 have e7:(p == 7)=false:=by simpa using h7
 by_cases h3:p=3
 ·subst h3;exact⟨_,rfl,.inr ⟨_,_,rfl,.inr (.inr rfl)⟩⟩
 have e3:(p == 3)=false:=by simpa using h3
 rw[e1,e0,e2,e5,e7,e3]
 exact⟨none,rfl,.inl rfl⟩
def zde (r:Req) (t:ByteArray) (is:Bool):Prop:=is=!quietR r∧(quietR r=true→t=⟨#[]⟩)∧(quietR r=false→r.tainted=true→t=sNull)
def zdA (r:Req) (w:World) (e:Ending) (w':World):Prop:=(∃ t is,e=.returned (.tuple #[.string t,.bool is])∧zde r t is∧t.size≤9000001)∧Below w.heap.size w w'
set_option maxHeartbeats 8000000 in
theorem zgz (r:Req) (pu hv:Value) (w:World) (G:Glob w) (hp:Strs w pu r.url.path) (hh:Flds w hv r.heads) (hf:r.url.Fits) (hn:r.orig.host.name.size≤1000000) (hs:r.orig.scheme.size≤1000000) :
  Calls Tryz.prog 48 #[.agg (reqC r pu hv)] w (zdA r w):=by
 have R0:=row1 w (.cells (reqC r pu hv) 32)
 have B0:=bel1 w (.cells (reqC r pu hv) 32)
 obtain⟨qh,mh,ch,rfl⟩:=hh.slice
 have HQ:=Lib.hid (zdT r pu (.slice qh mh ch) _ (G.below B0) (hp.below B0) hf hn rfl)
 have HH:=fun w'=>Lib.hid (zga r pu (.slice qh mh ch) w')
 have HO:=fun w' g=>Lib.hid (zdQ r.orig w' g ⟨zb5 _ hn,hs,by show 1≤1000000;omega,by show (pathShow [⟨#[]⟩]).length≤1500000;decide⟩ hn)
 have HE:Hid (∀ t is,zde r t is=(is=!quietR r∧(quietR r=true→t=⟨#[]⟩)∧(quietR r=false→r.tainted=true→t=sNull))):=fun t is=>rfl
 have HY:=fun w'=>Lib.hid (zih w')
 have HD:=fun g w' h=>Lib.hid (zgZ g r pu (.slice qh mh ch) w' h)
 have HN:=fun g w' G h k=>Lib.hid (zeB g r pu (.slice qh mh ch) w' G h k hf hn)
 have HP:=Lib.hid hp
 unfold zdA
 obtain⟨qb,hqb⟩:∃ b,b=quietR r:=⟨_,rfl⟩
 obtain⟨SI,hSI⟩:∃ b,b=zde r:=⟨_,rfl⟩
 simp only[← hqb,← hSI] at HQ HE ⊢
 clear hqb hSI hp hf hh hs
 go_enter Tryz.func48,Tryz.ntmps48
 go_wp2_with (first|((with_reducible (show wpList _ _ _ (Oper.mk _ (.load 32 _) _ _ _ none::_) _ _));refine yK rfl 32 _ rfl w.heap.size rfl 32 _ (0,0) _ R0 yA rfl zab ?_))
 refine HQ.out.mono ?_
 rintro e w1 ⟨rfl,b1⟩
 have B1:=yD B0 b1
 have R1:=kept b1 R0
 cases qb with
 | true =>
  have HS:Hid (SI ⟨#[]⟩ false):=by show _;rw[HE.out];exact⟨rfl,fun _=>rfl,fun h=>(by cases h)⟩
  clear HE
  go_wp2_with fail
  go_ret2
  exact⟨⟨_,_,rfl,HS.out,Nat.zero_le _⟩,B1⟩
 | false =>
  have HS:Hid (∀ t,(r.tainted=true→t=sNull)→SI t true):=fun t h=>by rw[HE.out];exact⟨rfl,fun h=>(by cases h),fun _=>h⟩
  clear HE HQ b1 R0 B0
  go_wp2_with fail
  refine yQ (S:=fun W=>W.heap[w.heap.size]? = some (.cells (reqC r pu (.slice qh mh ch)) 32 (0,0))) (by kernel_rfl) R1 (fun h0=>?_)
  refine tk (i:=0) rfl (zaC w.heap.size r pu (.slice qh mh ch) (by rfl) _ rfl rfl (fun W h=>h)) h0 ?_
  simp only[Act.put,zA,zB,zC,zD,zE,zF]
  refine tk (i:=2) (v:=?v5) rfl (Or.inl ⟨by rfl,?y5⟩) h0 ?r5
  case y5 =>
   intro W hW
   go_simp
   try with_reducible rfl
  simp only[Act.put,zA,zB,zC,zD,zE,zF]
  refine tk (i:=3) (v:=?v6) rfl (Or.inl ⟨by rfl,?y6⟩) h0 ?r6
  case y6 =>
   intro W hW
   have c40:=yE hW 40 (.int .i64 r.policy) rfl
   go_simp
   try with_reducible rfl
  simp only[Act.put,zA,zB,zC,zD,zE,zF]
  refine zrd (i:=1) rfl (fun K hK=>?_)
  try simp only[zA,zB,zC]
  rw[if_pos (by rfl)]
  go_simp
  go_at_call 93
  refine(HH _).out.mono ?_
  rintro e w2 ⟨m,rfl,M2,Q2,b2⟩
  have R2:=kept b2 (show w1.drew.heap[w.heap.size]? = _ from R1)
  have B2:=yD (yD B1 (yR _)) b2
  have P2:=Lib.hid (HP.out.below B2)
  obtain⟨res,hres,hcase⟩:=zfj w1.drew.heap.size r.policy
  have hlk:=zhb m _ _ r.policy res w2 M2 hres
  have HCASE:=Lib.hid hcase
  clear hres hcase
  refine hK.out _ _ R2 (fun h0=>?_)
  clear hK K
  try simp only[Act.put,zA,zB,zC,zD,zE,zF]
  refine zrd (i:=4) rfl (fun K hK=>?_)
  try simp only[zA,zB,zC]
  rw[if_pos (by rfl)]
  go_simp
  refine hK.out _ _ R2 (fun h0=>?_)
  clear hK K
  try simp only[Act.put,zA,zB,zC,zD,zE,zF]
  refine tk (i:=5) (v:=?v7) rfl (Or.inl ⟨by rfl,?y7⟩) h0 ?r7
  case y7 =>
   intro W hW
   go_simp
   try with_reducible rfl
  simp only[Act.put,zA,zB,zC,zD,zE,zF]
  refine tk (i:=6) (v:=?v8) rfl (Or.inl ⟨by rfl,?y8⟩) h0 ?r8
  case y8 =>
   intro W hW
   go_simp
   try with_reducible rfl
  simp only[Act.put,zA,zB,zC,zD,zE,zF]
  refine tk (i:=7) (v:=?v9) rfl (Or.inl ⟨by rfl,?y9⟩) h0 ?r9
  case y9 =>
   intro W hW
   go_simp
   try with_reducible rfl
  simp only[Act.put,zA,zB,zC,zD,zE,zF]
  refine tk (i:=8) (v:=?v10) rfl (Or.inl ⟨by rfl,?y10⟩) h0 ?r10
  case y10 =>
   intro W hW
   go_simp
   try with_reducible rfl
  simp only[Act.put,zA,zB,zC,zD,zE,zF]
  refine tk (i:=9) (v:=?v11) rfl (Or.inl ⟨by rfl,?y11⟩) h0 ?r11
  case y11 =>
   intro W hW
   go_simp
   try with_reducible rfl
  simp only[Act.put,zA,zB,zC,zD,zE,zF]
  refine yX (by kernel_rfl) ?_ _
  have c42:=yE R2 42 (.bool r.tainted) rfl
  have c38:=yE R2 38 (.int .i64 r.mode) rfl
  have G2:=G.below B2
  generalize w1.drew.heap.size=g at Q2 HCASE
  clear hlk h0 M2 HH
  cases htb:r.tainted with
  | true =>
   rw[htb] at c42
   clear htb
   go_wp2_with fail
   go_ret2
   exact⟨⟨_,_,rfl,HS.out sNull (fun _=>rfl),by decide⟩,B2⟩
  | false =>
   rw[htb] at c42
   have HNT:Hid (¬ (r.tainted=true)):=fun h=>by rw[htb] at h;cases h
   clear htb
   by_cases hm:r.mode=1
   ·have hmb:(r.mode != 1)=false:=by rw[hm];rfl
    clear hm
    go_wp2_with (first|((with_reducible (show wpList _ _ _ (Oper.mk _ (.load 30 _) _ _ _ none::_) _ _));refine zaa (by rfl) 30 _ rfl w.heap.size 24 rfl (origC r.orig) _ (zae R2 24 _ rfl) Tryz.underlying30 rfl zan ?_))
    refine(HO _ (G.below B2)).out.mono ?_
    rintro e w9 ⟨⟨t,rfl,_,hz⟩,b9⟩
    go_wp2_with fail
    go_ret2
    exact⟨⟨_,_,rfl,HS.out t (fun h=>absurd h HNT.out),by omega⟩,yD B2 b9⟩
   ·have hmb:(r.mode != 1)=true:=by rw[bne_iff_ne];exact hm
    clear hm
    rcases HCASE.out with rfl|⟨i,f,rfl,hf⟩
    ·simp only[Option.map_none,Option.getD_none,Option.isSome_none]
     clear HCASE
     go_wp2_with (first|((with_reducible (show wpList _ _ _ (Oper.mk _ (.load 30 _) _ _ _ none::_) _ _));refine zaa (by rfl) 30 _ rfl w.heap.size 24 rfl (origC r.orig) _ (zae R2 24 _ rfl) Tryz.underlying30 rfl zan ?_))
     refine(HO _ (G.below B2)).out.mono ?_
     rintro e w9 ⟨⟨t,rfl,_,hz⟩,b9⟩
     go_wp2_with fail
     go_ret2
     exact⟨⟨_,_,rfl,HS.out t (fun h=>absurd h HNT.out),by omega⟩,yD B2 b9⟩
    ·simp only[Option.map_some,Option.getD_some,Option.isSome_some]
     clear HCASE
     rcases hf with rfl|rfl|rfl
     ·unfold fYes
      go_wp2_with fail
      refine(HY _).out.mono ?_
      rintro e w3 ⟨⟨b,rfl⟩,b3⟩
      have R3:=kept b3 R2
      have B3:=yD B2 b3
      cases b with
      | true =>
       go_wp2_with fail
       go_ret2
       exact⟨⟨_,_,rfl,HS.out sNull (fun _=>rfl),by decide⟩,B3⟩
      | false =>
       go_wp2_with (first|((with_reducible (show wpList _ _ _ (Oper.mk _ (.load 30 _) _ _ _ none::_) _ _));refine zaa (by rfl) 30 _ rfl w.heap.size 24 rfl (origC r.orig) _ (zae R3 24 _ rfl) Tryz.underlying30 rfl zan ?_))
       refine(HO _ (G.below B3)).out.mono ?_
       rintro e w9 ⟨⟨t,rfl,_,hz⟩,b9⟩
       go_wp2_with fail
       go_ret2
       exact⟨⟨_,_,rfl,HS.out t (fun h=>absurd h HNT.out),by omega⟩,yD B3 b9⟩
     ·unfold zcw
      go_wp2_with fail
      refine(HD g _ Q2).out.mono ?_
      rintro e w3 ⟨⟨b,rfl⟩,b3⟩
      have R3:=kept b3 R2
      have B3:=yD B2 b3
      cases b with
      | true =>
       go_wp2_with fail
       go_ret2
       exact⟨⟨_,_,rfl,HS.out sNull (fun _=>rfl),by decide⟩,B3⟩
      | false =>
       go_wp2_with (first|((with_reducible (show wpList _ _ _ (Oper.mk _ (.load 30 _) _ _ _ none::_) _ _));refine zaa (by rfl) 30 _ rfl w.heap.size 24 rfl (origC r.orig) _ (zae R3 24 _ rfl) Tryz.underlying30 rfl zan ?_))
       refine(HO _ (G.below B3)).out.mono ?_
       rintro e w9 ⟨⟨t,rfl,_,hz⟩,b9⟩
       go_wp2_with fail
       go_ret2
       exact⟨⟨_,_,rfl,HS.out t (fun h=>absurd h HNT.out),by omega⟩,yD B3 b9⟩
     ·unfold zdH
      go_wp2_with fail
      refine(HN g _ G2 Q2 P2.out).out.mono ?_
      rintro e w3 ⟨⟨b,rfl⟩,b3⟩
      have R3:=kept b3 R2
      have B3:=yD B2 b3
      cases b with
      | true =>
       go_wp2_with fail
       go_ret2
       exact⟨⟨_,_,rfl,HS.out sNull (fun _=>rfl),by decide⟩,B3⟩
      | false =>
       go_wp2_with (first|((with_reducible (show wpList _ _ _ (Oper.mk _ (.load 30 _) _ _ _ none::_) _ _));refine zaa (by rfl) 30 _ rfl w.heap.size 24 rfl (origC r.orig) _ (zae R3 24 _ rfl) Tryz.underlying30 rfl zan ?_))
       refine(HO _ (G.below B3)).out.mono ?_
       rintro e w9 ⟨⟨t,rfl,_,hz⟩,b9⟩
       go_wp2_with fail
       go_ret2
       exact⟨⟨_,_,rfl,HS.out t (fun h=>absurd h HNT.out),by omega⟩,yD B3 b9⟩
end
end Go.Proofs.YtdlkjofnnefjfaaGreatDoor
