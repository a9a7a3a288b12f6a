/- show.Open; origin.Show, Trust. strip: what an address tells. strip.Origin, Full, Cap, Tell. -/
import Derived.Test.YtdlkjofnnefjfaaGreatDoorZShort
import Derived.Test.YtdlkjofnnefjfaaGreatDoorZShowA
set_option linter.all false
namespace Go.Proofs.YtdlkjofnnefjfaaGreatDoor
set_option maxRecDepth 100000
section
open Go.RowKit
theorem zag {ops:Array Oper} {rest:List Oper} {o:Oper} {a:Act} {w:World} {Q:Exit→Act→World→Prop} (hgd:o.guard=none) (ty:TypeId) (x y:Operand) (ho:o.op=.store ty x y)
  (g:Nat) (cells:Array Value) (hx:a.eval x=.pointer (some ⟨g,0,none⟩)) (hy:a.eval y=.agg cells)
  (t:TypeId) (old:Array Value) (hg:w.heap[g]? = some (.cells old t (0,0))) (hi:(Tryz.prog.info? ty).map (·.size)=some cells.size)
  (hold:old.size=cells.size) (h1:cells.all (·.oneCell')=true) (W:World) (hW:w.setRow g cells=W)
  (h:wpList Tryz.prog ops Q rest (a.put o.dst undef) W):wpList Tryz.prog ops Q (o::rest) a w:=by
 subst hW
 exact yJ hgd ty x y ho g cells hx hy t old hg hi hold h1 h
def zdr (u:Url):Url:={ zbv u with user:=⟨#[]⟩,pass:=⟨#[]⟩ }
set_option maxHeartbeats 2000000 in
theorem zhh (u:Url) (pv:Value) (w:World) (hp:Strs w pv u.path) (hl:u.path.length≤10000000) :
  Calls Tryz.prog 306 #[.agg (urlC u pv)] w (zeg (zdr u) w):=by
 have R0:=row2a w (.cells (urlC u pv) 27) (.cells (urlC url0 (.slice none 0 0)) 27)
 have S0:=row2b w (.cells (urlC u pv) 27) (.cells (urlC url0 (.slice none 0 0)) 27)
 have B0:=bel2 w (.cells (urlC u pv) 27) (.cells (urlC url0 (.slice none 0 0)) 27)
 have HB:=Lib.hid (zdg u pv _ (hp.below B0) hl)
 have hpv:Hid (zdr u={ zbv u with user:=⟨#[]⟩,pass:=⟨#[]⟩ }):=rfl
 obtain⟨x,hx⟩:∃ x,x=zdr u:=⟨_,rfl⟩
 rw[← hx] at hpv ⊢
 clear hx
 have hbp:(zbv u).path=u.path:=rfl
 obtain⟨v,hv⟩:∃ v,v=zbv u:=⟨_,rfl⟩
 rw[← hv] at HB hpv
 clear hv hbp
 go_enter Tryz.func306,Tryz.ntmps306
 go_wp2_with (first|((with_reducible (show wpList _ _ _ (Oper.mk _ (.load 27 _) _ _ _ none::_) _ _));refine yK rfl 27 _ rfl w.heap.size rfl 27 _ (0,0) _ R0 yB rfl yN ?_))
 refine HB.out.mono ?_
 rintro e W1 ⟨v1,rfl,hO,b1⟩
 have S1:=kept b1 S0
 have B1:=yD B0 b1
 have hz0:((w.alloc (.cells (urlC u pv) 27)).alloc (.cells (urlC url0 (.slice none 0 0)) 27)).heap.size=w.heap.size + 2:=by simp
 rw[hz0] at hO
 have hlt:w.heap.size + 1 < W1.heap.size:=yS S1
 obtain⟨q,m,c,rfl⟩:=(Strs.of_own hO).slice
 have A2:=row1 W1 (.cells (urlC url0 (.slice none 0 0)) 27)
 have k2:=bel1 W1 (.cells (urlC url0 (.slice none 0 0)) 27)
 have A3:=yH _ _ _ (urlC v (.slice q m c)) _ _ A2
 have k3:Below W1.heap.size W1 ((W1.alloc (.cells (urlC url0 (.slice none 0 0)) 27)).setRow W1.heap.size (urlC v (.slice q m c))):=yM k2 (yV _)
 have S3:=kept k3 S1
 have O3:=zaz hO k3
 obtain⟨W3,hW3⟩:∃ W3,(W1.alloc (.cells (urlC url0 (.slice none 0 0)) 27)).setRow W1.heap.size (urlC v (.slice q m c))=W3:=⟨_,rfl⟩
 have HW3:=Lib.hid hW3
 rw[hW3] at A3 k3 S3 O3
 clear hW3
 have c1:=yE A3 1 (.string v.user) rfl
 have c2:=yE A3 2 (.string v.pass) rfl
 have f1:=yF A3 1
 have f2:=yF A3 2
 have R4:=zdt (i:=1) (j:=2) (v:=.string ⟨#[]⟩) (u:=.string ⟨#[]⟩) (cs':=urlC { v with user:=⟨#[]⟩,pass:=⟨#[]⟩ } (.slice q m c)) A3 (by simp)
 have S4:=zam (i:=2) (zam (i:=1) S3 (by omega:w.heap.size + 1≠W1.heap.size) (.string ⟨#[]⟩)) (by omega:w.heap.size + 1≠W1.heap.size) (.string ⟨#[]⟩)
 have k4:=(k3.setCell (p:=⟨W1.heap.size,1,none⟩) (yV _) (.string ⟨#[]⟩)).setCell (p:=⟨W1.heap.size,2,none⟩) (yV _) (.string ⟨#[]⟩)
 have O4:=zaz hO k4
 have O5:=own_base (own_setRow (g:=w.heap.size + 1) (cs:=urlC { v with user:=⟨#[]⟩,pass:=⟨#[]⟩ } (.slice q m c)) O4 (by omega)) (B':=w.heap.size) (by omega)
 have HF:=Lib.hid (And.intro O5 (yM (yD B1 k4) (by omega:w.heap.size≤w.heap.size + 1) (cs:=urlC { v with user:=⟨#[]⟩,pass:=⟨#[]⟩ } (.slice q m c))))
 clear O3 O4 O5 hO k4 k3 S3
 go_wp2_with (first|((with_reducible (show wpList _ _ _ (Oper.mk none (.store 27 (.tmp 3) _) _ _ _ none::_) _ _));refine zag rfl 27 _ _ rfl W1.heap.size (urlC v (.slice q m c)) rfl rfl 27 _ A2 yN rfl (by simp[Value.oneCell']) W3 HW3.out ?_)|((with_reducible (show wpList _ _ _ (Oper.mk _ (.load 27 _) _ _ _ none::_) _ _));refine yK rfl 27 _ rfl W1.heap.size rfl 27 _ (0,0) _ R4 yB rfl yN ?_)|((with_reducible (show wpList _ _ _ (Oper.mk none (.store 27 (.tmp 2) _) _ _ _ none::_) _ _));refine yJ rfl 27 _ _ rfl (w.heap.size + 1) _ rfl rfl 27 _ S4 yN rfl (by simp[Value.oneCell']) ?_))
 refine yO (yT rfl _ _ (w.heap.size + 1) 27 (urlC { v with user:=⟨#[]⟩,pass:=⟨#[]⟩ } (.slice q m c)) (0,0) _ rfl (yH _ _ _ _ _ _ S4) yB rfl yN) rfl ?_
 rw[hpv.out]
 exact⟨_,rfl,HF.out.1,HF.out.2⟩
theorem zfw (g:Nat) (o:Orig) (w:World) (G:Glob w) (hR:w.heap[g]? = some (.cells (origC o) 30 (0,0))) (hf:(zbc o).Small) :
  Calls Tryz.prog 147 #[.pointer (some ⟨g,0,none⟩)] w fun e w'=>(∃ t,e=.returned (.string t)∧zaZ (zbc o) t∧t.size≤9000000)∧Below w.heap.size w w':=by
 have HF:=fun w'=>Lib.hid (zdJ o w')
 have HS:=fun pv w' g h=>Lib.hid (show_any (zbc o) pv w' g h hf)
 obtain⟨u,hu⟩:∃ u,u=zbc o:=⟨_,rfl⟩
 have hup:u.path=[⟨#[]⟩]:=by rw[hu];rfl
 simp only[← hu] at HF HS ⊢
 simp only[hup] at HS
 clear hu hup hf
 go_enter Tryz.func147,Tryz.ntmps147
 go_wp2_with (first|((with_reducible (show wpList _ _ _ (Oper.mk _ (.load 30 _) _ _ _ none::_) _ _));refine yK rfl 30 _ rfl g rfl 30 _ (0,0) _ hR Tryz.underlying30 rfl zan ?_))
 refine(HF _).out.mono ?_
 rintro e w1 ⟨pv,rfl,hs,b1⟩
 have H2:=HS pv w1 (G.below b1) hs
 obtain⟨q,m,c,rfl⟩:=hs.slice
 go_wp2_with fail
 refine H2.out.mono ?_
 rintro e w2 ⟨⟨t,rfl,ht,hz⟩,b2⟩
 have HT:=Lib.hid ht
 clear ht
 go_wp2_with fail
 go_ret
 exact⟨⟨_,rfl,HT.out,hz⟩,yD b1 b2⟩
def sNull:ByteArray:=⟨#[110,117,108,108]⟩
def OrigText (o:Orig) (t:ByteArray):Prop:=(mayO o=true→o.opq=false→∃ s,zaZ (zbc o) s∧t=bs (Lib.trimSuffix s.data.toList [47]))∧(mayO o=false∨o.opq=true→t=sNull)
set_option maxHeartbeats 2000000 in
theorem zdQ (o:Orig) (w:World) (G:Glob w) (hf:(zbc o).Small) (hn:o.host.name.size≤1000000) :
  Calls Tryz.prog 94 #[.agg (origC o)] w fun e w'=>(∃ t,e=.returned (.string t)∧OrigText o t∧t.size≤9000000)∧Below w.heap.size w w':=by
 have hmf:∀ (fn:Fn) (first cap:Array Value) (w:World),(Instr.makeFunc fn first cap).run Tryz.prog w=.ok (.func fn first cap) w:=fun _ _ _ _=>rfl
 have R0:=row1 w (.cells (origC o) 30)
 have B0:=bel1 w (.cells (origC o) 30)
 have HM:=Lib.hid (zdm o _ (G.below B0) hn)
 have HS:=fun w' g h=>Lib.hid (zfw w.heap.size o w' g h hf)
 have HT:Hid (∀ t,OrigText o t=_):=fun t=>OrigText.eq_1 o t
 obtain⟨mb,hmb⟩:∃ b,b=mayO o:=⟨_,rfl⟩
 rw[← hmb] at HM
 simp only[← hmb] at HT
 obtain⟨ob,hob⟩:∃ b,b=o.opq:=⟨_,rfl⟩
 simp only[← hob] at HT
 obtain⟨OT,hOT⟩:∃ d,d=OrigText o:=⟨_,rfl⟩
 simp only[← hOT] at HT ⊢
 clear hmb hf hOT
 go_enter Tryz.func94,Tryz.ntmps94
 go_wp2_with (first|((with_reducible (show wpList _ _ _ (Oper.mk _ (.load 30 _) _ _ _ none::_) _ _));refine yK rfl 30 _ rfl w.heap.size rfl 30 _ (0,0) _ R0 Tryz.underlying30 rfl zan ?_))
 refine HM.out.mono ?_
 rintro e w1 ⟨rfl,b1⟩
 have B1:=yD B0 b1
 have R1:=kept b1 R0
 have c0:w1.cell? ⟨w.heap.size,0,none⟩=some (.bool o.opq):=yE R1 0 _ rfl
 rw[← hob] at c0
 clear hob
 cases mb with
 | false =>
  have HQ:Hid (OT sNull):=by show _;rw[HT.out];exact⟨fun h=>(by cases h),fun _=>rfl⟩
  clear HT
  go_wp2_with fail
  go_ret
  exact⟨⟨_,rfl,HQ.out,by decide⟩,B1⟩
 | true =>
  cases ob with
  | true =>
   have HQ:Hid (OT sNull):=by show _;rw[HT.out];exact⟨fun _ h=>(by cases h),fun _=>rfl⟩
   clear HT
   go_wp2_with fail
   go_ret
   exact⟨⟨_,rfl,HQ.out,by decide⟩,B1⟩
  | false =>
   go_wp2_with fail
   refine(HS _ (G.below B1) R1).out.mono ?_
   rintro e w2 ⟨⟨t,rfl,ht,hz⟩,b2⟩
   have HX:∀ w',Hid (Calls Tryz.prog 148 #[.string t,.string ⟨#[47]⟩] w' fun e w''=>e=.returned (.string (bs (Lib.trimSuffix t.data.toList [47])))∧w'=w''):=fun w'=>(Tryz.strings_TrimSuffix t ⟨#[47]⟩ w' (by omega)).mono fun e w' ⟨he,hw⟩=>⟨he,hw.symm⟩
   have htl:=trimS_le t.data.toList [47]
   rw[size_len] at htl
   have HQ:Hid (OT (bs (Lib.trimSuffix t.data.toList [47]))∧(bs (Lib.trimSuffix t.data.toList [47])).size≤9000000):=by
    refine⟨?_,by rw[bs_size];omega⟩
    rw[HT.out];exact⟨fun _ _=>⟨t,ht,rfl⟩,fun h=>by rcases h with h|h <;> cases h⟩
   obtain⟨s,hs⟩:∃ s,s=bs (Lib.trimSuffix t.data.toList [47]):=⟨_,rfl⟩
   simp only[← hs] at HX
   rw[← hs] at HQ
   clear HT ht hs htl
   go_wp2_with fail
   refine(HX _).out.mono ?_
   rintro e w3 ⟨rfl,rfl⟩
   go_wp2_with fail
   go_ret
   exact⟨⟨_,rfl,HQ.out.1,HQ.out.2⟩,yD B1 b2⟩
theorem zgb (s:ByteArray):(s.toList == [104,116,116,112,115])=decide (s=sHttps):=by
 have h:=beq_dec s sHttps
 rw[toList_data sHttps] at h
 exact h
theorem zhA (s:ByteArray):(s.toList == [104,116,116,112])=decide (s=sHttp):=by
 have h:=beq_dec s sHttp
 rw[toList_data sHttp] at h
 exact h
def zbK (u:Url):Bool:=urlMay u && decide (u.scheme=sHttps)
def zcd (u:Url) (b:Bool):Prop:=u.scheme≠sHttp→b=zbK u
set_option maxHeartbeats 2000000 in
theorem zec (u:Url) (pv:Value) (w:World) (G:Glob w) (hp:Strs w pv u.path) (hf:u.Fits) :
  Calls Tryz.prog 231 #[.agg (urlC u pv)] w fun e w'=>(∃ b,e=.returned (.bool b)∧zcd u b)∧Below w.heap.size w w':=by
 have R0:=row1 w (.cells (urlC u pv) 27)
 have B0:=bel1 w (.cells (urlC u pv) 27)
 have HM:=Lib.hid (zbN u pv _ (G.below B0) (hp.below B0) hf)
 have HL:=fun w' g=>Lib.hid (local_any u.host w' g hf.n)
 have HT:Hid (∀ b,zcd u b=(u.scheme≠sHttp→b=(urlMay u && decide (u.scheme=sHttps)))):=fun b=>rfl
 obtain⟨TR,hTR⟩:∃ d,d=zcd u:=⟨_,rfl⟩
 obtain⟨mb,hmb⟩:∃ b,b=urlMay u:=⟨_,rfl⟩
 rw[← hmb] at HM
 simp only[← hmb,← hTR] at HT
 simp only[← hTR]
 clear hmb hTR hf
 go_enter Tryz.func231,Tryz.ntmps231
 go_wp2_with (first|((with_reducible (show wpList _ _ _ (Oper.mk _ (.load 27 _) _ _ _ none::_) _ _));refine yK rfl 27 _ rfl w.heap.size rfl 27 _ (0,0) _ R0 yB rfl yN ?_))
 refine HM.out.mono ?_
 rintro e w1 ⟨rfl,b1⟩
 have B1:=yD B0 b1
 have R1:=kept b1 R0
 have c0:w1.cell? ⟨w.heap.size,0,none⟩=some (.string u.scheme):=yE R1 0 _ rfl
 cases mb with
 | false =>
  have HQ:Hid (TR false):=by show _;rw[HT.out];exact fun _=>rfl
  clear HT
  go_wp2_with fail
  go_ret
  exact⟨⟨_,rfl,HQ.out⟩,B1⟩
 | true =>
  by_cases h1:u.scheme=sHttps
  ·have hb1:(u.scheme.toList == [104,116,116,112,115])=true:=by rw[zgb];exact decide_eq_true h1
   have HQ:Hid (TR true):=by show _;rw[HT.out,h1];exact fun _=>rfl
   clear HT h1
   go_wp2_with fail
   go_ret
   exact⟨⟨_,rfl,HQ.out⟩,B1⟩
  ·have hb1:(u.scheme.toList == [104,116,116,112,115])=false:=by rw[zgb];exact decide_eq_false h1
   by_cases h2:u.scheme=sHttp
   ·have hb2:(u.scheme.toList == [104,116,116,112])=true:=by rw[zhA];exact decide_eq_true h2
    have HQ:Hid (∀ b,TR b):=fun b=>by rw[HT.out];exact fun h=>absurd h2 h
    clear HT h1 h2
    go_wp2_with (first|((with_reducible (show wpList _ _ _ (Oper.mk _ (.load 24 _) _ _ _ (some (10,true))::_) _ _));refine zaa (by rfl) 24 _ rfl w.heap.size 3 rfl (hostC u.host) _ (zae R1 3 _ rfl) Tryz.underlying24 rfl host_info ?_))
    refine(HL _ (G.below B1)).out.mono ?_
    rintro e w2 ⟨⟨b,rfl⟩,b2⟩
    go_wp2_with fail
    go_ret
    exact⟨⟨_,rfl,HQ.out _⟩,yD B1 b2⟩
   ·have hb2:(u.scheme.toList == [104,116,116,112])=false:=by rw[zhA];exact decide_eq_false h2
    have HQ:Hid (TR false):=by show _;rw[HT.out,decide_eq_false h1];exact fun _=>rfl
    clear HT h1 h2
    go_wp2_with fail
    go_ret
    exact⟨⟨_,rfl,HQ.out⟩,B1⟩
end
section
open Go.RowKit
theorem zet {u:Url} (h:u.Small):(zbc (ofO u)).Small:=by
 have hn:=zdp u h.fit.n
 have hs:(ofO u).scheme.size≤1000000:=by
  unfold ofO
  split
  ·exact h.sc
  ·exact Nat.zero_le _
 exact⟨zb5 _ hn,hs,by show 1≤1000000;omega,by show (pathShow [⟨#[]⟩]).length≤1500000;decide⟩
theorem zfu {u:Url} (h:u.Small):(zdr u).Small :=
 ⟨⟨h.fit.np,h.fit.sp,h.fit.q,Nat.zero_le _,Nat.zero_le _,Nat.zero_le _,h.fit.n,h.fit.o⟩,h.sc,h.np,h.ps⟩
def zbS (u:Url) (t:ByteArray):Prop:=∃ s,OrigText (ofO u) s∧t=s++⟨#[47]⟩
set_option maxHeartbeats 1000000 in
theorem zhg (u:Url) (pv:Value) (w:World) (G:Glob w) (hp:Strs w pv u.path) (hf:u.Small) :
  Calls Tryz.prog 325 #[.agg #[],.agg (urlC u pv)] w fun e w'=>(∃ t,e=.returned (.string t)∧zbS u t∧t.size≤9000001)∧Below w.heap.size w w':=by
 have R0:=row2b w (.cells #[] 265) (.cells (urlC u pv) 27)
 have B0:=bel2 w (.cells #[] 265) (.cells (urlC u pv) 27)
 have HO:=Lib.hid (zaJ u pv _ (G.below B0) (hp.below B0) hf.fit)
 have HS:=fun w' g=>Lib.hid (zdQ (ofO u) w' g (zet hf) (zdp u hf.fit.n))
 have HT:Hid (∀ s,OrigText (ofO u) s→zbS u (s++⟨#[47]⟩)):=fun s h=>⟨s,h,rfl⟩
 obtain⟨o,ho⟩:∃ o,o=ofO u:=⟨_,rfl⟩
 simp only[← ho] at HO HS HT
 clear ho hf hp
 go_enter Tryz.func325,Tryz.ntmps325
 go_wp2_with (first|((with_reducible (show wpList _ _ _ (Oper.mk _ (.load 27 _) _ _ _ none::_) _ _));refine yK rfl 27 _ rfl (w.heap.size + 1) rfl 27 _ (0,0) _ R0 yB rfl yN ?_))
 refine HO.out.mono ?_
 rintro e w1 ⟨rfl,b1⟩
 have B1:=yD B0 b1
 go_wp2_with fail
 refine(HS _ (G.below B1)).out.mono ?_
 rintro e w2 ⟨⟨t,rfl,ht,hz⟩,b2⟩
 have HQ:Hid (zbS u (t++⟨#[47]⟩)):=HT.out _ ht
 have hz1:¬ (9223372036854775807 < t.size + 1):=by omega
 clear ht HT
 go_wp2_with fail
 go_ret
 exact⟨⟨_,rfl,HQ.out,by rw[app_size];have e1:(⟨#[47]⟩:ByteArray).size=1:=rfl;omega⟩,yD B1 b2⟩
set_option maxHeartbeats 1000000 in
theorem zei (u:Url) (pv:Value) (w:World) (G:Glob w) (hp:Strs w pv u.path) (hf:u.Small) :
  Calls Tryz.prog 305 #[.agg #[],.agg (urlC u pv)] w fun e w'=>(∃ t,e=.returned (.string t)∧zaZ (zdr u) t∧t.size≤9000001)∧Below w.heap.size w w':=by
 have R0:=row2b w (.cells #[] 200) (.cells (urlC u pv) 27)
 have B0:=bel2 w (.cells #[] 200) (.cells (urlC u pv) 27)
 have HO:=Lib.hid (zhh u pv _ (hp.below B0) hf.fit.np)
 have HS:=fun pv' w' g h=>Lib.hid (show_any (zdr u) pv' w' g h (zfu hf))
 obtain⟨o,ho⟩:∃ o,o=zdr u:=⟨_,rfl⟩
 simp only[← ho] at HO HS ⊢
 clear ho hf hp
 go_enter Tryz.func305,Tryz.ntmps305
 go_wp2_with (first|((with_reducible (show wpList _ _ _ (Oper.mk _ (.load 27 _) _ _ _ none::_) _ _));refine yK rfl 27 _ rfl (w.heap.size + 1) rfl 27 _ (0,0) _ R0 yB rfl yN ?_))
 refine HO.out.mono ?_
 rintro e w1 ⟨p1,rfl,ho,b1⟩
 have B1:=yD B0 b1
 have H2:=HS p1 w1 (G.below B1) (Strs.of_own ho)
 obtain⟨q,m,c,rfl⟩:=(Strs.of_own ho).slice
 clear ho
 go_wp2_with fail
 refine H2.out.mono ?_
 rintro e w2 ⟨⟨t,rfl,ht,hz⟩,b2⟩
 have HQ:=Lib.hid ht
 clear ht
 go_wp2_with fail
 go_ret
 exact⟨⟨_,rfl,HQ.out,by omega⟩,yD B1 b2⟩
def Told (u:Url) (T:ByteArray→Prop) (t:ByteArray):Prop:=if (urlMay u && decide (webP u.scheme≠0))=true then T t else t=⟨#[]⟩
def zcs (T:ByteArray→Prop) (w:World) (e:Ending) (w':World):Prop:=(∃ t,e=.returned (.string t)∧T t∧t.size≤9000001)∧Below w.heap.size w w'
set_option maxHeartbeats 2000000 in
theorem zgE (ty fn:Nat) (T:ByteArray→Prop) (u:Url) (pv:Value) (w:World) (G:Glob w) (hp:Strs w pv u.path) (hf:u.Small)
  (hm:∀ (w:World),(method 488 ty (.agg #[]) "postmark/strip.tell").run Tryz.prog w=.ok (fn,.agg #[]) w) (eg:∀ args w,(callFunc fn args).run Tryz.prog w=.ok (.enter fn args) w)
  (HC:∀ w',Glob w'→Strs w' pv u.path→Calls Tryz.prog fn #[.agg #[],.agg (urlC u pv)] w' (zcs T w')) :
  Calls Tryz.prog 140 #[.agg (urlC u pv),.iface ty (.agg #[])] w (zcs (Told u T) w):=by
 have R0:=row1 w (.cells (urlC u pv) 27)
 have B0:=bel1 w (.cells (urlC u pv) 27)
 have HM:=Lib.hid (zbN u pv _ (G.below B0) (hp.below B0) hf.fit)
 have HW:=fun w'=>Lib.hid (web_any u.scheme w')
 have HT:Hid (∀ t,Told u T t=if (urlMay u && decide (webP u.scheme≠0))=true then T t else t=⟨#[]⟩):=fun t=>rfl
 have HC2:=Lib.hid HC
 obtain⟨TT,hTT⟩:∃ d,d=Told u T:=⟨_,rfl⟩
 obtain⟨mb,hmb⟩:∃ b,b=urlMay u:=⟨_,rfl⟩
 obtain⟨wv,hwv⟩:∃ b,b=webP u.scheme:=⟨_,rfl⟩
 rw[← hmb] at HM
 simp only[← hmb,← hTT,← hwv] at HT
 simp only[← hTT]
 simp only[← hwv] at HW
 have HPP:=Lib.hid hp
 clear hmb hTT hwv hf hp HC
 go_enter Tryz.func140,Tryz.ntmps140
 go_wp2_with (first|((with_reducible (show wpList _ _ _ (Oper.mk _ (.load 27 _) _ _ _ none::_) _ _));refine yK rfl 27 _ rfl w.heap.size rfl 27 _ (0,0) _ R0 yB rfl yN ?_))
 refine HM.out.mono ?_
 rintro e w1 ⟨rfl,b1⟩
 have B1:=yD B0 b1
 have R1:=kept b1 R0
 have c0:w1.cell? ⟨w.heap.size,0,none⟩=some (.string u.scheme):=yE R1 0 _ rfl
 clear R0 B0 b1
 cases mb with
 | false =>
  have HQ:Hid (TT ⟨#[]⟩):=by show _;rw[HT.out];rfl
  clear HT
  go_wp2_with fail
  go_ret
  exact⟨⟨_,rfl,HQ.out,Nat.zero_le _⟩,B1⟩
 | true =>
  by_cases h0:wv=0
  ·have HQ:Hid (TT ⟨#[]⟩):=by show _;rw[HT.out,h0];rfl
   subst h0
   clear HT
   go_wp2_with (first|(go_at_call 33;refine(HW _).out.mono ?_;rintro e w2 ⟨rfl,rfl⟩))
   go_ret
   exact⟨⟨_,rfl,HQ.out,Nat.zero_le _⟩,B1⟩
  ·have h1:(wv == 0)=false:=by simp[h0]
   have HQ:Hid (∀ t,TT t=T t):=fun t=>by rw[HT.out,if_pos (by simp[h0])]
   have H3:=Lib.hid (HC2.out w1 (G.below B1) (HPP.out.below B1))
   clear HT h0 HC2
   go_wp2_with (first|(go_at_call 33;refine(HW _).out.mono ?_;rintro e w2 ⟨rfl,rfl⟩)|((with_reducible (show wpList _ _ _ (Oper.mk _ (.load 27 _) _ _ _ none::_) _ _));refine yK rfl 27 _ rfl w.heap.size rfl 27 _ (0,0) _ R1 yB rfl yN ?_))
   refine H3.out.mono ?_
   rintro e w2 ⟨⟨t,rfl,ht,hz⟩,b2⟩
   have HTT:Hid (TT t):=by show _;rw[HQ.out];exact ht
   clear ht HQ
   go_wp2_with fail
   go_ret
   exact⟨⟨_,rfl,HTT.out,hz⟩,yD B1 b2⟩
end
section
open Go.RowKit
def zaY (u:Url) (t:ByteArray):Prop:=Told u (zaZ (zdr u)) t
def zbf (u:Url) (t:ByteArray):Prop:=Told u (zbS u) t
theorem zcf (u:Url) (pv:Value) (w:World) (G:Glob w) (hp:Strs w pv u.path) (hf:u.Small) :
  Calls Tryz.prog 140 #[.agg (urlC u pv),.iface 265 (.agg #[])] w (zcs (zbf u) w) :=
 zgE 265 325 (zbS u) u pv w G hp hf (fun _=>by kernel_rfl) (enters_of Tryz.func325 (by kernel_rfl) rfl) (fun w' g h=>zhg u pv w' g h hf)
theorem zcR (u:Url) (pv:Value) (w:World) (G:Glob w) (hp:Strs w pv u.path) (hf:u.Small) :
  Calls Tryz.prog 140 #[.agg (urlC u pv),.iface 200 (.agg #[])] w (zcs (zaY u) w) :=
 zgE 200 305 (zaZ (zdr u)) u pv w G hp hf (fun _=>by kernel_rfl) (enters_of Tryz.func305 (by kernel_rfl) rfl) (fun w' g h=>zei u pv w' g h hf)
theorem zeL (u:Url) (pv:Value) (w:World) (G:Glob w) (hp:Strs w pv u.path) (hf:u.Small) :
  Calls Tryz.prog 194 #[.agg (urlC u pv)] w (zcs (zbf u) w):=by
 have R0:=row1 w (.cells (urlC u pv) 27)
 have B0:=bel1 w (.cells (urlC u pv) 27)
 have HT:=Lib.hid (zcf u pv _ (G.below B0) (hp.below B0) hf)
 obtain⟨T,hT⟩:∃ T,T=zbf u:=⟨_,rfl⟩
 rw[← hT] at HT ⊢
 clear hT hf hp
 go_enter Tryz.func194,Tryz.ntmps194
 go_wp2_with (first|((with_reducible (show wpList _ _ _ (Oper.mk _ (.load 27 _) _ _ _ none::_) _ _));refine yK rfl 27 _ rfl w.heap.size rfl 27 _ (0,0) _ R0 yB rfl yN ?_))
 refine HT.out.mono ?_
 rintro e w1 ⟨⟨t,rfl,ht,hz⟩,b1⟩
 have H:=Lib.hid ht
 clear ht
 go_wp2_with fail
 go_ret
 exact⟨⟨_,rfl,H.out,hz⟩,yD B0 b1⟩
theorem zgA (u:Url) (pv:Value) (w:World) (G:Glob w) (hp:Strs w pv u.path) (hf:u.Small) :
  Calls Tryz.prog 193 #[.agg (urlC u pv)] w (zcs (zaY u) w):=by
 have R0:=row1 w (.cells (urlC u pv) 27)
 have B0:=bel1 w (.cells (urlC u pv) 27)
 have HT:=Lib.hid (zcR u pv _ (G.below B0) (hp.below B0) hf)
 obtain⟨T,hT⟩:∃ T,T=zaY u:=⟨_,rfl⟩
 rw[← hT] at HT ⊢
 clear hT hf hp
 go_enter Tryz.func193,Tryz.ntmps193
 go_wp2_with (first|((with_reducible (show wpList _ _ _ (Oper.mk _ (.load 27 _) _ _ _ none::_) _ _));refine yK rfl 27 _ rfl w.heap.size rfl 27 _ (0,0) _ R0 yB rfl yN ?_))
 refine HT.out.mono ?_
 rintro e w1 ⟨⟨t,rfl,ht,hz⟩,b1⟩
 have H:=Lib.hid ht
 clear ht
 go_wp2_with fail
 go_ret
 exact⟨⟨_,rfl,H.out,hz⟩,yD B0 b1⟩
def zcq (u:Url) (t:ByteArray):Prop:=∃ s,zaY u s∧(s.size≤4096→t=s)∧(4096 < s.size→zbf u t)
set_option maxHeartbeats 1000000 in
theorem zho (u:Url) (pv:Value) (w:World) (G:Glob w) (hp:Strs w pv u.path) (hf:u.Small) :
  Calls Tryz.prog 141 #[.agg (urlC u pv)] w (zcs (zcq u) w):=by
 have R0:=row1 w (.cells (urlC u pv) 27)
 have B0:=bel1 w (.cells (urlC u pv) 27)
 have HF:=Lib.hid (zgA u pv _ (G.below B0) (hp.below B0) hf)
 have HO:=fun w' g h=>Lib.hid (zeL u pv w' g h hf)
 have HC:Hid (∀ t,zcq u t=∃ s,zaY u s∧(s.size≤4096→t=s)∧(4096 < s.size→zbf u t)):=fun t=>rfl
 obtain⟨T,hT⟩:∃ T,T=zcq u:=⟨_,rfl⟩
 obtain⟨T1,hT1⟩:∃ T,T=zaY u:=⟨_,rfl⟩
 obtain⟨T2,hT2⟩:∃ T,T=zbf u:=⟨_,rfl⟩
 simp only[← hT,← hT1,← hT2] at HF HO HC ⊢
 have HPP:=Lib.hid hp
 clear hT hT1 hT2 hf hp
 go_enter Tryz.func141,Tryz.ntmps141
 go_wp2_with (first|((with_reducible (show wpList _ _ _ (Oper.mk _ (.load 27 _) _ _ _ none::_) _ _));refine yK rfl 27 _ rfl w.heap.size rfl 27 _ (0,0) _ R0 yB rfl yN ?_))
 refine HF.out.mono ?_
 rintro e w1 ⟨⟨t,rfl,ht,hz⟩,b1⟩
 have B1:=yD B0 b1
 have R1:=kept b1 R0
 by_cases h:t.size≤4096
 ·have hi:(t.size:Int)≤4096:=by omega
  have HQ:Hid (T t):=by show _;rw[HC.out];exact⟨t,ht,fun _=>rfl,fun h2=>by omega⟩
  clear HC ht
  go_wp2_with fail
  go_ret
  exact⟨⟨_,rfl,HQ.out,hz⟩,B1⟩
 ·have hi:¬ ((t.size:Int)≤4096):=by omega
  have HQ:Hid (∀ s,T2 s→T s):=fun s hs=>by rw[HC.out];exact⟨t,ht,fun h2=>by omega,fun _=>hs⟩
  have H3:=Lib.hid (HO w1 (G.below B1) (HPP.out.below B1)).out
  clear HC ht HO
  go_wp2_with (first|((with_reducible (show wpList _ _ _ (Oper.mk _ (.load 27 _) _ _ _ none::_) _ _));refine yK rfl 27 _ rfl w.heap.size rfl 27 _ (0,0) _ R1 yB rfl yN ?_))
  refine H3.out.mono ?_
  rintro e w2 ⟨⟨s,rfl,hs,hz2⟩,b2⟩
  have HQ2:=Lib.hid (HQ.out s hs)
  clear hs HQ
  go_wp2_with fail
  go_ret
  exact⟨⟨_,rfl,HQ2.out,hz2⟩,yD B1 b2⟩
def tellerV (n:Int):Value:=if n=1 then .iface 265 (.agg #[]) else if n=2 then .iface 200 (.agg #[]) else .nilIface
theorem zhf (n:Int) (w:World):Calls Tryz.prog 139 #[.int .i64 n] w fun e w'=>e=.returned (tellerV n)∧w=w':=by
 have HT:Hid (tellerV n=_):=tellerV.eq_1 n
 by_cases h1:n=1
 ·have HZ:Hid (tellerV n=.iface 265 (.agg #[])):=by show _=_;rw[HT.out,if_pos h1]
  obtain⟨T,hT⟩:∃ T,T=tellerV n:=⟨_,rfl⟩
  rw[← hT] at HZ ⊢
  subst h1
  clear hT HT
  go_enter Tryz.func139,Tryz.ntmps139
  go_wp2
  go_ret
  exact⟨by rw[HZ.out];rfl,rfl⟩
 ·by_cases h2:n=2
  ·have HZ:Hid (tellerV n=.iface 200 (.agg #[])):=by show _=_;rw[HT.out,if_neg h1,if_pos h2]
   obtain⟨T,hT⟩:∃ T,T=tellerV n:=⟨_,rfl⟩
   rw[← hT] at HZ ⊢
   subst h2
   clear hT HT
   go_enter Tryz.func139,Tryz.ntmps139
   go_wp2
   go_ret
   exact⟨by rw[HZ.out];rfl,rfl⟩
  ·have HZ:Hid (tellerV n=.nilIface):=by show _=_;rw[HT.out,if_neg h1,if_neg h2]
   obtain⟨T,hT⟩:∃ T,T=tellerV n:=⟨_,rfl⟩
   rw[← hT] at HZ ⊢
   have e1:(n == 1)=false:=by rw[beq_eq_false_iff_ne];exact h1
   have e2:(n == 2)=false:=by rw[beq_eq_false_iff_ne];exact h2
   clear hT HT h1 h2
   go_enter Tryz.func139,Tryz.ntmps139
   go_wp2
   go_ret
   exact⟨by rw[HZ.out];rfl,rfl⟩
def TellIs (u:Url) (n:Int) (t:ByteArray) (b:Bool):Prop:=b=!t.toList.isEmpty∧(n=1→zbf u t)∧(n=2→zcq u t)∧(n≠1→n≠2→t=⟨#[]⟩)
set_option maxHeartbeats 2000000 in
theorem zht (u:Url) (pv:Value) (n:Int) (w:World) (G:Glob w) (hp:Strs w pv u.path) (hf:u.Small) :
  Calls Tryz.prog 91 #[.agg (urlC u pv),.int .i64 n] w fun e w'=>(∃ t b,e=.returned (.tuple #[.string t,.bool b])∧TellIs u n t b∧t.size≤9000001)∧Below w.heap.size w w':=by
 have R0:=row1 w (.cells (urlC u pv) 27)
 have B0:=bel1 w (.cells (urlC u pv) 27)
 have H1:=Lib.hid (zcf u pv _ (G.below B0) (hp.below B0) hf)
 have H2:=Lib.hid (zcR u pv _ (G.below B0) (hp.below B0) hf)
 have H3:=fun w' g h=>Lib.hid (zho u pv w' g h hf)
 have HO:=fun w'=>Lib.hid (zhf n w')
 have HV:Hid (tellerV n=_):=tellerV.eq_1 n
 have HT:Hid (∀ t b,TellIs u n t b=_):=fun t b=>TellIs.eq_1 u n t b
 obtain⟨T1,hT1⟩:∃ T,T=zbf u:=⟨_,rfl⟩
 obtain⟨T2,hT2⟩:∃ T,T=zaY u:=⟨_,rfl⟩
 obtain⟨T3,hT3⟩:∃ T,T=zcq u:=⟨_,rfl⟩
 obtain⟨T4,hT4⟩:∃ T,T=TellIs u n:=⟨_,rfl⟩
 obtain⟨tv,htv⟩:∃ T,T=tellerV n:=⟨_,rfl⟩
 simp only[← hT1,← hT2,← hT3,← hT4,← htv] at H1 H2 H3 HO HV HT ⊢
 have HPP:=Lib.hid hp
 clear hT1 hT2 hT3 hT4 htv hf hp
 have ta1:∀ (w:World),(Instr.typeAssert (.iface 265 (.agg #[])) 20 196 true).run Tryz.prog w=.ok (.tuple #[.iface 265 (.agg #[]),.bool true]) w:=fun w=>by kernel_rfl
 have ta2:∀ (w:World),(Instr.typeAssert (.iface 200 (.agg #[])) 20 196 true).run Tryz.prog w=.ok (.tuple #[.iface 200 (.agg #[]),.bool true]) w:=fun w=>by kernel_rfl
 have ta3:∀ (w:World),(Instr.typeAssert .nilIface 20 196 true).run Tryz.prog w=.ok (.tuple #[.nilIface,.bool false]) w:=fun w=>by kernel_rfl
 have ta4:∀ (w:World),(Instr.typeAssert (.iface 265 (.agg #[])) 196 200 true).run Tryz.prog w=.ok (.tuple #[.agg #[],.bool false]) w:=fun w=>by kernel_rfl
 have ta5:∀ (w:World),(Instr.typeAssert (.iface 200 (.agg #[])) 196 200 true).run Tryz.prog w=.ok (.tuple #[.agg #[],.bool true]) w:=fun w=>by kernel_rfl
 by_cases h1:n=1
 ·subst h1
  obtain rfl:tv=.iface 265 (.agg #[]):=by rw[HV.out,if_pos rfl]
  clear HV
  go_enter Tryz.func91,Tryz.ntmps91
  go_wp2_with (first|(go_at_call 139;refine(HO _).out.mono ?_;rintro e w1 ⟨rfl,rfl⟩)|((with_reducible (show wpList _ _ _ (Oper.mk _ (.load 27 _) _ _ _ none::_) _ _));refine yK rfl 27 _ rfl w.heap.size rfl 27 _ (0,0) _ R0 yB rfl yN ?_))
  refine H1.out.mono ?_
  rintro e w1 ⟨⟨t,rfl,ht,hz⟩,b1⟩
  have HQ:Hid (T4 t (!t.toList.isEmpty)):=by show _;rw[HT.out];exact⟨rfl,fun _=>ht,fun h=>absurd h (by decide),fun h=>absurd rfl h⟩
  clear HT ht
  have B1:=yD B0 b1
  go_wp2_with fail
  go_ret2
  exact⟨⟨_,_,rfl,HQ.out,hz⟩,B1.alloc B1.size _⟩
 ·by_cases h2:n=2
  ·subst h2
   obtain rfl:tv=.iface 200 (.agg #[]):=by rw[HV.out,if_neg h1,if_pos rfl]
   clear HV h1
   go_enter Tryz.func91,Tryz.ntmps91
   go_wp2_with (first|(go_at_call 139;refine(HO _).out.mono ?_;rintro e w1 ⟨rfl,rfl⟩)|((with_reducible (show wpList _ _ _ (Oper.mk _ (.load 27 _) _ _ _ none::_) _ _));refine yK rfl 27 _ rfl w.heap.size rfl 27 _ (0,0) _ R0 yB rfl yN ?_))
   refine H2.out.mono ?_
   rintro e w1 ⟨⟨t,rfl,_,_⟩,b1⟩
   have R1:=kept b1 R0
   have B1:=yD B0 b1
   have k2:=bel1 w1 (.cells #[] 200)
   have R2:=kept k2 R1
   have B2:=yD B1 k2
   have H4:=Lib.hid (H3 _ (G.below B2) (HPP.out.below B2)).out
   clear H3
   go_wp2_with (first|((with_reducible (show wpList _ _ _ (Oper.mk _ (.load 27 _) _ _ _ none::_) _ _));refine yK rfl 27 _ rfl w.heap.size rfl 27 _ (0,0) _ R2 yB rfl yN ?_))
   refine H4.out.mono ?_
   rintro e w3 ⟨⟨s,rfl,hs,hz⟩,b3⟩
   have HQ:Hid (T4 s (!s.toList.isEmpty)):=by show _;rw[HT.out];exact⟨rfl,fun h=>absurd h (by decide),fun _=>hs,fun _ h=>absurd rfl h⟩
   clear HT hs
   go_wp2_with fail
   go_ret2
   exact⟨⟨_,_,rfl,HQ.out,hz⟩,yD B2 b3⟩
  ·obtain rfl:tv=.nilIface:=by rw[HV.out,if_neg h1,if_neg h2]
   have HQ:Hid (T4 ⟨#[]⟩ false):=by show _;rw[HT.out];exact⟨by rw[(empty_iff (⟨#[]⟩:ByteArray)).2 rfl];rfl,fun h=>absurd h h1,fun h=>absurd h h2,fun _ _=>rfl⟩
   clear HV HT h1 h2
   go_enter Tryz.func91,Tryz.ntmps91
   go_wp2_with (first|(go_at_call 139;refine(HO _).out.mono ?_;rintro e w1 ⟨rfl,rfl⟩))
   go_ret2
   exact⟨⟨_,_,rfl,HQ.out,Nat.zero_le _⟩,B0⟩
end
end Go.Proofs.YtdlkjofnnefjfaaGreatDoor
