/- show.Bare, join.Whole. join.Inherit. token: names of policies, a list's texts, the last that tells anything. token.last, Last, Told. -/
import Derived.Test.YtdlkjofnnefjfaaGreatDoorZShort
import Derived.Test.YtdlkjofnnefjfaaGreatDoorZMay
set_option linter.all false
namespace Go.Proofs.YtdlkjofnnefjfaaGreatDoor
set_option maxRecDepth 100000
section
open Go.RowKit
def zbv (u:Url):Url:={ u with frag:=⟨#[]⟩,hasF:=false }
def zeg (x:Url) (w:World) (e:Ending) (w':World):Prop:=∃ pv,e=.returned (.agg (urlC x pv))∧w'.ownsRow w.heap.size 9 1 pv x.path.length (x.path.map Value.string)∧Below w.heap.size w w'
theorem zap {W:World} {g i:Nat} {cs cs':Array Value} {T:TypeId} (h:W.heap[g]? = some (.cells cs T (0,0))) (v:Value) (e:cs.setIfInBounds i v=cs'):(W.setCell ⟨g,i,none⟩ v).heap[g]? = some (.cells cs' T (0,0)):=by
 rw[heap_setCell_same _ _ _ _ _ _ h,e]
theorem zam {W:World} {g h i:Nat} {o:Obj} (hr:W.heap[g]? = some o) (hne:g≠h) (v:Value):(W.setCell ⟨h,i,none⟩ v).heap[g]? = some o:=(yG _ _ _ _ hne).trans hr
set_option maxHeartbeats 2000000 in
theorem zdg (u:Url) (pv:Value) (w:World) (hp:Strs w pv u.path) (hl:u.path.length≤10000000) :
  Calls Tryz.prog 44 #[.agg (urlC u pv)] w (zeg (zbv u) w):=by
 have R0:=row2a w (.cells (urlC u pv) 27) (.cells (urlC url0 (.slice none 0 0)) 27)
 have S0:=row2b w (.cells (urlC u pv) 27) (.cells (urlC url0 (.slice none 0 0)) 27)
 have B0:=bel2 w (.cells (urlC u pv) 27) (.cells (urlC url0 (.slice none 0 0)) 27)
 have HCL:=Lib.hid (zaO pv u.path _ (hp.below B0) hl)
 have c15:=yE R0 15 pv rfl
 have hpv:Hid (zbv u={ u with frag:=⟨#[]⟩,hasF:=false }):=rfl
 obtain⟨x,hx⟩:∃ x,x=zbv u:=⟨_,rfl⟩
 rw[← hx] at hpv ⊢
 clear hx
 obtain⟨qi,mi,ci,rfl⟩:=hp.slice
 go_enter Tryz.func44,Tryz.ntmps44
 go_wp2_with fail
 refine HCL.out.mono ?_
 rintro e W1 ⟨v1,rfl,hO,b1⟩
 have R1:=kept b1 R0
 have S1:=kept b1 S0
 have B1:=yD B0 b1
 have hz0:((w.alloc (.cells (urlC u (.slice qi mi ci)) 27)).alloc (.cells (urlC url0 (.slice none 0 0)) 27)).heap.size=w.heap.size + 2:=by simp
 rw[hz0] at hO
 obtain⟨qp,mp,cp,rfl⟩:=(Strs.of_own hO).slice
 have d15:=yE R1 15 (.slice qi mi ci) rfl
 have f15:=yF R1 15
 have d18:=yE R1 18 (.string u.frag) rfl
 have f18:=yF R1 18
 have d20:=yE R1 20 (.bool u.hasF) rfl
 have f20:=yF R1 20
 have R2:=zap (i:=15) (cs':=urlC u (.slice qp mp cp)) R1 (.slice qp mp cp) (by simp)
 have S2:=zam (i:=15) S1 (by omega:w.heap.size + 1≠w.heap.size) (.slice qp mp cp)
 have R3:=zap (i:=18) (cs':=urlC { u with frag:=⟨#[]⟩ } (.slice qp mp cp)) R2 (.string ⟨#[]⟩) (by simp)
 have S3:=zam (i:=18) S2 (by omega:w.heap.size + 1≠w.heap.size) (.string ⟨#[]⟩)
 have R4:=zap (i:=20) (cs':=urlC { u with frag:=⟨#[]⟩,hasF:=false } (.slice qp mp cp)) R3 (.bool false) (by simp)
 have S4:=zam (i:=20) S3 (by omega:w.heap.size + 1≠w.heap.size) (.bool false)
 have hO2:=yU hO (a:=⟨w.heap.size,15,none⟩) (by simp) (.slice qp mp cp)
 have hO3:=yU hO2 (a:=⟨w.heap.size,18,none⟩) (by simp) (.string ⟨#[]⟩)
 have hO4:=yU hO3 (a:=⟨w.heap.size,20,none⟩) (by simp) (.bool false)
 have hO5:=own_base (own_setRow (g:=w.heap.size + 1) (cs:=urlC { u with frag:=⟨#[]⟩,hasF:=false } (.slice qp mp cp)) hO4 (by omega)) (B':=w.heap.size) (by omega)
 have B4:Below w.heap.size w (((W1.setCell ⟨w.heap.size,15,none⟩ (.slice qp mp cp)).setCell ⟨w.heap.size,18,none⟩ (.string ⟨#[]⟩)).setCell ⟨w.heap.size,20,none⟩ (.bool false)):=((B1.setCell (p:=⟨w.heap.size,15,none⟩) (yV _) _).setCell (p:=⟨w.heap.size,18,none⟩) (yV _) _).setCell (p:=⟨w.heap.size,20,none⟩) (yV _) _
 have HF:=Lib.hid (And.intro hO5 (yM B4 (by omega:w.heap.size≤w.heap.size + 1) (cs:=urlC { u with frag:=⟨#[]⟩,hasF:=false } (.slice qp mp cp))))
 clear hO hO2 hO3 hO4 hO5 B4 R2 R3 S2 S3
 go_wp2_with (first
  | ((with_reducible (show wpList _ _ _ (Oper.mk _ (.load 27 _) _ _ _ none::_) _ _));refine yK rfl 27 _ rfl w.heap.size rfl 27 _ (0,0) _ R4 yB rfl yN ?_)
  | ((with_reducible (show wpList _ _ _ (Oper.mk none (.store 27 _ _) _ _ _ none::_) _ _));refine yJ rfl 27 _ _ rfl (w.heap.size + 1) _ rfl rfl 27 _ S4 yN rfl (by simp[Value.oneCell']) ?_))
 refine yO (yT rfl _ _ _ _ _ (0,0) _ rfl (yH _ _ _ _ _ _ S4) yB rfl yN) rfl ?_
 rw[hpv.out]
 exact⟨_,rfl,HF.out.1,HF.out.2⟩
end
section
open Go.RowKit
def inhU (u f:Url):Url:=if u.hasF=true then u else { u with frag:=f.frag,hasF:=f.hasF }
theorem zhi {w:World} {B e n:Nat} {v:Value} {xs:List Value} (h:w.ownsRow B e 1 v n xs):w.drew.ownsRow B e 1 v n xs:=h
set_option maxHeartbeats 2000000 in
theorem zew (u f:Url) (pv pf:Value) (w:World) (hp:Strs w pv u.path) (hl:u.path.length≤10000000) :
  Calls Tryz.prog 183 #[.agg (urlC u pv),.agg (urlC f pf)] w (zeg (inhU u f) w):=by
 have R0:=row3a w (.cells (urlC u pv) 27) (.cells (urlC f pf) 27) (.cells (urlC url0 (.slice none 0 0)) 27)
 have T0:=row3b w (.cells (urlC u pv) 27) (.cells (urlC f pf) 27) (.cells (urlC url0 (.slice none 0 0)) 27)
 have S0:=row3c w (.cells (urlC u pv) 27) (.cells (urlC f pf) 27) (.cells (urlC url0 (.slice none 0 0)) 27)
 have B0:=bel3 w (.cells (urlC u pv) 27) (.cells (urlC f pf) 27) (.cells (urlC url0 (.slice none 0 0)) 27)
 have HCL:=Lib.hid (zaO pv u.path _ (hp.below B0) hl)
 have c15:=yE R0 15 pv rfl
 have hpv:Hid (inhU u f=_):=inhU.eq_1 u f
 obtain⟨x,hx⟩:∃ x,x=inhU u f:=⟨_,rfl⟩
 rw[← hx] at hpv ⊢
 clear hx
 obtain⟨qi,mi,ci,rfl⟩:=hp.slice
 go_enter Tryz.func183,Tryz.ntmps183
 go_wp2_with fail
 refine HCL.out.mono ?_
 rintro e W1 ⟨v1,rfl,hO,b1⟩
 have R1:=kept b1 R0
 have S1:=kept b1 S0
 have T1:=kept b1 T0
 have B1:=yD B0 b1
 have hz0:(((w.alloc (.cells (urlC u (.slice qi mi ci)) 27)).alloc (.cells (urlC f pf) 27)).alloc (.cells (urlC url0 (.slice none 0 0)) 27)).heap.size=w.heap.size + 3:=by simp
 rw[hz0] at hO
 have hz1:w.heap.size + 3≤W1.heap.size:=by have:=b1.size;simp at this;omega
 obtain⟨qp,mp,cp,rfl⟩:=(Strs.of_own hO).slice
 have d15:=yE R1 15 (.slice qi mi ci) rfl
 have f15:=yF R1 15
 have R2:=zap (i:=15) (cs':=urlC u (.slice qp mp cp)) R1 (.slice qp mp cp) (by simp)
 have S2:=zam (i:=15) S1 (by omega:w.heap.size + 1 + 1≠w.heap.size) (.slice qp mp cp)
 have T2:=zam (i:=15) T1 (by omega:w.heap.size + 1≠w.heap.size) (.slice qp mp cp)
 have hO2:=yU hO (a:=⟨w.heap.size,15,none⟩) (by simp) (.slice qp mp cp)
 have B2:=B1.setCell (p:=⟨w.heap.size,15,none⟩) (yV _) (.slice qp mp cp)
 obtain⟨W2,hW2⟩:∃ W2,W1.setCell ⟨w.heap.size,15,none⟩ (.slice qp mp cp)=W2:=⟨_,rfl⟩
 go_upto_region 2 with fail
 rw[hW2] at R2 S2 T2 hO2 B2
 clear hW2 hO
 have d20:=yE R2 20 (.bool u.hasF) rfl
 obtain⟨hb,hhb⟩:∃ hb,hb=u.hasF:=⟨_,rfl⟩
 rw[← hhb] at d20 hpv
 have HHB:=Lib.hid hhb
 clear hhb
 cases hb with
 | true =>
  have HZ:Hid (x=u):=hpv.out
  have hO5:=own_base (own_setRow (g:=w.heap.size + 1 + 1) (cs:=urlC u (.slice qp mp cp)) hO2 (by omega)) (B':=w.heap.size) (by omega)
  have HF:=Lib.hid (And.intro hO5 (yM B2 (by omega:w.heap.size≤w.heap.size + 1 + 1) (cs:=urlC u (.slice qp mp cp))))
  clear hpv hO2 hO5
  go_wp2_with (first|((with_reducible (show wpList _ _ _ (Oper.mk _ (.load 27 _) _ _ _ none::_) _ _));refine yK rfl 27 _ rfl w.heap.size rfl 27 _ (0,0) _ R2 yB rfl yN ?_)|((with_reducible (show wpList _ _ _ (Oper.mk none (.store 27 _ _) _ _ _ none::_) _ _));refine yJ rfl 27 _ _ rfl (w.heap.size + 1 + 1) _ rfl rfl 27 _ S2 yN rfl (by simp[Value.oneCell']) ?_))
  refine yO (yT rfl _ _ _ _ _ (0,0) _ rfl (yH _ _ _ _ _ _ S2) yB rfl yN) rfl ?_
  rw[HZ.out]
  exact⟨_,rfl,HF.out.1,HF.out.2⟩
 | false =>
  have HZ:Hid (x={ u with frag:=f.frag,hasF:=f.hasF }):=hpv.out
  have d18:=yE R2 18 (.string u.frag) rfl
  have f18:=yF R2 18
  have f20:=yF R2 20
  have t18:=yE T2 18 (.string f.frag) rfl
  have t20:=yE T2 20 (.bool f.hasF) rfl
  have R3:=zap (i:=18) (cs':=urlC { u with frag:=f.frag } (.slice qp mp cp)) R2 (.string f.frag) (by simp)
  have S3:=zam (i:=18) S2 (by omega:w.heap.size + 1 + 1≠w.heap.size) (.string f.frag)
  have R4:=zap (i:=20) (cs':=urlC { u with frag:=f.frag,hasF:=f.hasF } (.slice qp mp cp)) R3 (.bool f.hasF) (by simp)
  have S4:=zam (i:=20) S3 (by omega:w.heap.size + 1 + 1≠w.heap.size) (.bool f.hasF)
  have hO3:=yU hO2 (a:=⟨w.heap.size,18,none⟩) (by simp) (.string f.frag)
  have hO4:=yU hO3 (a:=⟨w.heap.size,20,none⟩) (by simp) (.bool f.hasF)
  have B4:=(B2.setCell (p:=⟨w.heap.size,18,none⟩) (yV _) (.string f.frag)).setCell (p:=⟨w.heap.size,20,none⟩) (yV _) (.bool f.hasF)
  obtain⟨W3,hW3⟩:∃ W3,((W2.setCell ⟨w.heap.size,18,none⟩ (.string f.frag)).setCell ⟨w.heap.size,20,none⟩ (.bool f.hasF))=W3:=⟨_,rfl⟩
  go_wp2_with fail
  go_region
  rw[hW3] at R4 S4 hO4 B4
  clear hW3 R3 S3 hO3
  have R5:W3.drew.heap[w.heap.size]? = _:=R4
  have S5:W3.drew.heap[w.heap.size + 1 + 1]? = _:=S4
  have hO5:=own_base (own_setRow (g:=w.heap.size + 1 + 1) (cs:=urlC { u with frag:=f.frag,hasF:=f.hasF } (.slice qp mp cp)) (zhi hO4) (by omega)) (B':=w.heap.size) (by omega)
  have HF:=Lib.hid (And.intro hO5 (yM B4.drew (by omega:w.heap.size≤w.heap.size + 1 + 1) (cs:=urlC { u with frag:=f.frag,hasF:=f.hasF } (.slice qp mp cp))))
  clear hpv hO2 hO4 hO5
  go_wp2_with (first|((with_reducible (show wpList _ _ _ (Oper.mk _ (.load 27 _) _ _ _ none::_) _ _));refine yK rfl 27 _ rfl w.heap.size rfl 27 _ (0,0) _ R5 yB rfl yN ?_)|((with_reducible (show wpList _ _ _ (Oper.mk none (.store 27 _ _) _ _ _ none::_) _ _));refine yJ rfl 27 _ _ rfl (w.heap.size + 1 + 1) _ rfl rfl 27 _ S5 yN rfl (by simp[Value.oneCell']) ?_))
  refine yO (yT rfl _ _ _ _ _ (0,0) _ rfl (yH _ _ _ _ _ _ S5) yB rfl yN) rfl ?_
  rw[HZ.out]
  exact⟨_,rfl,HF.out.1,HF.out.2⟩
end
section
open Go.RowKit Go.Shelf
attribute [local go_sem] Oper.semAt_some
def isPol (s name : ByteArray) : Bool := decide (name.size ≠ 0) && sameL s.data.toList name.data.toList
def zaV (s : ByteArray) : Int := max 0 (findL (isPol s) polNames)
theorem zgc (g : Nat) (s name : ByteArray) (w : World) (hs : s.size ≤ 1000000) (hn : name.size ≤ 1000000) (hc : w.cell? ⟨g, 0, none⟩ = some (.string s)) :
    Calls Tryz.prog 248 #[.string name, .pointer (some ⟨g, 0, none⟩)] w fun e w' => e = .returned (.bool (isPol s name)) ∧ Below w.heap.size w w' := by
  have HS := fun w' => Lib.hid (same_any s name w' (by omega) (by omega))
  have HP : Hid (isPol s name = _) := isPol.eq_1 s name
  obtain ⟨x, hx⟩ : ∃ x, x = isPol s name := ⟨_, rfl⟩
  obtain ⟨y, hy⟩ : ∃ y, y = sameL s.data.toList name.data.toList := ⟨_, rfl⟩
  rw [← hx, ← hy] at HP
  rw [← hx]
  simp only [← hy] at HS
  clear hx hy
  by_cases h0 : name.size = 0
  · have he : name.toList.isEmpty = true := (empty_iff name).2 h0
    have HZ : Hid (x = false) := by show _ = _; rw [HP.out, decide_eq_false (by omega)]; rfl
    clear HP
    go_enter Tryz.func248, Tryz.ntmps248
    go_wp2_with (first | (go_at_call 35; refine (HS _).out.mono ?_; rintro e w1 ⟨rfl, b1⟩))
    go_ret
    exact ⟨ret_bool (by rw [HZ.out]), Below.refl _ _⟩
  · have he : name.toList.isEmpty = false := empty_no h0
    have HZ : Hid (x = y) := by show _ = _; rw [HP.out, decide_eq_true h0]; rfl
    clear HP
    go_enter Tryz.func248, Tryz.ntmps248
    go_wp2_with (first | (go_at_call 35; refine (HS _).out.mono ?_; rintro e w1 ⟨rfl, b1⟩))
    go_ret
    exact ⟨ret_bool (by rw [HZ.out]), b1⟩
theorem zft {w : World} (G : Glob w) : Strs w (.slice (some ⟨5, 0, none⟩) 9 9) polNames := by
  refine .inr ⟨5, 0, 9, rfl, by decide, by unfold maxLen; decide, by have := G.lt; omega, fun j hj => ?_⟩
  rw [Nat.zero_add]; exact G.names j hj
theorem zfy (s : ByteArray) (w : World) (G : Glob w) (hs : s.size ≤ 1000000) :
    Calls Tryz.prog 230 #[.string s] w fun e w' => e = .returned (.int .i64 (zaV s)) ∧ Below w.heap.size w w' := by
  have hmf : ∀ (fn : Fn) (first cap : Array Value) (w : World), (Instr.makeFunc fn first cap).run Tryz.prog w = .ok (.func fn first cap) w := fun _ _ _ _ => rfl
  have R0 := row1 w (.cells #[.string s] 9)
  have B0 := bel1 w (.cells #[.string s] 9)
  have hask : AskStr 248 #[.pointer (some ⟨w.heap.size, 0, none⟩)] (isPol s) 1000000 (w.alloc (.cells #[.string s] 9)) := fun W hW name hn => zgc w.heap.size s name W hs hn (yE (kept hW R0) 0 _ rfl)
  have HC := Lib.hid (indexFunc_any 248 #[.pointer (some ⟨w.heap.size, 0, none⟩)] (enters_of Tryz.func248 (by kernel_rfl) rfl) (isPol s) 1000000 _ polNames _ hask (zft (G.below B0)) (by decide) (by decide))
  have HP : Hid (zaV s = max 0 (findL (isPol s) polNames)) := rfl
  obtain ⟨i, hi⟩ : ∃ i, i = findL (isPol s) polNames := ⟨_, rfl⟩
  obtain ⟨x, hx⟩ : ∃ x, x = zaV s := ⟨_, rfl⟩
  rw [← hi, ← hx] at HP
  rw [← hi] at HC
  rw [← hx]
  clear hi hx hask
  go_enter Tryz.func230, Tryz.ntmps230
  go_wp2_with (first | (go_at_call 138; refine HC.out.mono ?_; rintro e w1 ⟨rfl, b1⟩))
  go_ret
  exact ⟨ret_int (by rw [HP.out]), yD B0 b1⟩
def zeb (s : ByteArray) : ByteArray := bs (Lib.trimS s.data.toList [32, 9])
def tokL (s : ByteArray) : List ByteArray := (parts ⟨#[44]⟩ s).map zeb
def mixL (l : List ByteArray) (k : Nat) : List ByteArray := (l.take k).map zeb ++ l.drop k
theorem zhd (l : List ByteArray) (k : Nat) (h : k < l.length) : (mixL l k).set k (zeb (l.getD k ByteArray.empty)) = mixL l (k + 1) := by
  unfold mixL
  have h1 : ((l.take k).map zeb).length = k := by simp; omega
  rw [List.set_append_right _ _ (by omega), h1, Nat.sub_self, drop_getD l k ByteArray.empty h, List.set_cons_zero, take_snocL l k ByteArray.empty h]
  simp
theorem zhc (l : List ByteArray) (k : Nat) (h : k ≤ l.length) : (mixL l k).length = l.length := by unfold mixL; simp; omega
theorem zh1 (l : List ByteArray) (k : Nat) (h : k < l.length) : (mixL l k)[k]? = some (l.getD k ByteArray.empty) := by
  unfold mixL
  have h1 : ((l.take k).map zeb).length = k := by simp; omega
  rw [List.getElem?_append_right (by omega), h1, Nat.sub_self, drop_getD l k ByteArray.empty h]; rfl
theorem zaD {w : World} {g : Nat} {x : List ByteArray} (h : w.heap[g]? = some (.cells (x.map Value.string).toArray 9 (0, 0))) (hl : x.length ≤ 10000000) : Strs w (.slice (some ⟨g, 0, none⟩) x.length x.length) x := by
  refine .inr ⟨g, 0, _, rfl, yV _, by unfold maxLen; omega, yS h, fun j hj => ?_⟩
  rw [Nat.zero_add]
  exact yE h j _ (by simp [List.getD, hj])
set_option maxHeartbeats 1000000 in
theorem zd8 (s : ByteArray) (w : World) (G : Glob w) (hs : s.size ≤ 1000000) :
    Calls Tryz.prog 229 #[.string s] w fun e w' => ∃ v, e = .returned v ∧ Strs w' v (tokL s) ∧ Below w.heap.size w w' := by
  have HS := Lib.hid (split_any s ⟨#[44]⟩ w G (by omega) (by decide))
  have HL : Hid (tokL s = (parts ⟨#[44]⟩ s).map zeb) := rfl
  have hlen := parts_len ⟨#[44]⟩ (by decide) s.size s (yV _)
  have hct := Lib.countB_mul_le ⟨#[44]⟩ (by decide) s.size s (yV _)
  have e1 : (⟨#[44]⟩ : ByteArray).size = 1 := rfl
  rw [e1, Nat.mul_one] at hct
  have hsz : ∀ p ∈ parts ⟨#[44]⟩ s, p.size ≤ 1000000 := fun p hp => yW (parts_size ⟨#[44]⟩ _ s p hp) hs
  obtain ⟨l, hl⟩ : ∃ l, l = parts ⟨#[44]⟩ s := ⟨_, rfl⟩
  obtain ⟨x, hx⟩ : ∃ x, x = tokL s := ⟨_, rfl⟩
  rw [← hl, ← hx] at HL
  rw [← hl] at HS hsz hlen
  rw [← hx]
  clear hl hx
  have hlm : l.length ≤ 1000001 := by omega
  have HZ := Lib.hid hsz
  clear hlen hct hsz
  go_enter Tryz.func229, Tryz.ntmps229
  go_wp2_with fail
  refine HS.out.mono ?_
  rintro e w1 ⟨rfl, rfl⟩
  go_wp2_with fail
  go_loopw [4, 9] (fun _ i wr => ∃ k : Nat, k ≤ l.length ∧ i = .int .i64 k ∧ wr.heap[w.heap.size]? = some (.cells ((mixL l k).map Value.string).toArray 9 (0, 0)) ∧ Below w.heap.size w wr) (fun _ i _ => l.length - (intOf i).toNat)
  case atStart => exact ⟨0, Nat.zero_le _, rfl, by have m0 : mixL l 0 = l := by simp [mixL]
                                                   rw [m0]; exact row1 w _, bel1 _ _⟩
  case round =>
    obtain ⟨k, hk, rfl, hR, hB⟩ := hrel
    by_cases hlt : k < l.length
    · have hat := zh1 l k hlt
      have c0 : wr.cell? ⟨w.heap.size, k, none⟩ = some (.string (l.getD k ByteArray.empty)) := yE hR k _ (by simp [hat])
      have hz : (l.getD k ByteArray.empty).size ≤ 1000000 := HZ.out _ (by simp [List.getD, hlt])
      have HT : ∀ w', Hid (Calls Tryz.prog 28 #[.string (l.getD k ByteArray.empty), .string ⟨#[32, 9]⟩] w' fun e w'' => e = .returned (.string (zeb (l.getD k ByteArray.empty))) ∧ Below w'.heap.size w' w'') := fun w' => trimBlank_any _ w' (by omega)
      have HM := Lib.hid (zhd l k hlt)
      obtain ⟨y, hy⟩ : ∃ y, y = l.getD k ByteArray.empty := ⟨_, rfl⟩
      rw [← hy] at c0 HM
      simp only [← hy] at HT
      clear hy hat hz
      obtain ⟨t, ht⟩ : ∃ t, t = zeb y := ⟨_, rfl⟩
      rw [← ht] at HM
      simp only [← ht] at HT
      clear ht
      go_wp2_with fail
      refine (HT _).out.mono ?_
      rintro e w2 ⟨rfl, b2⟩
      have R2 := kept b2 hR
      have B2 := b2.mono hB.size
      have c2 := (b2.cell (p := ⟨w.heap.size, k, none⟩) (yS hR)).trans c0
      have f2 := yF R2 k
      go_wp2_with fail
      go_roundw
      case rel => exact ⟨k + 1, by omega, by go_num, by rw [zap R2 (.string t) rfl, ← HM.out]; simp, (hB.trans B2).setCell (p := ⟨w.heap.size, k, none⟩) (yV _) _⟩
      case measure => simp [intOf]; omega
    · obtain rfl : k = l.length := by omega
      have he : mixL l l.length = x := by rw [HL.out]; unfold mixL; simp
      rw [he] at hR
      have hxl : x.length = l.length := by rw [← he]; exact zhc l _ (yV _)
      have HXS := Lib.hid (zaD hR (by omega))
      rw [hxl] at HXS
      clear he hxl hR
      go_wp2
      go_ret
      exact ⟨_, rfl, HXS.out, hB⟩
def bkAt (l : List ByteArray) (k : Nat) : Nat × ByteArray := (l.length - 1 - k, l.getD (l.length - 1 - k) ByteArray.empty)
set_option maxHeartbeats 2000000 in
theorem zhM (n : Nat) (hn : 2 ≤ n) (l Bs : Nat) (v : Value) (s : List ByteArray) (hs : s.length ≤ 10000000) (J Jx : List (Nat × ByteArray) → World → Prop) (p : Nat → Prop) (hp1 : p Bs)
    (hY : ∀ pre x W, J pre W → (pre.length < s.length ∧ x = bkAt s pre.length) → YieldAt Fence.wide (n - 1) Tryz.prog l #[.int .i64 x.1, .string x.2] W fun e W' =>
      (e = .returned (.bool true) ∧ J (pre ++ [x]) W' ∧ KeepAt p W W') ∨ (e = .returned (.bool false) ∧ Jx (pre ++ [x]) W'))
    (hJd : ∀ pre W, J pre W → J pre W.drew)
    (W : World) (hBs : W.cell? ⟨Bs, 0, none⟩ = some v) (hv : StrsP p W v s) (h0 : J [] W) :
    CallsIn Fence.wide n Tryz.prog 260 #[.func (.yield l) #[] #[], .pointer (some ⟨Bs, 0, none⟩)] W fun e W' => (∃ v, e = .returned v) ∧
      ((∃ ys, ys = upto (bkAt s) s.length ∧ J ys W') ∨ (∃ pre, (∃ k, k ≤ s.length ∧ pre = upto (bkAt s) k) ∧ Jx pre W')) := by
  refine callsIn_of_wp Tryz.func260 rfl trivial ?_ rfl
  simp only [Tryz.ntmps260, List.size_toArray, List.length_cons, List.length_nil, Nat.reduceAdd, Nat.reduceSub, Array.replicate_succ, Array.replicate_zero, List.push_toArray, List.append_toArray, List.nil_append, List.cons_append]
  rcases hv with ⟨rfl, rfl⟩ | ⟨b, off, cap, rfl, hl, hm, hpb, hc⟩
  · have hw0 : wrap64 (0 - 1) = -1 := by unfold wrap64; omega
    gi_wp2
    gi_loopw [3] (fun i wr => i = .int .i64 (-1) ∧ J [] wr) (fun i _ => 0)
    case atStart => exact ⟨rfl, h0⟩
    case round =>
      obtain ⟨rfl, hJs⟩ := hrel
      gi_wp2
      go_end0
      exact ⟨⟨_, rfl⟩, .inl ⟨_, rfl, hJs⟩⟩
  · have HC := Lib.hid hc
    clear hc
    have hw0 : wrap64 ((s.length : Int) - 1) = (s.length : Int) - 1 := by unfold wrap64; omega
    gi_wp2
    gi_loopw [3] (fun i wr => ∃ k : Nat, k ≤ s.length ∧ i = .int .i64 ((s.length : Int) - 1 - k) ∧ J (upto (bkAt s) k) wr ∧ KeepAt p W wr)
      (fun i _ => (intOf i + 1).toNat)
    case atStart => exact ⟨0, Nat.zero_le _, by simp, h0, KeepAt.refl _ _⟩
    case round =>
      obtain ⟨k, hk, rfl, hJs, hnx⟩ := hrel
      have hc1 := (hnx.cell (a := ⟨Bs, 0, none⟩) hp1).trans hBs
      by_cases hlt : k < s.length
      · obtain ⟨j, hj⟩ : ∃ j, j = s.length - 1 - k := ⟨_, rfl⟩
        have hji : (s.length : Int) - 1 - k = (j : Int) := by omega
        have hjl : j < s.length := by omega
        have hcell := (hnx.cell (a := ⟨b, off + j, none⟩) hpb).trans (HC.out j hjl)
        have hy := hY _ (bkAt s k) wr hJs (by rw [upto_length]; exact ⟨hlt, rfl⟩)
        obtain ⟨x, hx⟩ : ∃ x, x = bkAt s k := ⟨_, rfl⟩
        have hx1 : j = x.1 := by rw [hx]; exact hj
        have hx2 : s.getD j ByteArray.empty = x.2 := by rw [hx, hj]; rfl
        rw [hx2] at hcell
        rw [← hx] at hy
        rw [← hx1] at hy
        have HX := Lib.hid hx
        have hw1 : wrap64 ((j : Int) - 1) = (j : Int) - 1 := by unfold wrap64; omega
        rw [hji]
        have HJI := Lib.hid hji
        clear hx1 hx2 hx hj hji
        obtain ⟨fn, tmps, assign, body, hy, hR⟩ := hy
        have hRR := Lib.hid (hR.mono (R' := fun e W' => ∃ r, e = .returned (.bool r) ∧ Went J Jx p wr (upto (bkAt s) k ++ [x]) r W') (by
          rintro e W' (⟨rfl, h1, h2⟩ | ⟨rfl, h1⟩)
          · exact ⟨true, rfl, h1, h2⟩
          · exact ⟨false, rfl, h1⟩))
        clear hR
        gi_wp2
        refine ⟨fun _ => by omega, ?_⟩
        refine hRR.out.mono ?_
        rintro e W' ⟨r, rfl, hw⟩
        cases r with
        | true =>
          obtain ⟨h1, h2⟩ := hw
          gi_wp2
          go_roundw
          case rel => exact ⟨k + 1, by omega, by have := HJI.out; first | (congr 1; omega) | (congr 1), by rw [upto_succ, ← HX.out]; exact h1, hnx.trans h2⟩
          case measure => first | (simp [intOf]; done) | (simp [intOf]; omega)
        | false =>
          have h1 : Jx _ _ := hw
          gi_wp2
          refine yO (results_none rfl _ _ _) rfl ?_
          exact ⟨⟨_, rfl⟩, .inr ⟨_, ⟨k + 1, by omega, by rw [upto_succ, ← HX.out]⟩, h1⟩⟩
      · obtain rfl : k = s.length := by omega
        have hji : (s.length : Int) - 1 - s.length = -1 := by omega
        rw [hji]
        gi_wp2
        go_end0
        exact ⟨⟨_, rfl⟩, .inl ⟨_, rfl, hJs⟩⟩
theorem zdE (q : Option Addr) (m c : Nat) (w : World) : Calls Tryz.prog 247 #[.slice q m c] w fun e w' => e = .returned (.func (.func 260) #[] #[.pointer (some ⟨w.heap.size, 0, none⟩)]) ∧ w.alloc (.cells #[.slice q m c] 25) = w' := by
  have hmf : ∀ (fn : Fn) (first cap : Array Value) (w : World), (Instr.makeFunc fn first cap).run Tryz.prog w = .ok (.func fn first cap) w := fun _ _ _ _ => rfl
  go_enter Tryz.func247, Tryz.ntmps247
  go_wp2
  go_ret
  exact ⟨rfl, rfl⟩
theorem zff (n : Nat) (hn : 2 ≤ n) (Bs H : Nat) (v : Value) (s : List ByteArray) (hs : s.length ≤ 10000000) (w : World) (hH : H ≤ w.heap.size) (hBs : Bs < w.heap.size)
    (h1 : w.cell? ⟨Bs, 0, none⟩ = some v) (h2 : StrsP (fun k => k = Bs ∨ k < H) w v s) :
    SeqG n Tryz.prog 260 #[.pointer (some ⟨Bs, 0, none⟩)] (fun x : Nat × ByteArray => #[.int .i64 x.1, .string x.2]) (KeepAt fun k => k = Bs ∨ k < H) (fun pre x _ => pre.length < s.length ∧ x = bkAt s pre.length)
      (fun xs => xs = upto (bkAt s) s.length) (fun pre => ∃ k, k ≤ s.length ∧ pre = upto (bkAt s) k) w := fun l J Jx W hW hJ _ hY h0 => by
  refine (zhM n hn l Bs v s hs J Jx (fun k => k = Bs ∨ k < H) (Or.inl rfl) hY (fun pre W1 h => abides_below hJ h (Below.refl _ _).drew) W ((hW.cell (p := ⟨Bs, 0, none⟩) hBs).trans h1) (h2.keep (KeepAt.below (n := w.heap.size) (fun k hk => by omega) hW)) h0).mono ?_
  rintro e W' ⟨he, ⟨ys, hy, hj⟩ | ⟨pre, hp, hj⟩⟩
  · exact ⟨he, .inl ⟨ys, hy, hj⟩⟩
  · exact ⟨he, .inr ⟨pre, hp, hj⟩⟩
end
section
open Go.RowKit Go.Shelf
attribute [local go_sem] Oper.semAt_some
def za1:List ByteArray→Int
 | []=>0
 | x::l=>if zaV x=0 then za1 l else zaV x
def zcz (s:List ByteArray):Int:=za1 ((upto (bkAt s) s.length).map (·.2))
def zgf (pre:List (Nat×ByteArray)):Int:=match pre.getLast? with|some x=>zaV x.2|none=>0
theorem zc4 (pre:List (Nat×ByteArray)) (x:Nat×ByteArray):zgf (pre++[x])=zaV x.2:=by simp[zgf]
theorem zbw:∀ (a b:List ByteArray),(∀ x∈a,zaV x=0)→za1 (a++b)=za1 b
 | [],b,_=>rfl
 | x::a,b,h=>by
  show (if zaV x=0 then za1 (a++b) else zaV x)=_
  rw[if_pos (h x (by simp)),zbw a b (fun y hy=>h y (List.mem_cons_of_mem _ hy))]
theorem zb1 {P:Program} {fn:Func} {p:Tmp} {t:TypeId} (h:fn.results=#[.cell p t]) (tmps:Array Value) (w:World) (g:Nat) (v:Value)
  (hp:tmps.getD p undef=.pointer (some ⟨g,0,none⟩)) (hg:(loadVar t ⟨g,0,none⟩).run P w=.ok v w):(results fn tmps).run P w=.ok v w:=by
 have hp':tmps[p]?.getD undef=.pointer (some ⟨g,0,none⟩):=by simpa using hp
 simp[results,h,hp',asAddr,hg]
theorem ze2 {w:World} {k:Nat} {n:Int} (h:w.heap[k]? = some (.cells #[.int .i64 n] 3 (0,0))):(loadVar 3 ⟨k,0,none⟩).run Tryz.prog w=.ok (.int .i64 n) w:=by
 have c:=yE h 0 _ rfl
 simp[loadVar,go_sem,c,run_underlying yC]
set_option maxHeartbeats 2000000 in
theorem last_any (v:Value) (s:List ByteArray) (w:World) (hG:Glob w) (hv:Strs w v s) (hs:s.length≤5000000) (hz:∀ x∈s,x.size≤1000000) :
  Calls Tryz.prog 228 #[v,.func (.func 230) #[] #[]] w fun e w'=>e=.returned (.int .i64 (zcz s))∧Below w.heap.size w w':=by
 have hP:=hv.to_P (w.heap.size + 3)
 obtain⟨q,m,c,rfl⟩:=hP.slice
 have hmf:∀ (fn:Fn) (first cap:Array Value) (w:World),(Instr.makeFunc fn first cap).run Tryz.prog w=.ok (.func fn first cap) w:=fun _ _ _ _=>rfl
 refine callsIn_wide.1 (callsIn_of_wp_marks (n:=9) Tryz.func228 rfl trivial ?_ rfl)
 simp only[Tryz.ntmps228,List.size_toArray,List.length_cons,List.length_nil,Nat.reduceAdd,Nat.reduceSub,Array.replicate_succ,Array.replicate_zero,List.push_toArray,List.append_toArray,List.nil_append,List.cons_append]
 refine wpIn_wide.2 ?_
 go_wp2_with (go_at_call 247;refine(zdE q m c _).mono ?_;rintro e w' ⟨rfl,rfl⟩)
 obtain⟨W0,hW0⟩:∃ W0,(((w.alloc (.cells #[.func (.func 230) #[] #[]] 81)).alloc (.cells #[.int .i64 0] 3)).alloc (.cells #[.int .i64 0] 3)).alloc (.cells #[.slice q m c] 25)=W0:=⟨_,rfl⟩
 have hb0:Below w.heap.size w W0:=by rw[← hW0];exact bel4 _ _ _ _ _
 have hz0:W0.heap.size=w.heap.size + 4:=by rw[← hW0];simp
 have x0:Boxed W0 w.heap.size 81 (.func (.func 230) #[] #[]):=by rw[← hW0];exact(((Boxed.new w 81 _).alloc _).alloc _).alloc _
 have x1:Boxed W0 (w.heap.size + 1) 3 (.int .i64 0):=by
  have h:=Boxed.new (w.alloc (.cells #[.func (.func 230) #[] #[]] 81)) 3 (.int .i64 0)
  rw[World.size_alloc] at h
  rw[← hW0];exact(h.alloc _).alloc _
 have x2:Boxed W0 (w.heap.size + 2) 3 (.int .i64 0):=by
  have h:=Boxed.new ((w.alloc (.cells #[.func (.func 230) #[] #[]] 81)).alloc (.cells #[.int .i64 0] 3)) 3 (.int .i64 0)
  rw[World.size_alloc,World.size_alloc] at h
  rw[← hW0];exact h.alloc _
 have x3:Boxed W0 (w.heap.size + 3) 25 (.slice q m c):=by
  have h:=Boxed.new (((w.alloc (.cells #[.func (.func 230) #[] #[]] 81)).alloc (.cells #[.int .i64 0] 3)).alloc (.cells #[.int .i64 0] 3)) 25 (.slice q m c)
  rw[World.size_alloc,World.size_alloc,World.size_alloc] at h
  rw[← hW0];exact h
 have hP0:StrsP (fun k=>k=w.heap.size + 3∨k < w.heap.size) W0 (.slice q m c) s:=by
  rcases hv with h|⟨b,off,cap,h1,hl,hm,hlt,hc⟩
  ·exact .inl h
  ·exact .inr ⟨b,off,cap,h1,hl,hm,.inr hlt,fun j hj=>(hb0.cell (p:=⟨b,off + j,none⟩) hlt).trans (hc j hj)⟩
 rw[hW0]
 clear hW0 hP hv
 refine(wpIn_wide (n:=9)).1 ?_
 refine range_over (n:=9) (gf:=260) (lb:=#[.pointer (some ⟨w.heap.size + 3,0,none⟩)]) rfl (enters_of Tryz.func260 (by kernel_rfl) rfl)
  (zff 8 (by omega) (w.heap.size + 3) w.heap.size (.slice q m c) s (by omega) W0 (by omega) (by omega) x3.cell hP0) KeepAt.trans (fun W l o hl=>KeepAt.putObj (n:=W0.heap.size) (fun k hk=>by omega) W l o hl) (Below.refl _ _) (fun _=>rfl)
  (fun (pre:List (Nat×ByteArray)) W=>((W.heap[w.heap.size]? = some (.cells #[.func (.func 230) #[] #[]] 81 (0,0))∧W.heap[w.heap.size + 1]? = some (.cells #[.int .i64 0] 3 (0,0)))∧(W.heap[w.heap.size + 2]? = some (.cells #[.int .i64 0] 3 (0,0))∧W.heap[w.heap.size + 3]? = some (.cells #[.slice q m c] 25 (0,0))))∧(Below w.heap.size w W∧(∀ x∈pre,zaV x.2=0)))
  (fun c pre W=>W.heap[w.heap.size + 1]? = some (.cells #[.int .i64 (zgf pre)] 3 (0,0))∧(Below w.heap.size w W∧(c=.ret∧∃ (pre':List (Nat×ByteArray)) (x:Nat×ByteArray),pre=pre'++[x]∧(∀ y∈pre',zaV y.2=0)∧zaV x.2≠0)))
  (OwnFrom.and (OwnFrom.and (OwnFrom.and (own_block (fun _=>w.heap.size) (fun _=>.cells #[.func (.func 230) #[] #[]] 81 (0,0)) (fun _=>rfl)) (own_block (fun _=>w.heap.size + 1) (fun _=>.cells #[.int .i64 0] 3 (0,0)) (fun _=>rfl)))
   (OwnFrom.and (own_block (fun _=>w.heap.size + 2) (fun _=>.cells #[.int .i64 0] 3 (0,0)) (fun _=>rfl)) (own_block (fun _=>w.heap.size + 3) (fun _=>.cells #[.slice q m c] 25 (0,0)) (fun _=>rfl))))
   (OwnFrom.and (ownFrom_below (yV _) (by omega)) (fun _ _ _ _ h _ _=>h)))
  (fun c=>OwnFrom.and (own_block (fun _=>w.heap.size + 1) (fun pre=>.cells #[.int .i64 (zgf pre)] 3 (0,0)) (fun _=>rfl)) (OwnFrom.and (ownFrom_below (yV _) (by omega)) (fun _ _ _ _ h _ _=>h)))
  (fun _ _ _ _ _ h _ _=>h)
  ⟨⟨⟨x0,x1⟩,x2,x3⟩,hb0,by simp⟩
  ?a1 ?assign ?body ?done ?stop
 case assign =>
  intro l x W K hK
  gi_wp2
  exact hK
 case body =>
  rintro l pre x W ⟨⟨⟨h0,h1⟩,h2,h3⟩,hB,hall⟩ ⟨hlt,hx⟩
  have hxs:x.2.size≤1000000:=by
   rw[hx]
   refine hz _ ?_
   have:s.length - 1 - pre.length < s.length:=by omega
   simp[bkAt,List.getD,this]
  have HP:=fun w' (b:Below W.heap.size W w')=>Lib.hid (zfy x.2 w' ((hG.below hB).below b) hxs)
  have HA:=Lib.hid hall
  obtain⟨i,y⟩:=x
  obtain⟨r,hr⟩:∃ r,r=zaV y:=⟨_,rfl⟩
  simp only[← hr] at HP
  have HR:=Lib.hid hr
  have H0:=Lib.hid h0
  have H1:=Lib.hid h1
  have H2:=Lib.hid h2
  have H3:=Lib.hid h3
  have HBB:=Lib.hid hB
  have d0:W.cell? ⟨w.heap.size,0,none⟩=some (.func (.func 230) #[] #[]):=yE h0 0 _ rfl
  clear h0 h1 h2 h3 hB hx hlt hr hall
  by_cases hr0:r=0
  ·subst hr0
   gi_wp2_with (first|(refine⟨trivial,?_⟩;gi_at_call 230;refine(CallsIn.inRound l (callsIn_wide.2 (HP _ (Below.refl _ _)).out)).mono ?_;rintro e w1 ⟨rfl,b1⟩;have c2:w1.cell? ⟨w.heap.size + 2,0,none⟩=some (.int .i64 0):=yE (kept b1 H2.out) 0 _ rfl))
   refine⟨(keeps_below b1).from _,⟨b1.size,fun k hk=>?_⟩,⟨⟨kept b1 H0.out,kept b1 H1.out⟩,kept b1 H2.out,kept b1 H3.out⟩,HBB.out.trans (b1.mono HBB.out.size),?_⟩
   ·rcases hk with rfl|hk
    ·exact(kept b1 H3.out).trans H3.out.symm
    ·exact b1.block k (by have:=HBB.out.size;omega)
   ·intro x hx
    rcases List.mem_append.1 hx with hx|hx
    ·exact HA.out x hx
    ·rw[List.mem_singleton.1 hx];exact HR.out.symm
  ·have hrb:(r != 0)=true:=by rw[bne_iff_ne];exact hr0
   gi_wp2_with (first|(refine⟨trivial,?_⟩;gi_at_call 230;refine(CallsIn.inRound l (callsIn_wide.2 (HP _ (Below.refl _ _)).out)).mono ?_;rintro e w1 ⟨rfl,b1⟩;have c2:w1.cell? ⟨w.heap.size + 2,0,none⟩=some (.int .i64 0):=yE (kept b1 H2.out) 0 _ rfl;have c1:w1.cell? ⟨w.heap.size + 1,0,none⟩=some (.int .i64 0):=yE (kept b1 H1.out) 0 _ rfl;have f1:=Boxed.frozen (t:=3) (kept b1 H1.out)))
   have R1:=Boxed.set (.int .i64 r) (show Boxed w1 (w.heap.size + 1) 3 _ from kept b1 H1.out)
   refine⟨((keeps_below b1).trans (KeepsOthers.setCell _ _ _)).from _,?_,(HBB.out.trans (b1.mono HBB.out.size)).setCell (p:=⟨w.heap.size + 1,0,none⟩) (by simp) _,rfl,pre,(i,y),rfl,HA.out,by show zaV y≠0;rw[← HR.out];exact hr0⟩
   rw[zc4]
   show _=some (Obj.cells #[Value.int .i64 (zaV y)] 3 (0,0))
   rw[← HR.out];exact R1
 case done =>
  rintro D ys W hD rfl ⟨⟨⟨h0,h1⟩,h2,h3⟩,hB,hall⟩ hK
  have c2:W.cell? ⟨w.heap.size + 2,0,none⟩=some (.int .i64 0):=yE h2 0 _ rfl
  have c1:W.cell? ⟨w.heap.size + 1,0,none⟩=some (.int .i64 0):=yE h1 0 _ rfl
  have f1:=Boxed.frozen (t:=3) h1
  have HLL:Hid (zcz s=0):=by
   have h:=zbw ((upto (bkAt s) s.length).map (·.2)) [] (fun x hx=>by
    obtain⟨y,hy,rfl⟩:=List.mem_map.1 hx
    exact hall y hy)
   rw[List.append_nil] at h
   exact h
  have R1:=Boxed.set (.int .i64 0) (show Boxed W (w.heap.size + 1) 3 _ from h1)
  have hK2:(W.setCell ⟨w.heap.size + 1,0,none⟩ (.int .i64 0)).heap[D]? = some (.deferred (some [])):=(yG _ _ _ _ (by show D≠w.heap.size + 1;omega)).trans hK
  have B2:Below w.heap.size w (W.setCell ⟨w.heap.size + 1,0,none⟩ (.int .i64 0)):=hB.setCell (p:=⟨w.heap.size + 1,0,none⟩) (by simp) _
  have HR1:=Lib.hid R1
  have HK2:=Lib.hid hK2
  clear R1 hK2 h0 h1 h2 h3 hall
  go_wp2
  refine⟨by simp,.inl ⟨_,_,rfl,run_takeDeferred HK2.out,?_⟩⟩
  rw[HLL.out]
  have K1:=(World.putObj_heap_other (r:=D) (o:=.deferred none) (by omega:w.heap.size + 1≠D)).trans HR1.out
  exact⟨_,zb1 rfl _ _ (w.heap.size + 1) _ rfl (ze2 K1),rfl,B2.trans (belowK_b (w:=w) (yV _) _ D _ _ (by omega) HK2.out rfl rfl)⟩
 case stop =>
  rintro D c pre W hD ⟨k,hk,hpk⟩ ⟨h1,hB,rfl,pre',x,rfl,hall,hx⟩ hK
  refine(wpIn_wide (n:=9)).2 ?_
  have HLL:Hid (zcz s=zgf (pre'++[x])):=by
   show _=_
   have hu:∃ b,upto (bkAt s) s.length=upto (bkAt s) k++b:=by
    refine⟨(upto (bkAt s) s.length).drop k,?_⟩
    have:upto (bkAt s) k=(upto (bkAt s) s.length).take k:=by
     unfold upto;rw[← List.map_take,List.take_range,Nat.min_eq_left hk]
    rw[this,List.take_append_drop]
   obtain⟨b,hb⟩:=hu
   unfold zcz
   rw[hb,← hpk,zc4]
   simp only[List.map_append,List.append_assoc]
   rw[zbw _ _ (fun y hy=>by
    obtain⟨z,hz,rfl⟩:=List.mem_map.1 hy
    exact hall z hz)]
   show (if zaV x.2=0 then _ else zaV x.2)=_
   rw[if_neg hx]
  go_wp2
  refine⟨by simp,.inl ⟨_,_,rfl,run_takeDeferred hK,?_⟩⟩
  rw[HLL.out]
  have K1:=(World.putObj_heap_other (r:=D) (o:=.deferred none) (by omega:w.heap.size + 1≠D)).trans h1
  exact⟨_,zb1 rfl _ _ (w.heap.size + 1) _ rfl (ze2 K1),rfl,hB.trans (belowK_b (w:=w) (yV _) _ D _ _ (by omega) hK rfl rfl)⟩
theorem zid (s:ByteArray):(tokL s).length≤s.size + 1∧∀ x∈tokL s,x.size≤s.size:=by
 have hlen:=parts_len ⟨#[44]⟩ (by decide) s.size s (yV _)
 have hct:=Lib.countB_mul_le ⟨#[44]⟩ (by decide) s.size s (yV _)
 have e1:(⟨#[44]⟩:ByteArray).size=1:=rfl
 rw[e1,Nat.mul_one] at hct
 constructor
 ·unfold tokL;rw[List.length_map];omega
 ·intro x hx
  obtain⟨y,hy,rfl⟩:=List.mem_map.1 hx
  have h1:=parts_size ⟨#[44]⟩ _ s y hy
  have h2:=zcS y.data.toList [32,9]
  rw[size_len] at h2
  show (Lib.trimS y.data.toList [32,9]).length≤s.size
  omega
def zdL (s:ByteArray):Int:=zcz (tokL s)
theorem zeM (s:ByteArray) (w:World) (G:Glob w) (hs:s.size≤1000000):Calls Tryz.prog 187 #[.string s] w fun e w'=>e=.returned (.int .i64 (zdL s))∧Below w.heap.size w w':=by
 have HS:=Lib.hid (zd8 s w G hs)
 have hle:=zid s
 have HL:∀ v w',Glob w'→Strs w' v (tokL s)→Hid (Calls Tryz.prog 228 #[v,.func (.func 230) #[] #[]] w' fun e w''=>e=.returned (.int .i64 (zdL s))∧Below w'.heap.size w' w''):=fun v w' g hv=>last_any v (tokL s) w' g hv (by omega) (fun x hx=>by have:=hle.2 x hx;omega)
 clear hle
 obtain⟨r,hr⟩:∃ r,r=zdL s:=⟨_,rfl⟩
 rw[← hr]
 simp only[← hr] at HL
 clear hr
 go_enter Tryz.func187,Tryz.ntmps187
 go_wp2_with fail
 refine HS.out.mono ?_
 rintro e w1 ⟨v,rfl,hv,b1⟩
 have H2:=HL v w1 (G.below b1) hv
 obtain⟨q,m,c,rfl⟩:=hv.slice
 clear HL hv
 go_wp2_with fail
 refine H2.out.mono ?_
 rintro e w2 ⟨rfl,b2⟩
 go_wp2_with fail
 go_ret
 exact⟨rfl,yD b1 b2⟩
def zdw (l:List Fld):Int:=zdL (getL l ⟨#[82,101,102,101,114,114,101,114,45,80,111,108,105,99,121]⟩)
theorem zhu (v:Value) (l:List Fld) (w:World) (G:Glob w) (hv:Flds w v l) (hf:zax l) (hj:(getL l ⟨#[82,101,102,101,114,114,101,114,45,80,111,108,105,99,121]⟩).size≤1000000) :
  Calls Tryz.prog 130 #[v] w fun e w'=>e=.returned (.int .i64 (zdw l))∧Below w.heap.size w w':=by
 have HG:=Lib.hid (zeu v l ⟨#[82,101,102,101,114,114,101,114,45,80,111,108,105,99,121]⟩ w hv hf (by decide) (yW hj (by omega)))
 have HL:=fun w' g=>Lib.hid (zeM (getL l ⟨#[82,101,102,101,114,114,101,114,45,80,111,108,105,99,121]⟩) w' g hj)
 unfold zdw
 obtain⟨x,hx⟩:∃ x,x=getL l ⟨#[82,101,102,101,114,114,101,114,45,80,111,108,105,99,121]⟩:=⟨_,rfl⟩
 obtain⟨r,hr⟩:∃ r,r=zdL x:=⟨_,rfl⟩
 simp only[← hx,← hr] at HG HL ⊢
 clear hx hr hj
 obtain⟨q,m,c,rfl⟩:=hv.slice
 go_enter Tryz.func130,Tryz.ntmps130
 go_wp2_with (first|(go_at_call 17;refine HG.out.mono ?_;rintro e w1 ⟨rfl,b1⟩)|(go_at_call 187;refine(HL _ (G.below b1)).out.mono ?_;rintro e w2 ⟨rfl,b2⟩))
 go_ret
 exact⟨rfl,yD b1 b2⟩
end
end Go.Proofs.YtdlkjofnnefjfaaGreatDoor
