/- hop.follows, up to where a response leads. -/
import Derived.Test.YtdlkjofnnefjfaaGreatDoorZShort
import Derived.Test.YtdlkjofnnefjfaaGreatDoorZSendB
import Derived.Test.YtdlkjofnnefjfaaGreatDoorZAs
set_option linter.all false
namespace Go.Proofs.YtdlkjofnnefjfaaGreatDoor
set_option maxRecDepth 100000
open Go.RowKit
abbrev zbu (st:Int) (raw:ByteArray):Array Value:=#[.int .i64 st,.string raw]
def polX (p:Int) (x:Req):Req:=if p=0 then x else { x with policy:=p }
def nextR (q:Req) (st:Int) (l:List Fld) (nx:Url) (n:Int):Option Req×Int :=
 if n=0 then (none,0) else if 1 < n then (none,4) else if webU nx=false then (none,5) else if q.count=20 then (none,6)
 else if q.mode=1∧zdG nx=true∧(crossedR q=true∨sameO q.orig (ofO nx)=false) then (none,8)
 else (some (polX (zdw l) (zbI (changeR q st) nx)),0)
def zbd (l:List Fld) (u:Url):Url:=(placeR l u).1.getD url0
def followR (q:Req) (st:Int) (raw:ByteArray):Option Req×Int :=
 if zaN raw=false then (none,3) else if redir st=false then (none,0) else if q.redirect=1 then (none,7) else if q.redirect=2 then (none,10)
 else nextR q st (zaw raw) (zbd (zaw raw) q.url) (placeR (zaw raw) q.url).2
def zfd (o:Option Req×Int) (q:Req) (pu hv:Value) (w:World) (e:Ending) (w':World):Prop :=
 Below w.heap.size w w'∧match o.1 with
  | none=>e=.returned (.tuple #[.agg (reqC q pu hv),.iface 128 (.agg #[.int .i64 o.2])])
  | some x=>∃ pu' hv',e=.returned (.tuple #[.agg (reqC x pu' hv'),.nilIface])∧w'.ownsRow w.heap.size 9 1 pu' x.url.path.length (x.url.path.map Value.string)∧FldsN w.heap.size w' hv' x.heads
theorem Flds.of_own {w:World} {B:Nat} {v:Value} {l:List Fld} (h:w.ownsRow B 72 2 v l.length (zai l)):Flds w v l:=by
 rcases h.2 with ⟨hv,h2⟩|⟨g,cap,cur,rfl,hg,hh,h3,h4,h5,h6⟩
 ·exact .inl ⟨hv,List.length_eq_zero_iff.1 h2⟩
 ·obtain⟨g',cap',hv',_,k1,k2,k3⟩:=zca (cap:=0) h rfl (by simp)
  rw[hv']
  exact k3.flds k1 k2
def zgN (q:Req) (nx:Url) (st:Int) (raw:ByteArray) (pu hv pn:Value) (w w3 W:World):Prop:=W.heap[w.heap.size]? = some (.cells (reqC q pu hv) 32 (0,0))∧W.heap[w3.heap.size]? = some (.cells (urlC nx pn) 27 (0,0))∧W.heap[w.heap.size + 1]? = some (.cells (zbu st raw) 45 (0,0))
theorem zaA {w w':World} {B e s n:Nat} {v:Value} {xs:List Value} (h:w.ownsRow B e s v n xs) (hk:∀ (k:Nat) (cs:Array Value),w.heap[k]? = some (.cells cs e (0,0))→w'.heap[k]? = w.heap[k]?):w'.ownsRow B e s v n xs:=by
 obtain⟨h1,h2⟩:=h
 refine⟨h1,?_⟩
 rcases h2 with h2|⟨k,cap,cur,hv,hg,hh,r⟩
 ·exact .inl h2
 ·exact .inr ⟨k,cap,cur,hv,hg,(hk k cur hh).trans hh,r⟩
theorem FldsN.other {w w':World} {B:Nat} {v:Value} {l:List Fld} (h:FldsN B w v l) (hk:∀ (k:Nat) (cs:Array Value),w.heap[k]? = some (.cells cs 72 (0,0))→w'.heap[k]? = w.heap[k]?):FldsN B w' v l:=by
 rcases h with h|⟨k,cap,hv,hg,h1,h2,cs,h3,h4⟩
 ·exact .inl h
 ·exact .inr ⟨k,cap,hv,hg,h1,h2,cs,(hk k cs h3).trans h3,h4⟩
theorem zay {w:World} {g:Nat} {T e:TypeId} {old cs:Array Value} (hX:w.heap[g]? = some (.cells old T (0,0))) (hT:T≠e):∀ (k:Nat) (c:Array Value),w.heap[k]? = some (.cells c e (0,0))→(w.setRow g cs).heap[k]? = w.heap[k]?:=by
 intro k c hk
 refine yI _ _ _ _ ?_
 rintro rfl
 rw[hX] at hk
 cases hk
 exact hT rfl
theorem zaG {w:World} {g j:Nat} {T e:TypeId} {old:Array Value} {v:Value} (hX:w.heap[g]? = some (.cells old T (0,0))) (hT:T≠e):∀ (k:Nat) (c:Array Value),w.heap[k]? = some (.cells c e (0,0))→(w.setCell ⟨g,j,none⟩ v).heap[k]? = w.heap[k]?:=by
 intro k c hk
 rw[hk]
 refine zam hk ?_ _
 rintro rfl
 rw[hX] at hk
 cases hk
 exact hT rfl
theorem zem {q:Req} (st:Int) (h:q.Fits):(changeR q st).Fits∧(changeR q st).count=q.count:=by
 unfold changeR
 split
 ·exact⟨⟨h.u,by show sGET.size≤_;decide,⟨yW (List.length_filter_le _ _) h.h.1,fun f hf=>h.h.2 f (List.mem_filter.1 (show f∈List.filter _ _ from hf)).1⟩,h.o,h.rf⟩,rfl⟩
 ·exact⟨h,rfl⟩
def Made (y:Req) (B:Nat) (w6:World) (v:Value) (W:World):Prop:=∃ X pu hv,v=.pointer (some ⟨X,0,none⟩)∧W.heap[X]? = some (.cells (reqC y pu hv) 32 (0,0))∧w6.heap.size≤X∧W.ownsRow B 9 1 pu y.url.path.length (y.url.path.map Value.string)∧FldsN B W hv y.heads∧Below w6.heap.size w6 W
theorem zdl {y:Req} {X B:Nat} {pu hv:Value} {w6 V:World} {old:Array Value} (hX:V.heap[X]? = some (.cells old 32 (0,0))) (h6:w6.heap.size≤X) (ho:V.ownsRow B 9 1 pu y.url.path.length (y.url.path.map Value.string)) (hn:FldsN B V hv y.heads) (hb:Below w6.heap.size w6 V) :
  Made y B w6 (.pointer (some ⟨X,0,none⟩)) (V.setRow X (reqC y pu hv)) :=
 ⟨X,pu,hv,rfl,yH _ _ _ _ _ _ hX,h6,zaA ho (zay hX (by decide)),hn.other (zay hX (by decide)),yM hb h6⟩
theorem zfx {l:List Fld} {u:Url} {w:World} {e:Ending} {w':World} (h:zcZ (placeR l u) w e w') :
  ∃ pv,e=.returned (.tuple #[.agg (urlC (zbd l u) pv),.int .i64 (placeR l u).2])∧Strs w' pv (zbd l u).path∧Below w.heap.size w w':=by
 obtain⟨hb,h⟩:=h
 unfold zbd
 cases ho:(placeR l u).1 with
 | none=>rw[ho] at h;exact⟨_,h,.inl ⟨rfl,rfl⟩,hb⟩
 | some y=>rw[ho] at h;obtain⟨pv,h1,h2⟩:=h;exact⟨pv,h1,Strs.of_own h2,hb⟩
structure Follows (q:Req) (raw:ByteArray):Prop where
 rs:raw.size≤1000000
 lf:zax (zaw raw)
 fit:q.Fits
 np:q.url.path.length≤1000000
 rw:(rawR (zaw raw)).1.size≤90000
 res:∀ r,resolveR q.url (rawR (zaw raw)).1=some r→r.path.length≤10000000
 nf:(zbd (zaw raw) q.url).Fits
 told:(getL (zaw raw) ⟨#[82,101,102,101,114,114,101,114,45,80,111,108,105,99,121]⟩).size≤1000000
 c0:0≤q.count
 c1:q.count≤1000
set_option maxHeartbeats 2000000 in
theorem zfm (q:Req) (pu hv:Value) (st:Int) (raw:ByteArray) (w:World) (G:Glob w) (hp:Strs w pu q.url.path) (hh:Flds w hv q.heads) (hf:Follows q raw) :
  Calls Tryz.prog 80 #[.agg (reqC q pu hv),.agg (zbu st raw)] w (zfd (followR q st raw) q pu hv w):=by
 obtain⟨q0,m0,c0,rfl⟩:=hp.slice
 obtain⟨qh,mh,ch,rfl⟩:=hh.slice
 have R0:=row3a w (.cells (reqC q (.slice q0 m0 c0) (.slice qh mh ch)) 32) (.cells (zbu st raw) 45) (.cells (reqC req0 (.slice none 0 0) (.slice none 0 0)) 32)
 have P0:=row3b w (.cells (reqC q (.slice q0 m0 c0) (.slice qh mh ch)) 32) (.cells (zbu st raw) 45) (.cells (reqC req0 (.slice none 0 0) (.slice none 0 0)) 32)
 have Z0:=row3c w (.cells (reqC q (.slice q0 m0 c0) (.slice qh mh ch)) 32) (.cells (zbu st raw) 45) (.cells (reqC req0 (.slice none 0 0) (.slice none 0 0)) 32)
 have B0:=bel3 w (.cells (reqC q (.slice q0 m0 c0) (.slice qh mh ch)) 32) (.cells (zbu st raw) 45) (.cells (reqC req0 (.slice none 0 0) (.slice none 0 0)) 32)
 have HX:Hid (followR q st raw=_):=followR.eq_1 q st raw
 obtain⟨x,hx⟩:∃ x,x=followR q st raw:=⟨_,rfl⟩
 rw[← hx] at HX ⊢
 clear hx
 have HPa:=Lib.hid (zbW raw _ (G.below B0) hf.rs)
 have HRe:=fun w'=>Lib.hid (redir_any st w')
 have HPl:=fun v w' g h k=>Lib.hid (zgu v (zaw raw) q.url (.slice q0 m0 c0) w' g h hf.lf k hf.fit.u hf.np hf.rw hf.res)
 obtain⟨l,hl⟩:∃ l,l=zaw raw:=⟨_,rfl⟩
 have hlf:zax l:=by rw[hl];exact hf.lf
 have cs:=yE P0 1 (.string raw) rfl
 go_enter Tryz.func80,Tryz.ntmps80
 go_wp2_with fail
 refine HPa.out.mono ?_
 rintro e w1 ⟨v,rfl,o1,b1⟩
 rw[← hl] at o1
 simp only[← hl] at HPl
 have R1:=kept b1 R0
 have P1:=kept b1 P0
 have Z1:=kept b1 Z0
 have B1:=yD B0 b1
 have F1:=Lib.hid (Flds.of_own o1)
 clear HPa o1
 cases hpo:zaN raw with
 | false =>
  have HZ:Hid (x=(none,3)):=by show _=_;rw[HX.out,if_pos hpo]
  clear HX hpo
  go_wp2_with (first|((with_reducible (show wpList _ _ _ (Oper.mk _ (.load 32 (.tmp 2)) _ _ _ _::_) _ _));refine zaa (by rfl) 32 _ rfl w.heap.size 0 rfl (reqC q (.slice q0 m0 c0) (.slice qh mh ch)) _ (zac R1) yA rfl zab ?_)|((with_reducible (show wpList _ _ _ (Oper.mk none (.store 32 (.tmp 4) _) _ _ _ none::_) _ _));refine yJ rfl 32 _ _ rfl (w.heap.size + 2) _ rfl rfl 32 _ Z1 zab rfl (by simp[Value.oneCell']) ?_))
  rw[HZ.out]
  exact yO (results_row_tmp rfl _ _ (w.heap.size + 2) 32 (reqC q (.slice q0 m0 c0) (.slice qh mh ch)) (0,0) _ rfl (yH _ _ _ _ _ _ Z1) yA rfl zab _ rfl) rfl ⟨yM B1 (by omega),rfl⟩
 | true =>
  have HX:=Lib.hid (HX.out.trans (if_neg (by rw[hpo];decide)))
  clear hpo
  have c1:=yE P1 0 (.int .i64 st) rfl
  go_wp2_with fail
  refine(HRe w1).out.mono ?_
  rintro e w2 ⟨rfl,rfl⟩
  cases hre:redir st with
  | false =>
   have HZ:Hid (x=(none,0)):=by show _=_;rw[HX.out,if_pos hre]
   clear HX hre
   go_wp2_with (first|((with_reducible (show wpList _ _ _ (Oper.mk _ (.load 32 (.tmp 2)) _ _ _ _::_) _ _));refine zaa (by rfl) 32 _ rfl w.heap.size 0 rfl (reqC q (.slice q0 m0 c0) (.slice qh mh ch)) _ (zac R1) yA rfl zab ?_)|((with_reducible (show wpList _ _ _ (Oper.mk none (.store 32 (.tmp 4) _) _ _ _ none::_) _ _));refine yJ rfl 32 _ _ rfl (w.heap.size + 2) _ rfl rfl 32 _ Z1 zab rfl (by simp[Value.oneCell']) ?_))
   rw[HZ.out]
   exact yO (results_row_tmp rfl _ _ (w.heap.size + 2) 32 (reqC q (.slice q0 m0 c0) (.slice qh mh ch)) (0,0) _ rfl (yH _ _ _ _ _ _ Z1) yA rfl zab _ rfl) rfl ⟨yM B1 (by omega),rfl⟩
  | true =>
   have HX:=Lib.hid (HX.out.trans (if_neg (by rw[hre];decide)))
   clear hre
   have d1:=yE R1 39 (.int .i64 q.redirect) rfl
   by_cases hd1:q.redirect=1
   ·have HZ:Hid (x=(none,7)):=by show _=_;rw[HX.out,if_pos hd1]
    have hb1:(q.redirect == 1)=true:=by simp[hd1]
    clear HX hd1
    go_wp2_with (first|((with_reducible (show wpList _ _ _ (Oper.mk _ (.load 32 (.tmp 2)) _ _ _ _::_) _ _));refine zaa (by rfl) 32 _ rfl w.heap.size 0 rfl (reqC q (.slice q0 m0 c0) (.slice qh mh ch)) _ (zac R1) yA rfl zab ?_)|((with_reducible (show wpList _ _ _ (Oper.mk none (.store 32 (.tmp 4) _) _ _ _ none::_) _ _));refine yJ rfl 32 _ _ rfl (w.heap.size + 2) _ rfl rfl 32 _ Z1 zab rfl (by simp[Value.oneCell']) ?_))
    rw[HZ.out]
    exact yO (results_row_tmp rfl _ _ (w.heap.size + 2) 32 (reqC q (.slice q0 m0 c0) (.slice qh mh ch)) (0,0) _ rfl (yH _ _ _ _ _ _ Z1) yA rfl zab _ rfl) rfl ⟨yM B1 (by omega),rfl⟩
   have HX:=Lib.hid (HX.out.trans (if_neg hd1))
   have hb1:(q.redirect == 1)=false:=by simp[hd1]
   clear hd1
   by_cases hd2:q.redirect=2
   ·have HZ:Hid (x=(none,10)):=by show _=_;rw[HX.out,if_pos hd2]
    have hb2:(q.redirect == 2)=true:=by simp[hd2]
    clear HX hd2
    go_wp2_with (first|((with_reducible (show wpList _ _ _ (Oper.mk _ (.load 32 (.tmp 2)) _ _ _ _::_) _ _));refine zaa (by rfl) 32 _ rfl w.heap.size 0 rfl (reqC q (.slice q0 m0 c0) (.slice qh mh ch)) _ (zac R1) yA rfl zab ?_)|((with_reducible (show wpList _ _ _ (Oper.mk none (.store 32 (.tmp 4) _) _ _ _ none::_) _ _));refine yJ rfl 32 _ _ rfl (w.heap.size + 2) _ rfl rfl 32 _ Z1 zab rfl (by simp[Value.oneCell']) ?_))
    rw[HZ.out]
    exact yO (results_row_tmp rfl _ _ (w.heap.size + 2) 32 (reqC q (.slice q0 m0 c0) (.slice qh mh ch)) (0,0) _ rfl (yH _ _ _ _ _ _ Z1) yA rfl zab _ rfl) rfl ⟨yM B1 (by omega),rfl⟩
   have HX:=Lib.hid (HX.out.trans (if_neg hd2))
   have hb2:(q.redirect == 2)=false:=by simp[hd2]
   clear hd2
   have HPl:=HPl v w1 (G.below B1) F1.out (hp.below B1)
   go_wp2_with (first|((with_reducible (show wpList _ _ _ (Oper.mk _ (.load 27 _) _ _ _ _::_) _ _));refine zaa (by rfl) 27 _ rfl w.heap.size 0 rfl (urlC q.url (.slice q0 m0 c0)) _ (zae R1 0 _ rfl) yB rfl yN ?_))
   refine HPl.out.mono ?_
   rintro e w3 hP
   obtain⟨pn,rfl,sn,b3⟩:=zfx hP
   clear HPl hP
   have R3:=kept b3 R1
   have P3:=kept b3 P1
   have Z3:=kept b3 Z1
   have B3:=yD B1 b3
   have F3:=Lib.hid (F1.out.below b3)
   have hnf:(zbd l q.url).Fits:=by rw[hl];exact hf.nf
   rw[← hl] at HX
   obtain⟨nx,hnx⟩:∃ nx,nx=zbd l q.url:=⟨_,rfl⟩
   obtain⟨n,hn⟩:∃ n,n=(placeR l q.url).2:=⟨_,rfl⟩
   rw[← hnx,← hn] at HX
   rw[← hn]
   rw[← hnx] at sn hnf ⊢
   clear hnx hn
   obtain⟨qn,mn,cn,rfl⟩:=sn.slice
   have A3:=row1 w3 (.cells (urlC url0 (.slice none 0 0)) 27)
   have k3:=bel1 w3 (.cells (urlC url0 (.slice none 0 0)) 27)
   have A4:=yH _ _ _ (urlC nx (.slice qn mn cn)) _ _ A3
   have b4:Below w3.heap.size w3 ((w3.alloc (.cells (urlC url0 (.slice none 0 0)) 27)).setRow w3.heap.size (urlC nx (.slice qn mn cn))):=yM k3 (yV _)
   obtain⟨W4,hW4⟩:∃ W4,(w3.alloc (.cells (urlC url0 (.slice none 0 0)) 27)).setRow w3.heap.size (urlC nx (.slice qn mn cn))=W4:=⟨_,rfl⟩
   have HW4:=Lib.hid hW4
   rw[hW4] at A4 b4
   clear hW4
   have R4:=kept b4 R3
   have P4:=kept b4 P3
   have Z4:=kept b4 Z3
   have B4:=yD B3 b4
   have F4:=Lib.hid (F3.out.below b4)
   have S4:=Lib.hid (sn.below b4)
   have HX:=Lib.hid (HX.out.trans (nextR.eq_1 q st l nx n))
   have hu3:w.heap.size + 2 < w3.heap.size:=yS Z3
   by_cases hn0:n=0
   ·have HZ:Hid (x=(none,0)):=by show _=_;rw[HX.out,if_pos hn0]
    have hb:(n == 0)=true:=by simp[hn0]
    clear HX hn0
    go_wp2_with (first|((with_reducible (show wpList _ _ _ (Oper.mk none (.store 27 (.tmp 8) _) _ _ _ none::_) _ _));refine zag rfl 27 _ _ rfl w3.heap.size (urlC nx (.slice qn mn cn)) rfl rfl 27 _ A3 yN rfl (by simp[Value.oneCell']) W4 HW4.out ?_)|((with_reducible (show wpList _ _ _ (Oper.mk _ (.load 32 (.tmp 2)) _ _ _ _::_) _ _));refine zaa (by rfl) 32 _ rfl w.heap.size 0 rfl (reqC q (.slice q0 m0 c0) (.slice qh mh ch)) _ (zac R4) yA rfl zab ?_)|((with_reducible (show wpList _ _ _ (Oper.mk none (.store 32 (.tmp 4) _) _ _ _ none::_) _ _));refine yJ rfl 32 _ _ rfl (w.heap.size + 2) _ rfl rfl 32 _ Z4 zab rfl (by simp[Value.oneCell']) ?_))
    rw[HZ.out]
    exact yO (results_row_tmp rfl _ _ (w.heap.size + 2) 32 (reqC q (.slice q0 m0 c0) (.slice qh mh ch)) (0,0) _ rfl (yH _ _ _ _ _ _ Z4) yA rfl zab _ rfl) rfl ⟨yM B4 (by omega),rfl⟩
   have HX:=Lib.hid (HX.out.trans (if_neg hn0))
   have hb0:(n == 0)=false:=by simp[hn0]
   clear hn0
   by_cases hn1:1 < n
   ·have HZ:Hid (x=(none,4)):=by show _=_;rw[HX.out,if_pos hn1]
    clear HX
    go_wp2_with (first|((with_reducible (show wpList _ _ _ (Oper.mk none (.store 27 (.tmp 8) _) _ _ _ none::_) _ _));refine zag rfl 27 _ _ rfl w3.heap.size (urlC nx (.slice qn mn cn)) rfl rfl 27 _ A3 yN rfl (by simp[Value.oneCell']) W4 HW4.out ?_)|((with_reducible (show wpList _ _ _ (Oper.mk _ (.load 32 (.tmp 2)) _ _ _ _::_) _ _));refine zaa (by rfl) 32 _ rfl w.heap.size 0 rfl (reqC q (.slice q0 m0 c0) (.slice qh mh ch)) _ (zac R4) yA rfl zab ?_)|((with_reducible (show wpList _ _ _ (Oper.mk none (.store 32 (.tmp 4) _) _ _ _ none::_) _ _));refine yJ rfl 32 _ _ rfl (w.heap.size + 2) _ rfl rfl 32 _ Z4 zab rfl (by simp[Value.oneCell']) ?_))
    rw[HZ.out]
    exact yO (results_row_tmp rfl _ _ (w.heap.size + 2) 32 (reqC q (.slice q0 m0 c0) (.slice qh mh ch)) (0,0) _ rfl (yH _ _ _ _ _ _ Z4) yA rfl zab _ rfl) rfl ⟨yM B4 (by omega),rfl⟩
   have HX:=Lib.hid (HX.out.trans (if_neg hn1))
   have HW:=Lib.hid (zdx nx (.slice qn mn cn) W4 (G.below B4) S4.out hnf)
   go_wp2_with (first|((with_reducible (show wpList _ _ _ (Oper.mk none (.store 27 (.tmp 8) _) _ _ _ none::_) _ _));refine zag rfl 27 _ _ rfl w3.heap.size (urlC nx (.slice qn mn cn)) rfl rfl 27 _ A3 yN rfl (by simp[Value.oneCell']) W4 HW4.out ?_)|((with_reducible (show wpList _ _ _ (Oper.mk _ (.load 27 (.tmp 8)) _ _ _ _::_) _ _));refine zaa (by rfl) 27 _ rfl w3.heap.size 0 rfl (urlC nx (.slice qn mn cn)) _ (zac A4) yB rfl yN ?_))
   refine HW.out.mono ?_
   rintro e w5 ⟨rfl,b5⟩
   have hu4:w3.heap.size < W4.heap.size:=yS A4
   have R5:=kept b5 R4
   have P5:=kept b5 P4
   have Z5:=kept b5 Z4
   have A5:=kept b5 A4
   have B5:=yD B4 b5
   have F5:=Lib.hid (F4.out.below b5)
   have S5:=Lib.hid (S4.out.below b5)
   clear HW
   cases hwe:webU nx with
   | false =>
    have HZ:Hid (x=(none,5)):=by show _=_;rw[HX.out,if_pos hwe]
    clear HX hwe
    go_wp2_with (first|((with_reducible (show wpList _ _ _ (Oper.mk _ (.load 32 (.tmp 2)) _ _ _ _::_) _ _));refine zaa (by rfl) 32 _ rfl w.heap.size 0 rfl (reqC q (.slice q0 m0 c0) (.slice qh mh ch)) _ (zac R5) yA rfl zab ?_)|((with_reducible (show wpList _ _ _ (Oper.mk none (.store 32 (.tmp 4) _) _ _ _ none::_) _ _));refine yJ rfl 32 _ _ rfl (w.heap.size + 2) _ rfl rfl 32 _ Z5 zab rfl (by simp[Value.oneCell']) ?_))
    rw[HZ.out]
    exact yO (results_row_tmp rfl _ _ (w.heap.size + 2) 32 (reqC q (.slice q0 m0 c0) (.slice qh mh ch)) (0,0) _ rfl (yH _ _ _ _ _ _ Z5) yA rfl zab _ rfl) rfl ⟨yM B5 (by omega),rfl⟩
   | true =>
    have HX:=Lib.hid (HX.out.trans (if_neg (by rw[hwe];decide)))
    clear hwe
    have d5:=yE R5 44 (.int .i64 q.count) rfl
    by_cases hco:q.count=20
    ·have HZ:Hid (x=(none,6)):=by show _=_;rw[HX.out,if_pos hco]
     have hb2:(q.count == 20)=true:=by simp[hco]
     clear HX hco
     go_wp2_with (first|((with_reducible (show wpList _ _ _ (Oper.mk _ (.load 32 (.tmp 2)) _ _ _ _::_) _ _));refine zaa (by rfl) 32 _ rfl w.heap.size 0 rfl (reqC q (.slice q0 m0 c0) (.slice qh mh ch)) _ (zac R5) yA rfl zab ?_)|((with_reducible (show wpList _ _ _ (Oper.mk none (.store 32 (.tmp 4) _) _ _ _ none::_) _ _));refine yJ rfl 32 _ _ rfl (w.heap.size + 2) _ rfl rfl 32 _ Z5 zab rfl (by simp[Value.oneCell']) ?_))
     rw[HZ.out]
     exact yO (results_row_tmp rfl _ _ (w.heap.size + 2) 32 (reqC q (.slice q0 m0 c0) (.slice qh mh ch)) (0,0) _ rfl (yH _ _ _ _ _ _ Z5) yA rfl zab _ rfl) rfl ⟨yM B5 (by omega),rfl⟩
    have HX:=Lib.hid (HX.out.trans (if_neg hco))
    have hb6:(q.count == 20)=false:=by simp[hco]
    have HCd:=fun w'=>Lib.hid (zfX nx (.slice qn mn cn) w' hnf.us hnf.pa)
    have HCx:=fun w' (h:Below w5.heap.size w5 w')=>Lib.hid (zbp q (.slice q0 m0 c0) (.slice qh mh ch) w' (G.below (yD B5 h)) (hp.below (yD B5 h)) hf.fit.u hf.fit.o rfl)
    have HOf:=fun w' (h:Below w5.heap.size w5 w')=>Lib.hid (zaJ nx (.slice qn mn cn) w' (G.below (yD B5 h)) (S5.out.below h) hnf)
    have HSm:=fun w' (h:Below w5.heap.size w5 w')=>Lib.hid (zbk q.orig (ofO nx) w' (G.below (yD B5 h)) hf.fit.o)
    obtain⟨bb,hbb⟩:∃ bb,bb=decide (q.mode=1∧zdG nx=true∧(crossedR q=true∨sameO q.orig (ofO nx)=false)):=⟨_,rfl⟩
    have HBB:=Lib.hid hbb
    have HX:Hid (x=if bb=true then (none,8) else (some (polX (zdw l) (zbI (changeR q st) nx)),0)):=by show _=_;rw[hbb,HX.out];simp only[decide_eq_true_eq]
    clear hbb
    obtain⟨ou,hou⟩:∃ x,x=ofO nx:=⟨_,rfl⟩
    simp only[← hou] at HBB HOf HSm
    obtain⟨cd,hcd⟩:∃ x,x=zdG nx:=⟨_,rfl⟩
    obtain⟨cx,hcx⟩:∃ x,x=crossedR q:=⟨_,rfl⟩
    obtain⟨sm,hsm⟩:∃ x,x=sameO q.orig ou:=⟨_,rfl⟩
    simp only[← hcd,← hcx,← hsm] at HBB HCd HCx HSm
    go_upto_region 20 with fail
    go_cut [75] from 75 to 94 (fun t wx=>t=.bool bb∧Below w5.heap.size w5 wx)
    case first =>
     clear hcd hcx hsm hou HX hco F4 S4
     by_cases hm:q.mode=1
     ·have hm1:(q.mode == 1)=true:=by simp[hm]
      cases cd with
      | false =>
       have HBR:Hid (bb=false):=by show _=_;rw[HBB.out];simp
       refine yQ (S:=fun W=>W.heap[w.heap.size]? = some (.cells (reqC q (.slice q0 m0 c0) (.slice qh mh ch)) 32 (0,0))∧W.heap[w3.heap.size]? = some (.cells (urlC nx (.slice qn mn cn)) 27 (0,0))) (by kernel_rfl) ⟨R5,A5⟩ (fun h0=>?_)
       refine tk (i:=0) (v:=?v1) rfl (Or.inl ⟨by rfl,?y1⟩) h0 ?r1
       case y1 =>
        intro W hW
        go_simp
        try with_reducible rfl
       simp only[Act.put,zA,zB,zC,zD,zE,zF]
       refine tk (i:=1) (v:=?v2) rfl (Or.inl ⟨by rfl,?y2⟩) h0 ?r2
       case y2 =>
        intro W hW
        have c:=yE hW.1 38 (.int .i64 q.mode) rfl
        go_simp
        try with_reducible rfl
       simp only[Act.put,zA,zB,zC,zD,zE,zF]
       refine tk (i:=2) (v:=?v3) rfl (Or.inl ⟨by rfl,?y3⟩) h0 ?r3
       case y3 =>
        intro W hW
        go_simp
        try with_reducible rfl
       simp only[Act.put,zA,zB,zC,zD,zE,zF]
       refine tk (i:=3) (v:=?v4) rfl (Or.inl ⟨by rfl,?y4⟩) h0 ?r4
       case y4 =>
        intro W hW
        go_simp
        try with_reducible rfl
       simp only[Act.put,zA,zB,zC,zD,zE,zF]
       refine tk (i:=4) rfl (zao w3.heap.size 0 nx (.slice qn mn cn) (by rfl) _ rfl rfl (fun W h=>zae h.2 0 _ rfl)) h0 ?_
       simp only[Act.put,zA,zB,zC,zD,zE,zF]
       refine zrd (i:=5) rfl (fun K hK=>?_)
       try simp only[zA,zB,zC]
       rw[if_pos (by rfl)]
       go_simp
       go_at_call 127
       refine(HCd _).out.mono ?_
       rintro e v1 ⟨rfl,e1⟩
       have X1:=kept e1 (show (w5.drew).heap[w.heap.size]? = _ from R5)
       have Y1:=kept e1 (show (w5.drew).heap[w3.heap.size]? = _ from A5)
       have D1:=yD (yR w5) e1
       refine hK.out _ _ ⟨X1,Y1⟩ (fun h0=>?_)
       clear hK K
       try simp only[Act.put,zA,zB,zC,zD,zE,zF]
       refine tk (i:=6) (v:=?v5) rfl (Or.inl ⟨by rfl,?y5⟩) h0 ?r5
       case y5 =>
        intro W hW
        go_simp
        try with_reducible rfl
       simp only[Act.put,zA,zB,zC,zD,zE,zF]
       refine tk (i:=7) (v:=?v6) rfl (Or.inl ⟨by rfl,?y6⟩) h0 ?r6
       case y6 =>
        intro W hW
        go_simp
        try with_reducible rfl
       simp only[Act.put,zA,zB,zC,zD,zE,zF]
       refine tk (i:=8) rfl (Or.inr ⟨by rfl,rfl⟩) h0 ?_
       simp only[Act.put,zA,zB,zC,zD,zE,zF]
       refine tk (i:=9) rfl (Or.inr ⟨by rfl,rfl⟩) h0 ?_
       simp only[Act.put,zA,zB,zC,zD,zE,zF]
       refine tk (i:=10) rfl (Or.inr ⟨by rfl,rfl⟩) h0 ?_
       simp only[Act.put,zA,zB,zC,zD,zE,zF]
       refine tk (i:=11) rfl (Or.inr ⟨by rfl,rfl⟩) h0 ?_
       simp only[Act.put,zA,zB,zC,zD,zE,zF]
       refine tk (i:=12) rfl (Or.inr ⟨by rfl,rfl⟩) h0 ?_
       simp only[Act.put,zA,zB,zC,zD,zE,zF]
       refine tk (i:=13) rfl (Or.inr ⟨by rfl,rfl⟩) h0 ?_
       simp only[Act.put,zA,zB,zC,zD,zE,zF]
       refine tk (i:=14) rfl (Or.inr ⟨by rfl,rfl⟩) h0 ?_
       simp only[Act.put,zA,zB,zC,zD,zE,zF]
       refine tk (i:=15) rfl (Or.inr ⟨by rfl,rfl⟩) h0 ?_
       simp only[Act.put,zA,zB,zC,zD,zE,zF]
       refine tk (i:=16) rfl (Or.inr ⟨by rfl,rfl⟩) h0 ?_
       simp only[Act.put,zA,zB,zC,zD,zE,zF]
       refine tk (i:=17) rfl (Or.inr ⟨by rfl,rfl⟩) h0 ?_
       simp only[Act.put,zA,zB,zC,zD,zE,zF]
       refine tk (i:=18) (v:=?v7) rfl (Or.inl ⟨by rfl,?y7⟩) h0 ?r7
       case y7 =>
        intro W hW
        go_simp
        try with_reducible rfl
       simp only[Act.put,zA,zB,zC,zD,zE,zF]
       refine tk (i:=19) (v:=?v8) rfl (Or.inl ⟨by rfl,?y8⟩) h0 ?r8
       case y8 =>
        intro W hW
        go_simp
        try with_reducible rfl
       simp only[Act.put,zA,zB,zC,zD,zE,zF]
       refine yX (by kernel_rfl) ?_ _
       go_wp2
       go_meet
       exact⟨by rw[HBR.out],D1⟩
      | true =>
       cases cx with
       | true =>
        have HBR:Hid (bb=true):=by show _=_;rw[HBB.out];simp[hm]
        clear hm
        refine yQ (S:=fun W=>W.heap[w.heap.size]? = some (.cells (reqC q (.slice q0 m0 c0) (.slice qh mh ch)) 32 (0,0))∧W.heap[w3.heap.size]? = some (.cells (urlC nx (.slice qn mn cn)) 27 (0,0))) (by kernel_rfl) ⟨R5,A5⟩ (fun h0=>?_)
        refine tk (i:=0) (v:=?v9) rfl (Or.inl ⟨by rfl,?y9⟩) h0 ?r9
        case y9 =>
         intro W hW
         go_simp
         try with_reducible rfl
        simp only[Act.put,zA,zB,zC,zD,zE,zF]
        refine tk (i:=1) (v:=?v10) rfl (Or.inl ⟨by rfl,?y10⟩) h0 ?r10
        case y10 =>
         intro W hW
         have c:=yE hW.1 38 (.int .i64 q.mode) rfl
         go_simp
         try with_reducible rfl
        simp only[Act.put,zA,zB,zC,zD,zE,zF]
        refine tk (i:=2) (v:=?v11) rfl (Or.inl ⟨by rfl,?y11⟩) h0 ?r11
        case y11 =>
         intro W hW
         go_simp
         try with_reducible rfl
        simp only[Act.put,zA,zB,zC,zD,zE,zF]
        refine tk (i:=3) (v:=?v12) rfl (Or.inl ⟨by rfl,?y12⟩) h0 ?r12
        case y12 =>
         intro W hW
         go_simp
         try with_reducible rfl
        simp only[Act.put,zA,zB,zC,zD,zE,zF]
        refine tk (i:=4) rfl (zao w3.heap.size 0 nx (.slice qn mn cn) (by rfl) _ rfl rfl (fun W h=>zae h.2 0 _ rfl)) h0 ?_
        simp only[Act.put,zA,zB,zC,zD,zE,zF]
        refine zrd (i:=5) rfl (fun K hK=>?_)
        try simp only[zA,zB,zC]
        rw[if_pos (by rfl)]
        go_simp
        go_at_call 127
        refine(HCd _).out.mono ?_
        rintro e v1 ⟨rfl,e1⟩
        have X1:=kept e1 (show (w5.drew).heap[w.heap.size]? = _ from R5)
        have Y1:=kept e1 (show (w5.drew).heap[w3.heap.size]? = _ from A5)
        have D1:=yD (yR w5) e1
        refine hK.out _ _ ⟨X1,Y1⟩ (fun h0=>?_)
        clear hK K
        try simp only[Act.put,zA,zB,zC,zD,zE,zF]
        refine tk (i:=6) (v:=?v13) rfl (Or.inl ⟨by rfl,?y13⟩) h0 ?r13
        case y13 =>
         intro W hW
         go_simp
         try with_reducible rfl
        simp only[Act.put,zA,zB,zC,zD,zE,zF]
        refine tk (i:=7) (v:=?v14) rfl (Or.inl ⟨by rfl,?y14⟩) h0 ?r14
        case y14 =>
         intro W hW
         go_simp
         try with_reducible rfl
        simp only[Act.put,zA,zB,zC,zD,zE,zF]
        refine tk (i:=8) rfl (zaC w.heap.size q (.slice q0 m0 c0) (.slice qh mh ch) (by rfl) _ rfl rfl (fun W h=>h.1)) h0 ?_
        simp only[Act.put,zA,zB,zC,zD,zE,zF]
        refine zrd (i:=9) rfl (fun K hK=>?_)
        try simp only[zA,zB,zC]
        rw[if_pos (by rfl)]
        go_simp
        go_at_call 36
        refine(HCx _ D1).out.mono ?_
        rintro e v2 ⟨rfl,e2⟩
        have X2:=kept e2 (show (v1).heap[w.heap.size]? = _ from X1)
        have Y2:=kept e2 (show (v1).heap[w3.heap.size]? = _ from Y1)
        have D2:=yD D1 e2
        refine hK.out _ _ ⟨X2,Y2⟩ (fun h0=>?_)
        clear hK K
        try simp only[Act.put,zA,zB,zC,zD,zE,zF]
        refine tk (i:=10) (v:=?v15) rfl (Or.inl ⟨by rfl,?y15⟩) h0 ?r15
        case y15 =>
         intro W hW
         go_simp
         try with_reducible rfl
        simp only[Act.put,zA,zB,zC,zD,zE,zF]
        refine tk (i:=11) rfl (Or.inr ⟨by rfl,rfl⟩) h0 ?_
        simp only[Act.put,zA,zB,zC,zD,zE,zF]
        refine tk (i:=12) rfl (Or.inr ⟨by rfl,rfl⟩) h0 ?_
        simp only[Act.put,zA,zB,zC,zD,zE,zF]
        refine tk (i:=13) rfl (Or.inr ⟨by rfl,rfl⟩) h0 ?_
        simp only[Act.put,zA,zB,zC,zD,zE,zF]
        refine tk (i:=14) rfl (Or.inr ⟨by rfl,rfl⟩) h0 ?_
        simp only[Act.put,zA,zB,zC,zD,zE,zF]
        refine tk (i:=15) rfl (Or.inr ⟨by rfl,rfl⟩) h0 ?_
        simp only[Act.put,zA,zB,zC,zD,zE,zF]
        refine tk (i:=16) rfl (Or.inr ⟨by rfl,rfl⟩) h0 ?_
        simp only[Act.put,zA,zB,zC,zD,zE,zF]
        refine tk (i:=17) (v:=?v16) rfl (Or.inl ⟨by rfl,?y16⟩) h0 ?r16
        case y16 =>
         intro W hW
         go_simp
         try with_reducible rfl
        simp only[Act.put,zA,zB,zC,zD,zE,zF]
        refine tk (i:=18) (v:=?v17) rfl (Or.inl ⟨by rfl,?y17⟩) h0 ?r17
        case y17 =>
         intro W hW
         go_simp
         try with_reducible rfl
        simp only[Act.put,zA,zB,zC,zD,zE,zF]
        refine tk (i:=19) (v:=?v18) rfl (Or.inl ⟨by rfl,?y18⟩) h0 ?r18
        case y18 =>
         intro W hW
         go_simp
         try with_reducible rfl
        simp only[Act.put,zA,zB,zC,zD,zE,zF]
        refine yX (by kernel_rfl) ?_ _
        go_wp2
        go_meet
        exact⟨by rw[HBR.out],D2⟩
       | false =>
        have HBR:Hid (bb=!sm):=by show _=_;rw[HBB.out];simp[hm]
        clear hm
        refine yQ (S:=fun W=>W.heap[w.heap.size]? = some (.cells (reqC q (.slice q0 m0 c0) (.slice qh mh ch)) 32 (0,0))∧W.heap[w3.heap.size]? = some (.cells (urlC nx (.slice qn mn cn)) 27 (0,0))) (by kernel_rfl) ⟨R5,A5⟩ (fun h0=>?_)
        refine tk (i:=0) (v:=?v19) rfl (Or.inl ⟨by rfl,?y19⟩) h0 ?r19
        case y19 =>
         intro W hW
         go_simp
         try with_reducible rfl
        simp only[Act.put,zA,zB,zC,zD,zE,zF]
        refine tk (i:=1) (v:=?v20) rfl (Or.inl ⟨by rfl,?y20⟩) h0 ?r20
        case y20 =>
         intro W hW
         have c:=yE hW.1 38 (.int .i64 q.mode) rfl
         go_simp
         try with_reducible rfl
        simp only[Act.put,zA,zB,zC,zD,zE,zF]
        refine tk (i:=2) (v:=?v21) rfl (Or.inl ⟨by rfl,?y21⟩) h0 ?r21
        case y21 =>
         intro W hW
         go_simp
         try with_reducible rfl
        simp only[Act.put,zA,zB,zC,zD,zE,zF]
        refine tk (i:=3) (v:=?v22) rfl (Or.inl ⟨by rfl,?y22⟩) h0 ?r22
        case y22 =>
         intro W hW
         go_simp
         try with_reducible rfl
        simp only[Act.put,zA,zB,zC,zD,zE,zF]
        refine tk (i:=4) rfl (zao w3.heap.size 0 nx (.slice qn mn cn) (by rfl) _ rfl rfl (fun W h=>zae h.2 0 _ rfl)) h0 ?_
        simp only[Act.put,zA,zB,zC,zD,zE,zF]
        refine zrd (i:=5) rfl (fun K hK=>?_)
        try simp only[zA,zB,zC]
        rw[if_pos (by rfl)]
        go_simp
        go_at_call 127
        refine(HCd _).out.mono ?_
        rintro e v1 ⟨rfl,e1⟩
        have X1:=kept e1 (show (w5.drew).heap[w.heap.size]? = _ from R5)
        have Y1:=kept e1 (show (w5.drew).heap[w3.heap.size]? = _ from A5)
        have D1:=yD (yR w5) e1
        refine hK.out _ _ ⟨X1,Y1⟩ (fun h0=>?_)
        clear hK K
        try simp only[Act.put,zA,zB,zC,zD,zE,zF]
        refine tk (i:=6) (v:=?v23) rfl (Or.inl ⟨by rfl,?y23⟩) h0 ?r23
        case y23 =>
         intro W hW
         go_simp
         try with_reducible rfl
        simp only[Act.put,zA,zB,zC,zD,zE,zF]
        refine tk (i:=7) (v:=?v24) rfl (Or.inl ⟨by rfl,?y24⟩) h0 ?r24
        case y24 =>
         intro W hW
         go_simp
         try with_reducible rfl
        simp only[Act.put,zA,zB,zC,zD,zE,zF]
        refine tk (i:=8) rfl (zaC w.heap.size q (.slice q0 m0 c0) (.slice qh mh ch) (by rfl) _ rfl rfl (fun W h=>h.1)) h0 ?_
        simp only[Act.put,zA,zB,zC,zD,zE,zF]
        refine zrd (i:=9) rfl (fun K hK=>?_)
        try simp only[zA,zB,zC]
        rw[if_pos (by rfl)]
        go_simp
        go_at_call 36
        refine(HCx _ D1).out.mono ?_
        rintro e v2 ⟨rfl,e2⟩
        have X2:=kept e2 (show (v1).heap[w.heap.size]? = _ from X1)
        have Y2:=kept e2 (show (v1).heap[w3.heap.size]? = _ from Y1)
        have D2:=yD D1 e2
        refine hK.out _ _ ⟨X2,Y2⟩ (fun h0=>?_)
        clear hK K
        try simp only[Act.put,zA,zB,zC,zD,zE,zF]
        refine tk (i:=10) (v:=?v25) rfl (Or.inl ⟨by rfl,?y25⟩) h0 ?r25
        case y25 =>
         intro W hW
         go_simp
         try with_reducible rfl
        simp only[Act.put,zA,zB,zC,zD,zE,zF]
        refine tk (i:=11) (v:=?v26) rfl (Or.inl ⟨by rfl,?y26⟩) h0 ?r26
        case y26 =>
         intro W hW
         go_simp
         try with_reducible rfl
        simp only[Act.put,zA,zB,zC,zD,zE,zF]
        refine tk (i:=12) rfl (zaQ w.heap.size 24 q.orig (by rfl) _ rfl rfl (fun W h=>zae h.1 24 _ rfl)) h0 ?_
        simp only[Act.put,zA,zB,zC,zD,zE,zF]
        refine tk (i:=13) rfl (zao w3.heap.size 0 nx (.slice qn mn cn) (by rfl) _ rfl rfl (fun W h=>zae h.2 0 _ rfl)) h0 ?_
        simp only[Act.put,zA,zB,zC,zD,zE,zF]
        refine zrd (i:=14) rfl (fun K hK=>?_)
        try simp only[zA,zB,zC]
        rw[if_pos (by rfl)]
        go_simp
        go_at_call 13
        refine(HOf _ D2).out.mono ?_
        rintro e v3 ⟨rfl,e3⟩
        have X3:=kept e3 (show (v2).heap[w.heap.size]? = _ from X2)
        have Y3:=kept e3 (show (v2).heap[w3.heap.size]? = _ from Y2)
        have D3:=yD D2 e3
        refine hK.out _ _ ⟨X3,Y3⟩ (fun h0=>?_)
        clear hK K
        try simp only[Act.put,zA,zB,zC,zD,zE,zF]
        refine zrd (i:=15) rfl (fun K hK=>?_)
        try simp only[zA,zB,zC]
        rw[if_pos (by rfl)]
        go_simp
        go_at_call 12
        refine(HSm _ D3).out.mono ?_
        rintro e v4 ⟨rfl,e4⟩
        have X4:=kept e4 (show (v3).heap[w.heap.size]? = _ from X3)
        have Y4:=kept e4 (show (v3).heap[w3.heap.size]? = _ from Y3)
        have D4:=yD D3 e4
        refine hK.out _ _ ⟨X4,Y4⟩ (fun h0=>?_)
        clear hK K
        try simp only[Act.put,zA,zB,zC,zD,zE,zF]
        refine tk (i:=16) (v:=?v27) rfl (Or.inl ⟨by rfl,?y27⟩) h0 ?r27
        case y27 =>
         intro W hW
         go_simp
         try with_reducible rfl
        simp only[Act.put,zA,zB,zC,zD,zE,zF]
        refine tk (i:=17) (v:=?v28) rfl (Or.inl ⟨by rfl,?y28⟩) h0 ?r28
        case y28 =>
         intro W hW
         go_simp
         try with_reducible rfl
        simp only[Act.put,zA,zB,zC,zD,zE,zF]
        refine tk (i:=18) (v:=?v29) rfl (Or.inl ⟨by rfl,?y29⟩) h0 ?r29
        case y29 =>
         intro W hW
         go_simp
         try with_reducible rfl
        simp only[Act.put,zA,zB,zC,zD,zE,zF]
        refine tk (i:=19) (v:=?v30) rfl (Or.inl ⟨by rfl,?y30⟩) h0 ?r30
        case y30 =>
         intro W hW
         go_simp
         try with_reducible rfl
        simp only[Act.put,zA,zB,zC,zD,zE,zF]
        refine yX (by kernel_rfl) ?_ _
        go_wp2
        go_meet
        exact⟨by rw[HBR.out],D4⟩
     ·have HBR:Hid (bb=false):=by show _=_;rw[HBB.out];simp[hm]
      have hm1:(q.mode == 1)=false:=by simp[hm]
      clear hm
      refine yQ (S:=fun W=>W.heap[w.heap.size]? = some (.cells (reqC q (.slice q0 m0 c0) (.slice qh mh ch)) 32 (0,0))∧W.heap[w3.heap.size]? = some (.cells (urlC nx (.slice qn mn cn)) 27 (0,0))) (by kernel_rfl) ⟨R5,A5⟩ (fun h0=>?_)
      refine tk (i:=0) (v:=?v31) rfl (Or.inl ⟨by rfl,?y31⟩) h0 ?r31
      case y31 =>
       intro W hW
       go_simp
       try with_reducible rfl
      simp only[Act.put,zA,zB,zC,zD,zE,zF]
      refine tk (i:=1) (v:=?v32) rfl (Or.inl ⟨by rfl,?y32⟩) h0 ?r32
      case y32 =>
       intro W hW
       have c:=yE hW.1 38 (.int .i64 q.mode) rfl
       go_simp
       try with_reducible rfl
      simp only[Act.put,zA,zB,zC,zD,zE,zF]
      refine tk (i:=2) (v:=?v33) rfl (Or.inl ⟨by rfl,?y33⟩) h0 ?r33
      case y33 =>
       intro W hW
       go_simp
       try with_reducible rfl
      simp only[Act.put,zA,zB,zC,zD,zE,zF]
      refine tk (i:=3) (v:=?v34) rfl (Or.inl ⟨by rfl,?y34⟩) h0 ?r34
      case y34 =>
       intro W hW
       go_simp
       try with_reducible rfl
      simp only[Act.put,zA,zB,zC,zD,zE,zF]
      refine tk (i:=4) rfl (Or.inr ⟨by rfl,rfl⟩) h0 ?_
      simp only[Act.put,zA,zB,zC,zD,zE,zF]
      refine tk (i:=5) rfl (Or.inr ⟨by rfl,rfl⟩) h0 ?_
      simp only[Act.put,zA,zB,zC,zD,zE,zF]
      refine tk (i:=6) (v:=?v35) rfl (Or.inl ⟨by rfl,?y35⟩) h0 ?r35
      case y35 =>
       intro W hW
       go_simp
       try with_reducible rfl
      simp only[Act.put,zA,zB,zC,zD,zE,zF]
      refine tk (i:=7) (v:=?v36) rfl (Or.inl ⟨by rfl,?y36⟩) h0 ?r36
      case y36 =>
       intro W hW
       go_simp
       try with_reducible rfl
      simp only[Act.put,zA,zB,zC,zD,zE,zF]
      refine tk (i:=8) rfl (Or.inr ⟨by rfl,rfl⟩) h0 ?_
      simp only[Act.put,zA,zB,zC,zD,zE,zF]
      refine tk (i:=9) rfl (Or.inr ⟨by rfl,rfl⟩) h0 ?_
      simp only[Act.put,zA,zB,zC,zD,zE,zF]
      refine tk (i:=10) rfl (Or.inr ⟨by rfl,rfl⟩) h0 ?_
      simp only[Act.put,zA,zB,zC,zD,zE,zF]
      refine tk (i:=11) rfl (Or.inr ⟨by rfl,rfl⟩) h0 ?_
      simp only[Act.put,zA,zB,zC,zD,zE,zF]
      refine tk (i:=12) rfl (Or.inr ⟨by rfl,rfl⟩) h0 ?_
      simp only[Act.put,zA,zB,zC,zD,zE,zF]
      refine tk (i:=13) rfl (Or.inr ⟨by rfl,rfl⟩) h0 ?_
      simp only[Act.put,zA,zB,zC,zD,zE,zF]
      refine tk (i:=14) rfl (Or.inr ⟨by rfl,rfl⟩) h0 ?_
      simp only[Act.put,zA,zB,zC,zD,zE,zF]
      refine tk (i:=15) rfl (Or.inr ⟨by rfl,rfl⟩) h0 ?_
      simp only[Act.put,zA,zB,zC,zD,zE,zF]
      refine tk (i:=16) rfl (Or.inr ⟨by rfl,rfl⟩) h0 ?_
      simp only[Act.put,zA,zB,zC,zD,zE,zF]
      refine tk (i:=17) rfl (Or.inr ⟨by rfl,rfl⟩) h0 ?_
      simp only[Act.put,zA,zB,zC,zD,zE,zF]
      refine tk (i:=18) (v:=?v37) rfl (Or.inl ⟨by rfl,?y37⟩) h0 ?r37
      case y37 =>
       intro W hW
       go_simp
       try with_reducible rfl
      simp only[Act.put,zA,zB,zC,zD,zE,zF]
      refine tk (i:=19) (v:=?v38) rfl (Or.inl ⟨by rfl,?y38⟩) h0 ?r38
      case y38 =>
       intro W hW
       go_simp
       try with_reducible rfl
      simp only[Act.put,zA,zB,zC,zD,zE,zF]
      refine yX (by kernel_rfl) ?_ _
      go_wp2
      go_meet
      exact⟨by rw[HBR.out],yR w5⟩
    case rest =>
    obtain⟨rfl,c6⟩:=hcut
    obtain⟨w6,hw6⟩:∃ u,u=wc:=⟨wc,rfl⟩
    subst hw6
    have R6:=kept c6 R5
    have P6:=kept c6 P5
    have Z6:=kept c6 Z5
    have A6:=kept c6 A5
    have B6:=yD B5 c6
    have F6:=Lib.hid (F5.out.below c6)
    have hu6:w3.heap.size < w6.heap.size:=yS A6
    clear HCd HCx HOf HSm HBB hcd hcx hsm hou HRe
    cases bb with
    | true =>
     have HZ:Hid (x=(none,8)):=by show _=_;rw[HX.out,if_pos rfl]
     clear HX
     go_wp2_with (first|((with_reducible (show wpList _ _ _ (Oper.mk _ (.load 32 (.tmp 2)) _ _ _ _::_) _ _));refine zaa (by rfl) 32 _ rfl w.heap.size 0 rfl (reqC q (.slice q0 m0 c0) (.slice qh mh ch)) _ (zac R6) yA rfl zab ?_)|((with_reducible (show wpList _ _ _ (Oper.mk none (.store 32 (.tmp 4) _) _ _ _ none::_) _ _));refine yJ rfl 32 _ _ rfl (w.heap.size + 2) _ rfl rfl 32 _ Z6 zab rfl (by simp[Value.oneCell']) ?_))
     rw[HZ.out]
     exact yO (results_row_tmp rfl _ _ (w.heap.size + 2) 32 (reqC q (.slice q0 m0 c0) (.slice qh mh ch)) (0,0) _ rfl (yH _ _ _ _ _ _ Z6) yA rfl zab _ rfl) rfl ⟨yM B6 (by omega),rfl⟩
    | false =>
     have HX:=Lib.hid (HX.out.trans (if_neg (by decide)))
     have cf:=zem st hf.fit
     have HCh:=fun w' g h k=>Lib.hid (zfh q st (.slice q0 m0 c0) (.slice qh mh ch) w' g h hf.fit.u.np k hf.fit.h)
     obtain⟨cq,hcq⟩:∃ cq,cq=changeR q st:=⟨_,rfl⟩
     simp only[← hcq] at HX HCh cf
     have HAw:=fun pu hv w' g h k s=>Lib.hid (zgU cq nx pu hv (.slice qn mn cn) w' g h k cf.1.h cf.1.u cf.1.o s hnf (by rw[cf.2];exact hf.c0) (by rw[cf.2];exact hf.c1))
     obtain⟨y,hy⟩:∃ y,y=zbI cq nx:=⟨_,rfl⟩
     simp only[← hy] at HX HAw
     have HTo:=fun w' g h=>Lib.hid (zhu v l w' g h hlf (by rw[hl];exact hf.told))
     clear hcq hy cf
     go_upto_region 22 with fail
     go_cut [10] from 98 to 103 (fun t wx=>Made y w.heap.size w6 t wx)
     case first =>
      clear hl HTo HX
      go_wp2_with fail
      have R0:w6.drew.heap[w.heap.size]? = _:=R6
      have A0:w6.drew.heap[w3.heap.size]? = _:=A6
      have P0:w6.drew.heap[w.heap.size + 1]? = _:=P6
      have L0:=yD B6 (yR w6)
      have E0:=yR w6
      have S0:=yD (yD (yD b4 b5) c6) (yR w6)
      refine yQ (S:=fun W=>zgN q nx st raw (.slice q0 m0 c0) (.slice qh mh ch) (.slice qn mn cn) w w3 W) (by kernel_rfl) ⟨R6,A6,P6⟩ (fun h0=>?_)
      obtain⟨V0,hV0⟩:∃ V,w6.drew=V:=⟨_,rfl⟩
      rw[hV0] at R0 A0 P0 L0 E0 S0
      simp only[hV0] at h0 ⊢
      clear hV0
      refine tk (i:=0) rfl (zaC w.heap.size q (.slice q0 m0 c0) (.slice qh mh ch) (by rfl) _ rfl rfl (fun W h=>h.1)) h0 ?_
      simp only[Act.put,zA,zB,zC,zD,zE,zF]
      refine tk (i:=1) (v:=?v39) rfl (Or.inl ⟨by rfl,?y39⟩) h0 ?r39
      case y39 =>
       intro W hW
       go_simp
       try with_reducible rfl
      simp only[Act.put,zA,zB,zC,zD,zE,zF]
      refine tk (i:=2) (v:=?v40) rfl (Or.inl ⟨by rfl,?y40⟩) h0 ?r40
      case y40 =>
       intro W hW
       have c:=yE hW.2.2 0 (.int .i64 st) rfl
       go_simp
       try with_reducible rfl
      simp only[Act.put,zA,zB,zC,zD,zE,zF]
      refine tk (i:=4) rfl (zao w3.heap.size 0 nx (.slice qn mn cn) (by rfl) _ rfl rfl (fun W h=>zae h.2.1 0 _ rfl)) h0 ?_
      simp only[Act.put,zA,zB,zC,zD,zE,zF]
      refine wpAnyH_ready (rs:=[3,6]) (by kernel_rfl) (by simp) ?_
      refine AllReadyH.cons rfl (fun K hK=>?_) (AllReadyH.cons rfl (fun K hK=>?_) AllReadyH.nil)
      all_goals try simp only[zA,zB,zC]
      all_goals rw[if_pos (by rfl)]
      all_goals go_simp
      ·go_at_call 129
       refine(HCh V0 (G.below L0) (hp.below L0) (hh.below L0)).out.mono ?_
       rintro e V1 ⟨pu1,hv1,rfl,ho1,hn1,k1⟩
       have o1:=Lib.hid (Strs.of_own ho1)
       have n1:=Lib.hid hn1.flds
       clear ho1 hn1
       have R1:=kept k1 R0
       have A1:=kept k1 A0
       have P1:=kept k1 P0
       have L1:=yD L0 k1
       have E1:=yD E0 k1
       have S1:=yD S0 k1
       refine hK.out _ _ ⟨R1,A1,P1⟩ (fun h0=>?_)
       clear hK K
       try simp only[Act.put,zA,zB,zC,zD,zE,zF]
       refine wpAnyH_ready (rs:=[5,6]) (by kernel_rfl) (by simp) ?_
       refine AllReadyH.cons rfl (fun K hK=>?_) (AllReadyH.cons rfl (fun K hK=>?_) AllReadyH.nil)
       all_goals try simp only[zA,zB,zC]
       all_goals rw[if_pos (by rfl)]
       all_goals go_simp
       ·go_at_call 128
        refine(HAw pu1 hv1 V1 (G.below L1) o1.out n1.out (sn.below S1)).out.mono ?_
        rintro e V2 ⟨pu2,hv2,rfl,ho2,hn2,k2⟩
        obtain⟨q7,m7,k7,rfl⟩:=(Strs.of_own ho2).slice
        obtain⟨q8,m8,k8,rfl⟩:=hn2.flds.slice
        have O2:=own_base ho2 L1.size
        have N2:=hn2.base L1.size
        clear ho2 hn2
        have R2:=kept k2 R1
        have A2:=kept k2 A1
        have P2:=kept k2 P1
        have L2:=yD L1 k2
        have E2:=yD E1 k2
        have S2:=yD S1 k2
        refine hK.out _ _ ⟨R2,A2,P2⟩ (fun h0=>?_)
        clear hK K
        try simp only[Act.put,zA,zB,zC,zD,zE,zF]
        refine zrd (i:=6) rfl (fun K hK=>?_)
        all_goals try simp only[zA,zB,zC]
        all_goals rw[if_pos (by rfl)]
        all_goals go_simp
        ·have k3:=bel1 V2 (.cells (reqC req0 (.slice none 0 0) (.slice none 0 0)) 32)
         have xV23:=row1 V2 (.cells (reqC req0 (.slice none 0 0) (.slice none 0 0)) 32)
         have hxxV2:w6.heap.size≤V2.heap.size:=E2.size
         have R3:=kept k3 R2
         have A3:=kept k3 A2
         have P3:=kept k3 P2
         refine hK.out _ (V2.alloc (.cells (reqC req0 (.slice none 0 0) (.slice none 0 0)) 32)) ⟨R3,A3,P3⟩ (fun h0=>?_)
         clear hK K
         try simp only[Act.put,zA,zB,zC,zD,zE,zF]
         generalize hV3:V2.alloc (.cells (reqC req0 (.slice none 0 0) (.slice none 0 0)) 32)=V3 at k3 xV23 R3 A3 P3 h0 ⊢
         clear hV3
         have L3:=yD L2 k3
         have E3:=yD E2 k3
         have S3:=yD S2 k3
         have O3:=zaz O2 k3
         have N3:=N2.kept k3
         have M3:=zdl xV23 hxxV2 O3 N3 E3
         have T3:=(⟨(yI _ _ _ _ (by omega)).trans R3,(yI _ _ _ _ (by omega)).trans A3,(yI _ _ _ _ (by omega)).trans P3⟩:zgN q nx st raw (.slice q0 m0 c0) (.slice qh mh ch) (.slice qn mn cn) w w3 (V3.setRow V2.heap.size (reqC y (.slice q7 m7 k7) (.slice q8 m8 k8))))
         refine zrd (i:=7) rfl (fun K hK=>?_)
         try simp only[zA,zB,zC]
         rw[if_pos (by rfl)]
         refine wp_store_row 32 _ _ rfl V2.heap.size _ rfl rfl 32 _ xV23 zab rfl (by simp[Value.oneCell']) ?_
         refine hK.out _ _ T3 (fun h0=>?_)
         clear hK K
         try simp only[Act.put,zA,zB,zC,zD,zE,zF]
         refine yX (by kernel_rfl) ?_ _
         go_wp2_with fail
         go_meet
         case rel=>exact M3
       ·have k2:=bel1 V1 (.cells (reqC req0 (.slice none 0 0) (.slice none 0 0)) 32)
        have xV12:=row1 V1 (.cells (reqC req0 (.slice none 0 0) (.slice none 0 0)) 32)
        have hxxV1:w6.heap.size≤V1.heap.size:=E1.size
        have R2:=kept k2 R1
        have A2:=kept k2 A1
        have P2:=kept k2 P1
        refine hK.out _ (V1.alloc (.cells (reqC req0 (.slice none 0 0) (.slice none 0 0)) 32)) ⟨R2,A2,P2⟩ (fun h0=>?_)
        clear hK K
        try simp only[Act.put,zA,zB,zC,zD,zE,zF]
        generalize hV2:V1.alloc (.cells (reqC req0 (.slice none 0 0) (.slice none 0 0)) 32)=V2 at k2 xV12 R2 A2 P2 h0 ⊢
        clear hV2
        have L2:=yD L1 k2
        have E2:=yD E1 k2
        have S2:=yD S1 k2
        have o2:=Lib.hid (o1.out.below k2)
        have n2:=Lib.hid (n1.out.below k2)
        refine zrd (i:=5) rfl (fun K hK=>?_)
        all_goals try simp only[zA,zB,zC]
        all_goals rw[if_pos (by rfl)]
        all_goals go_simp
        ·go_at_call 128
         refine(HAw pu1 hv1 V2 (G.below L2) o2.out n2.out (sn.below S2)).out.mono ?_
         rintro e V3 ⟨pu2,hv2,rfl,ho2,hn2,k3⟩
         obtain⟨q7,m7,k7,rfl⟩:=(Strs.of_own ho2).slice
         obtain⟨q8,m8,k8,rfl⟩:=hn2.flds.slice
         have O3:=own_base ho2 L2.size
         have N3:=hn2.base L2.size
         clear ho2 hn2
         have R3:=kept k3 R2
         have A3:=kept k3 A2
         have P3:=kept k3 P2
         have L3:=yD L2 k3
         have E3:=yD E2 k3
         have S3:=yD S2 k3
         have xV13:=kept k3 xV12
         refine hK.out _ _ ⟨R3,A3,P3⟩ (fun h0=>?_)
         clear hK K
         try simp only[Act.put,zA,zB,zC,zD,zE,zF]
         have M3:=zdl xV13 hxxV1 O3 N3 E3
         have T3:=(⟨(yI _ _ _ _ (by omega)).trans R3,(yI _ _ _ _ (by omega)).trans A3,(yI _ _ _ _ (by omega)).trans P3⟩:zgN q nx st raw (.slice q0 m0 c0) (.slice qh mh ch) (.slice qn mn cn) w w3 (V3.setRow V1.heap.size (reqC y (.slice q7 m7 k7) (.slice q8 m8 k8))))
         refine zrd (i:=7) rfl (fun K hK=>?_)
         try simp only[zA,zB,zC]
         rw[if_pos (by rfl)]
         refine wp_store_row 32 _ _ rfl V1.heap.size _ rfl rfl 32 _ xV13 zab rfl (by simp[Value.oneCell']) ?_
         refine hK.out _ _ T3 (fun h0=>?_)
         clear hK K
         try simp only[Act.put,zA,zB,zC,zD,zE,zF]
         refine yX (by kernel_rfl) ?_ _
         go_wp2_with fail
         go_meet
         case rel=>exact M3
      ·have k1:=bel1 V0 (.cells (reqC req0 (.slice none 0 0) (.slice none 0 0)) 32)
       have xV01:=row1 V0 (.cells (reqC req0 (.slice none 0 0) (.slice none 0 0)) 32)
       have hxxV0:w6.heap.size≤V0.heap.size:=E0.size
       have R1:=kept k1 R0
       have A1:=kept k1 A0
       have P1:=kept k1 P0
       refine hK.out _ (V0.alloc (.cells (reqC req0 (.slice none 0 0) (.slice none 0 0)) 32)) ⟨R1,A1,P1⟩ (fun h0=>?_)
       clear hK K
       try simp only[Act.put,zA,zB,zC,zD,zE,zF]
       generalize hV1:V0.alloc (.cells (reqC req0 (.slice none 0 0) (.slice none 0 0)) 32)=V1 at k1 xV01 R1 A1 P1 h0 ⊢
       clear hV1
       have L1:=yD L0 k1
       have E1:=yD E0 k1
       have S1:=yD S0 k1
       refine zrd (i:=3) rfl (fun K hK=>?_)
       all_goals try simp only[zA,zB,zC]
       all_goals rw[if_pos (by rfl)]
       all_goals go_simp
       ·go_at_call 129
        refine(HCh V1 (G.below L1) (hp.below L1) (hh.below L1)).out.mono ?_
        rintro e V2 ⟨pu1,hv1,rfl,ho1,hn1,k2⟩
        have o2:=Lib.hid (Strs.of_own ho1)
        have n2:=Lib.hid hn1.flds
        clear ho1 hn1
        have R2:=kept k2 R1
        have A2:=kept k2 A1
        have P2:=kept k2 P1
        have L2:=yD L1 k2
        have E2:=yD E1 k2
        have S2:=yD S1 k2
        have xV02:=kept k2 xV01
        refine hK.out _ _ ⟨R2,A2,P2⟩ (fun h0=>?_)
        clear hK K
        try simp only[Act.put,zA,zB,zC,zD,zE,zF]
        refine zrd (i:=5) rfl (fun K hK=>?_)
        all_goals try simp only[zA,zB,zC]
        all_goals rw[if_pos (by rfl)]
        all_goals go_simp
        ·go_at_call 128
         refine(HAw pu1 hv1 V2 (G.below L2) o2.out n2.out (sn.below S2)).out.mono ?_
         rintro e V3 ⟨pu2,hv2,rfl,ho2,hn2,k3⟩
         obtain⟨q7,m7,k7,rfl⟩:=(Strs.of_own ho2).slice
         obtain⟨q8,m8,k8,rfl⟩:=hn2.flds.slice
         have O3:=own_base ho2 L2.size
         have N3:=hn2.base L2.size
         clear ho2 hn2
         have R3:=kept k3 R2
         have A3:=kept k3 A2
         have P3:=kept k3 P2
         have L3:=yD L2 k3
         have E3:=yD E2 k3
         have S3:=yD S2 k3
         have xV03:=kept k3 xV02
         refine hK.out _ _ ⟨R3,A3,P3⟩ (fun h0=>?_)
         clear hK K
         try simp only[Act.put,zA,zB,zC,zD,zE,zF]
         have M3:=zdl xV03 hxxV0 O3 N3 E3
         have T3:=(⟨(yI _ _ _ _ (by omega)).trans R3,(yI _ _ _ _ (by omega)).trans A3,(yI _ _ _ _ (by omega)).trans P3⟩:zgN q nx st raw (.slice q0 m0 c0) (.slice qh mh ch) (.slice qn mn cn) w w3 (V3.setRow V0.heap.size (reqC y (.slice q7 m7 k7) (.slice q8 m8 k8))))
         refine zrd (i:=7) rfl (fun K hK=>?_)
         try simp only[zA,zB,zC]
         rw[if_pos (by rfl)]
         refine wp_store_row 32 _ _ rfl V0.heap.size _ rfl rfl 32 _ xV03 zab rfl (by simp[Value.oneCell']) ?_
         refine hK.out _ _ T3 (fun h0=>?_)
         clear hK K
         try simp only[Act.put,zA,zB,zC,zD,zE,zF]
         refine yX (by kernel_rfl) ?_ _
         go_wp2_with fail
         go_meet
         case rel=>exact M3
     case rest =>
     obtain⟨X,pu7,hv7,rfl,X7,h7,O7,N7,k7⟩:=hcut
     obtain⟨w7,hw7⟩:∃ u,u=wc:=⟨wc,rfl⟩
     subst hw7
     have Z7:=kept k7 Z6
     have B7:=yD B6 k7
     have hu7:w.heap.size + 2≠X:=by omega
     obtain⟨q7,m7,k7',rfl⟩:=(Strs.of_own O7).slice
     obtain⟨q8,m8,k8',rfl⟩:=N7.flds.slice
     have HT:=HTo w7 (G.below B7) (F6.out.below k7)
     obtain⟨p,hpp⟩:∃ p,p=zdw l:=⟨_,rfl⟩
     simp only[← hpp] at HX HT
     clear hpp HTo HCh HAw
     go_wp2_with fail
     refine HT.out.mono ?_
     rintro e w8 ⟨rfl,b8⟩
     have X8:=kept b8 X7
     have Z8:=kept b8 Z7
     have B8:=yD B7 b8
     have O8:=zaz O7 b8
     have N8:=N7.kept b8
     clear HT O7 N7 X7 Z7
     by_cases hp0:p=0
     ·have HZ:Hid (x=(some y,0)):=by show _=_;rw[HX.out];simp[polX,hp0]
      have hb9:(p != 0)=false:=by simp[hp0]
      clear HX hp0
      have HF:=Lib.hid (And.intro (zaA O8 (zay (cs:=reqC y (.slice q7 m7 k7') (.slice q8 m8 k8')) Z8 (by decide))) (N8.other (zay (cs:=reqC y (.slice q7 m7 k7') (.slice q8 m8 k8')) Z8 (by decide))))
      clear O8 N8
      go_wp2_with (first|((with_reducible (show wpList _ _ _ (Oper.mk _ (.load 32 (.tmp 10)) _ _ _ _::_) _ _));refine zaa (by rfl) 32 _ rfl X 0 rfl (reqC y (.slice q7 m7 k7') (.slice q8 m8 k8')) _ (zac X8) yA rfl zab ?_)|((with_reducible (show wpList _ _ _ (Oper.mk none (.store 32 (.tmp 4) _) _ _ _ none::_) _ _));refine yJ rfl 32 _ _ rfl (w.heap.size + 2) _ rfl rfl 32 _ Z8 zab rfl (by simp[Value.oneCell']) ?_))
      rw[HZ.out]
      exact yO (results_row_tmp rfl _ _ (w.heap.size + 2) 32 (reqC y (.slice q7 m7 k7') (.slice q8 m8 k8')) (0,0) _ rfl (yH _ _ _ _ _ _ Z8) yA rfl zab _ rfl) rfl ⟨yM B8 (by omega),_,_,rfl,HF.out.1,HF.out.2⟩
     ·obtain⟨y9,hy9⟩:∃ y9,y9={ y with policy:=p }:=⟨_,rfl⟩
      have HZ:Hid (x=(some y9,0)):=by show _=_;rw[HX.out,hy9];simp[polX,hp0]
      have hb9:(p != 0)=true:=by simp[hp0]
      clear HX hp0
      have d8:=yE X8 40 (.int .i64 y.policy) rfl
      have f8:=yF X8 40
      have X9:(w8.setCell ⟨X,40,none⟩ (.int .i64 p)).heap[X]? = some (.cells (reqC y9 (.slice q7 m7 k7') (.slice q8 m8 k8')) 32 (0,0)):=by rw[hy9];exact zap (i:=40) X8 _ rfl
      have Z9:=zam (i:=40) Z8 hu7 (.int .i64 p)
      have B9:=B8.setCell (p:=⟨X,40,none⟩) (by show w.heap.size≤X;omega) (.int .i64 p)
      have O9:(w8.setCell ⟨X,40,none⟩ (.int .i64 p)).ownsRow w.heap.size 9 1 (.slice q7 m7 k7') y9.url.path.length (y9.url.path.map Value.string):=by rw[hy9];exact zaA O8 (zaG X8 (by decide))
      have N9:FldsN w.heap.size (w8.setCell ⟨X,40,none⟩ (.int .i64 p)) (.slice q8 m8 k8') y9.heads:=by rw[hy9];exact N8.other (zaG X8 (by decide))
      have HF:=Lib.hid (And.intro (zaA O9 (zay (cs:=reqC y9 (.slice q7 m7 k7') (.slice q8 m8 k8')) Z9 (by decide))) (N9.other (zay (cs:=reqC y9 (.slice q7 m7 k7') (.slice q8 m8 k8')) Z9 (by decide))))
      clear O8 N8 O9 N9 hy9
      go_wp2_with (first|((with_reducible (show wpList _ _ _ (Oper.mk _ (.load 32 (.tmp 10)) _ _ _ _::_) _ _));refine zaa (by rfl) 32 _ rfl X 0 rfl (reqC y9 (.slice q7 m7 k7') (.slice q8 m8 k8')) _ (zac X9) yA rfl zab ?_)|((with_reducible (show wpList _ _ _ (Oper.mk none (.store 32 (.tmp 4) _) _ _ _ none::_) _ _));refine yJ rfl 32 _ _ rfl (w.heap.size + 2) _ rfl rfl 32 _ Z9 zab rfl (by simp[Value.oneCell']) ?_))
      rw[HZ.out]
      exact yO (results_row_tmp rfl _ _ (w.heap.size + 2) 32 (reqC y9 (.slice q7 m7 k7') (.slice q8 m8 k8')) (0,0) _ rfl (yH _ _ _ _ _ _ Z9) yA rfl zab _ rfl) rfl ⟨yM B9 (by omega),_,_,rfl,HF.out.1,HF.out.2⟩
end Go.Proofs.YtdlkjofnnefjfaaGreatDoor
