/- head.Get, hop.May. -/
import Derived.Test.YtdlkjofnnefjfaaGreatDoorZShort
import Derived.Test.YtdlkjofnnefjfaaGreatDoorZHParse
import Derived.Test.YtdlkjofnnefjfaaGreatDoorZAway
set_option linter.all false
namespace Go.Proofs.YtdlkjofnnefjfaaGreatDoor
set_option maxRecDepth 100000
open Go.RowKit
structure Req.Fits (r:Req):Prop where
 u:r.url.Fits
 m:r.method.size≤1000000
 h:zax r.heads
 o:r.orig.host.name.size≤1000000
 rf:r.referrer.size≤1000000
def oddF (f:Fld):Bool:=!nameB f.1 || !zcg f.2
set_option maxHeartbeats 1000000 in
theorem zhe (f:Fld) (w:World) (h1:f.1.size≤1000000) (h2:f.2.size≤1000000) :
  Calls Tryz.prog 52 #[.agg #[.string f.1,.string f.2]] w fun e w'=>e=.returned (.bool (oddF f))∧Below w.heap.size w w':=by
 have R0:=row1 w (.cells #[.string f.1,.string f.2] 72)
 have B0:=bel1 w (.cells #[.string f.1,.string f.2] 72)
 have HN:=fun w=>Lib.hid (name_any f.1 w h1)
 have HV:=fun w=>Lib.hid (zed f.2 w h2)
 unfold oddF
 obtain⟨nb,hnb⟩:∃ nb,nb=nameB f.1:=⟨_,rfl⟩
 obtain⟨vb,hvb⟩:∃ vb,vb=zcg f.2:=⟨_,rfl⟩
 simp only[← hnb,← hvb] at HN HV ⊢
 clear hnb hvb
 cases nb with
 | false =>
  go_enter Tryz.func52,Tryz.ntmps52
  go_wp2_with (first|(go_at_call 29;refine(HN _).out.mono ?_;rintro e w1 ⟨rfl,b1⟩))
  go_ret
  exact⟨rfl,yD B0 b1⟩
 | true =>
  go_enter Tryz.func52,Tryz.ntmps52
  go_wp2_with (first|(go_at_call 29;refine(HN _).out.mono ?_;rintro e w1 ⟨rfl,b1⟩;have R1:=kept b1 R0;have B1:=yD B0 b1;have c1:=yE R1 1 (.string f.2) rfl)|(go_at_call 30;refine(HV _).out.mono ?_;rintro e w2 ⟨rfl,b2⟩;have B2:=yD B1 b2))
  go_ret
  exact⟨rfl,B2⟩
theorem zha {α:Type} (p:α→Bool) (l:List α):decide (0≤ixGo p l 0)=l.any p:=by
 rcases zco p l 0 (by omega) with ⟨h1,h2⟩|⟨i,h1,h2,_,x,h3,h4⟩
 ·rw[h1,List.any_eq_false.2 (fun x hx=>by rw[h2 x hx];simp)];rfl
 ·rw[h2,decide_eq_true (by omega),List.any_eq_true.2 ⟨x,List.mem_of_getElem? h3,h4⟩]
set_option maxHeartbeats 1000000 in
theorem zgR (v:Value) (l:List Fld) (w:World) (hv:Flds w v l) (hf:zax l) :
  Calls Tryz.prog 53 #[v,.func (.func 52) #[] #[]] w fun e w'=>e=.returned (.bool (l.any oddF))∧Below w.heap.size w w':=by
 have HI:=fun w' hw=>Lib.hid (zbj 52 #[] (enters_of Tryz.func52 (by kernel_rfl) rfl) oddF v l w' (fun W _ f h1 h2=>zhe f W h1 h2) hw hf)
 rw[← zha]
 obtain⟨i,hi⟩:∃ i,i=ixGo oddF l 0:=⟨_,rfl⟩
 simp only[← hi] at HI ⊢
 clear hi
 have hv2:=Lib.hid hv
 obtain⟨q,m,c,rfl⟩:=hv.slice
 clear hv
 go_enter Tryz.func53,Tryz.ntmps53
 go_wp2_with (first|(go_at_call 107;refine(HI _ hv2.out).out.mono ?_;rintro e w1 ⟨rfl,b1⟩))
 go_ret
 exact⟨rfl,b1⟩
def mayR (r:Req):Bool:=webU r.url && (nameB r.method && (!r.heads.any oddF && (mayO r.orig && (inB r.mode 3 && (inB r.redirect 3 && (inB r.policy 9 && inB r.count 21))))))
set_option maxHeartbeats 4000000 in
theorem zdn (r:Req) (pu hv:Value) (w:World) (G:Glob w) (hp:Strs w pu r.url.path) (hh:Flds w hv r.heads) (hf:r.Fits) :
  Calls Tryz.prog 25 #[.agg (reqC r pu hv)] w fun e w'=>e=.returned (.bool (mayR r))∧Below w.heap.size w w':=by
 have R0:=row1 w (.cells (reqC r pu hv) 32)
 have B0:=bel1 w (.cells (reqC r pu hv) 32)
 have HW:=fun w' g s=>Lib.hid (zdx r.url pu w' g s hf.u)
 have HN:=fun w=>Lib.hid (name_any r.method w hf.m)
 have HF:=fun w' s=>Lib.hid (zgR hv r.heads w' s hf.h)
 have HO:=fun w' g=>Lib.hid (zdm r.orig w' g hf.o)
 have H1:=fun w=>Lib.hid (in_any r.mode 3 w)
 have H2:=fun w=>Lib.hid (in_any r.redirect 3 w)
 have H3:=fun w=>Lib.hid (in_any r.policy 9 w)
 have H4:=fun w=>Lib.hid (in_any r.count 21 w)
 have HE:Hid (mayR r=_):=mayR.eq_1 r
 obtain⟨x,hx⟩:∃ x,x=mayR r:=⟨_,rfl⟩
 obtain⟨a1,h1⟩:∃ x,x=webU r.url:=⟨_,rfl⟩
 obtain⟨a2,h2⟩:∃ x,x=nameB r.method:=⟨_,rfl⟩
 obtain⟨a3,h3⟩:∃ x,x=r.heads.any oddF:=⟨_,rfl⟩
 obtain⟨a4,h4⟩:∃ x,x=mayO r.orig:=⟨_,rfl⟩
 obtain⟨a5,h5⟩:∃ x,x=inB r.mode 3:=⟨_,rfl⟩
 obtain⟨a6,h6⟩:∃ x,x=inB r.redirect 3:=⟨_,rfl⟩
 obtain⟨a7,h7⟩:∃ x,x=inB r.policy 9:=⟨_,rfl⟩
 obtain⟨a8,h8⟩:∃ x,x=inB r.count 21:=⟨_,rfl⟩
 simp only[← hx,← h1,← h2,← h3,← h4,← h5,← h6,← h7,← h8] at HE HW HN HF HO H1 H2 H3 H4 ⊢
 clear hx h1 h2 h3 h4 h5 h6 h7 h8
 cases a1 with
 | false =>
  have HZ:Hid (x=false):=HE.out
  clear HE
  go_enter Tryz.func25,Tryz.ntmps25
  go_wp2_with (first|((with_reducible (show wpList _ _ _ (Oper.mk _ (.load 27 _) _ _ _ _::_) _ _));refine zaa (by rfl) 27 _ rfl w.heap.size 0 rfl (urlC r.url pu) _ (zae R0 0 _ rfl) yB rfl yN ?_)|(go_at_call 23;refine(HW _ (G.below B0) (hp.below B0)).out.mono ?_;rintro e w1 ⟨rfl,b1⟩;have R1:=kept b1 R0;have B1:=yD B0 b1;have c21:=yE R1 21 (.string r.method) rfl))
  go_ret
  exact⟨ret_bool (by rw[HZ.out]),B1⟩
 | true =>
  cases a2 with
  | false =>
   have HZ:Hid (x=false):=HE.out
   clear HE
   go_enter Tryz.func25,Tryz.ntmps25
   go_wp2_with (first|((with_reducible (show wpList _ _ _ (Oper.mk _ (.load 27 _) _ _ _ _::_) _ _));refine zaa (by rfl) 27 _ rfl w.heap.size 0 rfl (urlC r.url pu) _ (zae R0 0 _ rfl) yB rfl yN ?_)|(go_at_call 23;refine(HW _ (G.below B0) (hp.below B0)).out.mono ?_;rintro e w1 ⟨rfl,b1⟩;have R1:=kept b1 R0;have B1:=yD B0 b1;have c21:=yE R1 21 (.string r.method) rfl)|(go_at_call 29;refine(HN _).out.mono ?_;rintro e w2 ⟨rfl,b2⟩;have R2:=kept b2 R1;have B2:=yD B1 b2;have c22:=yE R2 22 hv rfl))
   go_ret
   exact⟨ret_bool (by rw[HZ.out]),B2⟩
  | true =>
   cases a3 with
   | true =>
    have HZ:Hid (x=false):=HE.out
    clear HE
    go_enter Tryz.func25,Tryz.ntmps25
    go_wp2_with (first|((with_reducible (show wpList _ _ _ (Oper.mk _ (.load 27 _) _ _ _ _::_) _ _));refine zaa (by rfl) 27 _ rfl w.heap.size 0 rfl (urlC r.url pu) _ (zae R0 0 _ rfl) yB rfl yN ?_)|(go_at_call 23;refine(HW _ (G.below B0) (hp.below B0)).out.mono ?_;rintro e w1 ⟨rfl,b1⟩;have R1:=kept b1 R0;have B1:=yD B0 b1;have c21:=yE R1 21 (.string r.method) rfl)|(go_at_call 29;refine(HN _).out.mono ?_;rintro e w2 ⟨rfl,b2⟩;have R2:=kept b2 R1;have B2:=yD B1 b2;have c22:=yE R2 22 hv rfl)|(go_at_call 53;refine(HF _ (hh.below B2)).out.mono ?_;rintro e w3 ⟨rfl,b3⟩;have R3:=kept b3 R2;have B3:=yD B2 b3))
    go_ret
    exact⟨ret_bool (by rw[HZ.out]),B3⟩
   | false =>
    cases a4 with
    | false =>
     have HZ:Hid (x=false):=HE.out
     clear HE
     go_enter Tryz.func25,Tryz.ntmps25
     go_wp2_with (first|((with_reducible (show wpList _ _ _ (Oper.mk _ (.load 27 _) _ _ _ _::_) _ _));refine zaa (by rfl) 27 _ rfl w.heap.size 0 rfl (urlC r.url pu) _ (zae R0 0 _ rfl) yB rfl yN ?_)|(go_at_call 23;refine(HW _ (G.below B0) (hp.below B0)).out.mono ?_;rintro e w1 ⟨rfl,b1⟩;have R1:=kept b1 R0;have B1:=yD B0 b1;have c21:=yE R1 21 (.string r.method) rfl)|(go_at_call 29;refine(HN _).out.mono ?_;rintro e w2 ⟨rfl,b2⟩;have R2:=kept b2 R1;have B2:=yD B1 b2;have c22:=yE R2 22 hv rfl)|(go_at_call 53;refine(HF _ (hh.below B2)).out.mono ?_;rintro e w3 ⟨rfl,b3⟩;have R3:=kept b3 R2;have B3:=yD B2 b3)|((with_reducible (show wpList _ _ _ (Oper.mk _ (.load 30 _) _ _ _ _::_) _ _));refine zaa (by rfl) 30 _ rfl w.heap.size 24 rfl (origC r.orig) _ (zae R3 24 _ rfl) Tryz.underlying30 rfl zan ?_)|(go_at_call 31;refine(HO _ (G.below B3)).out.mono ?_;rintro e w4 ⟨rfl,b4⟩;have R4:=kept b4 R3;have B4:=yD B3 b4;have c38:=yE R4 38 (.int .i64 r.mode) rfl;have c39:=yE R4 39 (.int .i64 r.redirect) rfl;have c40:=yE R4 40 (.int .i64 r.policy) rfl;have c44:=yE R4 44 (.int .i64 r.count) rfl))
     go_ret
     exact⟨ret_bool (by rw[HZ.out]),B4⟩
    | true =>
     cases a5 with
     | false =>
      have HZ:Hid (x=false):=HE.out
      clear HE
      go_enter Tryz.func25,Tryz.ntmps25
      go_wp2_with (first|((with_reducible (show wpList _ _ _ (Oper.mk _ (.load 27 _) _ _ _ _::_) _ _));refine zaa (by rfl) 27 _ rfl w.heap.size 0 rfl (urlC r.url pu) _ (zae R0 0 _ rfl) yB rfl yN ?_)|(go_at_call 23;refine(HW _ (G.below B0) (hp.below B0)).out.mono ?_;rintro e w1 ⟨rfl,b1⟩;have R1:=kept b1 R0;have B1:=yD B0 b1;have c21:=yE R1 21 (.string r.method) rfl)|(go_at_call 29;refine(HN _).out.mono ?_;rintro e w2 ⟨rfl,b2⟩;have R2:=kept b2 R1;have B2:=yD B1 b2;have c22:=yE R2 22 hv rfl)|(go_at_call 53;refine(HF _ (hh.below B2)).out.mono ?_;rintro e w3 ⟨rfl,b3⟩;have R3:=kept b3 R2;have B3:=yD B2 b3)|((with_reducible (show wpList _ _ _ (Oper.mk _ (.load 30 _) _ _ _ _::_) _ _));refine zaa (by rfl) 30 _ rfl w.heap.size 24 rfl (origC r.orig) _ (zae R3 24 _ rfl) Tryz.underlying30 rfl zan ?_)|(go_at_call 31;refine(HO _ (G.below B3)).out.mono ?_;rintro e w4 ⟨rfl,b4⟩;have R4:=kept b4 R3;have B4:=yD B3 b4;have c38:=yE R4 38 (.int .i64 r.mode) rfl;have c39:=yE R4 39 (.int .i64 r.redirect) rfl;have c40:=yE R4 40 (.int .i64 r.policy) rfl;have c44:=yE R4 44 (.int .i64 r.count) rfl)|(go_at_call_of 54 (r.mode);refine(H1 _).out.mono ?_;rintro e w5 ⟨rfl,rfl⟩))
      go_ret
      exact⟨ret_bool (by rw[HZ.out]),B4⟩
     | true =>
      cases a6 with
      | false =>
       have HZ:Hid (x=false):=HE.out
       clear HE
       go_enter Tryz.func25,Tryz.ntmps25
       go_wp2_with (first|((with_reducible (show wpList _ _ _ (Oper.mk _ (.load 27 _) _ _ _ _::_) _ _));refine zaa (by rfl) 27 _ rfl w.heap.size 0 rfl (urlC r.url pu) _ (zae R0 0 _ rfl) yB rfl yN ?_)|(go_at_call 23;refine(HW _ (G.below B0) (hp.below B0)).out.mono ?_;rintro e w1 ⟨rfl,b1⟩;have R1:=kept b1 R0;have B1:=yD B0 b1;have c21:=yE R1 21 (.string r.method) rfl)|(go_at_call 29;refine(HN _).out.mono ?_;rintro e w2 ⟨rfl,b2⟩;have R2:=kept b2 R1;have B2:=yD B1 b2;have c22:=yE R2 22 hv rfl)|(go_at_call 53;refine(HF _ (hh.below B2)).out.mono ?_;rintro e w3 ⟨rfl,b3⟩;have R3:=kept b3 R2;have B3:=yD B2 b3)|((with_reducible (show wpList _ _ _ (Oper.mk _ (.load 30 _) _ _ _ _::_) _ _));refine zaa (by rfl) 30 _ rfl w.heap.size 24 rfl (origC r.orig) _ (zae R3 24 _ rfl) Tryz.underlying30 rfl zan ?_)|(go_at_call 31;refine(HO _ (G.below B3)).out.mono ?_;rintro e w4 ⟨rfl,b4⟩;have R4:=kept b4 R3;have B4:=yD B3 b4;have c38:=yE R4 38 (.int .i64 r.mode) rfl;have c39:=yE R4 39 (.int .i64 r.redirect) rfl;have c40:=yE R4 40 (.int .i64 r.policy) rfl;have c44:=yE R4 44 (.int .i64 r.count) rfl)|(go_at_call_of 54 (r.mode);refine(H1 _).out.mono ?_;rintro e w5 ⟨rfl,rfl⟩)|(go_at_call_of 54 (r.redirect);refine(H2 _).out.mono ?_;rintro e w6 ⟨rfl,rfl⟩))
       go_ret
       exact⟨ret_bool (by rw[HZ.out]),B4⟩
      | true =>
       cases a7 with
       | false =>
        have HZ:Hid (x=false):=HE.out
        clear HE
        go_enter Tryz.func25,Tryz.ntmps25
        go_wp2_with (first|((with_reducible (show wpList _ _ _ (Oper.mk _ (.load 27 _) _ _ _ _::_) _ _));refine zaa (by rfl) 27 _ rfl w.heap.size 0 rfl (urlC r.url pu) _ (zae R0 0 _ rfl) yB rfl yN ?_)|(go_at_call 23;refine(HW _ (G.below B0) (hp.below B0)).out.mono ?_;rintro e w1 ⟨rfl,b1⟩;have R1:=kept b1 R0;have B1:=yD B0 b1;have c21:=yE R1 21 (.string r.method) rfl)|(go_at_call 29;refine(HN _).out.mono ?_;rintro e w2 ⟨rfl,b2⟩;have R2:=kept b2 R1;have B2:=yD B1 b2;have c22:=yE R2 22 hv rfl)|(go_at_call 53;refine(HF _ (hh.below B2)).out.mono ?_;rintro e w3 ⟨rfl,b3⟩;have R3:=kept b3 R2;have B3:=yD B2 b3)|((with_reducible (show wpList _ _ _ (Oper.mk _ (.load 30 _) _ _ _ _::_) _ _));refine zaa (by rfl) 30 _ rfl w.heap.size 24 rfl (origC r.orig) _ (zae R3 24 _ rfl) Tryz.underlying30 rfl zan ?_)|(go_at_call 31;refine(HO _ (G.below B3)).out.mono ?_;rintro e w4 ⟨rfl,b4⟩;have R4:=kept b4 R3;have B4:=yD B3 b4;have c38:=yE R4 38 (.int .i64 r.mode) rfl;have c39:=yE R4 39 (.int .i64 r.redirect) rfl;have c40:=yE R4 40 (.int .i64 r.policy) rfl;have c44:=yE R4 44 (.int .i64 r.count) rfl)|(go_at_call_of 54 (r.mode);refine(H1 _).out.mono ?_;rintro e w5 ⟨rfl,rfl⟩)|(go_at_call_of 54 (r.redirect);refine(H2 _).out.mono ?_;rintro e w6 ⟨rfl,rfl⟩)|(go_at_call_of 54 (r.policy);refine(H3 _).out.mono ?_;rintro e w7 ⟨rfl,rfl⟩))
        go_ret
        exact⟨ret_bool (by rw[HZ.out]),B4⟩
       | true =>
        have HZ:Hid (x=a8):=HE.out
        clear HE
        go_enter Tryz.func25,Tryz.ntmps25
        go_wp2_with (first|((with_reducible (show wpList _ _ _ (Oper.mk _ (.load 27 _) _ _ _ _::_) _ _));refine zaa (by rfl) 27 _ rfl w.heap.size 0 rfl (urlC r.url pu) _ (zae R0 0 _ rfl) yB rfl yN ?_)|(go_at_call 23;refine(HW _ (G.below B0) (hp.below B0)).out.mono ?_;rintro e w1 ⟨rfl,b1⟩;have R1:=kept b1 R0;have B1:=yD B0 b1;have c21:=yE R1 21 (.string r.method) rfl)|(go_at_call 29;refine(HN _).out.mono ?_;rintro e w2 ⟨rfl,b2⟩;have R2:=kept b2 R1;have B2:=yD B1 b2;have c22:=yE R2 22 hv rfl)|(go_at_call 53;refine(HF _ (hh.below B2)).out.mono ?_;rintro e w3 ⟨rfl,b3⟩;have R3:=kept b3 R2;have B3:=yD B2 b3)|((with_reducible (show wpList _ _ _ (Oper.mk _ (.load 30 _) _ _ _ _::_) _ _));refine zaa (by rfl) 30 _ rfl w.heap.size 24 rfl (origC r.orig) _ (zae R3 24 _ rfl) Tryz.underlying30 rfl zan ?_)|(go_at_call 31;refine(HO _ (G.below B3)).out.mono ?_;rintro e w4 ⟨rfl,b4⟩;have R4:=kept b4 R3;have B4:=yD B3 b4;have c38:=yE R4 38 (.int .i64 r.mode) rfl;have c39:=yE R4 39 (.int .i64 r.redirect) rfl;have c40:=yE R4 40 (.int .i64 r.policy) rfl;have c44:=yE R4 44 (.int .i64 r.count) rfl)|(go_at_call_of 54 (r.mode);refine(H1 _).out.mono ?_;rintro e w5 ⟨rfl,rfl⟩)|(go_at_call_of 54 (r.redirect);refine(H2 _).out.mono ?_;rintro e w6 ⟨rfl,rfl⟩)|(go_at_call_of 54 (r.policy);refine(H3 _).out.mono ?_;rintro e w7 ⟨rfl,rfl⟩)|(go_at_call_of 54 (r.count);refine(H4 _).out.mono ?_;rintro e w8 ⟨rfl,rfl⟩))
        go_ret
        exact⟨ret_bool (by rw[HZ.out]),B4⟩
def getL (l:List Fld) (name:ByteArray):ByteArray:=bs (Lib.join ((allL name l).map (·.data.toList)) [44,32])
theorem zgo {w:World} {B n:Nat} {v:Value} {l:List ByteArray} (h:w.ownsRow B 9 1 v n (l.map Value.string)) (hn:n=l.length):(v=.slice none 0 0∧l=[])∨∃ g cap,v=.slice (some ⟨g,0,none⟩) l.length cap∧g < w.heap.size∧l.length≤cap∧∀ (j:Nat) x,l[j]? = some x→w.cell? ⟨g,0 + j,none⟩=some (.string x):=by
 subst hn
 rcases h.2 with ⟨h1,h2⟩|⟨g,cap,cur,h1,_,hg,hle,_,_,htk⟩
 ·exact .inl ⟨h1,List.length_eq_zero_iff.1 h2⟩
 ·refine .inr ⟨g,cap,h1,yS hg,hle,fun j x hj=>?_⟩
  refine yE hg (0 + j) _ ?_
  have hjl:=(List.getElem?_eq_some_iff.1 hj).1
  have h3:(l.map Value.string)[j]? = some (.string x):=by rw[List.getElem?_map,hj];rfl
  rw[← htk,List.getElem?_take,if_pos (by omega),Array.getElem?_toList] at h3
  rw[Nat.zero_add];exact h3
set_option maxHeartbeats 1000000 in
theorem zeu (v:Value) (l:List Fld) (name:ByteArray) (w:World) (hv:Flds w v l) (hf:zax l) (hn:name.size≤1000000) (hj:(Lib.join ((allL name l).map (·.data.toList)) [44,32]).length≤140737488355328) :
  Calls Tryz.prog 17 #[v,.string name] w fun e w'=>e=.returned (.tuple #[.string (getL l name),.bool (decide (0 < (allL name l).length))])∧Below w.heap.size w w':=by
 have HA:=Lib.hid (zfO v l name w hv hf hn)
 have hl:=zbT name l
 have hl2:=hf.1
 unfold getL
 obtain⟨q,m,c,rfl⟩:=hv.slice
 obtain⟨A,hA⟩:∃ A,A=allL name l:=⟨_,rfl⟩
 rw[← hA] at hj HA hl ⊢
 clear hA hv
 obtain⟨t,ht⟩:∃ t,t=bs (Lib.join (A.map (·.data.toList)) [44,32]):=⟨_,rfl⟩
 rw[← ht]
 have HT:=Lib.hid ht
 clear ht
 go_enter Tryz.func17,Tryz.ntmps17
 go_wp2_with (first|(go_at_call 15;refine HA.out.mono ?_;rintro e w1 ⟨v',rfl,ho,b1⟩))
 rcases zgo ho rfl with ⟨rfl,rfl⟩|⟨g,cap,rfl,hg,hle,hc⟩
 ·go_wp2_with (first|(go_at_call 37;refine(Tryz.strings_Join_none none 0 _ _).mono ?_;rintro e w2 ⟨rfl,rfl⟩))
  go_ret2
  exact⟨by rw[HT.out];rfl,b1⟩
 ·have HC:=Lib.hid hc
  clear hc ho
  go_wp2_with (first|(go_at_call 37;refine(Tryz.strings_Join g 0 cap A ⟨#[44,32]⟩ _ HC.out hg (by omega) hle hj).mono ?_;rintro e w2 ⟨rfl,b2⟩))
  go_ret2
  exact⟨by rw[HT.out];simp;rfl,yD b1 b2⟩
end Go.Proofs.YtdlkjofnnefjfaaGreatDoor
