/- url.May of an address of the web: the walk for each first test that fails, and for none. Origins. Origins that are the same. -/
import Derived.Test.YtdlkjofnnefjfaaGreatDoorZShort
import Derived.Test.YtdlkjofnnefjfaaGreatDoorZUrlE
import Derived.Test.YtdlkjofnnefjfaaGreatDoorZUrlF
import Derived.Test.YtdlkjofnnefjfaaGreatDoorZUrlG
set_option linter.all false
namespace Go.Proofs.YtdlkjofnnefjfaaGreatDoor
set_option maxRecDepth 100000
section
open Go.RowKit
set_option maxHeartbeats 4000000 in
theorem zfG (u:Url) (pv:Value) (w:World) (G:Glob w) (hp:Strs w pv u.path) (hpn:u.path.length≤10000000) (hl:∀ p∈u.path,p.size≤1000000) (hq:u.query.size≤1000000) (hf:u.frag.size≤1000000) (hus:u.user.size≤1000000) (hpa:u.pass.size≤1000000) (hn:u.host.name.size≤1000000) (hbad:urlBad u=false) (hop:opqB u.scheme=false) (t1:0 < webP u.scheme) (t2:mayH u.host=true) (t3:readyB 4 u.user=true) (t4:readyB 4 u.pass=true) (t5:pathMay u.path=true) (t6:u.opq.size=0) (t7:-1≤u.port) (t8:u.port≤65535) (t9:u.port≠webP u.scheme) :
  Calls Tryz.prog 32 #[.agg (urlC u pv)] w fun e w'=>e=.returned (.bool (urlMay u))∧Below w.heap.size w w':=by
 obtain⟨k1,k2,k3,k4⟩:=urlBad_no hbad
 have HZ:Hid (urlMay u=true):=by show _=_;rw[urlMay_web u hbad hop];simp[t1,t2,t3,t4,t5,t6,t7,t8,t9]
 obtain⟨may,hmay⟩:∃ may,may=urlMay u:=⟨_,rfl⟩
 rw[← hmay] at HZ ⊢
 clear hmay hbad
 have HQ:=fun w'=>Lib.hid (ready_enc u.query 2 w' (by omega) true (by rw[toList_data];exact k1))
 have HF:=fun w'=>Lib.hid (ready_enc u.frag 1 w' (by omega) true (by rw[toList_data];exact k2))
 have HO:=fun w'=>Lib.hid (opaque_any u.scheme w')
 rw[hop] at HO
 have HW:=fun w'=>Lib.hid (web_any u.scheme w')
 have HM:=fun w' (g:Glob w')=>Lib.hid (hmay_any u.host w' g (by omega))
 rw[t2] at HM
 have HU:=fun w'=>Lib.hid (ready_enc u.user 4 w' (by omega) true (by rw[toList_data];exact t3))
 have HA:=fun w'=>Lib.hid (ready_enc u.pass 4 w' (by omega) true (by rw[toList_data];exact t4))
 have HP:=fun w' (g:Glob w') (s:Strs w' pv u.path)=>Lib.hid (pathMay_any pv u.path w' g s hpn hl)
 rw[t5] at HP
 have he:u.opq.toList.isEmpty=true:=(empty_iff _).2 t6
 have hne:(u.port != webP u.scheme)=true:=by simp[t9]
 clear t2
 clear t3
 clear t4
 clear t5
 clear t6
 clear t9
 clear hop k1 k2
 obtain⟨wv,hwv⟩:∃ wv,wv=webP u.scheme:=⟨_,rfl⟩
 simp only[← hwv] at HW
 simp only[← hwv] at t1
 simp only[← hwv] at hne
 clear hwv
 replace t1:=decide_eq_true t1
 replace t7:=decide_eq_true t7
 replace t8:=decide_eq_true t8
 obtain⟨sc,us,pa,⟨hk,hn',hm,⟨p0,p1,p2,p3,p4,p5,p6,p7⟩⟩,po,pth,op,qu,fg,hQ,hF⟩:=u
 simp only at *
 obtain⟨q,m,c,rfl⟩:=hp.slice
 go_enter Tryz.func32,Tryz.ntmps32
 go_upto_region 1 with fail
 go_cut [32] from 3 to 32 (fun v wx=>v=.bool false∧wx.heap[w.heap.size]? = some (.cells #[.string sc,.string us,.string pa,.int .i64 hk,.string hn',.int .i64 hm,.int .i64 p0,.int .i64 p1,.int .i64 p2,.int .i64 p3,.int .i64 p4,.int .i64 p5,.int .i64 p6,.int .i64 p7,.int .i64 po,.slice q m c,.string op,.string qu,.string fg,.bool hQ,.bool hF] 27 (0,0))∧Below w.heap.size w wx)
 case first =>
  go_wp2_with fail
  refine(HQ _).out.mono ?_
  rintro e w1 ⟨rfl,b1⟩
  have B1:=yD (bel1 w _) b1
  have R1:=kept b1 (row1 w _)
  obtain⟨c0,c1,c2,c3,c4,c5,c6,c7,c8,c9,c10,c11,c12,c13,c14,c15,c16,c17,c18,c19,c20⟩:=url_row R1
  go_wp2_with fail
  refine(HF _).out.mono ?_
  rintro e w2 ⟨rfl,b2⟩
  have B2:=yD B1 b2
  have R2:=kept b2 R1
  clear c0 c1 c2 c3 c4 c5 c6 c7 c8 c9 c10 c11 c12 c13 c14 c15 c16 c17 c18 c19 c20 R1 b1 b2 B1
  obtain⟨c0,c1,c2,c3,c4,c5,c6,c7,c8,c9,c10,c11,c12,c13,c14,c15,c16,c17,c18,c19,c20⟩:=url_row R2
  have Hf:=Lib.hid k4
  rcases k3 with rfl|k3
  ·rcases k4 with rfl|k4
   ·go_wp2_with fail
    go_meet
    exact⟨rfl,R2,B2⟩
   ·have e4:fg.toList.isEmpty=true:=(empty_iff _).2 k4
    cases hF <;>
    ·go_wp2_with fail
     go_meet
     exact⟨rfl,R2,B2⟩
  ·have e3:qu.toList.isEmpty=true:=(empty_iff _).2 k3
   rcases k4 with rfl|k4
   ·cases hQ <;>
    ·go_wp2_with fail
     go_meet
     exact⟨rfl,R2,B2⟩
   ·have e4:fg.toList.isEmpty=true:=(empty_iff _).2 k4
    cases hF <;> cases hQ <;>
    ·go_wp2_with fail
     go_meet
     exact⟨rfl,R2,B2⟩
 case rest =>
  obtain⟨rfl,R,B⟩:=hcut
  clear HQ HF k3 k4
  obtain⟨c0,c1,c2,c3,c4,c5,c6,c7,c8,c9,c10,c11,c12,c13,c14,c15,c16,c17,c18,c19,c20⟩:=url_row R
  go_wp2_with fail
  refine(HO _).out.mono ?_
  rintro e w3 ⟨rfl,b3⟩
  have B3:=yD B b3
  have R3:=kept b3 R
  clear c0 c1 c2 c3 c4 c5 c6 c7 c8 c9 c10 c11 c12 c13 c14 c15 c16 c17 c18 c19 c20 R b3 HO
  obtain⟨c0,c1,c2,c3,c4,c5,c6,c7,c8,c9,c10,c11,c12,c13,c14,c15,c16,c17,c18,c19,c20⟩:=url_row R3
  go_wp2_with fail
  go_region_held3 (fun W=>W.cell? ⟨w.heap.size,0,none⟩=some (.string sc)∧W.cell? ⟨w.heap.size,1,none⟩=some (.string us)∧W.cell? ⟨w.heap.size,2,none⟩=some (.string pa)∧W.cell? ⟨w.heap.size,3,none⟩=some (.int .i64 hk)∧W.cell? ⟨w.heap.size,4,none⟩=some (.string hn')∧W.cell? ⟨w.heap.size,5,none⟩=some (.int .i64 hm)∧W.cell? ⟨w.heap.size,6,none⟩=some (.int .i64 p0)∧W.cell? ⟨w.heap.size,7,none⟩=some (.int .i64 p1)∧W.cell? ⟨w.heap.size,8,none⟩=some (.int .i64 p2)∧W.cell? ⟨w.heap.size,9,none⟩=some (.int .i64 p3)∧W.cell? ⟨w.heap.size,10,none⟩=some (.int .i64 p4)∧W.cell? ⟨w.heap.size,11,none⟩=some (.int .i64 p5)∧W.cell? ⟨w.heap.size,12,none⟩=some (.int .i64 p6)∧W.cell? ⟨w.heap.size,13,none⟩=some (.int .i64 p7)∧W.cell? ⟨w.heap.size,14,none⟩=some (.int .i64 po)∧W.cell? ⟨w.heap.size,15,none⟩=some (.slice q m c)∧W.cell? ⟨w.heap.size,16,none⟩=some (.string op)∧W.cell? ⟨w.heap.size,17,none⟩=some (.string qu)∧W.cell? ⟨w.heap.size,18,none⟩=some (.string fg)∧W.cell? ⟨w.heap.size,19,none⟩=some (.bool hQ)∧W.cell? ⟨w.heap.size,20,none⟩=some (.bool hF))
   (first|exact url_row R7|exact url_row R6|exact url_row R5|exact url_row R4|exact url_row R3)
   (first|(go_at_call 33;refine(HW _).out.mono ?_;rintro e w9 ⟨rfl,rfl⟩)|(go_at_call 73;refine(HM _ (G.below (Below.drew B3))).out.mono ?_;rintro e w4 ⟨rfl,b4⟩;have R4:=kept b4 R3;have B4:=yD (Below.drew B3) b4)|(go_at_call_of 71 us;refine(HU _).out.mono ?_;rintro e w5 ⟨rfl,b5⟩;have R5:=kept b5 R4;have B5:=yD B4 b5)|(go_at_call_of 71 pa;refine(HA _).out.mono ?_;rintro e w6 ⟨rfl,b6⟩;have R6:=kept b6 R5;have B6:=yD B5 b6)|(go_at_call 74;refine(HP _ (G.below B6) (hp.below B6)).out.mono ?_;rintro e w7 ⟨rfl,b7⟩;have R7:=kept b7 R6;have B7:=yD B6 b7))
  all_goals go_wp2
  all_goals go_ret
  all_goals exact⟨ret_bool (by rw[HZ.out]),B7⟩
theorem zfF (u:Url) (pv:Value) (w:World) (G:Glob w) (hp:Strs w pv u.path) (hpn:u.path.length≤10000000) (hl:∀ p∈u.path,p.size≤1000000) (hq:u.query.size≤1000000) (hf:u.frag.size≤1000000) (hus:u.user.size≤1000000) (hpa:u.pass.size≤1000000) (hn:u.host.name.size≤1000000) (ho:u.opq.size≤1000000) :
  Calls Tryz.prog 32 #[.agg (urlC u pv)] w fun e w'=>e=.returned (.bool (urlMay u))∧Below w.heap.size w w':=by
 cases hbad:urlBad u with
 | true=>exact urlMay_bo u pv w G hp hq hf ho (.inl hbad)
 | false =>
  cases hop:opqB u.scheme with
  | true=>exact urlMay_bo u pv w G hp hq hf ho (.inr hop)
  | false =>
   by_cases t1:0 < webP u.scheme
   ·cases t2:mayH u.host with
    | false=>exact urlMay_w2 u pv w G hp hpn hl hq hf hus hpa hn hbad hop t1 t2
    | true =>
     cases t3:readyB 4 u.user with
     | false=>exact urlMay_w3 u pv w G hp hpn hl hq hf hus hpa hn hbad hop t1 t2 t3
     | true =>
      cases t4:readyB 4 u.pass with
      | false=>exact urlMay_w4 u pv w G hp hpn hl hq hf hus hpa hn hbad hop t1 t2 t3 t4
      | true =>
       cases t5:pathMay u.path with
       | false=>exact urlMay_w5 u pv w G hp hpn hl hq hf hus hpa hn hbad hop t1 t2 t3 t4 t5
       | true =>
        by_cases t6:u.opq.size=0
        ·by_cases t7:-1≤u.port
         ·by_cases t8:u.port≤65535
          ·by_cases t9:u.port≠webP u.scheme
           ·exact zfG u pv w G hp hpn hl hq hf hus hpa hn hbad hop t1 t2 t3 t4 t5 t6 t7 t8 t9
           ·exact urlMay_w9 u pv w G hp hpn hl hq hf hus hpa hn hbad hop t1 t2 t3 t4 t5 t6 t7 t8 (Decidable.not_not.1 t9)
          ·exact urlMay_w8 u pv w G hp hpn hl hq hf hus hpa hn hbad hop t1 t2 t3 t4 t5 t6 t7 t8
         ·exact urlMay_w7 u pv w G hp hpn hl hq hf hus hpa hn hbad hop t1 t2 t3 t4 t5 t6 t7
        ·exact urlMay_w6 u pv w G hp hpn hl hq hf hus hpa hn hbad hop t1 t2 t3 t4 t5 t6
   ·exact urlMay_w1 u pv w G hp hpn hl hq hf hus hpa hn hbad hop t1
end
section
open Go.RowKit
structure Url.Fits (u:Url):Prop where
 np:u.path.length≤10000000
 sp:∀ p∈u.path,p.size≤1000000
 q:u.query.size≤1000000
 f:u.frag.size≤1000000
 us:u.user.size≤1000000
 pa:u.pass.size≤1000000
 n:u.host.name.size≤1000000
 o:u.opq.size≤1000000
theorem zbN (u:Url) (pv:Value) (w:World) (G:Glob w) (hp:Strs w pv u.path) (hf:u.Fits) :
  Calls Tryz.prog 32 #[.agg (urlC u pv)] w fun e w'=>e=.returned (.bool (urlMay u))∧Below w.heap.size w w' :=
 zfF u pv w G hp hf.np hf.sp hf.q hf.f hf.us hf.pa hf.n hf.o
theorem zan:(Tryz.prog.info? 30).map (·.size)=some 14:=by kernel_rfl
def zfv:Orig:=⟨false,⟨#[]⟩,host0,0⟩
def zcF:Orig:=⟨true,⟨#[]⟩,host0,0⟩
theorem zbO (w:World):Calls Tryz.prog 34 #[] w fun e w'=>e=.returned (.agg (origC zcF))∧Below w.heap.size w w':=by
 go_enter Tryz.func34,Tryz.ntmps34
 have R:=row1 w (.cells (origC zfv) 30)
 go_wp2_with (first|((with_reducible (show wpList _ _ _ (Oper.mk none (.store 30 _ _) _ _ _ none::_) _ _));refine yJ rfl 30 _ _ rfl w.heap.size _ rfl rfl 30 _ R zan rfl (by simp[Value.oneCell']) ?_))
 refine yO (yT rfl _ _ _ _ _ (0,0) _ rfl (yH _ _ _ _ _ _ R) Tryz.underlying30 rfl zan) rfl ?_
 exact⟨rfl,yM (bel1 w _) (yV _)⟩
def zbc (o:Orig):Url:={ url0 with scheme:=o.scheme,host:=o.host,port:=o.port,path:=[⟨#[]⟩] }
theorem zb5 (o:Orig) (h:o.host.name.size≤1000000):(zbc o).Fits :=
 ⟨by simp[zbc],by intro p hp;simp[zbc] at hp;subst hp;decide,Nat.zero_le 1000000,Nat.zero_le 1000000,Nat.zero_le 1000000,Nat.zero_le 1000000,h,Nat.zero_le 1000000⟩
theorem zc9 {w:World} {g:Nat} {t:TypeId} {fr:Nat×Nat} {o:Orig} (h:w.heap[g]? = some (.cells (origC o) t fr)) :
  w.cell? ⟨g,0,none⟩=some (.bool o.opq)∧w.cell? ⟨g,1,none⟩=some (.string o.scheme)∧w.cell? ⟨g,2,none⟩=some (.int .i64 o.host.kind)∧w.cell? ⟨g,3,none⟩=some (.string o.host.name)∧w.cell? ⟨g,4,none⟩=some (.int .i64 o.host.num)∧w.cell? ⟨g,5,none⟩=some (.int .i64 o.host.six.p0)∧w.cell? ⟨g,6,none⟩=some (.int .i64 o.host.six.p1)∧w.cell? ⟨g,7,none⟩=some (.int .i64 o.host.six.p2)∧w.cell? ⟨g,8,none⟩=some (.int .i64 o.host.six.p3)∧w.cell? ⟨g,9,none⟩=some (.int .i64 o.host.six.p4)∧w.cell? ⟨g,10,none⟩=some (.int .i64 o.host.six.p5)∧w.cell? ⟨g,11,none⟩=some (.int .i64 o.host.six.p6)∧w.cell? ⟨g,12,none⟩=some (.int .i64 o.host.six.p7)∧w.cell? ⟨g,13,none⟩=some (.int .i64 o.port) :=
 ⟨yE h 0 _ rfl,yE h 1 _ rfl,yE h 2 _ rfl,yE h 3 _ rfl,yE h 4 _ rfl,yE h 5 _ rfl,yE h 6 _ rfl,yE h 7 _ rfl,yE h 8 _ rfl,yE h 9 _ rfl,yE h 10 _ rfl,yE h 11 _ rfl,yE h 12 _ rfl,yE h 13 _ rfl⟩
set_option maxHeartbeats 1000000 in
theorem zdJ (o:Orig) (w:World):Calls Tryz.prog 70 #[.agg (origC o)] w fun e w'=>∃ pv,e=.returned (.agg (urlC (zbc o) pv))∧Strs w' pv [⟨#[]⟩]∧Below w.heap.size w w':=by
 have R0:=row3a w (.cells (origC o) 30) (.cells (urlC url0 (.slice none 0 0)) 27) (.cells #[.string ⟨#[]⟩] 9)
 have R1:=row3b w (.cells (origC o) 30) (.cells (urlC url0 (.slice none 0 0)) 27) (.cells #[.string ⟨#[]⟩] 9)
 have R2:=row3c w (.cells (origC o) 30) (.cells (urlC url0 (.slice none 0 0)) 27) (.cells #[.string ⟨#[]⟩] 9)
 have B:=bel3 w (.cells (origC o) 30) (.cells (urlC url0 (.slice none 0 0)) 27) (.cells #[.string ⟨#[]⟩] 9)
 have R0':=row2a w (.cells (origC o) 30) (.cells (urlC url0 (.slice none 0 0)) 27)
 obtain⟨c0,c1,c2,c3,c4,c5,c6,c7,c8,c9,c10,c11,c12,c13⟩:=zc9 R0'
 clear R0 R0'
 go_enter Tryz.func70,Tryz.ntmps70
 go_wp2_with (first|((with_reducible (show wpList _ _ _ (Oper.mk none (.store 27 _ _) _ _ _ none::_) _ _));refine yJ rfl 27 _ _ rfl (w.heap.size + 1) _ rfl rfl 27 _ R1 yN rfl (by simp[Value.oneCell']) ?_))
 refine yO (yT rfl _ _ _ _ _ (0,0) _ rfl (yH _ _ _ _ _ _ R1) yB rfl yN) rfl ?_
 refine⟨_,rfl,.inr ⟨_,0,1,rfl,by decide,by unfold maxLen;decide,by simp[World.setRow],fun j hj=>?_⟩,yM B (by omega)⟩
 obtain rfl:j=0:=by simp at hj;omega
 exact yE ((yI _ _ _ _ (by omega)).trans R2) 0 _ rfl
def ofO (u:Url):Orig:=if (urlMay u && decide (webP u.scheme≠0))=true then ⟨false,u.scheme,u.host,u.port⟩ else zcF
set_option maxHeartbeats 1000000 in
theorem zaJ (u:Url) (pv:Value) (w:World) (G:Glob w) (hp:Strs w pv u.path) (hf:u.Fits) :
  Calls Tryz.prog 13 #[.agg (urlC u pv)] w fun e w'=>e=.returned (.agg (origC (ofO u)))∧Below w.heap.size w w':=by
 have R0:=row2a w (.cells (urlC u pv) 27) (.cells (origC zfv) 30)
 have S0:=row2b w (.cells (urlC u pv) 27) (.cells (origC zfv) 30)
 have B0:=bel2 w (.cells (urlC u pv) 27) (.cells (origC zfv) 30)
 have HM:=Lib.hid (zbN u pv _ (G.below B0) (hp.below B0) hf)
 have HW:=fun w'=>Lib.hid (web_any u.scheme w')
 have HO:Hid (ofO u=_):=ofO.eq_1 u
 obtain⟨q,m,c,rfl⟩:=hp.slice
 obtain⟨r,hr⟩:∃ r,r=ofO u:=⟨_,rfl⟩
 obtain⟨mb,hmb⟩:∃ mb,mb=urlMay u:=⟨_,rfl⟩
 rw[← hr,← hmb] at HO
 rw[← hr]
 rw[← hmb] at HM
 obtain⟨wv,hwv⟩:∃ wv,wv=webP u.scheme:=⟨_,rfl⟩
 rw[← hwv] at HO
 simp only[← hwv] at HW
 clear hr hmb hwv hf hp
 obtain⟨c0,c1,c2,c3,c4,c5,c6,c7,c8,c9,c10,c11,c12,c13,c14,c15,c16,c17,c18,c19,c20⟩:=url_cells R0
 go_enter Tryz.func13,Tryz.ntmps13
 go_wp2_with (first|((with_reducible (show wpList _ _ _ (Oper.mk _ (.load 27 _) _ _ _ none::_) _ _));refine yK rfl 27 _ rfl w.heap.size rfl 27 _ (0,0) _ R0 yB rfl yN ?_))
 refine HM.out.mono ?_
 rintro e w1 ⟨rfl,b1⟩
 have B1:=yD B0 b1
 have R1:=kept b1 R0
 have S1:=kept b1 S0
 clear c0 c1 c2 c3 c4 c5 c6 c7 c8 c9 c10 c11 c12 c13 c14 c15 c16 c17 c18 c19 c20
 obtain⟨c0,c1,c2,c3,c4,c5,c6,c7,c8,c9,c10,c11,c12,c13,c14,c15,c16,c17,c18,c19,c20⟩:=url_cells R1
 cases mb with
 | false =>
  have HZ:Hid (r=zcF):=HO.out
  go_wp2_with (first|(go_at_call 34;refine(zbO _).mono ?_;rintro e w2 ⟨rfl,b2⟩;have S2:=kept b2 S1;have B2:=yD B1 b2)|((with_reducible (show wpList _ _ _ (Oper.mk none (.store 30 _ _) _ _ _ none::_) _ _));refine yJ rfl 30 _ _ rfl (w.heap.size + 1) _ rfl rfl 30 _ S2 zan rfl (by simp[Value.oneCell']) ?_))
  refine yO (yT rfl _ _ _ _ _ (0,0) _ rfl (yH _ _ _ _ _ _ S2) Tryz.underlying30 rfl zan) rfl ⟨by rw[HZ.out],yM B2 (by omega)⟩
 | true =>
  by_cases h0:wv=0
  ·have HZ:Hid (r=zcF):=by show _=_;rw[HO.out,h0];rfl
   subst h0
   go_wp2_with (first|(go_at_call 33;refine(HW _).out.mono ?_;rintro e w2 ⟨rfl,rfl⟩)|(go_at_call 34;refine(zbO _).mono ?_;rintro e w2 ⟨rfl,b2⟩;have S2:=kept b2 S1;have B2:=yD B1 b2)|((with_reducible (show wpList _ _ _ (Oper.mk none (.store 30 _ _) _ _ _ none::_) _ _));refine yJ rfl 30 _ _ rfl (w.heap.size + 1) _ rfl rfl 30 _ S2 zan rfl (by simp[Value.oneCell']) ?_))
   refine yO (yT rfl _ _ _ _ _ (0,0) _ rfl (yH _ _ _ _ _ _ S2) Tryz.underlying30 rfl zan) rfl ⟨by rw[HZ.out],yM B2 (by omega)⟩
  ·have HZ:Hid (r=⟨false,u.scheme,u.host,u.port⟩):=by show _=_;rw[HO.out,if_pos (by simp[h0])]
   have h1:(wv == 0)=false:=by simp[h0]
   go_wp2_with (first|(go_at_call 33;refine(HW _).out.mono ?_;rintro e w2 ⟨rfl,rfl⟩)|((with_reducible (show wpList _ _ _ (Oper.mk none (.store 30 _ _) _ _ _ none::_) _ _));refine yJ rfl 30 _ _ rfl (w.heap.size + 1) _ rfl rfl 30 _ S1 zan rfl (by simp[Value.oneCell']) ?_))
   refine yO (yT rfl _ _ _ _ _ (0,0) _ rfl (yH _ _ _ _ _ _ S1) Tryz.underlying30 rfl zan) rfl ⟨by rw[HZ.out],yM B1 (by omega)⟩
def mayO (o:Orig):Bool:=if o.opq=true then decide (o=zcF) else decide (ofO (zbc o)=o)
theorem zep (w:World) (a b:Orig):(Op.equalIn 10000 30 (.agg (origC a)) (.agg (origC b))).run Tryz.prog w=.ok (decide (a=b)) w:=eq30 9994 w a b
theorem zbC {w:World} {g:Nat} {t:TypeId} {fr:Nat×Nat} {oq:Bool} {sc hn:ByteArray} {hk hm p0 p1 p2 p3 p4 p5 p6 p7 po:Int} (h:w.heap[g]? = some (.cells #[.bool oq,.string sc,.int .i64 hk,.string hn,.int .i64 hm,.int .i64 p0,.int .i64 p1,.int .i64 p2,.int .i64 p3,.int .i64 p4,.int .i64 p5,.int .i64 p6,.int .i64 p7,.int .i64 po] t fr)) :
  w.cell? ⟨g,0,none⟩=some (.bool oq)∧w.cell? ⟨g,1,none⟩=some (.string sc)∧w.cell? ⟨g,2,none⟩=some (.int .i64 hk)∧w.cell? ⟨g,3,none⟩=some (.string hn)∧w.cell? ⟨g,4,none⟩=some (.int .i64 hm)∧w.cell? ⟨g,5,none⟩=some (.int .i64 p0)∧w.cell? ⟨g,6,none⟩=some (.int .i64 p1)∧w.cell? ⟨g,7,none⟩=some (.int .i64 p2)∧w.cell? ⟨g,8,none⟩=some (.int .i64 p3)∧w.cell? ⟨g,9,none⟩=some (.int .i64 p4)∧w.cell? ⟨g,10,none⟩=some (.int .i64 p5)∧w.cell? ⟨g,11,none⟩=some (.int .i64 p6)∧w.cell? ⟨g,12,none⟩=some (.int .i64 p7)∧w.cell? ⟨g,13,none⟩=some (.int .i64 po) :=
 ⟨yE h 0 _ rfl,yE h 1 _ rfl,yE h 2 _ rfl,yE h 3 _ rfl,yE h 4 _ rfl,yE h 5 _ rfl,yE h 6 _ rfl,yE h 7 _ rfl,yE h 8 _ rfl,yE h 9 _ rfl,yE h 10 _ rfl,yE h 11 _ rfl,yE h 12 _ rfl,yE h 13 _ rfl⟩
set_option maxHeartbeats 1000000 in
theorem zdm (o:Orig) (w:World) (G:Glob w) (hn:o.host.name.size≤1000000) :
  Calls Tryz.prog 31 #[.agg (origC o)] w fun e w'=>e=.returned (.bool (mayO o))∧Below w.heap.size w w':=by
 have HM:Hid (mayO o=_):=mayO.eq_1 o
 obtain⟨r,hr⟩:∃ r,r=mayO o:=⟨_,rfl⟩
 rw[← hr] at HM ⊢
 clear hr
 cases ho:o.opq with
 | true =>
  have HZ:Hid (r=decide (o=zcF)):=by show _=_;rw[HM.out,if_pos ho]
  obtain⟨oq,sc,⟨hk,hnm,hm,⟨p0,p1,p2,p3,p4,p5,p6,p7⟩⟩,po⟩:=o
  simp only at ho
  subst ho
  obtain⟨q,hq⟩:∃ q,q=decide ((⟨true,sc,⟨hk,hnm,hm,⟨p0,p1,p2,p3,p4,p5,p6,p7⟩⟩,po⟩:Orig)=zcF):=⟨_,rfl⟩
  have heq:∀ w',(Op.equalIn 10000 30 (.agg #[.bool true,.string sc,.int .i64 hk,.string hnm,.int .i64 hm,.int .i64 p0,.int .i64 p1,.int .i64 p2,.int .i64 p3,.int .i64 p4,.int .i64 p5,.int .i64 p6,.int .i64 p7,.int .i64 po]) (.agg (origC zcF))).run Tryz.prog w'=.ok q w':=fun w'=>by rw[hq];exact zep w' ⟨true,sc,⟨hk,hnm,hm,⟨p0,p1,p2,p3,p4,p5,p6,p7⟩⟩,po⟩ zcF
  rw[← hq] at HZ
  clear hq HM
  have R0:=row1 w (.cells #[.bool true,.string sc,.int .i64 hk,.string hnm,.int .i64 hm,.int .i64 p0,.int .i64 p1,.int .i64 p2,.int .i64 p3,.int .i64 p4,.int .i64 p5,.int .i64 p6,.int .i64 p7,.int .i64 po] 30)
  have B0:=bel1 w (.cells #[.bool true,.string sc,.int .i64 hk,.string hnm,.int .i64 hm,.int .i64 p0,.int .i64 p1,.int .i64 p2,.int .i64 p3,.int .i64 p4,.int .i64 p5,.int .i64 p6,.int .i64 p7,.int .i64 po] 30)
  obtain⟨c0,c1,c2,c3,c4,c5,c6,c7,c8,c9,c10,c11,c12,c13⟩:=zbC R0
  go_enter Tryz.func31,Tryz.ntmps31
  go_wp2_with fail
  go_region_with (first|(go_at_call 34;refine(zbO _).mono ?_;rintro e w2 ⟨rfl,b2⟩;have S2:=kept b2 R0;have B2:=yD B0.drew b2;clear c0 c1 c2 c3 c4 c5 c6 c7 c8 c9 c10 c11 c12 c13;obtain⟨c0,c1,c2,c3,c4,c5,c6,c7,c8,c9,c10,c11,c12,c13⟩:=zbC S2))
  all_goals go_wp2
  all_goals go_ret
  all_goals exact⟨ret_bool (by rw[HZ.out]),B2⟩
 | false =>
  have HZ:Hid (r=decide (ofO (zbc o)=o)):=by show _=_;rw[HM.out,if_neg (by rw[ho];simp)]
  have hfit:=zb5 o hn
  obtain⟨FU,hFU⟩:∃ FU,FU=zbc o:=⟨_,rfl⟩
  have hfp:FU.path=[⟨#[]⟩]:=by rw[hFU];rfl
  have HFr:∀ w',Hid (Calls Tryz.prog 70 #[.agg (origC o)] w' fun e w''=>∃ pv,e=.returned (.agg (urlC FU pv))∧Strs w'' pv [⟨#[]⟩]∧Below w'.heap.size w' w''):=fun w'=>by rw[hFU];exact zdJ o w'
  rw[← hFU] at HZ hfit
  clear hFU HM
  obtain⟨X,hX⟩:∃ X,X=ofO FU:=⟨_,rfl⟩
  have HOf:∀ pv w',Glob w'→Strs w' pv [⟨#[]⟩]→Hid (Calls Tryz.prog 13 #[.agg (urlC FU pv)] w' fun e w''=>e=.returned (.agg (origC X))∧Below w'.heap.size w' w''):=fun pv w' g s=>by
   rw[hX];exact zaJ FU pv w' g (by rw[hfp];exact s) hfit
  rw[← hX] at HZ
  clear hX hfit hfp
  obtain⟨oq,sc,⟨hk,hnm,hm,⟨p0,p1,p2,p3,p4,p5,p6,p7⟩⟩,po⟩:=o
  simp only at ho
  subst ho
  obtain⟨q,hq⟩:∃ q,q=decide (X=(⟨false,sc,⟨hk,hnm,hm,⟨p0,p1,p2,p3,p4,p5,p6,p7⟩⟩,po⟩:Orig)):=⟨_,rfl⟩
  have heq:∀ w',(Op.equalIn 10000 30 (.agg (origC X)) (.agg #[.bool false,.string sc,.int .i64 hk,.string hnm,.int .i64 hm,.int .i64 p0,.int .i64 p1,.int .i64 p2,.int .i64 p3,.int .i64 p4,.int .i64 p5,.int .i64 p6,.int .i64 p7,.int .i64 po])).run Tryz.prog w'=.ok q w':=fun w'=>by rw[hq];exact zep w' X ⟨false,sc,⟨hk,hnm,hm,⟨p0,p1,p2,p3,p4,p5,p6,p7⟩⟩,po⟩
  rw[← hq] at HZ
  clear hq
  have R0:=row1 w (.cells #[.bool false,.string sc,.int .i64 hk,.string hnm,.int .i64 hm,.int .i64 p0,.int .i64 p1,.int .i64 p2,.int .i64 p3,.int .i64 p4,.int .i64 p5,.int .i64 p6,.int .i64 p7,.int .i64 po] 30)
  have B0:=bel1 w (.cells #[.bool false,.string sc,.int .i64 hk,.string hnm,.int .i64 hm,.int .i64 p0,.int .i64 p1,.int .i64 p2,.int .i64 p3,.int .i64 p4,.int .i64 p5,.int .i64 p6,.int .i64 p7,.int .i64 po] 30)
  obtain⟨c0,c1,c2,c3,c4,c5,c6,c7,c8,c9,c10,c11,c12,c13⟩:=zbC R0
  go_enter Tryz.func31,Tryz.ntmps31
  go_wp2_with fail
  go_region_with (first
   | (go_at_call 70;refine(HFr _).out.mono ?_;rintro e w2 ⟨pv,rfl,hst,b2⟩;have S2:=kept b2 R0;have B2:=yD B0.drew b2;clear c0 c1 c2 c3 c4 c5 c6 c7 c8 c9 c10 c11 c12 c13;obtain⟨c0,c1,c2,c3,c4,c5,c6,c7,c8,c9,c10,c11,c12,c13⟩:=zbC S2)
   | (go_at_call 13;refine(HOf pv _ (G.below B2) hst).out.mono ?_;rintro e w3 ⟨rfl,b3⟩;have S3:=kept b3 S2;have B3:=yD B2 b3;clear c0 c1 c2 c3 c4 c5 c6 c7 c8 c9 c10 c11 c12 c13;obtain⟨c0,c1,c2,c3,c4,c5,c6,c7,c8,c9,c10,c11,c12,c13⟩:=zbC S3))
  all_goals go_wp2
  all_goals go_ret
  all_goals exact⟨ret_bool (by rw[HZ.out]),B3⟩
end
section
open Go.RowKit
def sameO (a b:Orig):Bool:=mayO a && (!a.opq && decide (a=b))
set_option maxHeartbeats 1000000 in
theorem zbk (a b:Orig) (w:World) (G:Glob w) (hn:a.host.name.size≤1000000) :
  Calls Tryz.prog 12 #[.agg (origC a),.agg (origC b)] w fun e w'=>e=.returned (.bool (sameO a b))∧Below w.heap.size w w':=by
 have R0:=row2a w (.cells (origC a) 30) (.cells (origC b) 30)
 have S0:=row2b w (.cells (origC a) 30) (.cells (origC b) 30)
 have B0:=bel2 w (.cells (origC a) 30) (.cells (origC b) 30)
 have HM:=Lib.hid (zdm a _ (G.below B0) hn)
 have HE:Hid (sameO a b=_):=sameO.eq_1 a b
 obtain⟨r,hr⟩:∃ r,r=sameO a b:=⟨_,rfl⟩
 obtain⟨mb,hmb⟩:∃ mb,mb=mayO a:=⟨_,rfl⟩
 rw[← hr,← hmb] at HE
 rw[← hr]
 rw[← hmb] at HM
 clear hr hmb
 go_enter Tryz.func12,Tryz.ntmps12
 go_wp2_with (first|((with_reducible (show wpList _ _ _ (Oper.mk _ (.load 30 _) _ _ _ none::_) _ _));refine yK rfl 30 _ rfl w.heap.size rfl 30 _ (0,0) _ R0 Tryz.underlying30 rfl zan ?_))
 refine HM.out.mono ?_
 rintro e w1 ⟨rfl,b1⟩
 have B1:=yD B0 b1
 have R1:=kept b1 R0
 have S1:=kept b1 S0
 clear R0 S0 B0 HM b1
 cases mb with
 | false =>
  have HZ:Hid (r=false):=HE.out
  clear HE
  go_wp2
  go_ret
  exact⟨ret_bool (by rw[HZ.out]),B1⟩
 | true =>
  cases ho:a.opq with
  | true =>
   have HZ:Hid (r=false):=by show _=_;rw[HE.out,ho];rfl
   have c0:w1.cell? ⟨w.heap.size,0,none⟩=some (.bool a.opq):=yE R1 0 _ rfl
   rw[ho] at c0
   clear HE ho
   go_wp2
   go_ret
   exact⟨ret_bool (by rw[HZ.out]),B1⟩
  | false =>
   have HZ:Hid (r=decide (a=b)):=by show _=_;rw[HE.out,ho];rfl
   obtain⟨oq,sc,⟨hk,hnm,hm,⟨p0,p1,p2,p3,p4,p5,p6,p7⟩⟩,po⟩:=a
   simp only at ho
   subst ho
   obtain⟨q,hq⟩:∃ q,q=decide ((⟨false,sc,⟨hk,hnm,hm,⟨p0,p1,p2,p3,p4,p5,p6,p7⟩⟩,po⟩:Orig)=b):=⟨_,rfl⟩
   have heq:∀ w',(Op.equalIn 10000 30 (.agg #[.bool false,.string sc,.int .i64 hk,.string hnm,.int .i64 hm,.int .i64 p0,.int .i64 p1,.int .i64 p2,.int .i64 p3,.int .i64 p4,.int .i64 p5,.int .i64 p6,.int .i64 p7,.int .i64 po]) (.agg #[.bool b.opq,.string b.scheme,.int .i64 b.host.kind,.string b.host.name,.int .i64 b.host.num,.int .i64 b.host.six.p0,.int .i64 b.host.six.p1,.int .i64 b.host.six.p2,.int .i64 b.host.six.p3,.int .i64 b.host.six.p4,.int .i64 b.host.six.p5,.int .i64 b.host.six.p6,.int .i64 b.host.six.p7,.int .i64 b.port])).run Tryz.prog w'=.ok q w':=fun w'=>by rw[hq];exact zep w' ⟨false,sc,⟨hk,hnm,hm,⟨p0,p1,p2,p3,p4,p5,p6,p7⟩⟩,po⟩ b
   rw[← hq] at HZ
   clear hq HE
   obtain⟨c0,c1,c2,c3,c4,c5,c6,c7,c8,c9,c10,c11,c12,c13⟩:=zbC R1
   obtain⟨d0,d1,d2,d3,d4,d5,d6,d7,d8,d9,d10,d11,d12,d13⟩:=zc9 S1
   go_wp2
   go_ret
   exact⟨ret_bool (by rw[HZ.out]),B1⟩
theorem zac {w:World} {g:Nat} {t:TypeId} {fr:Nat×Nat} {cs:Array Value} (h:w.heap[g]? = some (.cells cs t fr)):w.rangeAt g 0 cs.toList:=fun j v hv=>by
 rw[Nat.zero_add];exact yE h j v (by simpa using hv)
theorem zat {ops:Array Oper} {S:World→Prop} {op:Oper} {a:Act} (b:Nat) (u:Url) (pv:Value) (hw:Region.wanted op (yielded ops a.tmps)=true) (x:Operand) (ho:op.op=.load 27 x) (hx:a.eval x=.pointer (some ⟨b,0,none⟩))
  (hS:∀ w,S w→w.heap[b]? = some (.cells (urlC u pv) 27 (0,0))):YieldsIf Tryz.prog ops S op (.agg (urlC u pv)) a :=
 yieldsIf_load_mid hw 27 x ho b 0 hx (urlC u pv).toList _ (fun w h=>zac (hS w h)) yB rfl yN
def bothU (a b:Url):Bool:=sameO (ofO a) (ofO b)
theorem zdp (u:Url) (h:u.host.name.size≤1000000):(ofO u).host.name.size≤1000000:=by
 unfold ofO
 split
 ·exact h
 ·exact Nat.zero_le _
set_option maxHeartbeats 1000000 in
theorem zbU (a b:Url) (pa pb:Value) (w:World) (G:Glob w) (hpa:Strs w pa a.path) (hpb:Strs w pb b.path) (fa:a.Fits) (fb:b.Fits) :
  Calls Tryz.prog 14 #[.agg (urlC a pa),.agg (urlC b pb)] w fun e w'=>e=.returned (.bool (bothU a b))∧Below w.heap.size w w':=by
 have R0:=row2a w (.cells (urlC a pa) 27) (.cells (urlC b pb) 27)
 have S0:=row2b w (.cells (urlC a pa) 27) (.cells (urlC b pb) 27)
 have B0:=bel2 w (.cells (urlC a pa) 27) (.cells (urlC b pb) 27)
 have HA:=fun w' g s=>Lib.hid (zaJ a pa w' g s fa)
 have HB:=fun w' g s=>Lib.hid (zaJ b pb w' g s fb)
 have hna:=zdp a fa.n
 have HE:Hid (bothU a b=_):=bothU.eq_1 a b
 obtain⟨r,hr⟩:∃ r,r=bothU a b:=⟨_,rfl⟩
 obtain⟨oa,hoa⟩:∃ x,x=ofO a:=⟨_,rfl⟩
 obtain⟨ob,hob⟩:∃ x,x=ofO b:=⟨_,rfl⟩
 simp only[← hr,← hoa,← hob] at HE HA HB hna ⊢
 clear hr hoa hob
 have HS:=fun w' g=>Lib.hid (zbk oa ob w' g hna)
 rw[← HE.out] at HS
 obtain⟨q,m,c,rfl⟩:=hpa.slice
 obtain⟨q',m',c',rfl⟩:=hpb.slice
 go_enter Tryz.func14,Tryz.ntmps14
 go_wp2_with fail
 refine yQ (S:=fun W=>W.heap[w.heap.size]? = some (.cells (urlC a (.slice q m c)) 27 (0,0))∧W.heap[w.heap.size + 1]? = some (.cells (urlC b (.slice q' m' c')) 27 (0,0))) (by kernel_rfl) ⟨R0,S0⟩ (fun h0=>?_)
 refine tk (i:=0) rfl (zat w.heap.size a (.slice q m c) (by rfl) _ rfl rfl (fun W h=>h.1)) h0 ?_
 simp only[Act.put,zA,zB,zC,zD,zE,zF]
 refine tk (i:=2) rfl (zat (w.heap.size + 1) b (.slice q' m' c') (by rfl) _ rfl rfl (fun W h=>h.2)) h0 ?_
 simp only[Act.put,zA,zB,zC,zD,zE,zF]
 refine zrd (i:=1) rfl (fun K hK=>?_)
 try simp only[zA,zB,zC]
 rw[if_pos (by rfl)]
 go_simp
 go_at_call 13
 refine(HA _ (G.below B0.drew) (hpa.below B0.drew)).out.mono ?_
 rintro e w1 ⟨rfl,b1⟩
 have R1:=kept b1 R0
 have S1:=kept b1 S0
 have B1:=yD B0.drew b1
 refine hK.out _ _ ⟨R1,S1⟩ (fun h0=>?_)
 clear hK K
 try simp only[Act.put,zA,zB,zC,zD,zE,zF]
 refine zrd (i:=3) rfl (fun K hK=>?_)
 try simp only[zA,zB,zC]
 rw[if_pos (by rfl)]
 go_simp
 go_at_call 13
 refine(HB _ (G.below B1) (hpb.below B1)).out.mono ?_
 rintro e w2 ⟨rfl,b2⟩
 have R2:=kept b2 R1
 have S2:=kept b2 S1
 have B2:=yD B1 b2
 refine hK.out _ _ ⟨R2,S2⟩ (fun h0=>?_)
 clear hK K
 try simp only[Act.put,zA,zB,zC,zD,zE,zF]
 refine zrd (i:=4) rfl (fun K hK=>?_)
 try simp only[zA,zB,zC]
 rw[if_pos (by rfl)]
 go_simp
 go_at_call 12
 refine(HS _ (G.below B2)).out.mono ?_
 rintro e w3 ⟨rfl,b3⟩
 have R3:=kept b3 R2
 have S3:=kept b3 S2
 have B3:=yD B2 b3
 refine hK.out _ _ ⟨R3,S3⟩ (fun h0=>?_)
 clear hK K
 try simp only[Act.put,zA,zB,zC,zD,zE,zF]
 refine tk (i:=5) (v:=?v) rfl (Or.inl ⟨by rfl,?hy⟩) h0 ?rest
 case hy =>
  intro W hW
  go_simp
  try with_reducible rfl
 simp only[Act.put,zA,zB,zC,zD,zE,zF]
 refine yX (by kernel_rfl) ?_ _
 go_wp2
 go_ret
 exact⟨rfl,B3⟩
end
end Go.Proofs.YtdlkjofnnefjfaaGreatDoor
