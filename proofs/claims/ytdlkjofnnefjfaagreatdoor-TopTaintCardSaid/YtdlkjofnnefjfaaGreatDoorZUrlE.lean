/- url.May of an address of the web: the walk for each first test that fails, and for none. -/
import Derived.Test.YtdlkjofnnefjfaaGreatDoorZUrlC
import Derived.Deep.RegionWith
set_option linter.all false
namespace Go.Proofs.YtdlkjofnnefjfaaGreatDoor
set_option maxRecDepth 100000
open Go.RowKit
set_option maxHeartbeats 4000000 in
theorem urlMay_w1 (u:Url) (pv:Value) (w:World) (G:Glob w) (hp:Strs w pv u.path) (hpn:u.path.length≤10000000) (hl:∀ p∈u.path,p.size≤1000000) (hq:u.query.size≤1000000) (hf:u.frag.size≤1000000) (hus:u.user.size≤1000000) (hpa:u.pass.size≤1000000) (hn:u.host.name.size≤1000000) (hbad:urlBad u=false) (hop:opqB u.scheme=false)  (t1:¬ 0 < webP u.scheme) :
  Calls Tryz.prog 32 #[.agg (urlC u pv)] w fun e w'=>e=.returned (.bool (urlMay u))∧Below w.heap.size w w':=by
 obtain⟨k1,k2,k3,k4⟩:=urlBad_no hbad
 have HZ:Hid (urlMay u=false):=by show _=_;rw[urlMay_web u hbad hop];simp[t1]
 obtain⟨may,hmay⟩:∃ may,may=urlMay u:=⟨_,rfl⟩
 rw[← hmay] at HZ ⊢
 clear hmay hbad
 have HQ:=fun w'=>Lib.hid (ready_enc u.query 2 w' (by omega) true (by rw[toList_data];exact k1))
 have HF:=fun w'=>Lib.hid (ready_enc u.frag 1 w' (by omega) true (by rw[toList_data];exact k2))
 have HO:=fun w'=>Lib.hid (opaque_any u.scheme w')
 rw[hop] at HO
 have HW:=fun w'=>Lib.hid (web_any u.scheme w')
 clear hop k1 k2
 obtain⟨wv,hwv⟩:∃ wv,wv=webP u.scheme:=⟨_,rfl⟩
 simp only[← hwv] at HW
 simp only[← hwv] at t1
 clear hwv
 replace t1:=decide_eq_false t1
 obtain⟨sc,us,pa,⟨hk,hn',hm,⟨p0,p1,p2,p3,p4,p5,p6,p7⟩⟩,po,pth,op,qu,fg,hQ,hF⟩:=u
 simp only at *
 obtain⟨q,m,c,rfl⟩:=hp.slice
 go_enter Tryz.func32,Tryz.ntmps32
 go_upto_region 1 with fail
 go_cut [32] from 3 to 32 (fun v wx=>v=.bool false∧wx.heap[w.heap.size]? = some (.cells #[.string sc,.string us,.string pa,.int .i64 hk,.string hn',.int .i64 hm,.int .i64 p0,.int .i64 p1,.int .i64 p2,.int .i64 p3,.int .i64 p4,.int .i64 p5,.int .i64 p6,.int .i64 p7,.int .i64 po,.slice q m c,.string op,.string qu,.string fg,.bool hQ,.bool hF] 27 (0,0))∧Below w.heap.size w wx)
 case first =>
  go_wp2_with fail
  refine(HQ _).out.mono ?_
  rintro e w1 ⟨rfl,b1⟩
  have B1:=bel_on (bel1 w _) b1
  have R1:=kept b1 (row1 w _)
  obtain⟨c0,c1,c2,c3,c4,c5,c6,c7,c8,c9,c10,c11,c12,c13,c14,c15,c16,c17,c18,c19,c20⟩:=url_row R1
  go_wp2_with fail
  refine(HF _).out.mono ?_
  rintro e w2 ⟨rfl,b2⟩
  have B2:=bel_on B1 b2
  have R2:=kept b2 R1
  clear c0 c1 c2 c3 c4 c5 c6 c7 c8 c9 c10 c11 c12 c13 c14 c15 c16 c17 c18 c19 c20 R1 b1 b2 B1
  obtain⟨c0,c1,c2,c3,c4,c5,c6,c7,c8,c9,c10,c11,c12,c13,c14,c15,c16,c17,c18,c19,c20⟩:=url_row R2
  have Hf:=Lib.hid k4
  rcases k3 with rfl|k3
  ·rcases k4 with rfl|k4
   ·go_wp2_with fail
    go_meet
    exact⟨rfl,R2,B2⟩
   ·have e4:fg.toList.isEmpty=true:=(empty_iff _).2 k4
    cases hF <;>
    ·go_wp2_with fail
     go_meet
     exact⟨rfl,R2,B2⟩
  ·have e3:qu.toList.isEmpty=true:=(empty_iff _).2 k3
   rcases k4 with rfl|k4
   ·cases hQ <;>
    ·go_wp2_with fail
     go_meet
     exact⟨rfl,R2,B2⟩
   ·have e4:fg.toList.isEmpty=true:=(empty_iff _).2 k4
    cases hF <;> cases hQ <;>
    ·go_wp2_with fail
     go_meet
     exact⟨rfl,R2,B2⟩
 case rest =>
  obtain⟨rfl,R,B⟩:=hcut
  clear HQ HF k3 k4
  obtain⟨c0,c1,c2,c3,c4,c5,c6,c7,c8,c9,c10,c11,c12,c13,c14,c15,c16,c17,c18,c19,c20⟩:=url_row R
  go_wp2_with fail
  refine(HO _).out.mono ?_
  rintro e w3 ⟨rfl,b3⟩
  have B3:=bel_on B b3
  have R3:=kept b3 R
  clear c0 c1 c2 c3 c4 c5 c6 c7 c8 c9 c10 c11 c12 c13 c14 c15 c16 c17 c18 c19 c20 R b3 HO
  obtain⟨c0,c1,c2,c3,c4,c5,c6,c7,c8,c9,c10,c11,c12,c13,c14,c15,c16,c17,c18,c19,c20⟩:=url_row R3
  go_wp2_with fail
  first|go_region_with (first|(go_at_call 33;refine(HW _).out.mono ?_;rintro e w9 ⟨rfl,rfl⟩))|fail
  all_goals go_wp2
  all_goals go_ret
  all_goals exact⟨ret_bool (by rw[HZ.out]),B3.drew⟩
set_option maxHeartbeats 4000000 in
theorem urlMay_w2 (u:Url) (pv:Value) (w:World) (G:Glob w) (hp:Strs w pv u.path) (hpn:u.path.length≤10000000) (hl:∀ p∈u.path,p.size≤1000000) (hq:u.query.size≤1000000) (hf:u.frag.size≤1000000) (hus:u.user.size≤1000000) (hpa:u.pass.size≤1000000) (hn:u.host.name.size≤1000000) (hbad:urlBad u=false) (hop:opqB u.scheme=false) (t1:0 < webP u.scheme) (t2:mayH u.host=false) :
  Calls Tryz.prog 32 #[.agg (urlC u pv)] w fun e w'=>e=.returned (.bool (urlMay u))∧Below w.heap.size w w':=by
 obtain⟨k1,k2,k3,k4⟩:=urlBad_no hbad
 have HZ:Hid (urlMay u=false):=by show _=_;rw[urlMay_web u hbad hop];simp[t1,t2]
 obtain⟨may,hmay⟩:∃ may,may=urlMay u:=⟨_,rfl⟩
 rw[← hmay] at HZ ⊢
 clear hmay hbad
 have HQ:=fun w'=>Lib.hid (ready_enc u.query 2 w' (by omega) true (by rw[toList_data];exact k1))
 have HF:=fun w'=>Lib.hid (ready_enc u.frag 1 w' (by omega) true (by rw[toList_data];exact k2))
 have HO:=fun w'=>Lib.hid (opaque_any u.scheme w')
 rw[hop] at HO
 have HW:=fun w'=>Lib.hid (web_any u.scheme w')
 have HM:=fun w' (g:Glob w')=>Lib.hid (hmay_any u.host w' g (by omega))
 rw[t2] at HM
 clear t2
 clear hop k1 k2
 obtain⟨wv,hwv⟩:∃ wv,wv=webP u.scheme:=⟨_,rfl⟩
 simp only[← hwv] at HW
 simp only[← hwv] at t1
 clear hwv
 replace t1:=decide_eq_true t1
 obtain⟨sc,us,pa,⟨hk,hn',hm,⟨p0,p1,p2,p3,p4,p5,p6,p7⟩⟩,po,pth,op,qu,fg,hQ,hF⟩:=u
 simp only at *
 obtain⟨q,m,c,rfl⟩:=hp.slice
 go_enter Tryz.func32,Tryz.ntmps32
 go_upto_region 1 with fail
 go_cut [32] from 3 to 32 (fun v wx=>v=.bool false∧wx.heap[w.heap.size]? = some (.cells #[.string sc,.string us,.string pa,.int .i64 hk,.string hn',.int .i64 hm,.int .i64 p0,.int .i64 p1,.int .i64 p2,.int .i64 p3,.int .i64 p4,.int .i64 p5,.int .i64 p6,.int .i64 p7,.int .i64 po,.slice q m c,.string op,.string qu,.string fg,.bool hQ,.bool hF] 27 (0,0))∧Below w.heap.size w wx)
 case first =>
  go_wp2_with fail
  refine(HQ _).out.mono ?_
  rintro e w1 ⟨rfl,b1⟩
  have B1:=bel_on (bel1 w _) b1
  have R1:=kept b1 (row1 w _)
  obtain⟨c0,c1,c2,c3,c4,c5,c6,c7,c8,c9,c10,c11,c12,c13,c14,c15,c16,c17,c18,c19,c20⟩:=url_row R1
  go_wp2_with fail
  refine(HF _).out.mono ?_
  rintro e w2 ⟨rfl,b2⟩
  have B2:=bel_on B1 b2
  have R2:=kept b2 R1
  clear c0 c1 c2 c3 c4 c5 c6 c7 c8 c9 c10 c11 c12 c13 c14 c15 c16 c17 c18 c19 c20 R1 b1 b2 B1
  obtain⟨c0,c1,c2,c3,c4,c5,c6,c7,c8,c9,c10,c11,c12,c13,c14,c15,c16,c17,c18,c19,c20⟩:=url_row R2
  have Hf:=Lib.hid k4
  rcases k3 with rfl|k3
  ·rcases k4 with rfl|k4
   ·go_wp2_with fail
    go_meet
    exact⟨rfl,R2,B2⟩
   ·have e4:fg.toList.isEmpty=true:=(empty_iff _).2 k4
    cases hF <;>
    ·go_wp2_with fail
     go_meet
     exact⟨rfl,R2,B2⟩
  ·have e3:qu.toList.isEmpty=true:=(empty_iff _).2 k3
   rcases k4 with rfl|k4
   ·cases hQ <;>
    ·go_wp2_with fail
     go_meet
     exact⟨rfl,R2,B2⟩
   ·have e4:fg.toList.isEmpty=true:=(empty_iff _).2 k4
    cases hF <;> cases hQ <;>
    ·go_wp2_with fail
     go_meet
     exact⟨rfl,R2,B2⟩
 case rest =>
  obtain⟨rfl,R,B⟩:=hcut
  clear HQ HF k3 k4
  obtain⟨c0,c1,c2,c3,c4,c5,c6,c7,c8,c9,c10,c11,c12,c13,c14,c15,c16,c17,c18,c19,c20⟩:=url_row R
  go_wp2_with fail
  refine(HO _).out.mono ?_
  rintro e w3 ⟨rfl,b3⟩
  have B3:=bel_on B b3
  have R3:=kept b3 R
  clear c0 c1 c2 c3 c4 c5 c6 c7 c8 c9 c10 c11 c12 c13 c14 c15 c16 c17 c18 c19 c20 R b3 HO
  obtain⟨c0,c1,c2,c3,c4,c5,c6,c7,c8,c9,c10,c11,c12,c13,c14,c15,c16,c17,c18,c19,c20⟩:=url_row R3
  go_wp2_with fail
  first|go_region_with (first|(go_at_call 33;refine(HW _).out.mono ?_;rintro e w9 ⟨rfl,rfl⟩)|(go_at_call 73;refine(HM _ (G.below (Below.drew B3))).out.mono ?_;rintro e w4 ⟨rfl,b4⟩;have R4:=kept b4 R3;have B4:=bel_on (Below.drew B3) b4;clear c0 c1 c2 c3 c4 c5 c6 c7 c8 c9 c10 c11 c12 c13 c14 c15 c16 c17 c18 c19 c20;obtain⟨c0,c1,c2,c3,c4,c5,c6,c7,c8,c9,c10,c11,c12,c13,c14,c15,c16,c17,c18,c19,c20⟩:=url_row R4))|fail
  all_goals go_wp2
  all_goals go_ret
  all_goals exact⟨ret_bool (by rw[HZ.out]),B4⟩
set_option maxHeartbeats 4000000 in
theorem urlMay_w3 (u:Url) (pv:Value) (w:World) (G:Glob w) (hp:Strs w pv u.path) (hpn:u.path.length≤10000000) (hl:∀ p∈u.path,p.size≤1000000) (hq:u.query.size≤1000000) (hf:u.frag.size≤1000000) (hus:u.user.size≤1000000) (hpa:u.pass.size≤1000000) (hn:u.host.name.size≤1000000) (hbad:urlBad u=false) (hop:opqB u.scheme=false) (t1:0 < webP u.scheme) (t2:mayH u.host=true) (t3:readyB 4 u.user=false) :
  Calls Tryz.prog 32 #[.agg (urlC u pv)] w fun e w'=>e=.returned (.bool (urlMay u))∧Below w.heap.size w w':=by
 obtain⟨k1,k2,k3,k4⟩:=urlBad_no hbad
 have HZ:Hid (urlMay u=false):=by show _=_;rw[urlMay_web u hbad hop];simp[t1,t2,t3]
 obtain⟨may,hmay⟩:∃ may,may=urlMay u:=⟨_,rfl⟩
 rw[← hmay] at HZ ⊢
 clear hmay hbad
 have HQ:=fun w'=>Lib.hid (ready_enc u.query 2 w' (by omega) true (by rw[toList_data];exact k1))
 have HF:=fun w'=>Lib.hid (ready_enc u.frag 1 w' (by omega) true (by rw[toList_data];exact k2))
 have HO:=fun w'=>Lib.hid (opaque_any u.scheme w')
 rw[hop] at HO
 have HW:=fun w'=>Lib.hid (web_any u.scheme w')
 have HM:=fun w' (g:Glob w')=>Lib.hid (hmay_any u.host w' g (by omega))
 rw[t2] at HM
 have HU:=fun w'=>Lib.hid (ready_enc u.user 4 w' (by omega) false (by rw[toList_data];exact t3))
 clear t2
 clear t3
 clear hop k1 k2
 obtain⟨wv,hwv⟩:∃ wv,wv=webP u.scheme:=⟨_,rfl⟩
 simp only[← hwv] at HW
 simp only[← hwv] at t1
 clear hwv
 replace t1:=decide_eq_true t1
 obtain⟨sc,us,pa,⟨hk,hn',hm,⟨p0,p1,p2,p3,p4,p5,p6,p7⟩⟩,po,pth,op,qu,fg,hQ,hF⟩:=u
 simp only at *
 obtain⟨q,m,c,rfl⟩:=hp.slice
 go_enter Tryz.func32,Tryz.ntmps32
 go_upto_region 1 with fail
 go_cut [32] from 3 to 32 (fun v wx=>v=.bool false∧wx.heap[w.heap.size]? = some (.cells #[.string sc,.string us,.string pa,.int .i64 hk,.string hn',.int .i64 hm,.int .i64 p0,.int .i64 p1,.int .i64 p2,.int .i64 p3,.int .i64 p4,.int .i64 p5,.int .i64 p6,.int .i64 p7,.int .i64 po,.slice q m c,.string op,.string qu,.string fg,.bool hQ,.bool hF] 27 (0,0))∧Below w.heap.size w wx)
 case first =>
  go_wp2_with fail
  refine(HQ _).out.mono ?_
  rintro e w1 ⟨rfl,b1⟩
  have B1:=bel_on (bel1 w _) b1
  have R1:=kept b1 (row1 w _)
  obtain⟨c0,c1,c2,c3,c4,c5,c6,c7,c8,c9,c10,c11,c12,c13,c14,c15,c16,c17,c18,c19,c20⟩:=url_row R1
  go_wp2_with fail
  refine(HF _).out.mono ?_
  rintro e w2 ⟨rfl,b2⟩
  have B2:=bel_on B1 b2
  have R2:=kept b2 R1
  clear c0 c1 c2 c3 c4 c5 c6 c7 c8 c9 c10 c11 c12 c13 c14 c15 c16 c17 c18 c19 c20 R1 b1 b2 B1
  obtain⟨c0,c1,c2,c3,c4,c5,c6,c7,c8,c9,c10,c11,c12,c13,c14,c15,c16,c17,c18,c19,c20⟩:=url_row R2
  have Hf:=Lib.hid k4
  rcases k3 with rfl|k3
  ·rcases k4 with rfl|k4
   ·go_wp2_with fail
    go_meet
    exact⟨rfl,R2,B2⟩
   ·have e4:fg.toList.isEmpty=true:=(empty_iff _).2 k4
    cases hF <;>
    ·go_wp2_with fail
     go_meet
     exact⟨rfl,R2,B2⟩
  ·have e3:qu.toList.isEmpty=true:=(empty_iff _).2 k3
   rcases k4 with rfl|k4
   ·cases hQ <;>
    ·go_wp2_with fail
     go_meet
     exact⟨rfl,R2,B2⟩
   ·have e4:fg.toList.isEmpty=true:=(empty_iff _).2 k4
    cases hF <;> cases hQ <;>
    ·go_wp2_with fail
     go_meet
     exact⟨rfl,R2,B2⟩
 case rest =>
  obtain⟨rfl,R,B⟩:=hcut
  clear HQ HF k3 k4
  obtain⟨c0,c1,c2,c3,c4,c5,c6,c7,c8,c9,c10,c11,c12,c13,c14,c15,c16,c17,c18,c19,c20⟩:=url_row R
  go_wp2_with fail
  refine(HO _).out.mono ?_
  rintro e w3 ⟨rfl,b3⟩
  have B3:=bel_on B b3
  have R3:=kept b3 R
  clear c0 c1 c2 c3 c4 c5 c6 c7 c8 c9 c10 c11 c12 c13 c14 c15 c16 c17 c18 c19 c20 R b3 HO
  obtain⟨c0,c1,c2,c3,c4,c5,c6,c7,c8,c9,c10,c11,c12,c13,c14,c15,c16,c17,c18,c19,c20⟩:=url_row R3
  go_wp2_with fail
  first|go_region_with (first|(go_at_call 33;refine(HW _).out.mono ?_;rintro e w9 ⟨rfl,rfl⟩)|(go_at_call 73;refine(HM _ (G.below (Below.drew B3))).out.mono ?_;rintro e w4 ⟨rfl,b4⟩;have R4:=kept b4 R3;have B4:=bel_on (Below.drew B3) b4;clear c0 c1 c2 c3 c4 c5 c6 c7 c8 c9 c10 c11 c12 c13 c14 c15 c16 c17 c18 c19 c20;obtain⟨c0,c1,c2,c3,c4,c5,c6,c7,c8,c9,c10,c11,c12,c13,c14,c15,c16,c17,c18,c19,c20⟩:=url_row R4)|(go_at_call_of 71 us;refine(HU _).out.mono ?_;rintro e w5 ⟨rfl,b5⟩;have R5:=kept b5 R4;have B5:=bel_on B4 b5;clear c0 c1 c2 c3 c4 c5 c6 c7 c8 c9 c10 c11 c12 c13 c14 c15 c16 c17 c18 c19 c20;obtain⟨c0,c1,c2,c3,c4,c5,c6,c7,c8,c9,c10,c11,c12,c13,c14,c15,c16,c17,c18,c19,c20⟩:=url_row R5))|fail
  all_goals go_wp2
  all_goals go_ret
  all_goals exact⟨ret_bool (by rw[HZ.out]),B5⟩
end Go.Proofs.YtdlkjofnnefjfaaGreatDoor
