/- Requests as plain data, how they lie in cells; the web's addresses; what was at another origin. Taints; whether nothing tells who asks. -/
import Derived.Test.YtdlkjofnnefjfaaGreatDoorZShort
import Derived.Test.YtdlkjofnnefjfaaGreatDoorZOrigA
set_option linter.all false
namespace Go.Proofs.YtdlkjofnnefjfaaGreatDoor
set_option maxRecDepth 100000
section
open Go.RowKit
abbrev Fld:=ByteArray×ByteArray
structure Req where
 url:Url
 method:ByteArray
 heads:List Fld
 body:Bool
 orig:Orig
 mode:Int
 redirect:Int
 policy:Int
 referrer:ByteArray
 tainted:Bool
 cross:Bool
 count:Int
abbrev reqC (r:Req) (pu hv:Value):Array Value:=#[.string r.url.scheme,.string r.url.user,.string r.url.pass,.int .i64 r.url.host.kind,.string r.url.host.name,.int .i64 r.url.host.num,.int .i64 r.url.host.six.p0,.int .i64 r.url.host.six.p1,.int .i64 r.url.host.six.p2,.int .i64 r.url.host.six.p3,.int .i64 r.url.host.six.p4,.int .i64 r.url.host.six.p5,.int .i64 r.url.host.six.p6,.int .i64 r.url.host.six.p7,.int .i64 r.url.port,pu,.string r.url.opq,.string r.url.query,.string r.url.frag,.bool r.url.hasQ,.bool r.url.hasF,.string r.method,hv,.bool r.body,.bool r.orig.opq,.string r.orig.scheme,.int .i64 r.orig.host.kind,.string r.orig.host.name,.int .i64 r.orig.host.num,.int .i64 r.orig.host.six.p0,.int .i64 r.orig.host.six.p1,.int .i64 r.orig.host.six.p2,.int .i64 r.orig.host.six.p3,.int .i64 r.orig.host.six.p4,.int .i64 r.orig.host.six.p5,.int .i64 r.orig.host.six.p6,.int .i64 r.orig.host.six.p7,.int .i64 r.orig.port,.int .i64 r.mode,.int .i64 r.redirect,.int .i64 r.policy,.string r.referrer,.bool r.tainted,.bool r.cross,.int .i64 r.count]
theorem zab:(Tryz.prog.info? 32).map (·.size)=some 45:=by kernel_rfl
def Flds (w:World) (v:Value) (l:List Fld):Prop :=
 (v=.slice none 0 0∧l=[])∨∃ b off cap,v=.slice (some ⟨b,off,none⟩) l.length cap∧l.length≤cap∧cap≤maxLen∧b < w.heap.size∧∀ j,j < l.length→w.cell? ⟨b,off + j * 2,none⟩=some (.string (l.getD j (⟨#[]⟩,⟨#[]⟩)).1)∧w.cell? ⟨b,off + j * 2 + 1,none⟩=some (.string (l.getD j (⟨#[]⟩,⟨#[]⟩)).2)
theorem Flds.below {w w':World} {v:Value} {l:List Fld} (h:Flds w v l) (hb:Below w.heap.size w w'):Flds w' v l:=by
 rcases h with h|⟨b,off,cap,hv,hl,hm,hlt,hc⟩
 ·exact .inl h
 ·exact .inr ⟨b,off,cap,hv,hl,hm,Nat.lt_of_lt_of_le hlt hb.size,fun j hj=>⟨(hb.cell (p:=⟨b,off + j * 2,none⟩) hlt).trans (hc j hj).1,(hb.cell (p:=⟨b,off + j * 2 + 1,none⟩) hlt).trans (hc j hj).2⟩⟩
theorem Flds.slice {w:World} {v:Value} {l:List Fld} (h:Flds w v l):∃ q m c,v=.slice q m c:=by
 rcases h with ⟨h,_⟩|⟨b,off,cap,h,_⟩
 ·exact⟨_,_,_,h⟩
 ·exact⟨_,_,_,h⟩
theorem zae {w:World} {g:Nat} {t:TypeId} {fr:Nat×Nat} {cs:Array Value} (h:w.heap[g]? = some (.cells cs t fr)) (o:Nat) (l:List Value) (hl:(cs.toList.drop o).take l.length=l):w.rangeAt g o l:=fun j v hv=>by
 refine yE h (o + j) v ?_
 have hj:j < l.length:=(List.getElem?_eq_some_iff.1 hv).1
 rw[← hl,List.getElem?_take,if_pos hj,List.getElem?_drop] at hv
 rwa [Array.getElem?_toList] at hv
theorem zaQ {ops:Array Oper} {S:World→Prop} {op:Oper} {a:Act} (b o:Nat) (u:Orig) (hw:Region.wanted op (yielded ops a.tmps)=true) (x:Operand) (ho:op.op=.load 30 x) (hx:a.eval x=.pointer (some ⟨b,o,none⟩))
  (hS:∀ w,S w→w.rangeAt b o (origC u).toList):YieldsIf Tryz.prog ops S op (.agg (origC u)) a :=
 yieldsIf_load_mid hw 30 x ho b o hx (origC u).toList _ hS Tryz.underlying30 rfl zan
theorem zao {ops:Array Oper} {S:World→Prop} {op:Oper} {a:Act} (b o:Nat) (u:Url) (pv:Value) (hw:Region.wanted op (yielded ops a.tmps)=true) (x:Operand) (ho:op.op=.load 27 x) (hx:a.eval x=.pointer (some ⟨b,o,none⟩))
  (hS:∀ w,S w→w.rangeAt b o (urlC u pv).toList):YieldsIf Tryz.prog ops S op (.agg (urlC u pv)) a :=
 yieldsIf_load_mid hw 27 x ho b o hx (urlC u pv).toList _ hS yB rfl yN
def webU (u:Url):Bool:=urlMay u && decide (0 < webP u.scheme)
set_option maxHeartbeats 1000000 in
theorem zdx (u:Url) (pv:Value) (w:World) (G:Glob w) (hp:Strs w pv u.path) (hf:u.Fits) :
  Calls Tryz.prog 23 #[.agg (urlC u pv)] w fun e w'=>e=.returned (.bool (webU u))∧Below w.heap.size w w':=by
 have R0:=row1 w (.cells (urlC u pv) 27)
 have B0:=bel1 w (.cells (urlC u pv) 27)
 have HM:=Lib.hid (zbN u pv _ (G.below B0) (hp.below B0) hf)
 have HW:=fun w'=>Lib.hid (web_any u.scheme w')
 have HO:Hid (webU u=_):=webU.eq_1 u
 obtain⟨r,hr⟩:∃ r,r=webU u:=⟨_,rfl⟩
 obtain⟨mb,hmb⟩:∃ mb,mb=urlMay u:=⟨_,rfl⟩
 rw[← hr,← hmb] at HO
 rw[← hr]
 rw[← hmb] at HM
 clear hr hmb hf hp
 go_enter Tryz.func23,Tryz.ntmps23
 go_wp2_with (first|((with_reducible (show wpList _ _ _ (Oper.mk _ (.load 27 _) _ _ _ none::_) _ _));refine yK rfl 27 _ rfl w.heap.size rfl 27 _ (0,0) _ R0 yB rfl yN ?_))
 refine HM.out.mono ?_
 rintro e w1 ⟨rfl,b1⟩
 have B1:=yD B0 b1
 have R1:=kept b1 R0
 have c0:w1.cell? ⟨w.heap.size,0,none⟩=some (.string u.scheme):=yE R1 0 _ rfl
 clear R0 R1 B0
 cases mb with
 | false =>
  have HZ:Hid (r=false):=HO.out
  go_wp2
  go_ret
  exact⟨ret_bool (by rw[HZ.out]),B1⟩
 | true =>
  have HZ:Hid (r=decide (0 < webP u.scheme)):=HO.out
  go_wp2_with (first|(go_at_call 33;refine(HW _).out.mono ?_;rintro e w2 ⟨rfl,rfl⟩))
  go_ret
  exact⟨ret_bool (by rw[HZ.out]),B1⟩
def zdG (u:Url):Bool:=!(u.user++u.pass).toList.isEmpty
theorem zfX (u:Url) (pv:Value) (w:World) (h1:u.user.size≤1000000) (h2:u.pass.size≤1000000) :
  Calls Tryz.prog 127 #[.agg (urlC u pv)] w fun e w'=>e=.returned (.bool (zdG u))∧Below w.heap.size w w':=by
 have R0:=row1 w (.cells (urlC u pv) 27)
 have B0:=bel1 w (.cells (urlC u pv) 27)
 have c1:=yE R0 1 _ rfl
 have c2:=yE R0 2 _ rfl
 have e1:1 + (u.user++u.pass).size≤9223372036854775807:=by rw[app_size];omega
 unfold zdG
 clear R0
 go_enter Tryz.func127,Tryz.ntmps127
 go_wp2
 go_ret
 exact⟨rfl,B0⟩
def crossedR (r:Req):Bool:=r.cross || (decide (r.mode=1) && !sameO r.orig (ofO r.url))
set_option maxHeartbeats 2000000 in
theorem zbp (r:Req) (pu hv:Value) (w:World) (G:Glob w) (hp:Strs w pu r.url.path) (hf:r.url.Fits) (hn:r.orig.host.name.size≤1000000) (hh:hv.oneCell'=true) :
  Calls Tryz.prog 36 #[.agg (reqC r pu hv)] w fun e w'=>e=.returned (.bool (crossedR r))∧Below w.heap.size w w':=by
 have R0:=row1 w (.cells (reqC r pu hv) 32)
 have B0:=bel1 w (.cells (reqC r pu hv) 32)
 have HA:=fun w' g s=>Lib.hid (zaJ r.url pu w' g s hf)
 have HS:=fun w' g=>Lib.hid (zbk r.orig (ofO r.url) w' g hn)
 have HE:Hid (crossedR r=_):=crossedR.eq_1 r
 obtain⟨x,hx⟩:∃ x,x=crossedR r:=⟨_,rfl⟩
 obtain⟨ou,hou⟩:∃ x,x=ofO r.url:=⟨_,rfl⟩
 simp only[← hx,← hou] at HE HA HS ⊢
 obtain⟨sb,hsb⟩:∃ x,x=sameO r.orig ou:=⟨_,rfl⟩
 simp only[← hsb] at HE HS
 clear hx hou hsb
 go_enter Tryz.func36,Tryz.ntmps36
 go_wp2_with fail
 cases hcr:r.cross with
 | true =>
  have HZ:Hid (x=true):=by show _=_;rw[HE.out,hcr];rfl
  clear HE
  refine yQ (S:=fun W=>W.heap[w.heap.size]? = some (.cells (reqC r pu hv) 32 (0,0))) (by kernel_rfl) R0 (fun h0=>?_)
  refine tk (i:=0) (v:=?v1) rfl (Or.inl ⟨by rfl,?y1⟩) h0 ?r1
  case y1 =>
   intro W hW
   go_simp
   try with_reducible rfl
  simp only[Act.put,zA,zB,zC,zD,zE,zF]
  refine tk (i:=1) (v:=?v2) rfl (Or.inl ⟨by rfl,?y2⟩) h0 ?r2
  case y2 =>
   intro W hW
   have c:=yE hW 43 _ rfl
   go_simp
   try with_reducible rfl
  simp only[Act.put,zA,zB,zC,zD,zE,zF]
  refine tk (i:=2) (v:=?v3) rfl (Or.inl ⟨by rfl,?y3⟩) h0 ?r3
  case y3 =>
   intro W hW
   go_simp
   try with_reducible rfl
  simp only[Act.put,zA,zB,zC,zD,zE,zF]
  refine tk (i:=3) rfl (Or.inr ⟨by rfl,rfl⟩) h0 ?_
  simp only[Act.put,zA,zB,zC,zD,zE,zF]
  refine tk (i:=4) rfl (Or.inr ⟨by rfl,rfl⟩) h0 ?_
  simp only[Act.put,zA,zB,zC,zD,zE,zF]
  refine tk (i:=5) rfl (Or.inr ⟨by rfl,rfl⟩) h0 ?_
  simp only[Act.put,zA,zB,zC,zD,zE,zF]
  refine tk (i:=6) rfl (Or.inr ⟨by rfl,rfl⟩) h0 ?_
  simp only[Act.put,zA,zB,zC,zD,zE,zF]
  refine tk (i:=7) rfl (Or.inr ⟨by rfl,rfl⟩) h0 ?_
  simp only[Act.put,zA,zB,zC,zD,zE,zF]
  refine tk (i:=8) rfl (Or.inr ⟨by rfl,rfl⟩) h0 ?_
  simp only[Act.put,zA,zB,zC,zD,zE,zF]
  refine tk (i:=9) rfl (Or.inr ⟨by rfl,rfl⟩) h0 ?_
  simp only[Act.put,zA,zB,zC,zD,zE,zF]
  refine tk (i:=10) rfl (Or.inr ⟨by rfl,rfl⟩) h0 ?_
  simp only[Act.put,zA,zB,zC,zD,zE,zF]
  refine tk (i:=11) rfl (Or.inr ⟨by rfl,rfl⟩) h0 ?_
  simp only[Act.put,zA,zB,zC,zD,zE,zF]
  refine tk (i:=12) rfl (Or.inr ⟨by rfl,rfl⟩) h0 ?_
  simp only[Act.put,zA,zB,zC,zD,zE,zF]
  refine tk (i:=13) rfl (Or.inr ⟨by rfl,rfl⟩) h0 ?_
  simp only[Act.put,zA,zB,zC,zD,zE,zF]
  refine tk (i:=14) rfl (Or.inr ⟨by rfl,rfl⟩) h0 ?_
  simp only[Act.put,zA,zB,zC,zD,zE,zF]
  refine tk (i:=15) (v:=?v4) rfl (Or.inl ⟨by rfl,?y4⟩) h0 ?r4
  case y4 =>
   intro W hW
   go_simp
   try with_reducible rfl
  simp only[Act.put,zA,zB,zC,zD,zE,zF]
  refine tk (i:=16) (v:=?v5) rfl (Or.inl ⟨by rfl,?y5⟩) h0 ?r5
  case y5 =>
   intro W hW
   go_simp
   try with_reducible rfl
  simp only[Act.put,zA,zB,zC,zD,zE,zF]
  refine yX (by kernel_rfl) ?_ _
  go_wp2
  go_ret
  exact⟨ret_bool (by rw[HZ.out]),B0.drew⟩
 | false =>
  by_cases hm:r.mode=1
  ·have HZ:Hid (x=!sb):=by show _=_;rw[HE.out,hcr,hm];rfl
   have hm1:(r.mode == 1)=true:=by simp[hm]
   clear HE hm
   refine yQ (S:=fun W=>W.heap[w.heap.size]? = some (.cells (reqC r pu hv) 32 (0,0))) (by kernel_rfl) R0 (fun h0=>?_)
   refine tk (i:=0) (v:=?v6) rfl (Or.inl ⟨by rfl,?y6⟩) h0 ?r6
   case y6 =>
    intro W hW
    go_simp
    try with_reducible rfl
   simp only[Act.put,zA,zB,zC,zD,zE,zF]
   refine tk (i:=1) (v:=?v7) rfl (Or.inl ⟨by rfl,?y7⟩) h0 ?r7
   case y7 =>
    intro W hW
    have c:=yE hW 43 _ rfl
    go_simp
    try with_reducible rfl
   simp only[Act.put,zA,zB,zC,zD,zE,zF]
   refine tk (i:=2) (v:=?v8) rfl (Or.inl ⟨by rfl,?y8⟩) h0 ?r8
   case y8 =>
    intro W hW
    go_simp
    try with_reducible rfl
   simp only[Act.put,zA,zB,zC,zD,zE,zF]
   refine tk (i:=3) (v:=?v9) rfl (Or.inl ⟨by rfl,?y9⟩) h0 ?r9
   case y9 =>
    intro W hW
    go_simp
    try with_reducible rfl
   simp only[Act.put,zA,zB,zC,zD,zE,zF]
   refine tk (i:=4) (v:=?v10) rfl (Or.inl ⟨by rfl,?y10⟩) h0 ?r10
   case y10 =>
    intro W hW
    have c:=yE hW 38 _ rfl
    go_simp
    try with_reducible rfl
   simp only[Act.put,zA,zB,zC,zD,zE,zF]
   refine tk (i:=5) (v:=?v11) rfl (Or.inl ⟨by rfl,?y11⟩) h0 ?r11
   case y11 =>
    intro W hW
    go_simp
    try with_reducible rfl
   simp only[Act.put,zA,zB,zC,zD,zE,zF]
   refine tk (i:=6) (v:=?v12) rfl (Or.inl ⟨by rfl,?y12⟩) h0 ?r12
   case y12 =>
    intro W hW
    go_simp
    try with_reducible rfl
   simp only[Act.put,zA,zB,zC,zD,zE,zF]
   refine tk (i:=7) (v:=?v13) rfl (Or.inl ⟨by rfl,?y13⟩) h0 ?r13
   case y13 =>
    intro W hW
    go_simp
    try with_reducible rfl
   simp only[Act.put,zA,zB,zC,zD,zE,zF]
   refine tk (i:=8) rfl (zaQ w.heap.size 24 r.orig (by rfl) _ rfl rfl (fun W h=>zae h 24 _ rfl)) h0 ?_
   simp only[Act.put,zA,zB,zC,zD,zE,zF]
   refine tk (i:=9) (v:=?v14) rfl (Or.inl ⟨by rfl,?y14⟩) h0 ?r14
   case y14 =>
    intro W hW
    go_simp
    try with_reducible rfl
   simp only[Act.put,zA,zB,zC,zD,zE,zF]
   refine tk (i:=10) rfl (zao w.heap.size 0 r.url pu (by rfl) _ rfl rfl (fun W h=>zae h 0 _ rfl)) h0 ?_
   simp only[Act.put,zA,zB,zC,zD,zE,zF]
   refine zrd (i:=11) rfl (fun K hK=>?_)
   try simp only[zA,zB,zC]
   rw[if_pos (by rfl)]
   go_simp
   go_at_call 13
   refine(HA _ (G.below B0.drew) (hp.below B0.drew)).out.mono ?_
   rintro e w1 ⟨rfl,b1⟩
   have R1:=kept b1 R0
   have B1:=yD B0.drew b1
   refine hK.out _ _ R1 (fun h0=>?_)
   clear hK K
   try simp only[Act.put,zA,zB,zC,zD,zE,zF]
   refine zrd (i:=12) rfl (fun K hK=>?_)
   try simp only[zA,zB,zC]
   rw[if_pos (by rfl)]
   go_simp
   go_at_call 12
   refine(HS _ (G.below B1)).out.mono ?_
   rintro e w2 ⟨rfl,b2⟩
   have R2:=kept b2 R1
   have B2:=yD B1 b2
   refine hK.out _ _ R2 (fun h0=>?_)
   clear hK K
   try simp only[Act.put,zA,zB,zC,zD,zE,zF]
   refine tk (i:=13) (v:=?v15) rfl (Or.inl ⟨by rfl,?y15⟩) h0 ?r15
   case y15 =>
    intro W hW
    go_simp
    try with_reducible rfl
   simp only[Act.put,zA,zB,zC,zD,zE,zF]
   refine tk (i:=14) (v:=?v16) rfl (Or.inl ⟨by rfl,?y16⟩) h0 ?r16
   case y16 =>
    intro W hW
    go_simp
    try with_reducible rfl
   simp only[Act.put,zA,zB,zC,zD,zE,zF]
   refine tk (i:=15) (v:=?v17) rfl (Or.inl ⟨by rfl,?y17⟩) h0 ?r17
   case y17 =>
    intro W hW
    go_simp
    try with_reducible rfl
   simp only[Act.put,zA,zB,zC,zD,zE,zF]
   refine tk (i:=16) (v:=?v18) rfl (Or.inl ⟨by rfl,?y18⟩) h0 ?r18
   case y18 =>
    intro W hW
    go_simp
    try with_reducible rfl
   simp only[Act.put,zA,zB,zC,zD,zE,zF]
   refine yX (by kernel_rfl) ?_ _
   go_wp2
   go_ret
   exact⟨ret_bool (by rw[HZ.out]),B2⟩
  ·have HZ:Hid (x=false):=by show _=_;rw[HE.out,hcr,decide_eq_false hm];rfl
   have hm1:(r.mode == 1)=false:=by simp[hm]
   clear HE hm
   refine yQ (S:=fun W=>W.heap[w.heap.size]? = some (.cells (reqC r pu hv) 32 (0,0))) (by kernel_rfl) R0 (fun h0=>?_)
   refine tk (i:=0) (v:=?v19) rfl (Or.inl ⟨by rfl,?y19⟩) h0 ?r19
   case y19 =>
    intro W hW
    go_simp
    try with_reducible rfl
   simp only[Act.put,zA,zB,zC,zD,zE,zF]
   refine tk (i:=1) (v:=?v20) rfl (Or.inl ⟨by rfl,?y20⟩) h0 ?r20
   case y20 =>
    intro W hW
    have c:=yE hW 43 _ rfl
    go_simp
    try with_reducible rfl
   simp only[Act.put,zA,zB,zC,zD,zE,zF]
   refine tk (i:=2) (v:=?v21) rfl (Or.inl ⟨by rfl,?y21⟩) h0 ?r21
   case y21 =>
    intro W hW
    go_simp
    try with_reducible rfl
   simp only[Act.put,zA,zB,zC,zD,zE,zF]
   refine tk (i:=3) (v:=?v22) rfl (Or.inl ⟨by rfl,?y22⟩) h0 ?r22
   case y22 =>
    intro W hW
    go_simp
    try with_reducible rfl
   simp only[Act.put,zA,zB,zC,zD,zE,zF]
   refine tk (i:=4) (v:=?v23) rfl (Or.inl ⟨by rfl,?y23⟩) h0 ?r23
   case y23 =>
    intro W hW
    have c:=yE hW 38 _ rfl
    go_simp
    try with_reducible rfl
   simp only[Act.put,zA,zB,zC,zD,zE,zF]
   refine tk (i:=5) (v:=?v24) rfl (Or.inl ⟨by rfl,?y24⟩) h0 ?r24
   case y24 =>
    intro W hW
    go_simp
    try with_reducible rfl
   simp only[Act.put,zA,zB,zC,zD,zE,zF]
   refine tk (i:=6) (v:=?v25) rfl (Or.inl ⟨by rfl,?y25⟩) h0 ?r25
   case y25 =>
    intro W hW
    go_simp
    try with_reducible rfl
   simp only[Act.put,zA,zB,zC,zD,zE,zF]
   refine tk (i:=7) rfl (Or.inr ⟨by rfl,rfl⟩) h0 ?_
   simp only[Act.put,zA,zB,zC,zD,zE,zF]
   refine tk (i:=8) rfl (Or.inr ⟨by rfl,rfl⟩) h0 ?_
   simp only[Act.put,zA,zB,zC,zD,zE,zF]
   refine tk (i:=9) rfl (Or.inr ⟨by rfl,rfl⟩) h0 ?_
   simp only[Act.put,zA,zB,zC,zD,zE,zF]
   refine tk (i:=10) rfl (Or.inr ⟨by rfl,rfl⟩) h0 ?_
   simp only[Act.put,zA,zB,zC,zD,zE,zF]
   refine tk (i:=11) rfl (Or.inr ⟨by rfl,rfl⟩) h0 ?_
   simp only[Act.put,zA,zB,zC,zD,zE,zF]
   refine tk (i:=12) rfl (Or.inr ⟨by rfl,rfl⟩) h0 ?_
   simp only[Act.put,zA,zB,zC,zD,zE,zF]
   refine tk (i:=13) rfl (Or.inr ⟨by rfl,rfl⟩) h0 ?_
   simp only[Act.put,zA,zB,zC,zD,zE,zF]
   refine tk (i:=14) (v:=?v26) rfl (Or.inl ⟨by rfl,?y26⟩) h0 ?r26
   case y26 =>
    intro W hW
    go_simp
    try with_reducible rfl
   simp only[Act.put,zA,zB,zC,zD,zE,zF]
   refine tk (i:=15) (v:=?v27) rfl (Or.inl ⟨by rfl,?y27⟩) h0 ?r27
   case y27 =>
    intro W hW
    go_simp
    try with_reducible rfl
   simp only[Act.put,zA,zB,zC,zD,zE,zF]
   refine tk (i:=16) (v:=?v28) rfl (Or.inl ⟨by rfl,?y28⟩) h0 ?r28
   case y28 =>
    intro W hW
    go_simp
    try with_reducible rfl
   simp only[Act.put,zA,zB,zC,zD,zE,zF]
   refine yX (by kernel_rfl) ?_ _
   go_wp2
   go_ret
   exact⟨ret_bool (by rw[HZ.out]),B0.drew⟩
end
section
open Go.RowKit
theorem zaa {ops:Array Oper} {rest:List Oper} {o:Oper} {a:Act} {w:World} {Q:Exit→Act→World→Prop} (hw:Region.wanted o (yielded ops a.tmps)=true) (ty:TypeId) (x:Operand) (ho:o.op=.load ty x)
  (b off:Nat) (hx:a.eval x=.pointer (some ⟨b,off,none⟩)) (cs:Array Value) (d:TypeDesc) (hr:w.rangeAt b off cs.toList)
  (hu:Tryz.prog.underlying ty=some d) (hd:d.isRow=true) (hi:(Tryz.prog.info? ty).map (·.size)=some cs.size)
  (h:wpList Tryz.prog ops Q rest (a.put o.dst (.agg cs)) w):wpList Tryz.prog ops Q (o::rest) a w :=
 BigFrame.wpList_want hw fun _ hK=>wp_load_mid ty x ho b off hx cs.toList d hr hu hd (by rw[hi];simp) (by rw[Array.toArray_toList];exact hK _ _ h)
def taintR (was:Bool) (o:Orig) (cur next:Url):Bool:=was || (!bothU cur next && !sameO o (ofO cur))
set_option maxHeartbeats 2000000 in
theorem zd7 (was:Bool) (o:Orig) (a b:Url) (pa pb:Value) (w:World) (G:Glob w) (hpa:Strs w pa a.path) (hpb:Strs w pb b.path) (fa:a.Fits) (fb:b.Fits) (hn:o.host.name.size≤1000000) :
  Calls Tryz.prog 185 #[.bool was,.agg (origC o),.agg (urlC a pa),.agg (urlC b pb)] w fun e w'=>e=.returned (.bool (taintR was o a b))∧Below w.heap.size w w':=by
 have R0:=row3a w (.cells (origC o) 30) (.cells (urlC a pa) 27) (.cells (urlC b pb) 27)
 have S0:=row3b w (.cells (origC o) 30) (.cells (urlC a pa) 27) (.cells (urlC b pb) 27)
 have T0:=row3c w (.cells (origC o) 30) (.cells (urlC a pa) 27) (.cells (urlC b pb) 27)
 have B0:=bel3 w (.cells (origC o) 30) (.cells (urlC a pa) 27) (.cells (urlC b pb) 27)
 have HB:=fun w' g s t=>Lib.hid (zbU a b pa pb w' g s t fa fb)
 have HA:=fun w' g s=>Lib.hid (zaJ a pa w' g s fa)
 have HS:=fun w' g=>Lib.hid (zbk o (ofO a) w' g hn)
 have HE:Hid (taintR was o a b=_):=taintR.eq_1 was o a b
 obtain⟨x,hx⟩:∃ x,x=taintR was o a b:=⟨_,rfl⟩
 obtain⟨ou,hou⟩:∃ x,x=ofO a:=⟨_,rfl⟩
 simp only[← hx,← hou] at HE HA HS ⊢
 obtain⟨sb,hsb⟩:∃ x,x=sameO o ou:=⟨_,rfl⟩
 obtain⟨bb,hbb⟩:∃ x,x=bothU a b:=⟨_,rfl⟩
 simp only[← hsb,← hbb] at HE HS HB
 clear hx hou hsb hbb
 go_enter Tryz.func185,Tryz.ntmps185
 go_wp2_with fail
 cases was with
 | true =>
  have HZ:Hid (x=true):=HE.out
  clear HE
  refine yQ (S:=fun W=>W.heap[w.heap.size]? = some (.cells (origC o) 30 (0,0))∧W.heap[w.heap.size + 1]? = some (.cells (urlC a pa) 27 (0,0))∧W.heap[w.heap.size + 1 + 1]? = some (.cells (urlC b pb) 27 (0,0))) (by kernel_rfl) ⟨R0,S0,T0⟩ (fun h0=>?_)
  refine tk (i:=0) (v:=?v1) rfl (Or.inl ⟨by rfl,?y1⟩) h0 ?r1
  case y1 =>
   intro W hW
   go_simp
   try with_reducible rfl
  simp only[Act.put,zA,zB,zC,zD,zE,zF]
  refine tk (i:=1) (v:=?v2) rfl (Or.inl ⟨by rfl,?y2⟩) h0 ?r2
  case y2 =>
   intro W hW
   go_simp
   try with_reducible rfl
  simp only[Act.put,zA,zB,zC,zD,zE,zF]
  refine tk (i:=2) rfl (Or.inr ⟨by rfl,rfl⟩) h0 ?_
  simp only[Act.put,zA,zB,zC,zD,zE,zF]
  refine tk (i:=3) rfl (Or.inr ⟨by rfl,rfl⟩) h0 ?_
  simp only[Act.put,zA,zB,zC,zD,zE,zF]
  refine tk (i:=4) rfl (Or.inr ⟨by rfl,rfl⟩) h0 ?_
  simp only[Act.put,zA,zB,zC,zD,zE,zF]
  refine tk (i:=5) rfl (Or.inr ⟨by rfl,rfl⟩) h0 ?_
  simp only[Act.put,zA,zB,zC,zD,zE,zF]
  refine tk (i:=6) rfl (Or.inr ⟨by rfl,rfl⟩) h0 ?_
  simp only[Act.put,zA,zB,zC,zD,zE,zF]
  refine tk (i:=7) rfl (Or.inr ⟨by rfl,rfl⟩) h0 ?_
  simp only[Act.put,zA,zB,zC,zD,zE,zF]
  refine tk (i:=8) rfl (Or.inr ⟨by rfl,rfl⟩) h0 ?_
  simp only[Act.put,zA,zB,zC,zD,zE,zF]
  refine tk (i:=9) rfl (Or.inr ⟨by rfl,rfl⟩) h0 ?_
  simp only[Act.put,zA,zB,zC,zD,zE,zF]
  refine tk (i:=10) rfl (Or.inr ⟨by rfl,rfl⟩) h0 ?_
  simp only[Act.put,zA,zB,zC,zD,zE,zF]
  refine tk (i:=11) rfl (Or.inr ⟨by rfl,rfl⟩) h0 ?_
  simp only[Act.put,zA,zB,zC,zD,zE,zF]
  refine tk (i:=12) rfl (Or.inr ⟨by rfl,rfl⟩) h0 ?_
  simp only[Act.put,zA,zB,zC,zD,zE,zF]
  refine tk (i:=13) (v:=?v3) rfl (Or.inl ⟨by rfl,?y3⟩) h0 ?r3
  case y3 =>
   intro W hW
   go_simp
   try with_reducible rfl
  simp only[Act.put,zA,zB,zC,zD,zE,zF]
  refine tk (i:=14) (v:=?v4) rfl (Or.inl ⟨by rfl,?y4⟩) h0 ?r4
  case y4 =>
   intro W hW
   go_simp
   try with_reducible rfl
  simp only[Act.put,zA,zB,zC,zD,zE,zF]
  refine yX (by kernel_rfl) ?_ _
  go_wp2
  go_ret
  exact⟨ret_bool (by rw[HZ.out]),B0.drew⟩
 | false =>
  cases bb with
  | true =>
   have HZ:Hid (x=false):=HE.out
   clear HE
   refine yQ (S:=fun W=>W.heap[w.heap.size]? = some (.cells (origC o) 30 (0,0))∧W.heap[w.heap.size + 1]? = some (.cells (urlC a pa) 27 (0,0))∧W.heap[w.heap.size + 1 + 1]? = some (.cells (urlC b pb) 27 (0,0))) (by kernel_rfl) ⟨R0,S0,T0⟩ (fun h0=>?_)
   refine tk (i:=0) (v:=?v5) rfl (Or.inl ⟨by rfl,?y5⟩) h0 ?r5
   case y5 =>
    intro W hW
    go_simp
    try with_reducible rfl
   simp only[Act.put,zA,zB,zC,zD,zE,zF]
   refine tk (i:=1) (v:=?v6) rfl (Or.inl ⟨by rfl,?y6⟩) h0 ?r6
   case y6 =>
    intro W hW
    go_simp
    try with_reducible rfl
   simp only[Act.put,zA,zB,zC,zD,zE,zF]
   refine tk (i:=2) rfl (zat (w.heap.size + 1) a pa (by rfl) _ rfl rfl (fun W h=>h.2.1)) h0 ?_
   simp only[Act.put,zA,zB,zC,zD,zE,zF]
   refine tk (i:=3) rfl (zat (w.heap.size + 1 + 1) b pb (by rfl) _ rfl rfl (fun W h=>h.2.2)) h0 ?_
   simp only[Act.put,zA,zB,zC,zD,zE,zF]
   refine zrd (i:=4) rfl (fun K hK=>?_)
   try simp only[zA,zB,zC]
   rw[if_pos (by rfl)]
   go_simp
   go_at_call 14
   refine(HB _ (G.below B0.drew) (hpa.below B0.drew) (hpb.below B0.drew)).out.mono ?_
   rintro e w1 ⟨rfl,b1⟩
   have R1:=kept b1 R0
   have S1:=kept b1 S0
   have T1:=kept b1 T0
   have B1:=yD B0.drew b1
   refine hK.out _ _ ⟨R1,S1,T1⟩ (fun h0=>?_)
   clear hK K
   try simp only[Act.put,zA,zB,zC,zD,zE,zF]
   refine tk (i:=5) (v:=?v7) rfl (Or.inl ⟨by rfl,?y7⟩) h0 ?r7
   case y7 =>
    intro W hW
    go_simp
    try with_reducible rfl
   simp only[Act.put,zA,zB,zC,zD,zE,zF]
   refine tk (i:=6) (v:=?v8) rfl (Or.inl ⟨by rfl,?y8⟩) h0 ?r8
   case y8 =>
    intro W hW
    go_simp
    try with_reducible rfl
   simp only[Act.put,zA,zB,zC,zD,zE,zF]
   refine tk (i:=7) rfl (Or.inr ⟨by rfl,rfl⟩) h0 ?_
   simp only[Act.put,zA,zB,zC,zD,zE,zF]
   refine tk (i:=8) rfl (Or.inr ⟨by rfl,rfl⟩) h0 ?_
   simp only[Act.put,zA,zB,zC,zD,zE,zF]
   refine tk (i:=9) rfl (Or.inr ⟨by rfl,rfl⟩) h0 ?_
   simp only[Act.put,zA,zB,zC,zD,zE,zF]
   refine tk (i:=10) rfl (Or.inr ⟨by rfl,rfl⟩) h0 ?_
   simp only[Act.put,zA,zB,zC,zD,zE,zF]
   refine tk (i:=11) rfl (Or.inr ⟨by rfl,rfl⟩) h0 ?_
   simp only[Act.put,zA,zB,zC,zD,zE,zF]
   refine tk (i:=12) (v:=?v9) rfl (Or.inl ⟨by rfl,?y9⟩) h0 ?r9
   case y9 =>
    intro W hW
    go_simp
    try with_reducible rfl
   simp only[Act.put,zA,zB,zC,zD,zE,zF]
   refine tk (i:=13) (v:=?v10) rfl (Or.inl ⟨by rfl,?y10⟩) h0 ?r10
   case y10 =>
    intro W hW
    go_simp
    try with_reducible rfl
   simp only[Act.put,zA,zB,zC,zD,zE,zF]
   refine tk (i:=14) (v:=?v11) rfl (Or.inl ⟨by rfl,?y11⟩) h0 ?r11
   case y11 =>
    intro W hW
    go_simp
    try with_reducible rfl
   simp only[Act.put,zA,zB,zC,zD,zE,zF]
   refine yX (by kernel_rfl) ?_ _
   go_wp2
   go_ret
   exact⟨ret_bool (by rw[HZ.out]),B1⟩
  | false =>
   have HZ:Hid (x=!sb):=HE.out
   clear HE
   refine yQ (S:=fun W=>W.heap[w.heap.size]? = some (.cells (origC o) 30 (0,0))∧W.heap[w.heap.size + 1]? = some (.cells (urlC a pa) 27 (0,0))∧W.heap[w.heap.size + 1 + 1]? = some (.cells (urlC b pb) 27 (0,0))) (by kernel_rfl) ⟨R0,S0,T0⟩ (fun h0=>?_)
   refine tk (i:=0) (v:=?v12) rfl (Or.inl ⟨by rfl,?y12⟩) h0 ?r12
   case y12 =>
    intro W hW
    go_simp
    try with_reducible rfl
   simp only[Act.put,zA,zB,zC,zD,zE,zF]
   refine tk (i:=1) (v:=?v13) rfl (Or.inl ⟨by rfl,?y13⟩) h0 ?r13
   case y13 =>
    intro W hW
    go_simp
    try with_reducible rfl
   simp only[Act.put,zA,zB,zC,zD,zE,zF]
   refine tk (i:=2) rfl (zat (w.heap.size + 1) a pa (by rfl) _ rfl rfl (fun W h=>h.2.1)) h0 ?_
   simp only[Act.put,zA,zB,zC,zD,zE,zF]
   refine tk (i:=3) rfl (zat (w.heap.size + 1 + 1) b pb (by rfl) _ rfl rfl (fun W h=>h.2.2)) h0 ?_
   simp only[Act.put,zA,zB,zC,zD,zE,zF]
   refine zrd (i:=4) rfl (fun K hK=>?_)
   try simp only[zA,zB,zC]
   rw[if_pos (by rfl)]
   go_simp
   go_at_call 14
   refine(HB _ (G.below B0.drew) (hpa.below B0.drew) (hpb.below B0.drew)).out.mono ?_
   rintro e w1 ⟨rfl,b1⟩
   have R1:=kept b1 R0
   have S1:=kept b1 S0
   have T1:=kept b1 T0
   have B1:=yD B0.drew b1
   refine hK.out _ _ ⟨R1,S1,T1⟩ (fun h0=>?_)
   clear hK K
   try simp only[Act.put,zA,zB,zC,zD,zE,zF]
   refine tk (i:=5) (v:=?v14) rfl (Or.inl ⟨by rfl,?y14⟩) h0 ?r14
   case y14 =>
    intro W hW
    go_simp
    try with_reducible rfl
   simp only[Act.put,zA,zB,zC,zD,zE,zF]
   refine tk (i:=6) (v:=?v15) rfl (Or.inl ⟨by rfl,?y15⟩) h0 ?r15
   case y15 =>
    intro W hW
    go_simp
    try with_reducible rfl
   simp only[Act.put,zA,zB,zC,zD,zE,zF]
   refine tk (i:=7) rfl (zaQ w.heap.size 0 o (by rfl) _ rfl rfl (fun W h=>zac h.1)) h0 ?_
   simp only[Act.put,zA,zB,zC,zD,zE,zF]
   refine tk (i:=8) rfl (zat (w.heap.size + 1) a pa (by rfl) _ rfl rfl (fun W h=>h.2.1)) h0 ?_
   simp only[Act.put,zA,zB,zC,zD,zE,zF]
   refine zrd (i:=9) rfl (fun K hK=>?_)
   try simp only[zA,zB,zC]
   rw[if_pos (by rfl)]
   go_simp
   go_at_call 13
   refine(HA _ (G.below B1) (hpa.below B1)).out.mono ?_
   rintro e w2 ⟨rfl,b2⟩
   have R2:=kept b2 R1
   have S2:=kept b2 S1
   have T2:=kept b2 T1
   have B2:=yD B1 b2
   refine hK.out _ _ ⟨R2,S2,T2⟩ (fun h0=>?_)
   clear hK K
   try simp only[Act.put,zA,zB,zC,zD,zE,zF]
   refine zrd (i:=10) rfl (fun K hK=>?_)
   try simp only[zA,zB,zC]
   rw[if_pos (by rfl)]
   go_simp
   go_at_call 12
   refine(HS _ (G.below B2)).out.mono ?_
   rintro e w3 ⟨rfl,b3⟩
   have R3:=kept b3 R2
   have S3:=kept b3 S2
   have T3:=kept b3 T2
   have B3:=yD B2 b3
   refine hK.out _ _ ⟨R3,S3,T3⟩ (fun h0=>?_)
   clear hK K
   try simp only[Act.put,zA,zB,zC,zD,zE,zF]
   refine tk (i:=11) (v:=?v16) rfl (Or.inl ⟨by rfl,?y16⟩) h0 ?r16
   case y16 =>
    intro W hW
    go_simp
    try with_reducible rfl
   simp only[Act.put,zA,zB,zC,zD,zE,zF]
   refine tk (i:=12) (v:=?v17) rfl (Or.inl ⟨by rfl,?y17⟩) h0 ?r17
   case y17 =>
    intro W hW
    go_simp
    try with_reducible rfl
   simp only[Act.put,zA,zB,zC,zD,zE,zF]
   refine tk (i:=13) (v:=?v18) rfl (Or.inl ⟨by rfl,?y18⟩) h0 ?r18
   case y18 =>
    intro W hW
    go_simp
    try with_reducible rfl
   simp only[Act.put,zA,zB,zC,zD,zE,zF]
   refine tk (i:=14) (v:=?v19) rfl (Or.inl ⟨by rfl,?y19⟩) h0 ?r19
   case y19 =>
    intro W hW
    go_simp
    try with_reducible rfl
   simp only[Act.put,zA,zB,zC,zD,zE,zF]
   refine yX (by kernel_rfl) ?_ _
   go_wp2
   go_ret
   exact⟨ret_bool (by rw[HZ.out]),B3⟩
def quietR (r:Req):Bool:=(decide (r.method=sGET) || decide (r.method=sHEAD)) && (decide (r.mode≠1) || !crossedR r)
set_option maxHeartbeats 1000000 in
theorem zdT (r:Req) (pu hv:Value) (w:World) (G:Glob w) (hp:Strs w pu r.url.path) (hf:r.url.Fits) (hn:r.orig.host.name.size≤1000000) (hh:hv.oneCell'=true) :
  Calls Tryz.prog 16 #[.agg (reqC r pu hv)] w fun e w'=>e=.returned (.bool (quietR r))∧Below w.heap.size w w':=by
 have R0:=row1 w (.cells (reqC r pu hv) 32)
 have B0:=bel1 w (.cells (reqC r pu hv) 32)
 have HC:=fun w' g s=>Lib.hid (zbp r pu hv w' g s hf hn hh)
 have HG:(r.method.data.toList == [71,69,84])=decide (r.method=sGET):=beq_str r.method sGET
 have HH:(r.method.data.toList == [72,69,65,68])=decide (r.method=sHEAD):=beq_str r.method sHEAD
 have HG':(r.method.toList == [71,69,84])=decide (r.method=sGET):=by rw[toList_data];exact HG
 have HH':(r.method.toList == [72,69,65,68])=decide (r.method=sHEAD):=by rw[toList_data];exact HH
 have HE:Hid (quietR r=_):=quietR.eq_1 r
 obtain⟨x,hx⟩:∃ x,x=quietR r:=⟨_,rfl⟩
 obtain⟨g,hg⟩:∃ g,g=decide (r.method=sGET):=⟨_,rfl⟩
 obtain⟨h,hh'⟩:∃ h,h=decide (r.method=sHEAD):=⟨_,rfl⟩
 obtain⟨cr,hcr⟩:∃ x,x=crossedR r:=⟨_,rfl⟩
 simp only[← hx,← hg,← hh',← hcr] at HE HG HH HG' HH' HC ⊢
 clear hx hg hh' hcr
 have c21:=yE R0 21 (.string r.method) rfl
 have c38:=yE R0 38 (.int .i64 r.mode) rfl
 by_cases hm:r.mode=1
 ·have hm1:(r.mode != 1)=false:=by simp[hm]
  have HM:Hid (x=((g || h) && !cr)):=by show _=_;rw[HE.out,decide_eq_false (by simp[hm])];rfl
  clear HE hm
  cases g <;> cases h
  case false.false =>
   have HZ:Hid (x=false):=HM.out
   clear HM HC
   go_enter Tryz.func16,Tryz.ntmps16
   go_wp2
   go_ret
   exact⟨ret_bool (by rw[HZ.out]),B0⟩
  all_goals
   have HZ:Hid (x=!cr):=HM.out
   clear HM
   go_enter Tryz.func16,Tryz.ntmps16
   go_wp2_with (first|((with_reducible (show wpList _ _ _ (Oper.mk _ (.load 32 _) _ _ _ _::_) _ _));refine zaa (by rfl) 32 _ rfl w.heap.size 0 rfl (reqC r pu hv) _ (zac R0) yA rfl zab ?_)|(go_at_call 36;refine(HC _ (G.below B0) (hp.below B0)).out.mono ?_;rintro e w1 ⟨rfl,b1⟩))
   go_ret
   exact⟨ret_bool (by rw[HZ.out]),yD B0 b1⟩
 ·have hm1:(r.mode != 1)=true:=by simp[hm]
  have HM:Hid (x=(g || h)):=by show _=_;rw[HE.out,decide_eq_true (by simp[hm])];simp
  clear HE hm HC
  cases g <;> cases h <;>
  ·have HZ:=Lib.hid HM.out
   clear HM
   go_enter Tryz.func16,Tryz.ntmps16
   go_wp2
   go_ret
   exact⟨ret_bool (by rw[HZ.out];rfl),B0⟩
end
end Go.Proofs.YtdlkjofnnefjfaaGreatDoor
