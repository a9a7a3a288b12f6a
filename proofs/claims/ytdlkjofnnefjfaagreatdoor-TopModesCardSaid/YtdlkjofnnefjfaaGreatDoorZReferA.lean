/- refer: where one comes from, and what may be told. refer.From, Referer. -/
import Derived.Test.YtdlkjofnnefjfaaGreatDoorZShort
import Derived.Test.YtdlkjofnnefjfaaGreatDoorZStripA
set_option linter.all false
namespace Go.Proofs.YtdlkjofnnefjfaaGreatDoor
set_option maxRecDepth 100000
section
open Go.RowKit
abbrev zbZ (a b:Url) (pa pb:Value):Array Value:=#[.string a.scheme,.string a.user,.string a.pass,.int .i64 a.host.kind,.string a.host.name,.int .i64 a.host.num,.int .i64 a.host.six.p0,.int .i64 a.host.six.p1,.int .i64 a.host.six.p2,.int .i64 a.host.six.p3,.int .i64 a.host.six.p4,.int .i64 a.host.six.p5,.int .i64 a.host.six.p6,.int .i64 a.host.six.p7,.int .i64 a.port,pa,.string a.opq,.string a.query,.string a.frag,.bool a.hasQ,.bool a.hasF,.string b.scheme,.string b.user,.string b.pass,.int .i64 b.host.kind,.string b.host.name,.int .i64 b.host.num,.int .i64 b.host.six.p0,.int .i64 b.host.six.p1,.int .i64 b.host.six.p2,.int .i64 b.host.six.p3,.int .i64 b.host.six.p4,.int .i64 b.host.six.p5,.int .i64 b.host.six.p6,.int .i64 b.host.six.p7,.int .i64 b.port,pb,.string b.opq,.string b.query,.string b.frag,.bool b.hasQ,.bool b.hasF]
theorem zdS:(Tryz.prog.info? 206).map (·.size)=some 42:=by kernel_rfl
set_option maxHeartbeats 2000000 in
theorem zgv (a b:Url) (pa pb:Value) (w:World) (G:Glob w) (ha:Strs w pa a.path) (hb:Strs w pb b.path) (fa:a.Fits) (fb:b.Fits) :
  Calls Tryz.prog 195 #[.agg (zbZ a b pa pb)] w fun e w'=>e=.returned (.bool (bothU a b))∧Below w.heap.size w w':=by
 have R0:=row1 w (.cells (zbZ a b pa pb) 206)
 have B0:=bel1 w (.cells (zbZ a b pa pb) 206)
 have HB:=Lib.hid (zbU a b pa pb _ (G.below B0) (ha.below B0) (hb.below B0) fa fb)
 obtain⟨r,hr⟩:∃ r,r=bothU a b:=⟨_,rfl⟩
 rw[← hr] at HB ⊢
 clear hr fa fb ha hb
 go_enter Tryz.func195,Tryz.ntmps195
 go_wp2_with (first|((with_reducible (show wpList _ _ _ (Oper.mk _ (.load 27 (.tmp 3)) _ _ _ _::_) _ _));refine zaa (by rfl) 27 _ rfl w.heap.size 0 rfl (urlC a pa) _ (zae R0 0 _ rfl) yB rfl yN ?_)|((with_reducible (show wpList _ _ _ (Oper.mk _ (.load 27 (.tmp 5)) _ _ _ _::_) _ _));refine zaa (by rfl) 27 _ rfl w.heap.size 21 rfl (urlC b pb) _ (zae R0 21 _ rfl) yB rfl yN ?_))
 refine HB.out.mono ?_
 rintro e w1 ⟨rfl,b1⟩
 go_wp2_with fail
 go_ret
 exact⟨rfl,yD B0 b1⟩
def zcY (a b:Url) (d:Bool):Prop:=∃ x y,zcd a x∧zcd b y∧d=(x && !y)
theorem zeN (u:Url):zcd u (zbK u):=fun _=>rfl
set_option maxHeartbeats 2000000 in
theorem zgs (a b:Url) (pa pb:Value) (w:World) (G:Glob w) (ha:Strs w pa a.path) (hb:Strs w pb b.path) (fa:a.Fits) (fb:b.Fits) :
  Calls Tryz.prog 196 #[.agg (zbZ a b pa pb)] w fun e w'=>(∃ d,e=.returned (.bool d)∧zcY a b d)∧Below w.heap.size w w':=by
 have R0:=row1 w (.cells (zbZ a b pa pb) 206)
 have B0:=bel1 w (.cells (zbZ a b pa pb) 206)
 have HA:=Lib.hid (zec a pa _ (G.below B0) (ha.below B0) fa)
 have HB:=fun w' g h=>Lib.hid (zec b pb w' g h fb)
 have HD:Hid (∀ d,zcY a b d=∃ x y,zcd a x∧zcd b y∧d=(x && !y)):=fun d=>rfl
 have HTB:=Lib.hid (zeN b)
 obtain⟨DI,hDI⟩:∃ D,D=zcY a b:=⟨_,rfl⟩
 simp only[← hDI] at HD ⊢
 have HBV:=Lib.hid hb
 clear hDI fa fb ha hb
 go_enter Tryz.func196,Tryz.ntmps196
 go_wp2_with (first|((with_reducible (show wpList _ _ _ (Oper.mk _ (.load 27 (.tmp 3)) _ _ _ _::_) _ _));refine zaa (by rfl) 27 _ rfl w.heap.size 0 rfl (urlC a pa) _ (zae R0 0 _ rfl) yB rfl yN ?_))
 refine HA.out.mono ?_
 rintro e w1 ⟨⟨x,rfl,hx⟩,b1⟩
 have B1:=yD B0 b1
 have R1:=kept b1 R0
 have HX:=Lib.hid hx
 clear hx
 cases x with
 | false =>
  have HQ:Hid (DI false):=by show _;rw[HD.out];exact⟨false,_,HX.out,HTB.out,rfl⟩
  clear HD
  go_wp2_with fail
  go_ret
  exact⟨⟨_,rfl,HQ.out⟩,B1⟩
 | true =>
  have H2:=Lib.hid (HB _ (G.below B1) (HBV.out.below B1)).out
  clear HB
  go_wp2_with (first|((with_reducible (show wpList _ _ _ (Oper.mk _ (.load 27 (.tmp 7)) _ _ _ _::_) _ _));refine zaa (by rfl) 27 _ rfl w.heap.size 21 rfl (urlC b pb) _ (zae R1 21 _ rfl) yB rfl yN ?_))
  refine H2.out.mono ?_
  rintro e w2 ⟨⟨y,rfl,hy⟩,b2⟩
  have HQ:Hid (DI (!y)):=by show _;rw[HD.out];exact⟨true,y,HX.out,hy,by simp⟩
  clear HD hy
  go_wp2_with fail
  go_ret
  exact⟨⟨_,rfl,HQ.out⟩,yD B1 b2⟩
def zef (a b:Url) (w:World) (e:Ending) (w':World):Prop:=(∃ d,e=.returned (.agg #[.bool (bothU a b),.bool d])∧zcY a b d)∧Below w.heap.size w w'
theorem zc2:(Tryz.prog.info? 203).map (·.size)=some 2:=by kernel_rfl
set_option maxHeartbeats 2000000 in
theorem zhI (a b:Url) (pa pb:Value) (w:World) (G:Glob w) (ha:Strs w pa a.path) (hb:Strs w pb b.path) (fa:a.Fits) (fb:b.Fits) :
  Calls Tryz.prog 142 #[.agg (zbZ a b pa pb)] w (zef a b w):=by
 have R0:=row2a w (.cells (zbZ a b pa pb) 206) (.cells #[.bool false,.bool false] 203)
 have S0:=row2b w (.cells (zbZ a b pa pb) 206) (.cells #[.bool false,.bool false] 203)
 have B0:=bel2 w (.cells (zbZ a b pa pb) 206) (.cells #[.bool false,.bool false] 203)
 have HS:=fun w' g h k=>Lib.hid (zgv a b pa pb w' g h k fa fb)
 have HD:=fun w' g h k=>Lib.hid (zgs a b pa pb w' g h k fa fb)
 have HA:=Lib.hid ha
 have HB:=Lib.hid hb
 obtain⟨W0,hW0⟩:∃ W0,(w.alloc (.cells (zbZ a b pa pb) 206)).alloc (.cells #[.bool false,.bool false] 203)=W0:=⟨_,rfl⟩
 rw[hW0] at R0 S0 B0
 unfold zef
 obtain⟨r,hr⟩:∃ r,r=bothU a b:=⟨_,rfl⟩
 simp only[← hr] at HS ⊢
 clear hr fa fb ha hb
 go_enter Tryz.func142,Tryz.ntmps142
 go_wp2_with fail
 clear hW0
 refine yQ (S:=fun W=>W.heap[w.heap.size]? = some (.cells (zbZ a b pa pb) 206 (0,0))) (by kernel_rfl) R0 (fun h0=>?_)
 refine tk (i:=0) (v:=?v1) rfl (Or.inl ⟨by rfl,?y1⟩) h0 ?r1
 case y1 =>
  intro W hW
  go_simp
  try with_reducible rfl
 simp only[Act.put,zA,zB,zC,zD,zE,zF]
 refine tk (i:=1) rfl (yieldsIf_load_mid (by rfl) 206 _ rfl w.heap.size 0 rfl (zbZ a b pa pb).toList _ (fun W h=>zac h) Tryz.underlying206 rfl zdS) h0 ?_
 simp only[Act.put,zA,zB,zC,zD,zE,zF]
 refine tk (i:=3) (v:=?v2) rfl (Or.inl ⟨by rfl,?y2⟩) h0 ?r2
 case y2 =>
  intro W hW
  go_simp
  try with_reducible rfl
 simp only[Act.put,zA,zB,zC,zD,zE,zF]
 refine tk (i:=4) rfl (yieldsIf_load_mid (by rfl) 206 _ rfl w.heap.size 0 rfl (zbZ a b pa pb).toList _ (fun W h=>zac h) Tryz.underlying206 rfl zdS) h0 ?_
 simp only[Act.put,zA,zB,zC,zD,zE,zF]
 refine zrd (i:=2) rfl (fun K hK=>?_)
 try simp only[zA,zB,zC]
 rw[if_pos (by rfl)]
 go_simp
 go_at_call 195
 refine(HS _ (G.below (yD B0 (yR _))) (HA.out.below (yD B0 (yR _))) (HB.out.below (yD B0 (yR _)))).out.mono ?_
 rintro e w1 ⟨rfl,b1⟩
 have R1:=kept b1 (show W0.drew.heap[w.heap.size]? = _ from R0)
 have S1:=kept b1 (show W0.drew.heap[w.heap.size + 1]? = _ from S0)
 have B1:=yD (yD B0 (yR _)) b1
 refine hK.out _ _ R1 (fun h0=>?_)
 clear hK K
 try simp only[Act.put,zA,zB,zC,zD,zE,zF]
 refine zrd (i:=5) rfl (fun K hK=>?_)
 try simp only[zA,zB,zC]
 rw[if_pos (by rfl)]
 go_simp
 go_at_call 196
 refine(HD _ (G.below B1) (HA.out.below B1) (HB.out.below B1)).out.mono ?_
 rintro e w2 ⟨⟨d,rfl,hd⟩,b2⟩
 have R2:=kept b2 R1
 have S2:=kept b2 S1
 have B2:=yD B1 b2
 have HDD:=Lib.hid hd
 clear hd
 refine hK.out _ _ R2 (fun h0=>?_)
 clear hK K
 try simp only[Act.put,zA,zB,zC,zD,zE,zF]
 refine tk (i:=6) (v:=?v3) rfl (Or.inl ⟨by rfl,?y3⟩) h0 ?r3
 case y3 =>
  intro W hW
  go_simp
  try with_reducible rfl
 simp only[Act.put,zA,zB,zC,zD,zE,zF]
 refine zrd (i:=7) rfl (fun K hK=>?_)
 try simp only[zA,zB,zC]
 rw[if_pos (by rfl)]
 refine wp_store_row 203 _ _ rfl (w.heap.size + 1) _ rfl rfl 203 _ S2 zc2 rfl (by simp[Value.oneCell']) ?_
 refine hK.out _ _ ((yI _ _ _ _ (by omega)).trans R2) (fun h0=>?_)
 clear hK K
 try simp only[Act.put,zA,zB,zC,zD,zE,zF]
 refine yX (by kernel_rfl) ?_ _
 go_wp2_with fail
 refine yO (yT rfl _ _ (w.heap.size + 1) 203 #[.bool r,.bool d] (0,0) _ rfl (yH _ _ _ _ _ _ S2) Tryz.underlying203 rfl zc2) rfl ?_
 exact⟨⟨d,rfl,HDD.out⟩,yM B2 (Nat.le_succ _)⟩
def zbL (p:Int) (a b:Url) (n:Int):Prop:=∃ d,zcY a b d∧n=Policy.al p (bothU a b) d
set_option maxHeartbeats 2000000 in
theorem zgh (p:Int) (a b:Url) (pa pb:Value) (w:World) (G:Glob w) (ha:Strs w pa a.path) (hb:Strs w pb b.path) (fa:a.Fits) (fb:b.Fits) :
  Calls Tryz.prog 92 #[.int .i64 p,.agg (urlC a pa),.agg (urlC b pb)] w fun e w'=>(∃ n,e=.returned (.int .i64 n)∧zbL p a b n)∧Below w.heap.size w w':=by
 have R0:=row2a w (.cells (urlC a pa) 27) (.cells (urlC b pb) 27)
 have S0:=row2b w (.cells (urlC a pa) 27) (.cells (urlC b pb) 27)
 have B0:=bel2 w (.cells (urlC a pa) 27) (.cells (urlC b pb) 27)
 have HA:=Lib.hid (zhI a b pa pb _ (G.below B0) (ha.below B0) (hb.below B0) fa fb)
 have HL:Hid (∀ n,zbL p a b n=∃ d,zcY a b d∧n=Policy.al p (bothU a b) d):=fun n=>rfl
 unfold zef at HA
 have HP:=fun s d w'=>Lib.hid (Policy.al_any p s d w')
 obtain⟨LV,hLV⟩:∃ D,D=zbL p a b:=⟨_,rfl⟩
 obtain⟨r,hr⟩:∃ r,r=bothU a b:=⟨_,rfl⟩
 simp only[← hLV,← hr] at HL HA ⊢
 clear hLV hr fa fb ha hb
 go_enter Tryz.func92,Tryz.ntmps92
 go_wp2_with (first|((with_reducible (show wpList _ _ _ (Oper.mk _ (.load 27 (.tmp 4)) _ _ _ _::_) _ _));refine yK rfl 27 _ rfl (w.heap.size) rfl 27 _ (0,0) _ R0 yB rfl yN ?_)|((with_reducible (show wpList _ _ _ (Oper.mk _ (.load 27 (.tmp 5)) _ _ _ _::_) _ _));refine yK rfl 27 _ rfl (w.heap.size + 1) rfl 27 _ (0,0) _ S0 yB rfl yN ?_))
 refine HA.out.mono ?_
 rintro e w1 ⟨⟨d,rfl,hd⟩,b1⟩
 have B1:=yD B0 b1
 have HQ:Hid (LV (Policy.al p r d)):=by show _;rw[HL.out];exact⟨d,hd,rfl⟩
 clear hd HL
 go_wp2_with (first|(go_at_call 143;refine(HP _ _ _).out.mono ?_;rintro e w2 ⟨rfl,b2⟩))
 go_ret
 exact⟨⟨_,rfl,HQ.out⟩,yD (yD B1 (bel1 _ _)) b2⟩
end
section
open Go.RowKit
def zhV (y:Option Url):Option Url:=match y with|none=>none|some u=>if webP u.scheme=0 then none else some u
def zch (raw:ByteArray):Option Url:=zhV (parseR raw)
set_option maxHeartbeats 4000000 in
theorem zg4 (raw:ByteArray) (w:World) (G:Glob w) (hs:raw.size≤100000):Calls Tryz.prog 90 #[.string raw] w (ParsedLeft (zch raw) w):=by
 have R0:=row1 w (.cells (urlC url0 (.slice none 0 0)) 27)
 have B0:=bel1 w (.cells (urlC url0 (.slice none 0 0)) 27)
 have HP:=Lib.hid (urlParse_any raw _ (G.below B0) hs)
 have HX:Hid (zch raw=zhV (parseR raw)):=rfl
 obtain⟨y,hy⟩:∃ y,y=parseR raw:=⟨_,rfl⟩
 obtain⟨x,hx⟩:∃ x,x=zch raw:=⟨_,rfl⟩
 rw[← hy] at HP HX
 rw[← hx] at HX ⊢
 clear hx hy
 go_enter Tryz.func90,Tryz.ntmps90
 go_wp2_with fail
 refine HP.out.mono ?_
 rintro e w1 ⟨b1,hP⟩
 have B1:=yD B0 b1
 have R1:=kept b1 R0
 have hlt:w.heap.size < w1.heap.size:=yS R1
 cases y with
 | none =>
  obtain rfl:=hP
  have HZ:Hid (x=none):=HX.out
  clear HX
  have A2:=row1 w1 (.cells (urlC url0 (.slice none 0 0)) 27)
  have k2:=bel1 w1 (.cells (urlC url0 (.slice none 0 0)) 27)
  have F2:=yH _ _ _ (urlC url0 (.slice none 0 0)) _ _ A2
  have K2:Below w1.heap.size w1 ((w1.alloc (.cells (urlC url0 (.slice none 0 0)) 27)).setRow w1.heap.size (urlC url0 (.slice none 0 0))):=yM k2 (yV _)
  obtain⟨V2,hV2⟩:∃ V,(w1.alloc (.cells (urlC url0 (.slice none 0 0)) 27)).setRow w1.heap.size (urlC url0 (.slice none 0 0))=V:=⟨_,rfl⟩
  have HV2:=Lib.hid hV2
  rw[hV2] at F2 K2
  clear hV2 k2
  have R2:=kept K2 R1
  have B2:=yD B1 K2
  go_wp2_with (first|((with_reducible (show wpList _ _ _ (Oper.mk none (.store 27 (.tmp 4) _) _ _ _ none::_) _ _));refine zag rfl 27 _ _ rfl (w1.heap.size) (urlC url0 (.slice none 0 0)) rfl rfl 27 _ A2 yN rfl (by simp[Value.oneCell']) V2 HV2.out ?_)|((with_reducible (show wpList _ _ _ (Oper.mk none (.store 27 (.tmp 2) _) _ _ _ none::_) _ _));refine yJ rfl 27 _ _ rfl (w.heap.size) _ rfl rfl 27 _ R2 yN rfl (by simp[Value.oneCell']) ?_))
  rw[HZ.out]
  exact yO (results_url rfl _ _ w.heap.size 27 url0 (.slice none 0 0) (0,0) rfl (yH _ _ _ _ _ _ R2) _ rfl) rfl ⟨yM B2 (yV _),rfl⟩
 | some u =>
  obtain⟨pv,rfl,hO⟩:=hP
  obtain⟨q,m,c,rfl⟩:=(Strs.of_own hO).slice
  have HW:=fun w'=>Lib.hid (web_any u.scheme w')
  have HX:Hid (x=if webP u.scheme=0 then none else some u):=HX.out
  obtain⟨n,hn⟩:∃ n,n=webP u.scheme:=⟨_,rfl⟩
  rw[← hn] at HX
  simp only[← hn] at HW
  clear hn
  have A2:=row1 w1 (.cells (urlC url0 (.slice none 0 0)) 27)
  have k2:=bel1 w1 (.cells (urlC url0 (.slice none 0 0)) 27)
  have F2:=yH _ _ _ (urlC u (.slice q m c)) _ _ A2
  have K2:Below w1.heap.size w1 ((w1.alloc (.cells (urlC url0 (.slice none 0 0)) 27)).setRow w1.heap.size (urlC u (.slice q m c))):=yM k2 (yV _)
  obtain⟨V2,hV2⟩:∃ V,(w1.alloc (.cells (urlC url0 (.slice none 0 0)) 27)).setRow w1.heap.size (urlC u (.slice q m c))=V:=⟨_,rfl⟩
  have HV2:=Lib.hid hV2
  rw[hV2] at F2 K2
  clear hV2 k2
  have R2:=kept K2 R1
  have B2:=yD B1 K2
  have O2:=zaz hO K2
  have c0:=yE F2 0 (.string u.scheme) rfl
  have hs1:(w.alloc (.cells (urlC url0 (.slice none 0 0)) 27)).heap.size=w.heap.size + 1:=by simp
  rw[hs1] at O2
  have O3:=own_base (own_setRow (g:=w.heap.size) (cs:=urlC u (.slice q m c)) O2 (by omega)) (B':=w.heap.size) (by omega)
  have HF:=Lib.hid (And.intro O3 (yM B2 (yV _) (cs:=urlC u (.slice q m c))))
  clear hO O2 O3
  by_cases h0:n=0
  ·have HZ:Hid (x=none):=by show _=_;rw[HX.out,if_pos h0]
   subst h0
   clear HX
   go_wp2_with (first|((with_reducible (show wpList _ _ _ (Oper.mk none (.store 27 (.tmp 4) _) _ _ _ none::_) _ _));refine zag rfl 27 _ _ rfl (w1.heap.size) (urlC u (.slice q m c)) rfl rfl 27 _ A2 yN rfl (by simp[Value.oneCell']) V2 HV2.out ?_)|(go_at_call 33;refine(HW _).out.mono ?_;rintro e w2 ⟨rfl,rfl⟩)|((with_reducible (show wpList _ _ _ (Oper.mk none (.store 27 (.tmp 2) _) _ _ _ none::_) _ _));refine yJ rfl 27 _ _ rfl (w.heap.size) _ rfl rfl 27 _ R2 yN rfl (by simp[Value.oneCell']) ?_))
   rw[HZ.out]
   exact yO (results_url rfl _ _ w.heap.size 27 url0 (.slice none 0 0) (0,0) rfl (yH _ _ _ _ _ _ R2) _ rfl) rfl ⟨yM B2 (yV _),rfl⟩
  ·have HZ:Hid (x=some u):=by show _=_;rw[HX.out,if_neg h0]
   have hnb:(n == 0)=false:=by rw[beq_eq_false_iff_ne];exact h0
   clear HX
   go_wp2_with (first|((with_reducible (show wpList _ _ _ (Oper.mk none (.store 27 (.tmp 4) _) _ _ _ none::_) _ _));refine zag rfl 27 _ _ rfl (w1.heap.size) (urlC u (.slice q m c)) rfl rfl 27 _ A2 yN rfl (by simp[Value.oneCell']) V2 HV2.out ?_)|(go_at_call 33;refine(HW _).out.mono ?_;rintro e w2 ⟨rfl,rfl⟩)|((with_reducible (show wpList _ _ _ (Oper.mk _ (.load 27 (.tmp 4)) _ _ _ _::_) _ _));refine yK rfl 27 _ rfl (w1.heap.size) rfl 27 _ (0,0) _ F2 yB rfl yN ?_)|((with_reducible (show wpList _ _ _ (Oper.mk none (.store 27 (.tmp 2) _) _ _ _ none::_) _ _));refine yJ rfl 27 _ _ rfl (w.heap.size) _ rfl rfl 27 _ R2 yN rfl (by simp[Value.oneCell']) ?_))
   rw[HZ.out]
   exact yO (results_url rfl _ _ w.heap.size 27 u (.slice q m c) (0,0) rfl (yH _ _ _ _ _ _ R2) _ rfl) rfl ⟨HF.out.2,_,rfl,HF.out.1⟩
def zgM (p:Int) (raw:ByteArray) (b:Url) (t:ByteArray) (is:Bool):Prop:=(zch raw=none→t=⟨#[]⟩∧is=false)∧∀ a,zch raw=some a→∃ n,zbL p a b n∧TellIs a n t is
set_option maxHeartbeats 4000000 in
theorem zeE (p:Int) (raw:ByteArray) (b:Url) (pb:Value) (w:World) (G:Glob w) (hs:raw.size≤100000) (hb:Strs w pb b.path) (fb:b.Fits) (fa:∀ a,zch raw=some a→a.Small) :
  Calls Tryz.prog 47 #[.int .i64 p,.string raw,.agg (urlC b pb)] w fun e w'=>(∃ t is,e=.returned (.tuple #[.string t,.bool is])∧zgM p raw b t is∧t.size≤9000001)∧Below w.heap.size w w':=by
 have R0:=row1 w (.cells (urlC b pb) 27)
 have B0:=bel1 w (.cells (urlC b pb) 27)
 have HP:=Lib.hid (zg4 raw _ (G.below B0) hs)
 have HR:Hid (∀ t is,zgM p raw b t is=((zch raw=none→t=⟨#[]⟩∧is=false)∧∀ a,zch raw=some a→∃ n,zbL p a b n∧TellIs a n t is)):=fun t is=>rfl
 obtain⟨y,hy⟩:∃ y,y=zch raw:=⟨_,rfl⟩
 obtain⟨RI,hRI⟩:∃ y,y=zgM p raw b:=⟨_,rfl⟩
 rw[← hy] at HP fa
 simp only[← hRI,← hy] at HR ⊢
 have HBV:=Lib.hid hb
 clear hy hRI hb
 go_enter Tryz.func47,Tryz.ntmps47
 go_wp2_with fail
 refine HP.out.mono ?_
 rintro e w1 ⟨b1,hP⟩
 have B1:=yD B0 b1
 have R1:=kept b1 R0
 have hlt:w.heap.size < w1.heap.size:=yS R1
 cases y with
 | none =>
  obtain rfl:=hP
  have HQ:Hid (RI ⟨#[]⟩ false):=by show _;rw[HR.out];exact⟨fun _=>⟨rfl,rfl⟩,fun a h=>(by cases h)⟩
  clear HR
  have A2:=row1 w1 (.cells (urlC url0 (.slice none 0 0)) 27)
  have k2:=bel1 w1 (.cells (urlC url0 (.slice none 0 0)) 27)
  have F2:=yH _ _ _ (urlC url0 (.slice none 0 0)) _ _ A2
  have K2:Below w1.heap.size w1 ((w1.alloc (.cells (urlC url0 (.slice none 0 0)) 27)).setRow w1.heap.size (urlC url0 (.slice none 0 0))):=yM k2 (yV _)
  obtain⟨V2,hV2⟩:∃ V,(w1.alloc (.cells (urlC url0 (.slice none 0 0)) 27)).setRow w1.heap.size (urlC url0 (.slice none 0 0))=V:=⟨_,rfl⟩
  have HV2:=Lib.hid hV2
  rw[hV2] at F2 K2
  clear hV2 k2
  have B2:=yD B1 K2
  go_wp2_with (first|((with_reducible (show wpList _ _ _ (Oper.mk none (.store 27 (.tmp 8) _) _ _ _ none::_) _ _));refine zag rfl 27 _ _ rfl (w1.heap.size) (urlC url0 (.slice none 0 0)) rfl rfl 27 _ A2 yN rfl (by simp[Value.oneCell']) V2 HV2.out ?_))
  go_ret2
  exact⟨⟨_,_,rfl,HQ.out,Nat.zero_le _⟩,B2⟩
 | some a =>
  obtain⟨pa,rfl,hO⟩:=hP
  obtain⟨q,m,c,rfl⟩:=(Strs.of_own hO).slice
  have hsm:=fa a rfl
  have A2:=row1 w1 (.cells (urlC url0 (.slice none 0 0)) 27)
  have k2:=bel1 w1 (.cells (urlC url0 (.slice none 0 0)) 27)
  have F2:=yH _ _ _ (urlC a (.slice q m c)) _ _ A2
  have K2:Below w1.heap.size w1 ((w1.alloc (.cells (urlC url0 (.slice none 0 0)) 27)).setRow w1.heap.size (urlC a (.slice q m c))):=yM k2 (yV _)
  obtain⟨V2,hV2⟩:∃ V,(w1.alloc (.cells (urlC url0 (.slice none 0 0)) 27)).setRow w1.heap.size (urlC a (.slice q m c))=V:=⟨_,rfl⟩
  have HV2:=Lib.hid hV2
  rw[hV2] at F2 K2
  clear hV2 k2
  have R2:=kept K2 R1
  have B2:=yD B1 K2
  have O2:=Strs.of_own (zaz hO K2)
  have HL:=fun w' g h k=>Lib.hid (zgh p a b (.slice q m c) pb w' g h k hsm.fit fb)
  have HT:=fun n w' g h=>Lib.hid (zht a (.slice q m c) n w' g h hsm)
  have HQ:Hid (∀ n t is,zbL p a b n→TellIs a n t is→RI t is):=fun n t is h1 h2=>by rw[HR.out];exact⟨fun h=>(by cases h),fun a' h=>by cases h;exact⟨n,h1,h2⟩⟩
  have HO2:=Lib.hid O2
  clear HR hO O2 fa hsm
  go_upto_region 2 with (first|((with_reducible (show wpList _ _ _ (Oper.mk none (.store 27 (.tmp 8) _) _ _ _ none::_) _ _));refine zag rfl 27 _ _ rfl (w1.heap.size) (urlC a (.slice q m c)) rfl rfl 27 _ A2 yN rfl (by simp[Value.oneCell']) V2 HV2.out ?_))
  go_wp2_with fail
  refine yQ (S:=fun W=>W.heap[w1.heap.size]? = some (.cells (urlC a (.slice q m c)) 27 (0,0))∧W.heap[w.heap.size]? = some (.cells (urlC b pb) 27 (0,0))) (by kernel_rfl) ⟨F2,R2⟩ (fun h0=>?_)
  refine tk (i:=0) rfl (zat w1.heap.size a (.slice q m c) (by rfl) _ rfl rfl (fun W h=>h.1)) h0 ?_
  simp only[Act.put,zA,zB,zC,zD,zE,zF]
  refine tk (i:=1) (v:=?v1) rfl (Or.inl ⟨by rfl,?y1⟩) h0 ?r1
  case y1 =>
   intro W hW
   go_simp
   try with_reducible rfl
  simp only[Act.put,zA,zB,zC,zD,zE,zF]
  refine tk (i:=2) rfl (zat w1.heap.size a (.slice q m c) (by rfl) _ rfl rfl (fun W h=>h.1)) h0 ?_
  simp only[Act.put,zA,zB,zC,zD,zE,zF]
  refine tk (i:=3) rfl (zat w.heap.size b pb (by rfl) _ rfl rfl (fun W h=>h.2)) h0 ?_
  simp only[Act.put,zA,zB,zC,zD,zE,zF]
  refine zrd (i:=4) rfl (fun K hK=>?_)
  try simp only[zA,zB,zC]
  rw[if_pos (by rfl)]
  go_simp
  go_at_call 92
  refine(HL _ (G.below (yD B2 (yR _))) (HO2.out.below (yR _)) (HBV.out.below (yD B2 (yR _)))).out.mono ?_
  rintro e w3 ⟨⟨n,rfl,hn⟩,b3⟩
  have F3:=kept b3 (show V2.drew.heap[w1.heap.size]? = _ from F2)
  have R3:=kept b3 (show V2.drew.heap[w.heap.size]? = _ from R2)
  have B3:=yD (yD B2 (yR _)) b3
  have HN:=Lib.hid hn
  clear hn
  have O3:=Lib.hid ((HO2.out.below (yR _)).below b3)
  refine hK.out _ _ ⟨F3,R3⟩ (fun h0=>?_)
  clear hK K
  try simp only[Act.put,zA,zB,zC,zD,zE,zF]
  refine zrd (i:=5) rfl (fun K hK=>?_)
  try simp only[zA,zB,zC]
  rw[if_pos (by rfl)]
  go_simp
  go_at_call 91
  refine(HT _ _ (G.below B3) O3.out).out.mono ?_
  rintro e w4 ⟨⟨t,is,rfl,ht,hz⟩,b4⟩
  have F4:=kept b4 F3
  have R4:=kept b4 R3
  have HTT:=Lib.hid (HQ.out n t is HN.out ht)
  clear ht
  refine hK.out _ _ ⟨F4,R4⟩ (fun h0=>?_)
  clear hK K
  try simp only[Act.put,zA,zB,zC,zD,zE,zF]
  refine tk (i:=6) (v:=?v2) rfl (Or.inl ⟨by rfl,?y2⟩) h0 ?r2
  case y2 =>
   intro W hW
   go_simp
   try with_reducible rfl
  simp only[Act.put,zA,zB,zC,zD,zE,zF]
  refine tk (i:=7) (v:=?v3) rfl (Or.inl ⟨by rfl,?y3⟩) h0 ?r3
  case y3 =>
   intro W hW
   go_simp
   try with_reducible rfl
  simp only[Act.put,zA,zB,zC,zD,zE,zF]
  refine tk (i:=8) (v:=?v4) rfl (Or.inl ⟨by rfl,?y4⟩) h0 ?r4
  case y4 =>
   intro W hW
   go_simp
   try with_reducible rfl
  simp only[Act.put,zA,zB,zC,zD,zE,zF]
  refine tk (i:=9) (v:=?v5) rfl (Or.inl ⟨by rfl,?y5⟩) h0 ?r5
  case y5 =>
   intro W hW
   go_simp
   try with_reducible rfl
  simp only[Act.put,zA,zB,zC,zD,zE,zF]
  refine yX (by kernel_rfl) ?_ _
  go_wp2_with fail
  go_ret2
  exact⟨⟨_,_,rfl,HTT.out,hz⟩,yD B3 b4⟩
end
end Go.Proofs.YtdlkjofnnefjfaaGreatDoor
