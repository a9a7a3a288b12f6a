/- layer 8's Merge, whose list is its own. join.Whole; the work's cells; way, tail. join.tail. join.Resolve. -/
import Derived.Test.YtdlkjofnnefjfaaGreatDoorZShort
import Derived.Test.YtdlkjofnnefjfaaGreatDoorZTokA
set_option linter.all false
namespace Go.Proofs.YtdlkjofnnefjfaaGreatDoor
set_option maxRecDepth 100000
section
open Go.RowKit Go.Shelf
set_option maxHeartbeats 2000000 in
theorem zgj (v:Value) (base:List ByteArray) (s:ByteArray) (w:World) (G:Glob w) (hv:Strs w v base) (hs:s.size≤300000) (hl:base.length≤1000000) (hz:∀ x∈base,x.size≤1000000) :
  Calls Tryz.prog 246 #[v,.string s] w fun e w'=>∃ v',e=.returned v'∧w'.ownsRow w.heap.size 9 1 v' (mergeL base s).length ((mergeL base s).map Value.string)∧Below w.heap.size w w':=by
 have hle:=pathSegs_le s
 have HM:Hid (mergeL base s=_):=mergeL.eq_1 base s
 have HS:=fun w'=>Lib.hid (fun (g:Glob w')=>pathSplit_any s w' g hs)
 rw[HM.out]
 obtain⟨l,hl'⟩:∃ l,l=pathSegs s:=⟨_,rfl⟩
 simp only[← hl'] at HS hle ⊢
 clear hl' HM
 have HY:Hid (∀ x∈l,x.size≤1000000):=fun x hx=>by have:=hle.2 x hx;omega
 have hll:l.length≤900001:=by have:=hle.1;omega
 clear hle
 have hv':=hv
 rcases hv' with ⟨rfl,rfl⟩|⟨b,off,cap,rfl,hc1,hc2,hc3,hc4⟩
 ·have hmx:max (0:Int) (-1)=0:=rfl
  have hsl:=slice_h none 0 0 0 (yV _)
  have hsl:∀ w,(Instr.sliceAt 25 (.slice none 0 0) none (some (.int .i64 0)) none).run Tryz.prog w=.ok (.slice none 0 0) w:=hsl
  go_enter Tryz.func246,Tryz.ntmps246
  go_wp2_with fail
  go_region_with (first|(go_at_call 159;refine((HS _).out (G.below (yR _))).mono ?_;rintro e w1 ⟨v1,rfl,hv1,b1⟩;obtain⟨q1,m1,c1,rfl⟩:=hv1.slice;have B1:=Below.trans (yR w) b1;have H2:=Lib.hid (merge_two w1 (.slice none 0 0) (.slice q1 m1 c1) [] l (Strs.nil _) hv1 (by simp <;> omega) (by omega));clear hv1 b1)|(go_at_call 259;refine H2.out.mono ?_;rintro e w2 ⟨v2,rfl,hv2,b2⟩;have H3:=Lib.hid (norm_any v2 _ _ (Strs.of_own hv2) (by simp;omega) (app_le (fun x hx=>absurd hx (by simp)) HY.out));clear hv2)|(go_at_call 158;refine H3.out.mono ?_;rintro e w3 ⟨v3,rfl,hv3,b3⟩;replace hv3:=Lib.hid (own_base hv3 (yD B1 b2).size)))
  all_goals
   go_wp2
   go_ret
   exact⟨_,rfl,hv3.out,yD (yD B1 b2) b3⟩
 ·have hwr:wrap64 ((base.length:Int) - 1)=(base.length:Int) - 1:=by unfold wrap64;omega
  have hbd:((base.length - 1:Nat):Int)≤(cap:Int):=by omega
  have hdl:base.dropLast.length=base.length - 1:=List.length_dropLast
  have HV:∀ w1:World,Below w.heap.size w w1→Strs w1 (.slice (some ⟨b,off,none⟩) (base.length - 1) cap) base.dropLast:=by
   intro w1 b1
   refine .inr ⟨b,off,cap,by rw[hdl],by omega,hc2,Nat.lt_of_lt_of_le hc3 b1.size,fun j hj=>?_⟩
   rw[b1.cell (p:=⟨b,off + j,none⟩) hc3,hc4 j (by omega)]
   have h1:j < base.length - 1:=by omega
   have h2:j < base.length:=by omega
   simp[List.getD,List.getElem?_dropLast,h1,h2]
  replace HV:=Lib.hid HV
  have HX:Hid (∀ x∈base.dropLast,x.size≤1000000):=fun x hx=>hz x (List.dropLast_subset _ hx)
  obtain⟨d,hd⟩:∃ d,d=base.dropLast:=⟨_,rfl⟩
  obtain⟨m,hm⟩:∃ m,m=base.length - 1:=⟨_,rfl⟩
  rw[← hm] at hbd hdl HV
  rw[← hd] at HV HX hdl ⊢
  have hml:m≤1000000:=by omega
  replace hdl:=Lib.hid hdl
  replace HV:Hid (∀ w1:World,Below w.heap.size w w1→Strs w1 (.slice (some ⟨b,off,none⟩) m cap) d):=HV
  have hsl:=slice_h (some ⟨b,off,none⟩) base.length cap m (by omega)
  obtain⟨n,hn⟩:∃ n,n=base.length:=⟨_,rfl⟩
  rw[← hn] at hm hsl hwr hc1 ⊢
  clear hd hc4 hv hz hn
  by_cases h0:n=0
  ·subst h0
   have hm0:m=0:=hm
   subst hm0
   have hmx:max (0:Int) (-1)=0:=rfl
   have hc0:(0:Int)≤(cap:Int):=by omega
   have hwk:IntKind.i64.wrap (-1)=-1:=rfl
   have hwk1:IntKind.i64.wrap (0 - 1)=-1:=rfl
   have hz0:(0:Int).toNat=0:=rfl
   have hm1:max (0:Int) (IntKind.i64.wrap (-1))=0:=rfl
   clear hwr hm
   go_enter Tryz.func246,Tryz.ntmps246
   go_wp2_with fail
   go_region_with (first|(go_at_call 159;refine((HS _).out (G.below (yR _))).mono ?_;rintro e w1 ⟨v1,rfl,hv1,b1⟩;obtain⟨q1,m1,c1,rfl⟩:=hv1.slice;have B1:=Below.trans (yR w) b1;have H2:=Lib.hid (merge_two w1 (.slice (some ⟨b,off,none⟩) 0 cap) (.slice q1 m1 c1) d l (HV.out _ B1) hv1 (by have:=hdl.out;omega) (by omega));clear hv1 b1)|(go_at_call 259;refine H2.out.mono ?_;rintro e w2 ⟨v2,rfl,hv2,b2⟩;have H3:=Lib.hid (norm_any v2 _ _ (Strs.of_own hv2) (by have:=hdl.out;simp;omega) (app_le HX.out HY.out));clear hv2)|(go_at_call 158;refine H3.out.mono ?_;rintro e w3 ⟨v3,rfl,hv3,b3⟩;replace hv3:=Lib.hid (own_base hv3 (yD B1 b2).size)))
   all_goals
    go_wp2
    go_ret
    exact⟨_,rfl,hv3.out,yD (yD B1 b2) b3⟩
  ·obtain rfl:n=m + 1:=by omega
   have hmx:max (0:Int) (m:Int)=(m:Int):=by omega
   have e1:((m + 1:Nat):Int) - 1=(m:Int):=by omega
   rw[e1] at hwr
   have hwk:IntKind.i64.wrap (m:Int)=(m:Int):=by rw[IntKind.wrap_i64];omega
   clear hm h0
   go_enter Tryz.func246,Tryz.ntmps246
   go_wp2_with fail
   go_region_with (first|(go_at_call 159;refine((HS _).out (G.below (yR _))).mono ?_;rintro e w1 ⟨v1,rfl,hv1,b1⟩;obtain⟨q1,m1,c1,rfl⟩:=hv1.slice;have B1:=Below.trans (yR w) b1;have H2:=Lib.hid (merge_two w1 (.slice (some ⟨b,off,none⟩) m cap) (.slice q1 m1 c1) d l (HV.out _ B1) hv1 (by have:=hdl.out;omega) (by omega));clear hv1 b1)|(go_at_call 259;refine H2.out.mono ?_;rintro e w2 ⟨v2,rfl,hv2,b2⟩;have H3:=Lib.hid (norm_any v2 _ _ (Strs.of_own hv2) (by have:=hdl.out;simp;omega) (app_le HX.out HY.out));clear hv2)|(go_at_call 158;refine H3.out.mono ?_;rintro e w3 ⟨v3,rfl,hv3,b3⟩;replace hv3:=Lib.hid (own_base hv3 (yD B1 b2).size)))
   all_goals
    go_wp2
    go_ret
    exact⟨_,rfl,hv3.out,yD (yD B1 b2) b3⟩
end
section
open Go.RowKit
def zfc (s:ByteArray):Bool:=schOK (cleanB s)
theorem zgI (s:ByteArray) (w:World) (G:Glob w) (hs:s.size≤100000) :
  Calls Tryz.prog 225 #[.string s] w fun e w'=>e=.returned (.bool (zfc s))∧Below w.heap.size w w':=by
 have HC:=Lib.hid (clean_any s w G (by omega))
 have HS:=fun w' g=>Lib.hid (scheme_any (cleanB s) w' g (by have:=cleanB_le s;omega))
 unfold zfc
 obtain⟨c,hc⟩:∃ c,c=cleanB s:=⟨_,rfl⟩
 simp only[← hc] at HC HS ⊢
 clear hc
 go_enter Tryz.func225,Tryz.ntmps225
 go_wp2_with (first|(go_at_call 51;refine HC.out.mono ?_;rintro e w1 ⟨rfl,b1⟩)|(go_at_call 95;refine(HS _ (G.below b1)).out.mono ?_;rintro e w2 ⟨rfl,b2⟩))
 go_ret
 exact⟨rfl,yD b1 b2⟩
abbrev zee (u:Url) (pu:Value) (t q f:ByteArray) (hq hf:Bool):Array Value:=#[.string u.scheme,.string u.user,.string u.pass,.int .i64 u.host.kind,.string u.host.name,.int .i64 u.host.num,.int .i64 u.host.six.p0,.int .i64 u.host.six.p1,.int .i64 u.host.six.p2,.int .i64 u.host.six.p3,.int .i64 u.host.six.p4,.int .i64 u.host.six.p5,.int .i64 u.host.six.p6,.int .i64 u.host.six.p7,.int .i64 u.port,pu,.string u.opq,.string u.query,.string u.frag,.bool u.hasQ,.bool u.hasF,.string t,.string q,.string f,.bool hq,.bool hf]
def wayP (p:List ByteArray) (t:ByteArray):List ByteArray:=if t.size=0 then p else if Lib.hasPrefix t.data.toList [47]=true then pathL t else mergeL p t
def Only (g:Nat) (w w':World):Prop:=Below g w w'∧∀ k,k < w.heap.size→k≠g→w'.heap[k]? = w.heap[k]?
theorem Only.refl (g:Nat) (w:World):Only g w w:=⟨Below.refl _ _,fun _ _ _=>rfl⟩
theorem Only.of {g:Nat} {w w':World} (h:Below w.heap.size w w') (hg:g < w.heap.size):Only g w w':=⟨h.mono (Nat.le_of_lt hg),fun k hk _=>h.block k hk⟩
theorem Only.trans {g:Nat} {a b c:World} (h:Only g a b) (k:Only g b c):Only g a c:=⟨h.1.trans k.1,fun i h1 h2=>(k.2 i (Nat.lt_of_lt_of_le h1 h.1.size) h2).trans (h.2 i h1 h2)⟩
theorem Only.set {g:Nat} {w w':World} (h:Only g w w') (j:Nat) (v:Value):Only g w (w'.setCell ⟨g,j,none⟩ v):=⟨h.1.setCell (p:=⟨g,j,none⟩) (yV _) _,fun k hk hne=>(yG _ _ _ _ hne).trans (h.2 k hk hne)⟩
theorem Only.own {g B n:Nat} {w w':World} {v:Value} {xs:List Value} {cs:Array Value} {T:TypeId} {fr:Nat×Nat} (h:Only g w w') (hg:w.heap[g]? = some (.cells cs T fr)) (hT:T≠9) (ho:w.ownsRow B 9 1 v n xs):w'.ownsRow B 9 1 v n xs:=by
 obtain⟨h1,h2⟩:=ho
 refine⟨h1,?_⟩
 rcases h2 with h2|⟨k,cap,cur,hv,hk,hh,r⟩
 ·exact .inl h2
 ·refine .inr ⟨k,cap,cur,hv,hk,(h.2 k (yS hh) ?_).trans hh,r⟩
  rintro rfl
  rw[hg] at hh
  cases hh
  exact hT rfl
def zeh (B g:Nat) (u:Url) (t q f:ByteArray) (hq hf:Bool) (w:World) (e:Ending) (w':World):Prop :=
 e=.returned (.tuple #[])∧∃ pv,w'.heap[g]? = some (.cells (zee u pv t q f hq hf) 286 (0,0))∧w'.ownsRow B 9 1 pv u.path.length (u.path.map Value.string)∧Only g w w'
set_option maxHeartbeats 2000000 in
theorem zig (u:Url) (pv:Value) (t q f:ByteArray) (hq hf:Bool) (g B:Nat) (w:World) (G:Glob w) (hR:w.heap[g]? = some (.cells (zee u pv t q f hq hf) 286 (0,0))) (hO:w.ownsRow B 9 1 pv u.path.length (u.path.map Value.string)) (hB:B≤w.heap.size) (ht:t.size≤300000) (hl:u.path.length≤1000000) (hz:∀ x∈u.path,x.size≤1000000) :
  Calls Tryz.prog 226 #[.pointer (some ⟨g,0,none⟩)] w (zeh B g { u with path:=wayP u.path t } t q f hq hf w):=by
 have HW:Hid (wayP u.path t=_):=wayP.eq_1 u.path t
 obtain⟨P,hP⟩:∃ P,P=wayP u.path t:=⟨_,rfl⟩
 rw[← hP] at HW ⊢
 clear hP
 have c21:=yE hR 21 (.string t) rfl
 by_cases h0:t.size=0
 ·have hZ:P=u.path:=by rw[HW.out,if_pos h0]
  subst hZ
  have he:t.toList.isEmpty=true:=(empty_iff t).2 h0
  have HF:Hid (zeh B g u t q f hq hf w (.returned (.tuple #[])) w):=⟨rfl,pv,hR,hO,Only.refl _ _⟩
  clear HW hO
  go_enter Tryz.func226,Tryz.ntmps226
  go_wp2
  go_end0
  exact HF.out
 ·have he:t.toList.isEmpty=false:=empty_no h0
  have HPX:=fun w'=>Lib.hid (hasPrefix_any t ⟨#[47]⟩ w')
  obtain⟨b,hb⟩:∃ b,b=Lib.hasPrefix t.data.toList [47]:=⟨_,rfl⟩
  have HP2:∀ w',Hid (Calls Tryz.prog 155 #[.string t,.string ⟨#[47]⟩] w' fun e w''=>e=.returned (.bool b)∧w'=w''):=fun w'=>by rw[hb];exact(HPX w').out
  have c15:=yE hR 15 pv rfl
  have f15:=yF hR 15
  have hst:=Strs.of_own hO
  have hgw:=yS hR
  clear HPX
  cases b with
  | true =>
   have hZ:P=pathL t:=by rw[HW.out,if_neg h0,if_pos hb.symm]
   have HX:=Lib.hid hZ
   have HQ:=Lib.hid (pathParse_own t w G ht)
   rw[← hZ] at HQ
   clear HW hb hZ
   go_enter Tryz.func226,Tryz.ntmps226
   go_wp2_with (first|(go_at_call 155;refine(HP2 _).out.mono ?_;rintro e w1 ⟨rfl,rfl⟩)|(go_at_call 103;refine HQ.out.mono ?_;rintro e w2 ⟨v2,rfl,ho2,b2⟩;obtain⟨q2,m2,cc2,rfl⟩:=(Strs.of_own ho2).slice;have R2:=kept b2 hR;have d15:=yE R2 15 pv rfl;have g15:=yF R2 15))
   go_end0
   exact⟨rfl,_,zap (i:=15) R2 (.slice q2 m2 cc2) (by simp),own_base (yU ho2 (a:=⟨g,15,none⟩) hgw _) hB,(Only.of b2 hgw).set 15 _⟩
  | false =>
   have hZ:P=mergeL u.path t:=by rw[HW.out,if_neg h0,if_neg (by rw[← hb];simp)]
   have HX:=Lib.hid hZ
   have HQ:=fun w' g s=>Lib.hid (zgj pv u.path t w' g s ht hl hz)
   simp only[← hZ] at HQ
   clear HW hb hZ
   have HO:=Lib.hid hO
   obtain⟨qv,mv,cv,rfl⟩:=hst.slice
   clear hO
   go_enter Tryz.func226,Tryz.ntmps226
   go_wp2_with (first|(go_at_call 155;refine(HP2 _).out.mono ?_;rintro e w1 ⟨rfl,rfl⟩))
   have c15:w.drew.cell? ⟨g,15,none⟩=some (.slice qv mv cv):=yE hR 15 _ rfl
   go_region_with (first|(go_at_call 246;refine(HQ _ (G.below (yR _)) (hst.below (yR _))).out.mono ?_;rintro e w2 ⟨v2,rfl,ho2,b2⟩;obtain⟨q2,m2,cc2,rfl⟩:=(Strs.of_own ho2).slice;have R2:=kept b2 (show w.drew.heap[g]? = _ from hR);have B2:=yD (yR w) b2;have d15:=yE R2 15 (.slice qv mv cv) rfl;have g15:=yF R2 15))
   all_goals
    go_end0
    exact⟨rfl,_,zap (i:=15) R2 (.slice q2 m2 cc2) (by simp),own_base (yU ho2 (a:=⟨g,15,none⟩) hgw _) hB,(Only.of B2 hgw).set 15 _⟩
def tailU (u:Url) (t q f:ByteArray) (hq hf:Bool):Url :=
 { u with query:=if hq=true∨t.size≠0 then encB 2 q else u.query,hasQ:=if hq=true∨t.size≠0 then hq else u.hasQ,frag:=encB 1 f,hasF:=hf }
def zgP (g:Nat) (u:Url) (pv:Value) (t q f:ByteArray) (hq hf:Bool) (w:World) (e:Ending) (w':World):Prop :=
 e=.returned (.tuple #[])∧w'.heap[g]? = some (.cells (zee u pv t q f hq hf) 286 (0,0))∧Only g w w'
end
section
open Go.RowKit
theorem zdt {W:World} {g:Nat} {cs cs':Array Value} {T:TypeId} {i j:Nat} {v u:Value} (h:W.heap[g]? = some (.cells cs T (0,0))) (e:(cs.setIfInBounds i v).setIfInBounds j u=cs'):((W.setCell ⟨g,i,none⟩ v).setCell ⟨g,j,none⟩ u).heap[g]? = some (.cells cs' T (0,0)) :=
 zap (zap h v rfl) u e
set_option maxHeartbeats 2000000 in
theorem zgK (u:Url) (pv:Value) (t q f:ByteArray) (hq hf:Bool) (g:Nat) (w:World) (hR:w.heap[g]? = some (.cells (zee u pv t q f hq hf) 286 (0,0))) (h1:q.size≤1000000) (h2:f.size≤1000000) :
  Calls Tryz.prog 227 #[.pointer (some ⟨g,0,none⟩)] w (zgP g (tailU u t q f hq hf) pv t q f hq hf w):=by
 have HU:Hid (tailU u t q f hq hf=_):=tailU.eq_1 u t q f hq hf
 obtain⟨x,hx⟩:∃ x,x=tailU u t q f hq hf:=⟨_,rfl⟩
 rw[← hx] at HU ⊢
 clear hx
 have HQ:∀ w',Hid (Calls Tryz.prog 98 #[.string q,.int .i64 2] w' fun e w''=>e=.returned (.string (encB 2 q))∧Below w'.heap.size w' w''):=fun w'=>encode_any q 2 w' (by omega)
 have HF:∀ w',Hid (Calls Tryz.prog 98 #[.string f,.int .i64 1] w' fun e w''=>e=.returned (.string (encB 1 f))∧Below w'.heap.size w' w''):=fun w'=>encode_any f 1 w' (by omega)
 obtain⟨eq,heq⟩:∃ eq,eq=encB 2 q:=⟨_,rfl⟩
 obtain⟨ef,hef⟩:∃ ef,ef=encB 1 f:=⟨_,rfl⟩
 simp only[← heq,← hef] at HQ HF
 rw[← heq,← hef] at HU
 clear heq hef
 have hgl:=yS hR
 have c24:=yE hR 24 (.bool hq) rfl
 have c21:=yE hR 21 (.string t) rfl
 have c22:=yE hR 22 (.string q) rfl
 go_enter Tryz.func227,Tryz.ntmps227
 go_upto_region 0 with fail
 obtain⟨b,hb⟩:∃ b,b=(hq || decide (t.size≠0)):=⟨_,rfl⟩
 have HB:=Lib.hid hb
 go_cut [12] from 2 to 12 (fun v wx=>v=.bool b∧w=wx)
 case first =>
  cases hq with
  | true =>
   have hb2:Hid (b=true):=hb
   clear hb HU
   go_wp2_with fail
   go_meet
   case rel=>exact⟨by rw[hb2.out],rfl⟩
  | false =>
   by_cases h0:t.size=0
   ·have he:t.toList.isEmpty=true:=(empty_iff t).2 h0
    have hb2:Hid (b=false):=by show _=_;rw[hb,decide_eq_false (by omega)];rfl
    clear hb HU
    go_wp2_with fail
    go_meet
    case rel=>exact⟨by rw[hb2.out],rfl⟩
   ·have he:t.toList.isEmpty=false:=empty_no h0
    have hb2:Hid (b=true):=by show _=_;rw[hb,decide_eq_true h0];rfl
    clear hb HU
    go_wp2_with fail
    go_meet
    case rel=>exact⟨by rw[hb2.out],rfl⟩
 case rest =>
 obtain⟨rfl,rfl⟩:=hcut
 clear hb
 go_upto_if 12 with fail
 go_cut [] from 2 to 29 (fun wx=>∃ v,v={ u with query:=if b=true then eq else u.query,hasQ:=if b=true then hq else u.hasQ }∧wx.heap[g]? = some (.cells (zee v pv t q f hq hf) 286 (0,0))∧Only g w wx)
 case first =>
  cases b with
  | true =>
   clear HU HB
   go_wp2_with fail
   go_region_with (first|(go_at_call 98;refine(HQ _).out.mono ?_;rintro e w2 ⟨rfl,b2⟩;have R2:=kept b2 (show w.drew.heap[g]? = _ from hR);have B2:=yD (yR w) b2;have d17:=yE R2 17 (.string u.query) rfl;have g17:=yF R2 17;have d19:=yE R2 19 (.bool u.hasQ) rfl;have g19:=yF R2 19;have d24:=yE R2 24 (.bool hq) rfl))
   all_goals
    go_wp2_with fail
    go_meet
    case rel=>exact⟨_,rfl,zdt R2 (by simp),((Only.of B2 hgl).set 17 _).set 19 _⟩
  | false =>
   clear HU HB
   go_wp2_with fail
   go_meet
   case rel=>exact⟨u,rfl,hR,Only.refl _ _⟩
 case rest =>
  obtain⟨v,hv,hR,hB⟩:=hcut
  have HV:=Lib.hid hv
  have hgw:g < wc.heap.size:=yS hR
  have c23:=yE hR 23 (.string f) rfl
  have c25:=yE hR 25 (.bool hf) rfl
  clear hv c21 c22 c24
  go_wp2_with fail
  go_region_with (first|(go_at_call 98;refine(HF _).out.mono ?_;rintro e w2 ⟨rfl,b2⟩;have R2:=kept b2 (show wc.drew.heap[g]? = _ from hR);have B2:=yD (yR wc) b2;have d18:=yE R2 18 (.string v.frag) rfl;have g18:=yF R2 18;have d20:=yE R2 20 (.bool v.hasF) rfl;have g20:=yF R2 20;have d25:=yE R2 25 (.bool hf) rfl))
  all_goals
   go_end0
   refine⟨rfl,?_,((hB.trans (Only.of B2 hgw)).set 18 _).set 20 _⟩
   have hx:x={ v with frag:=ef,hasF:=hf }:=by
    rw[HU.out,HV.out,HB.out]
    cases hq <;> by_cases h0:t.size=0 <;> simp[h0]
   rw[hx]
   exact zdt R2 (by simp)
end
section
open Go.RowKit
def relU (b:Url) (s:ByteArray):Url:=tailU { zbv b with path:=wayP b.path (tailT s) } (tailT s) (tailQ s) (tailF s) (tailHQ s) (tailHF s)
def resolveR (b:Url) (ref:ByteArray):Option Url :=
 if urlMay b=false then none
 else if zfc (cleanB ref)=true then parseR (cleanB ref)
 else if webP b.scheme=0 then none
 else if Lib.hasPrefix (cleanB ref).data.toList [47,47]=true then parseR (b.scheme++⟨#[58]⟩++cleanB ref)
 else some (relU b (cleanB ref))
theorem zcU (s:ByteArray) (h:webP s≠0):s.size≤5:=by
 unfold webP at h
 split at h
 ·rename_i h1;rw[h1];decide
 ·split at h
  ·rename_i h1;rw[h1];decide
  ·exact absurd rfl h
set_option maxHeartbeats 4000000 in
theorem zeF (u:Url) (pv:Value) (ref:ByteArray) (w:World) (G:Glob w) (hp:Strs w pv u.path) (hf':u.Fits) (hl:u.path.length≤1000000) (hs:ref.size≤90000) :
  Calls Tryz.prog 182 #[.agg (urlC u pv),.string ref] w (ParsedLeft (resolveR u ref) w):=by
 have HX:Hid (resolveR u ref=_):=resolveR.eq_1 u ref
 obtain⟨x,hx⟩:∃ x,x=resolveR u ref:=⟨_,rfl⟩
 rw[← hx] at HX ⊢
 clear hx
 have R0:=row2a w (.cells (urlC u pv) 27) (.cells (urlC url0 (.slice none 0 0)) 27)
 have S0:=row2b w (.cells (urlC u pv) 27) (.cells (urlC url0 (.slice none 0 0)) 27)
 have B0:=bel2 w (.cells (urlC u pv) 27) (.cells (urlC url0 (.slice none 0 0)) 27)
 have HC:=fun w' g=>Lib.hid (clean_any ref w' g (by omega))
 have hcl:=cleanB_le ref
 obtain⟨s,hsx⟩:∃ s,s=cleanB ref:=⟨_,rfl⟩
 simp only[← hsx] at HC hcl
 rw[← hsx] at HX
 clear hsx
 have hs1:s.size≤90000:=yW hcl hs
 have HM:=fun w' g h=>Lib.hid (zbN u pv w' g h hf')
 have HW:=fun w' g=>Lib.hid (zgI s w' g (by omega))
 have HB:=fun w'=>Lib.hid (web_any u.scheme w')
 have HP:=fun w'=>Lib.hid (hasPrefix_any s ⟨#[47,47]⟩ w')
 have HQ:=fun w' g=>Lib.hid (urlParse_any s w' g (by omega))
 have HQ2:webP u.scheme≠0→∀ w',Glob w'→Hid (Calls Tryz.prog 22 #[.string (u.scheme++⟨#[58]⟩++s)] w' (ParsedLeft (parseR (u.scheme++⟨#[58]⟩++s)) w')):=fun hw w' g=>urlParse_any _ w' g (by
  have h1:=zcU _ hw
  have e1:(⟨#[58]⟩:ByteArray).size=1:=rfl
  simp only[app_size];omega)
 have hsz:=fun hw=>zcU u.scheme hw
 obtain⟨mb,hmb⟩:∃ b,b=urlMay u:=⟨_,rfl⟩
 obtain⟨wb,hwb⟩:∃ b,b=zfc s:=⟨_,rfl⟩
 obtain⟨n,hn⟩:∃ b,b=webP u.scheme:=⟨_,rfl⟩
 obtain⟨pb,hpb⟩:∃ b,b=Lib.hasPrefix s.data.toList [47,47]:=⟨_,rfl⟩
 rw[← hmb,← hwb,← hn,← hpb] at HX
 simp only[← hmb,← hwb,← hn,← hpb] at HM HW HB HP HQ2 hsz
 clear hmb hwb hn hpb hcl
 have hpb:=hp.below B0
 have hp2:=hp
 go_enter Tryz.func182,Tryz.ntmps182
 go_wp2_with fail
 refine(HC _ (G.below B0)).out.mono ?_
 rintro e w1 ⟨rfl,b1⟩
 have R1:=kept b1 R0
 have S1:=kept b1 S0
 have B1:=yD B0 b1
 clear HC
 go_wp2_with (first|((with_reducible (show wpList _ _ _ (Oper.mk _ (.load 27 _) _ _ _ none::_) _ _));refine yK rfl 27 _ rfl w.heap.size rfl 27 _ (0,0) _ R1 yB rfl yN ?_))
 refine(HM _ (G.below B1) (hp.below B1)).out.mono ?_
 rintro e w2 ⟨rfl,b2⟩
 have R2:=kept b2 R1
 have S2:=kept b2 S1
 have B2:=yD B1 b2
 clear HM
 cases mb with
 | false =>
  have HZ:Hid (x=none):=by show _=_;rw[HX.out,if_pos rfl]
  clear HX
  go_wp2_with (first|((with_reducible (show wpList _ _ _ (Oper.mk none (.store 27 _ _) _ _ _ none::_) _ _));refine yJ rfl 27 _ _ rfl (w.heap.size + 1) _ rfl rfl 27 _ S2 yN rfl (by simp[Value.oneCell']) ?_))
  rw[HZ.out]
  exact yO (results_url rfl _ _ (w.heap.size + 1) 27 url0 (.slice none 0 0) (0,0) rfl (yH _ _ _ _ _ _ S2) _ rfl) rfl ⟨yM B2 (Nat.le_succ _),rfl⟩
 | true =>
  have HX:Hid (x=if wb=true then parseR s else if n=0 then none else if pb=true then parseR (u.scheme++⟨#[58]⟩++s) else some (relU u s)):=by show _=_;rw[HX.out,if_neg (by simp)]
  go_wp2_with fail
  refine(HW _ (G.below B2)).out.mono ?_
  rintro e w3 ⟨rfl,b3⟩
  have R3:=kept b3 R2
  have S3:=kept b3 S2
  have B3:=yD B2 b3
  clear HW
  cases wb with
  | true =>
   have HZ:Hid (x=parseR s):=by show _=_;rw[HX.out,if_pos rfl]
   obtain⟨r,hr⟩:∃ r,r=parseR s:=⟨_,rfl⟩
   rw[← hr] at HZ
   simp only[← hr] at HQ
   clear HX hr
   go_wp2_with fail
   refine(HQ _ (G.below B3)).out.mono ?_
   intro e w4 hP
   obtain⟨b4,hP⟩:=hP
   have S4:=kept b4 S3
   have B4:=yD B3 b4
   cases r with
   | none =>
    obtain rfl:=hP
    go_wp2_with (first|((with_reducible (show wpList _ _ _ (Oper.mk none (.store 27 _ _) _ _ _ none::_) _ _));refine yJ rfl 27 _ _ rfl (w.heap.size + 1) _ rfl rfl 27 _ S4 yN rfl (by simp[Value.oneCell']) ?_))
    rw[HZ.out]
    exact yO (results_url rfl _ _ (w.heap.size + 1) 27 url0 (.slice none 0 0) (0,0) rfl (yH _ _ _ _ _ _ S4) _ rfl) rfl ⟨yM B4 (Nat.le_succ _),rfl⟩
   | some v =>
    obtain⟨pv2,rfl,hO⟩:=hP
    obtain⟨q2,m2,k2,rfl⟩:=(Strs.of_own hO).slice
    have hO2:=own_base (own_setRow (g:=w.heap.size + 1) (cs:=urlC v (.slice q2 m2 k2)) hO (yS S3)) (B':=w.heap.size) (by have:=B3.size;omega)
    have HF:=Lib.hid (And.intro hO2 (yM B4 (Nat.le_succ _) (cs:=urlC v (.slice q2 m2 k2))))
    clear hO hO2
    go_wp2_with (first|((with_reducible (show wpList _ _ _ (Oper.mk none (.store 27 _ _) _ _ _ none::_) _ _));refine yJ rfl 27 _ _ rfl (w.heap.size + 1) _ rfl rfl 27 _ S4 yN rfl (by simp[Value.oneCell']) ?_))
    rw[HZ.out]
    exact yO (results_url rfl _ _ (w.heap.size + 1) 27 v (.slice q2 m2 k2) (0,0) rfl (yH _ _ _ _ _ _ S4) _ rfl) rfl ⟨HF.out.2,_,rfl,HF.out.1⟩
  | false =>
   have HX:Hid (x=if n=0 then none else if pb=true then parseR (u.scheme++⟨#[58]⟩++s) else some (relU u s)):=by show _=_;rw[HX.out,if_neg (by simp)]
   clear HQ
   have c3:=yE R3 0 (.string u.scheme) rfl
   by_cases hn0:n=0
   ·subst hn0
    have HZ:Hid (x=none):=by show _=_;rw[HX.out,if_pos rfl]
    clear HX
    go_wp2_with fail
    refine(HB _).out.mono ?_
    rintro e w4 ⟨rfl,rfl⟩
    go_wp2_with (first|((with_reducible (show wpList _ _ _ (Oper.mk none (.store 27 _ _) _ _ _ none::_) _ _));refine yJ rfl 27 _ _ rfl (w.heap.size + 1) _ rfl rfl 27 _ S3 yN rfl (by simp[Value.oneCell']) ?_))
    rw[HZ.out]
    exact yO (results_url rfl _ _ (w.heap.size + 1) 27 url0 (.slice none 0 0) (0,0) rfl (yH _ _ _ _ _ _ S3) _ rfl) rfl ⟨yM B3 (Nat.le_succ _),rfl⟩
   ·have HX:Hid (x=if pb=true then parseR (u.scheme++⟨#[58]⟩++s) else some (relU u s)):=by show _=_;rw[HX.out,if_neg hn0]
    have hnb:(n == 0)=false:=by rw[beq_eq_false_iff_ne];exact hn0
    have hz5:=hsz hn0
    have HQ2:=HQ2 hn0
    go_wp2_with fail
    refine(HB _).out.mono ?_
    rintro e w4 ⟨rfl,rfl⟩
    clear HB
    go_wp2_with fail
    refine(HP _).out.mono ?_
    rintro e w4 ⟨rfl,rfl⟩
    clear HP
    cases pb with
    | true =>
     have HZ:Hid (x=parseR (u.scheme++⟨#[58]⟩++s)):=by show _=_;rw[HX.out,if_pos rfl]
     have hz6:¬ (9223372036854775807 < u.scheme.size + 1):=by omega
     have hz7:¬ (9223372036854775807 < u.scheme.size + 1 + s.size):=by omega
     obtain⟨r,hr⟩:∃ r,r=parseR (u.scheme++⟨#[58]⟩++s):=⟨_,rfl⟩
     rw[← hr] at HZ
     simp only[← hr] at HQ2
     clear HX hr
     go_wp2_with fail
     refine(HQ2 _ (G.below B3)).out.mono ?_
     intro e w4 hP
     obtain⟨b4,hP⟩:=hP
     have S4:=kept b4 S3
     have B4:=yD B3 b4
     cases r with
     | none =>
      obtain rfl:=hP
      go_wp2_with (first|((with_reducible (show wpList _ _ _ (Oper.mk none (.store 27 _ _) _ _ _ none::_) _ _));refine yJ rfl 27 _ _ rfl (w.heap.size + 1) _ rfl rfl 27 _ S4 yN rfl (by simp[Value.oneCell']) ?_))
      rw[HZ.out]
      exact yO (results_url rfl _ _ (w.heap.size + 1) 27 url0 (.slice none 0 0) (0,0) rfl (yH _ _ _ _ _ _ S4) _ rfl) rfl ⟨yM B4 (Nat.le_succ _),rfl⟩
     | some v =>
      obtain⟨pv2,rfl,hO⟩:=hP
      obtain⟨q2,m2,k2,rfl⟩:=(Strs.of_own hO).slice
      have hO2:=own_base (own_setRow (g:=w.heap.size + 1) (cs:=urlC v (.slice q2 m2 k2)) hO (yS S3)) (B':=w.heap.size) (by have:=B3.size;omega)
      have HF:=Lib.hid (And.intro hO2 (yM B4 (Nat.le_succ _) (cs:=urlC v (.slice q2 m2 k2))))
      clear hO hO2
      go_wp2_with (first|((with_reducible (show wpList _ _ _ (Oper.mk none (.store 27 _ _) _ _ _ none::_) _ _));refine yJ rfl 27 _ _ rfl (w.heap.size + 1) _ rfl rfl 27 _ S4 yN rfl (by simp[Value.oneCell']) ?_))
      rw[HZ.out]
      exact yO (results_url rfl _ _ (w.heap.size + 1) 27 v (.slice q2 m2 k2) (0,0) rfl (yH _ _ _ _ _ _ S4) _ rfl) rfl ⟨HF.out.2,_,rfl,HF.out.1⟩
    | false =>
     have HZ:Hid (x=some (relU u s)):=by show _=_;rw[HX.out,if_neg (by simp)]
     clear HX HQ2
     have HBA:=Lib.hid (zdg u pv w3 (hp.below B3) (by omega))
     have HT:=fun w' g=>Lib.hid (tail_any s w' g (by omega))
     obtain⟨tt,htt⟩:∃ t,t=tailT s:=⟨_,rfl⟩
     obtain⟨tq,htq⟩:∃ t,t=tailQ s:=⟨_,rfl⟩
     obtain⟨tf,htf⟩:∃ t,t=tailF s:=⟨_,rfl⟩
     obtain⟨hq,hhq⟩:∃ t,t=tailHQ s:=⟨_,rfl⟩
     obtain⟨hf,hhf⟩:∃ t,t=tailHF s:=⟨_,rfl⟩
     have HZ:Hid (x=some (tailU { zbv u with path:=wayP u.path tt } tt tq tf hq hf)):=by show _=_;rw[HZ.out,htt,htq,htf,hhq,hhf];rfl
     simp only[← htt,← htq,← htf,← hhq,← hhf] at HT
     have hmf:∀ (fn:Fn) (first cap:Array Value) (w:World),(Instr.makeFunc fn first cap).run Tryz.prog w=.ok (.func fn first cap) w:=fun _ _ _ _=>rfl
     have hts:=tail_le s
     rw[← htt,← htq,← htf] at hts
     clear htt htq htf hhq hhf
     go_wp2_with (first|((with_reducible (show wpList _ _ _ (Oper.mk _ (.load 27 _) _ _ _ none::_) _ _));refine yK rfl 27 _ rfl w.heap.size rfl 27 _ (0,0) _ R3 yB rfl yN ?_))
     refine HBA.out.mono ?_
     rintro e w4 ⟨pb,rfl,hO,b4⟩
     have R4:=kept b4 R3
     have S4:=kept b4 S3
     have B4:=yD B3 b4
     obtain⟨q2,m2,k2,rfl⟩:=(Strs.of_own hO).slice
     have W5:=row1 w4 (.cells (zee (zbv u) (.slice q2 m2 k2) ⟨#[]⟩ ⟨#[]⟩ ⟨#[]⟩ false false) 286)
     have b5:=bel1 w4 (.cells (zee (zbv u) (.slice q2 m2 k2) ⟨#[]⟩ ⟨#[]⟩ ⟨#[]⟩ false false) 286)
     have B5:=yD B4 b5
     have hz4:¬ (w4.heap.size < 6):=by have:=(G.below B4).lt;omega
     go_wp2_with fail
     refine(HT _ (G.below B5)).out.mono ?_
     rintro e w6 ⟨rfl,b6⟩
     have R6:=kept b6 W5
     have B6:=yD B5 b6
     have S6:=kept b6 (kept b5 S4)
     have O6:=zaz (zaz (zaz hO (Below.refl _ _)) b5) b6
     have d21:=yE R6 21 (.string ⟨#[]⟩) rfl
     have d22:=yE R6 22 (.string ⟨#[]⟩) rfl
     have d23:=yE R6 23 (.string ⟨#[]⟩) rfl
     have d24:=yE R6 24 (.bool false) rfl
     have d25:=yE R6 25 (.bool false) rfl
     have f21:=yF R6 21
     have f22:=yF R6 22
     have f23:=yF R6 23
     have f24:=yF R6 24
     have f25:=yF R6 25
     obtain⟨W7,hW7⟩:∃ W7,((((w6.setCell ⟨w4.heap.size,21,none⟩ (.string tt)).setCell ⟨w4.heap.size,22,none⟩ (.string tq)).setCell ⟨w4.heap.size,23,none⟩ (.string tf)).setCell ⟨w4.heap.size,24,none⟩ (.bool hq)).setCell ⟨w4.heap.size,25,none⟩ (.bool hf)=W7:=⟨_,rfl⟩
     have R7:W7.heap[w4.heap.size]? = some (.cells (zee (zbv u) (.slice q2 m2 k2) tt tq tf hq hf) 286 (0,0)):=by
      rw[← hW7]
      exact zap (zap (zap (zap (zap R6 _ rfl) _ rfl) _ rfl) _ rfl) _ (by simp)
     have N7:Only w4.heap.size w6 W7:=by rw[← hW7];exact(((((Only.refl _ _).set 21 _).set 22 _).set 23 _).set 24 _).set 25 _
     clear d21 d22 d23 d24 d25 f21 f22 f23 f24 f25
     have d21:=yE R6 21 (.string ⟨#[]⟩) rfl
     have d22:=yE R6 22 (.string ⟨#[]⟩) rfl
     have d23:=yE R6 23 (.string ⟨#[]⟩) rfl
     have d24:=yE R6 24 (.bool false) rfl
     have d25:=yE R6 25 (.bool false) rfl
     have f21:=yF R6 21
     have f22:=yF R6 22
     have f23:=yF R6 23
     have f24:=yF R6 24
     have f25:=yF R6 25
     go_upto_region 12 with fail
     clear hW7 d21 d22 d23 d24 d25 f21 f22 f23 f24 f25
     obtain⟨T8,hT8⟩:∃ T:TypeId,T=1:=⟨_,rfl⟩
     have O7:=N7.own R6 (by decide) O6
     have B7:Below w.heap.size w W7:=B6.trans (N7.1.mono B4.size)
     have hsz7:=N7.1.size
     have hg6:w4.heap.size < w6.heap.size:=yS R6
     have HWAY:∀ W8,Below W7.heap.size W7 W8→Hid (Calls Tryz.prog 226 #[.pointer (some ⟨w4.heap.size,0,none⟩)] W8 (zeh w3.heap.size w4.heap.size { zbv u with path:=wayP u.path tt } tt tq tf hq hf W8)):=fun W8 h8 =>
      zig (zbv u) (.slice q2 m2 k2) tt tq tf hq hf w4.heap.size w3.heap.size W8 (G.below (yD B7 h8)) (kept h8 R7) (zaz O7 h8) (by have:=h8.size;have:=b4.size;omega) (by omega) hl hf'.sp
     have HTL:=fun v pv W R=>Lib.hid (zgK v pv tt tq tf hq hf w4.heap.size W R (by omega) (by omega))
     have S7:=(N7.2 _ (yS S6) (by have:=yS S4;omega)).trans S6
     clear hts N7 O7 O6 R6 S6 hsz7 hT8
     have z7:=B7.size
     go_wp2_with fail
     refine wp_loop_rounds 3 ?_
     rw[rounds_succ]
     go_wp2_with fail
     refine(HWAY _ (bel1 _ _)).out.mono ?_
     rintro e w8 ⟨rfl,pv3,R8,O8,N8⟩
     obtain⟨q3,m3,k3,rfl⟩:=(Strs.of_own O8).slice
     have K7:=row1 W7 (.cells #[.func (.func 226) #[.pointer (some ⟨w4.heap.size,0,none⟩)] #[],.func (.func 227) #[.pointer (some ⟨w4.heap.size,0,none⟩)] #[]] 1)
     have k7:=bel1 W7 (.cells #[.func (.func 226) #[.pointer (some ⟨w4.heap.size,0,none⟩)] #[],.func (.func 227) #[.pointer (some ⟨w4.heap.size,0,none⟩)] #[]] 1)
     have hg7:w4.heap.size < W7.heap.size:=yS R7
     have K8:=(N8.2 W7.heap.size (by simp) (by omega)).trans K7
     have c8:=yE K8 1 _ rfl
     have S8:=(N8.2 _ (yS (kept k7 S7)) (by have:=yS S4;omega)).trans (kept k7 S7)
     have B8:Below w.heap.size w w8:=(yD B7 k7).trans (N8.1.mono B4.size)
     have k8l:W7.heap.size < w8.heap.size:=yS K8
     have HN8:=Lib.hid (And.intro N8 K8)
     clear N8 K8
     go_wp2_with fail
     rw[rounds_succ]
     go_wp2_with fail
     refine(HTL _ _ _ R8).out.mono ?_
     rintro e w9 ⟨rfl,R9,N9⟩
     have O9:=N9.own R8 (by decide) O8
     have S9:=(N9.2 _ (yS S8) (by have:=yS S4;omega)).trans S8
     have B9:Below w.heap.size w w9:=B8.trans (N9.1.mono B4.size)
     obtain⟨y,hy⟩:∃ y,y=tailU { zbv u with path:=wayP u.path tt } tt tq tf hq hf:=⟨_,rfl⟩
     rw[← hy] at HZ R9
     have hyp:y.path=wayP u.path tt:=by rw[hy];rfl
     have O10:=own_base (own_setRow (g:=w.heap.size + 1) (cs:=urlC y (.slice q3 m3 k3)) O9 (yS S3)) (B':=w.heap.size) B3.size
     have HF:Hid ((w9.setRow (w.heap.size + 1) (urlC y (.slice q3 m3 k3))).ownsRow w.heap.size 9 1 (.slice q3 m3 k3) y.path.length (y.path.map Value.string)∧Below w.heap.size w (w9.setRow (w.heap.size + 1) (urlC y (.slice q3 m3 k3)))):=⟨by rw[hyp];exact O10,yM B9 (Nat.le_succ _)⟩
     clear hy hyp O10 O9 O8 HN8
     go_wp2_with fail
     rw[rounds_succ]
     go_wp2_with (first|((with_reducible (show wpList _ _ _ (Oper.mk _ (.load 27 _) _ _ _ none::_) _ _));refine zaa (by rfl) 27 _ rfl w4.heap.size 0 rfl (urlC y (.slice q3 m3 k3)) _ (zae R9 0 _ rfl) yB rfl yN ?_)|((with_reducible (show wpList _ _ _ (Oper.mk none (.store 27 _ _) _ _ _ none::_) _ _));refine yJ rfl 27 _ _ rfl (w.heap.size + 1) _ rfl rfl 27 _ S9 yN rfl (by simp[Value.oneCell']) ?_))
     rw[HZ.out]
     exact yO (results_url rfl _ _ (w.heap.size + 1) 27 y (.slice q3 m3 k3) (0,0) rfl (yH _ _ _ _ _ _ S9) _ rfl) rfl ⟨HF.out.2,_,rfl,HF.out.1⟩
end
end Go.Proofs.YtdlkjofnnefjfaaGreatDoor
