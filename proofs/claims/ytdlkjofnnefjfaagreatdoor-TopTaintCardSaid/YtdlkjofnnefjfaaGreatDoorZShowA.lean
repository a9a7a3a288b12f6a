/- place.Raw, Place. place.Place. show.Show$1: texts put into a Builder; show.Door. show.Door, Show. show.Show. -/
import Derived.Test.YtdlkjofnnefjfaaGreatDoorZShort
import Derived.Test.YtdlkjofnnefjfaaGreatDoorZJoinA
set_option linter.all false
namespace Go.Proofs.YtdlkjofnnefjfaaGreatDoor
set_option maxRecDepth 100000
section
open Go.RowKit
def sLoc:ByteArray:=⟨#[76,111,99,97,116,105,111,110]⟩
theorem zgm (g b off cap n:Nat) (x s:ByteArray) (w:World) (hc:w.cell? ⟨g,0,none⟩=some (.slice (some ⟨b,off,none⟩) (n + 1) cap)) (hx:w.cell? ⟨b,off,none⟩=some (.string x)) :
  Calls Tryz.prog 223 #[.string s,.pointer (some ⟨g,0,none⟩)] w fun e w'=>e=.returned (.bool (!decide (s=x)))∧Below w.heap.size w w':=by
 have hlt:(0:Int) < (n:Int) + 1:=by omega
 have hlt2:(0:Int) < ((n + 1:Nat):Int):=by omega
 by_cases h:s=x
 ·subst h
  have hz:Hid ((!decide (s=s))=false):=by show _=_;simp
  rw[hz.out]
  have he:(s.toList == s.toList)=true:=by simp
  go_enter Tryz.func223,Tryz.ntmps223
  go_wp2
  go_ret
  exact⟨rfl,Below.refl _ _⟩
 ·have hz:Hid ((!decide (s=x))=true):=by show _=_;simp[h]
  rw[hz.out]
  have he:(s.toList == x.toList)=false:=beq_no h
  clear h hz
  go_enter Tryz.func223,Tryz.ntmps223
  go_wp2
  go_ret
  exact⟨rfl,Below.refl _ _⟩
def rawR (l:List Fld):ByteArray×Int:=match allL sLoc l with
 | []=>(⟨#[]⟩,0)
 | x::r=>if (x::r).any (fun s=>!decide (s=x))=true then (⟨#[]⟩,2) else (Iso.widB x,1)
set_option maxHeartbeats 1000000 in
theorem zh4 (v:Value) (l:List Fld) (w:World) (hv:Flds w v l) (hf:zax l) (hz:∀ f∈l,f.2.size≤1000000) :
  Calls Tryz.prog 181 #[v] w fun e w'=>e=.returned (.tuple #[.string (rawR l).1,.int .i64 (rawR l).2])∧Below w.heap.size w w':=by
 have HA:=Lib.hid (zfO v l sLoc w hv hf (by decide))
 have hmf:∀ (fn:Fn) (first cap:Array Value) (w:World),(Instr.makeFunc fn first cap).run Tryz.prog w=.ok (.func fn first cap) w:=fun _ _ _ _=>rfl
 obtain⟨l',hl'⟩:∃ l',l'=allL sLoc l:=⟨_,rfl⟩
 have hR:Hid (rawR l=_):=rawR.eq_1 l
 obtain⟨r,hr⟩:∃ r,r=rawR l:=⟨_,rfl⟩
 rw[← hr,← hl'] at hR
 rw[← hl'] at HA
 rw[← hr]
 have hsz:∀ x∈l',x.size≤1000000:=by
  intro x hx
  rw[hl'] at hx
  obtain⟨f,hf2,rfl⟩:=List.mem_map.1 hx
  exact hz f (List.mem_filter.1 hf2).1
 have hll:l'.length≤1000000:=by rw[hl'];exact yW (zbT _ _) hf.1
 clear hr hl' hz
 obtain⟨q,m,c,rfl⟩:=hv.slice
 go_enter Tryz.func181,Tryz.ntmps181
 go_wp2_with fail
 refine HA.out.mono ?_
 rintro e w1 ⟨v1,rfl,ho,b1⟩
 have hs1:=Strs.of_own ho
 cases l' with
 | nil =>
  have HZ:Hid (r=(⟨#[]⟩,0)):=hR.out
  clear hR
  obtain⟨q2,m2,c2,rfl,hm2⟩:∃ q m c,v1=.slice q m c∧m=0:=by
   rcases hs1 with ⟨h,_⟩|⟨b,off,cap,h,_⟩
   ·exact⟨_,_,_,h,rfl⟩
   ·exact⟨_,_,_,h,rfl⟩
  subst hm2
  go_wp2
  go_ret2
  exact⟨by rw[HZ.out];rfl,yD b1 (bel1 _ _)⟩
 | cons x t =>
  obtain⟨b,off,cap,rfl,hcap,hmx,hb,hcells⟩:∃ b off cap,v1=.slice (some ⟨b,off,none⟩) (t.length + 1) cap∧t.length + 1≤cap∧cap≤maxLen∧b < w1.heap.size∧w1.cell? ⟨b,off,none⟩=some (.string x):=by
   rcases hs1 with ⟨_,h⟩|⟨b,off,cap,h,h1,h2,h3,h4⟩
   ·cases h
   ·exact⟨b,off,cap,h,h1,h2,h3,by have:=h4 0 (by simp);simpa using this⟩
  have R1:=row1 w1 (.cells #[.slice (some ⟨b,off,none⟩) (t.length + 1) cap] 25)
  have b2:=bel1 w1 (.cells #[.slice (some ⟨b,off,none⟩) (t.length + 1) cap] 25)
  have B2:=yD b1 b2
  have hask:AskStr 223 #[.pointer (some ⟨w1.heap.size,0,none⟩)] (fun s=>!decide (s=x)) 1000000 (w1.alloc (.cells #[.slice (some ⟨b,off,none⟩) (t.length + 1) cap] 25)):=fun W hW s _ =>
   zgm w1.heap.size b off cap t.length x s W (yE (kept hW R1) 0 _ rfl) ((hW.cell (p:=⟨b,off,none⟩) (by simp;omega)).trans ((b2.cell (p:=⟨b,off,none⟩) hb).trans hcells))
  have HC:=Lib.hid (containsFunc_any 223 #[.pointer (some ⟨w1.heap.size,0,none⟩)] (enters_of Tryz.func223 (by kernel_rfl) rfl) (fun s=>!decide (s=x)) 1000000 _ (x::t) _ hask (hs1.below b2) (by omega) hsz)
  have hlb:(((t.length + 1:Nat):Int) == 0)=false:=by rw[beq_eq_false_iff_ne];omega
  have hl0:(0:Int) < (t.length:Int) + 1:=by omega
  have hcx:=(b2.cell (p:=⟨b,off,none⟩) hb).trans hcells
  have HW:=fun w'=>Lib.hid (Iso.wide_any x w' (by have:=hsz x (by simp);omega))
  obtain⟨a,ha⟩:∃ a,a=(x::t).any (fun s=>!decide (s=x)):=⟨_,rfl⟩
  have hR2:Hid (r=if a=true then (⟨#[]⟩,2) else (Iso.widB x,1)):=by show _=_;rw[hR.out,ha]
  rw[← ha] at HC
  clear ha hR hask hs1 ho hcells hsz hll hv HA
  try simp only[List.length_cons] at HC
  generalize t.length=n at HC R1 hlb hl0 b2 B2 hcx hcap ⊢
  cases a with
  | true =>
   have HZ:Hid (r=(⟨#[]⟩,2)):=hR2.out
   clear hR2
   go_wp2_with (first|(go_at_call 87;refine HC.out.mono ?_;rintro e w2 ⟨rfl,b3⟩))
   go_ret2
   exact⟨by rw[HZ.out];rfl,yD B2 b3⟩
  | false =>
   have HZ:Hid (r=(Iso.widB x,1)):=hR2.out
   clear hR2
   go_wp2_with (first|(go_at_call 87;refine HC.out.mono ?_;rintro e w2 ⟨rfl,b3⟩;have c3:=(b3.cell (p:=⟨w1.heap.size,0,none⟩) (by simp)).trans (yE R1 0 _ rfl);have c4:=(b3.cell (p:=⟨b,off,none⟩) (by simp;omega)).trans hcx)|(go_at_call 224;refine(HW _).out.mono ?_;rintro e w3 ⟨rfl,b4⟩))
   go_ret2
   exact⟨by rw[HZ.out];rfl,yD (yD B2 b3) b4⟩
end
section
open Go.RowKit
def zhC (y:Option Url) (cur:Url):Option Url×Int:=match y with|none=>(none,2)|some u=>(some (inhU u cur),1)
def placeR (l:List Fld) (cur:Url):Option Url×Int:=if (rawR l).2=1 then zhC (resolveR cur (rawR l).1) cur else (none,(rawR l).2)
def zcZ (r:Option Url×Int) (w:World) (e:Ending) (w':World):Prop :=
 Below w.heap.size w w'∧match r.1 with
  | none=>e=.returned (.tuple #[.agg (urlC url0 (.slice none 0 0)),.int .i64 r.2])
  | some u=>∃ pv,e=.returned (.tuple #[.agg (urlC u pv),.int .i64 r.2])∧w'.ownsRow w.heap.size 9 1 pv u.path.length (u.path.map Value.string)
set_option maxHeartbeats 4000000 in
theorem zgu (v:Value) (l:List Fld) (u:Url) (pv:Value) (w:World) (G:Glob w) (hv:Flds w v l) (hf:zax l) (hp:Strs w pv u.path) (hf':u.Fits) (hl:u.path.length≤1000000)
  (hs:(rawR l).1.size≤90000) (hr:∀ r,resolveR u (rawR l).1=some r→r.path.length≤10000000) :
  Calls Tryz.prog 126 #[v,.agg (urlC u pv)] w (zcZ (placeR l u) w):=by
 have HX:Hid (placeR l u=_):=placeR.eq_1 l u
 obtain⟨x,hx⟩:∃ x,x=placeR l u:=⟨_,rfl⟩
 rw[← hx] at HX ⊢
 clear hx
 have R0:=row2a w (.cells (urlC u pv) 27) (.cells (urlC url0 (.slice none 0 0)) 27)
 have S0:=row2b w (.cells (urlC u pv) 27) (.cells (urlC url0 (.slice none 0 0)) 27)
 have B0:=bel2 w (.cells (urlC u pv) 27) (.cells (urlC url0 (.slice none 0 0)) 27)
 have HR:=Lib.hid (zh4 v l _ (hv.below B0) hf (fun f h=>(hf.2 f h).2))
 have HS:=fun w' g h=>Lib.hid (zeF u pv (rawR l).1 w' g h hf' hl hs)
 have HI:=fun r pr w' h1 h2=>Lib.hid (zew r u pr pv w' h1 h2)
 obtain⟨⟨s,n⟩,hsn⟩:∃ q,q=rawR l:=⟨_,rfl⟩
 rw[← hsn] at HX HR hr
 simp only[← hsn] at HS
 dsimp only at HX HR HS hr
 obtain⟨y,hy⟩:∃ y,y=resolveR u s:=⟨_,rfl⟩
 rw[← hy] at HX hr
 simp only[← hy] at HS
 clear hy hsn
 obtain⟨q,m,c,rfl⟩:=hv.slice
 go_enter Tryz.func126,Tryz.ntmps126
 go_wp2_with fail
 refine HR.out.mono ?_
 rintro e w1 ⟨rfl,b1⟩
 have R1:=kept b1 R0
 have S1:=kept b1 S0
 have B1:=yD B0 b1
 clear HR
 by_cases hn:n=1
 ·subst hn
  have HX:Hid (x=zhC y u):=by show _=_;rw[HX.out,if_pos rfl]
  go_wp2_with (first|((with_reducible (show wpList _ _ _ (Oper.mk _ (.load 27 _) _ _ _ none::_) _ _));refine yK rfl 27 _ rfl w.heap.size rfl 27 _ (0,0) _ R1 yB rfl yN ?_))
  refine(HS _ (G.below B1) (hp.below B1)).out.mono ?_
  intro e w2 hP
  obtain⟨b2,hP⟩:=hP
  have R2:=kept b2 R1
  have S2:=kept b2 S1
  have B2:=yD B1 b2
  clear HS
  cases y with
  | none =>
   obtain rfl:=hP
   have HZ:Hid (x=(none,2)):=HX.out
   clear HX
   have A3:=row1 w2 (.cells (urlC url0 (.slice none 0 0)) 27)
   have b3:=bel1 w2 (.cells (urlC url0 (.slice none 0 0)) 27)
   have S3:=kept b3 S2
   have B3:=yD B2 b3
   have S4:=(yI w2 w2.heap.size (w.heap.size + 1) (urlC url0 (.slice none 0 0)) (by have:=yS S2;omega))
   go_wp2_with (first|((with_reducible (show wpList _ _ _ (Oper.mk none (.store 27 (.tmp 8) _) _ _ _ none::_) _ _));refine yJ rfl 27 _ _ rfl w2.heap.size _ rfl rfl 27 _ A3 yN rfl (by simp[Value.oneCell']) ?_)|((with_reducible (show wpList _ _ _ (Oper.mk none (.store 27 _ _) _ _ _ none::_) _ _));refine yJ rfl 27 _ _ rfl (w.heap.size + 1) _ rfl rfl 27 _ ((yI _ _ _ _ (by have:=yS S2;omega)).trans S3) yN rfl (by simp[Value.oneCell']) ?_))
   rw[HZ.out]
   exact yO (results_url rfl _ _ (w.heap.size + 1) 27 url0 (.slice none 0 0) (0,0) rfl (yH _ _ _ _ _ _ ((yI _ _ _ _ (by have:=yS S2;omega)).trans S3)) _ rfl) rfl ⟨yM (yM B3 (by have:=yS S2;omega)) (Nat.le_succ _),rfl⟩
  | some r =>
   obtain⟨pr,rfl,hO⟩:=hP
   have HZ:Hid (x=(some (inhU r u),1)):=HX.out
   clear HX
   obtain⟨q2,m2,k2,rfl⟩:=(Strs.of_own hO).slice
   have hro:=hr r rfl
   have A3:=row1 w2 (.cells (urlC url0 (.slice none 0 0)) 27)
   have b3:=bel1 w2 (.cells (urlC url0 (.slice none 0 0)) 27)
   have hne:w.heap.size + 1 < w2.heap.size:=yS S2
   have A4:=yH _ _ _ (urlC r (.slice q2 m2 k2)) _ _ A3
   have S4:((w2.alloc (.cells (urlC url0 (.slice none 0 0)) 27)).setRow w2.heap.size (urlC r (.slice q2 m2 k2))).heap[w.heap.size + 1]? = some (.cells (urlC url0 (.slice none 0 0)) 27 (0,0)):=(yI _ _ _ _ (by omega)).trans (kept b3 S2)
   have R4:((w2.alloc (.cells (urlC url0 (.slice none 0 0)) 27)).setRow w2.heap.size (urlC r (.slice q2 m2 k2))).heap[w.heap.size]? = some (.cells (urlC u pv) 27 (0,0)):=(yI _ _ _ _ (by omega)).trans (kept b3 R2)
   have b4:Below w2.heap.size w2 ((w2.alloc (.cells (urlC url0 (.slice none 0 0)) 27)).setRow w2.heap.size (urlC r (.slice q2 m2 k2))):=yM b3 (yV _)
   have O4:=zaz hO b4
   have B4:=yD B2 b4
   have HI2:=HI r (.slice q2 m2 k2) _ (Strs.of_own O4) hro
   obtain⟨z,hz⟩:∃ z,z=inhU r u:=⟨_,rfl⟩
   rw[← hz] at HZ HI2
   clear hz HI
   go_wp2_with (first|((with_reducible (show wpList _ _ _ (Oper.mk none (.store 27 (.tmp 8) _) _ _ _ none::_) _ _));refine yJ rfl 27 _ _ rfl w2.heap.size _ rfl rfl 27 _ A3 yN rfl (by simp[Value.oneCell']) ?_)|((with_reducible (show wpList _ _ _ (Oper.mk _ (.load 27 (.tmp 8)) _ _ _ none::_) _ _));refine yK rfl 27 _ rfl w2.heap.size rfl 27 _ (0,0) _ A4 yB rfl yN ?_)|((with_reducible (show wpList _ _ _ (Oper.mk _ (.load 27 (.tmp 3)) _ _ _ none::_) _ _));refine yK rfl 27 _ rfl w.heap.size rfl 27 _ (0,0) _ R4 yB rfl yN ?_))
   refine HI2.out.mono ?_
   rintro e w5 ⟨p5,rfl,hO5,b5⟩
   have S5:=kept b5 S4
   have B5:=yD B4 b5
   obtain⟨q5,m5,k5,rfl⟩:=(Strs.of_own hO5).slice
   have O6:=own_base (own_setRow (g:=w.heap.size + 1) (cs:=urlC z (.slice q5 m5 k5)) hO5 (yS S4)) (B':=w.heap.size) B4.size
   have HF:=Lib.hid (And.intro O6 (yM B5 (Nat.le_succ _) (cs:=urlC z (.slice q5 m5 k5))))
   clear O6 hO5 O4 hO
   go_wp2_with (first|((with_reducible (show wpList _ _ _ (Oper.mk none (.store 27 _ _) _ _ _ none::_) _ _));refine yJ rfl 27 _ _ rfl (w.heap.size + 1) _ rfl rfl 27 _ S5 yN rfl (by simp[Value.oneCell']) ?_))
   rw[HZ.out]
   exact yO (results_url rfl _ _ (w.heap.size + 1) 27 z (.slice q5 m5 k5) (0,0) rfl (yH _ _ _ _ _ _ S5) _ rfl) rfl ⟨HF.out.2,_,rfl,HF.out.1⟩
 ·have HZ:Hid (x=(none,n)):=by show _=_;rw[HX.out,if_neg hn]
  have hnb:(n != 1)=true:=by rw[bne_iff_ne];exact hn
  clear HX HS
  go_wp2_with (first|((with_reducible (show wpList _ _ _ (Oper.mk none (.store 27 _ _) _ _ _ none::_) _ _));refine yJ rfl 27 _ _ rfl (w.heap.size + 1) _ rfl rfl 27 _ S1 yN rfl (by simp[Value.oneCell']) ?_))
  rw[HZ.out]
  exact yO (results_url rfl _ _ (w.heap.size + 1) 27 url0 (.slice none 0 0) (0,0) rfl (yH _ _ _ _ _ _ S1) _ rfl) rfl ⟨yM B1 (Nat.le_succ _),rfl⟩
end
section
open Go.RowKit
def Stay5 (b:Nat) (w w':World):Prop:=Below b w w'∧∀ k cs T fr,w.heap[k]? = some (.cells cs T fr)→k≠b→T≠5→w'.heap[k]? = some (.cells cs T fr)
theorem Stay5.refl (b:Nat) (w:World):Stay5 b w w:=⟨Below.refl _ _,fun _ _ _ _ h _ _=>h⟩
theorem Stay5.trans {b:Nat} {u v w:World} (h:Stay5 b u v) (k:Stay5 b v w):Stay5 b u w:=⟨h.1.trans k.1,fun i cs T fr a b' c=>k.2 i cs T fr (h.2 i cs T fr a b' c) b' c⟩
theorem Stay5.of {b:Nat} {w w':World} (h:Below w.heap.size w w') (hb:b≤w.heap.size):Stay5 b w w':=⟨h.mono hb,fun k cs T fr a _ _=>kept h a⟩
theorem zgw {b:Nat} {v:Value} {bs:List UInt8} {s:ByteArray} {w:World} {e:Ending} {w':World} (hb:Bld b b v bs w) (h:Put2 b b v bs s w e w'):e=.returned (.tuple #[.int .i64 s.size,.nilIface])∧(∃ v',Bld b b v' (bs++s.data.toList) w')∧Stay5 b w w':=by
 obtain⟨he,v',h1,_,h3,h4⟩:=h
 refine⟨he,⟨v',h1⟩,h3,fun k cs T fr hk hne hT=>(h4 k (yS hk) hne ?_).trans hk⟩
 intro e2
 obtain⟨_,h2⟩:=hb.own
 rcases h2 with ⟨rfl,_⟩|⟨g,cap,cur,rfl,hg,hh,_⟩
 ·simp[Value.ownBlock] at e2
 ·simp[Value.ownBlock] at e2
  subst e2
  rw[hk] at hh
  cases hh
  exact hT rfl
def zav (l:List ByteArray):List UInt8:=l.flatMap fun s=>s.data.toList
theorem zfk (l:List ByteArray) (s:ByteArray):zav (l++[s])=zav l++s.data.toList:=by simp[zav]
theorem zfl (l:List ByteArray) (k:Nat) (h:k < l.length):zav (l.take (k + 1))=zav (l.take k)++(l.getD k ByteArray.empty).data.toList:=by rw[take_snocL l k ByteArray.empty h,zfk]
theorem zg3 (l:List ByteArray) (k:Nat):(zav (l.take k)).length≤(zav l).length:=by
 conv=>rhs;rw[← List.take_append_drop k l]
 unfold zav;rw[List.flatMap_append,List.length_append];omega
def za7 (is:Bool) (l:List UInt8):List UInt8:=if is=true then l else []
theorem zfN (l:List UInt8):za7 true l=l:=rfl
theorem zgQ (l:List UInt8):za7 false l=[]:=rfl
def putF (b:Nat):Value:=.func (.func 77) #[.pointer (some ⟨b,0,none⟩)] #[]
set_option maxHeartbeats 2000000 in
theorem zhv (b c g:Nat) (bs:List UInt8) (is:Bool) (l:List ByteArray) (w:World) (hb:∃ v,Bld b b v bs w) (hc:w.heap[c]? = some (.cells #[putF b] 125 (0,0))) (hg:w.heap[g]? = some (.cells (l.map Value.string).toArray 9 (0,0))) (hcb:c≠b) (hgb:g≠b) (hlen:bs.length + (zav l).length≤10000000) (hll:l.length≤100) :
  Calls Tryz.prog 83 #[.bool is,.slice (some ⟨g,0,none⟩) l.length l.length,.pointer (some ⟨c,0,none⟩)] w fun e w'=>e=.returned (.tuple #[])∧(∃ v,Bld b b v (bs++za7 is (zav l)) w')∧Stay5 b w w':=by
 cases is with
 | false =>
  have HZ:Hid (bs++za7 false (zav l)=bs):=by show _=_;rw[zgQ,List.append_nil]
  go_enter Tryz.func83,Tryz.ntmps83
  go_wp2_with fail
  go_loopw [6,9] (fun _ i wr=>∃ k:Nat,k≤l.length∧i=.int .i64 k∧w=wr) (fun _ i _=>l.length - (intOf i).toNat)
  case atStart=>exact⟨0,Nat.zero_le _,rfl,rfl⟩
  case round =>
   obtain⟨k,hk,rfl,rfl⟩:=hrel
   by_cases hlt:k < l.length
   ·have c0:w.cell? ⟨g,k,none⟩=some (.string (l.getD k ByteArray.empty)):=yE hg k _ (by simp[List.getD,hlt])
    go_wp2_with fail
    go_roundw
    case rel=>exact⟨k + 1,by omega,by go_num,by trivial⟩
    case measure=>simp[intOf];omega
   ·obtain rfl:k=l.length:=by omega
    go_wp2_with fail
    go_end0
    exact⟨rfl,by rw[HZ.out];exact hb,Stay5.refl _ _⟩
 | true =>
  have HZ:Hid (bs++za7 true (zav l)=bs++zav l):=by show _=_;rw[zfN]
  go_enter Tryz.func83,Tryz.ntmps83
  go_wp2_with fail
  go_loopw [6,9] (fun _ i wr=>∃ k:Nat,k≤l.length∧i=.int .i64 k∧(∃ v,Bld b b v (bs++zav (l.take k)) wr)∧Stay5 b w wr) (fun _ i _=>l.length - (intOf i).toNat)
  case atStart=>exact⟨0,Nat.zero_le _,rfl,by simpa [zav] using hb,Stay5.refl _ _⟩
  case round =>
   obtain⟨k,hk,rfl,⟨v,hv⟩,hS⟩:=hrel
   have hg2:=hS.2 g _ _ _ hg hgb (by decide)
   have hc2:=hS.2 c _ _ _ hc hcb (by decide)
   by_cases hlt:k < l.length
   ·have c0:wr.cell? ⟨g,k,none⟩=some (.string (l.getD k ByteArray.empty)):=yE hg2 k _ (by simp[List.getD,hlt])
    have c1:wr.cell? ⟨c,0,none⟩=some (.func (.func 77) #[.pointer (some ⟨b,0,none⟩)] #[]):=yE hc2 0 _ rfl
    have hle:=zg3 l (k + 1)
    have hft:=zfl l k hlt
    obtain⟨s,hs⟩:∃ s,s=l.getD k ByteArray.empty:=⟨_,rfl⟩
    rw[← hs] at c0 hft
    rw[hft,List.length_append,size_len] at hle
    have HP:=Lib.hid (put2_any b b v (bs++zav (l.take k)) s wr hv (by rw[List.length_append];omega) (Nat.le_of_lt hv.lt))
    have HV:=Lib.hid hv
    have HS:=Lib.hid hS
    have HFT:=Lib.hid hft
    clear hv hS hg2 hc2 hs hft hle
    go_wp2_with fail
    refine HP.out.mono ?_
    intro e w2 h2
    obtain⟨rfl,hb2,hS2⟩:=zgw HV.out h2
    have HB2:=Lib.hid hb2
    clear hb2 h2
    go_wp2_with fail
    go_roundw
    case rel=>exact⟨k + 1,by omega,by go_num,by rw[HFT.out,← List.append_assoc];exact HB2.out,HS.out.trans hS2⟩
    case measure=>simp[intOf];omega
   ·obtain rfl:k=l.length:=by omega
    rw[List.take_length] at hv
    have HV:=Lib.hid hv
    clear hv
    go_wp2_with fail
    go_end0
    exact⟨rfl,by rw[HZ.out];exact⟨_,HV.out⟩,hS⟩
end
section
open Go.RowKit Go.Shelf
theorem zcT {u:Url} (h:urlMay u=true):-1≤u.port∧u.port≤65535:=by
 unfold urlMay at h
 split at h
 ·cases h
 ·split at h
  ·simp only[Bool.and_eq_true,decide_eq_true_eq] at h;omega
  ·simp only[Bool.and_eq_true,decide_eq_true_eq] at h;omega
def doorT (u:Url) (ht:ByteArray):ByteArray:=if (urlMay u && decide (webP u.scheme≠0))=true then (if u.port=-1 then ht else ht++⟨#[58]⟩++bs (Deci.showL u.port)) else ⟨#[]⟩
def zaP (u:Url) (t:ByteArray):Prop:=∃ ht,HostText u.host ht∧t=doorT u ht
theorem zdK (h:Host):HostText h (if h.kind=1 then h.name else ⟨#[]⟩):=by
 constructor
 ·split
  ·omega
  ·exact Nat.zero_le _
 ·intro h1 _;rw[if_pos h1]
theorem zgX (u:Url) (ht:ByteArray):(doorT u ht).size≤ht.size + 21:=by
 unfold doorT
 split
 ·rename_i h
  have hm:=zcT (Bool.and_eq_true_iff.1 h).1
  split
  ·omega
  ·have:=Deci.showL_len (n:=u.port) (by omega) (by omega)
   simp only[app_size,bs_size]
   have e1:(⟨#[58]⟩:ByteArray).size=1:=rfl
   omega
 ·exact Nat.zero_le _
set_option maxHeartbeats 2000000 in
theorem zgy (u:Url) (pv:Value) (w:World) (G:Glob w) (hp:Strs w pv u.path) (hf:u.Fits) :
  Calls Tryz.prog 84 #[.agg (urlC u pv)] w fun e w'=>(∃ t,e=.returned (.string t)∧zaP u t)∧Below w.heap.size w w':=by
 have R0:=row1 w (.cells (urlC u pv) 27)
 have B0:=bel1 w (.cells (urlC u pv) 27)
 have HM:=Lib.hid (zbN u pv _ (G.below B0) (hp.below B0) hf)
 have HW:=fun w'=>Lib.hid (web_any u.scheme w')
 have HH:=fun w' g=>Lib.hid (hostShow_any u.host w' g hf.n)
 have HD:Hid (∀ ht,HostText u.host ht→zaP u (doorT u ht)):=fun ht h=>⟨ht,h,rfl⟩
 have HE:Hid (∀ ht,doorT u ht=_):=fun ht=>doorT.eq_1 u ht
 have H0:=Lib.hid (zdK u.host)
 have hpo:=fun h=>zcT (u:=u) h
 obtain⟨mb,hmb⟩:∃ mb,mb=urlMay u:=⟨_,rfl⟩
 obtain⟨wv,hwv⟩:∃ wv,wv=webP u.scheme:=⟨_,rfl⟩
 rw[← hmb] at HM
 simp only[← hwv] at HW
 simp only[← hmb,← hwv] at HE
 simp only[← hmb] at hpo
 obtain⟨dT,hdT⟩:∃ d,d=doorT u:=⟨_,rfl⟩
 simp only[← hdT] at HE HD
 have hn:=hf.n
 clear hmb hwv hf hp hdT
 go_enter Tryz.func84,Tryz.ntmps84
 go_wp2_with (first|((with_reducible (show wpList _ _ _ (Oper.mk _ (.load 27 _) _ _ _ none::_) _ _));refine yK rfl 27 _ rfl w.heap.size rfl 27 _ (0,0) _ R0 yB rfl yN ?_))
 refine HM.out.mono ?_
 rintro e w1 ⟨rfl,b1⟩
 have B1:=yD B0 b1
 have R1:=kept b1 R0
 have c0:=yE R1 0 (.string u.scheme) rfl
 have c14:=yE R1 14 (.int .i64 u.port) rfl
 clear R0 B0 b1
 cases mb with
 | false =>
  have HZ:Hid (dT (if u.host.kind=1 then u.host.name else ⟨#[]⟩)=⟨#[]⟩):=by show _=_;rw[HE.out];rfl
  have HQ:Hid (zaP u ⟨#[]⟩):=by show _;have:=HD.out _ H0.out;rwa [HZ.out] at this
  clear HE HD
  go_wp2_with fail
  go_ret
  exact⟨⟨_,rfl,HQ.out⟩,B1⟩
 | true =>
  have hpo:=hpo rfl
  by_cases h0:wv=0
  ·have HZ:Hid (dT (if u.host.kind=1 then u.host.name else ⟨#[]⟩)=⟨#[]⟩):=by show _=_;rw[HE.out,h0];rfl
   have HQ:Hid (zaP u ⟨#[]⟩):=by show _;have:=HD.out _ H0.out;rwa [HZ.out] at this
   subst h0
   clear HE HD
   go_wp2_with (first|(go_at_call 33;refine(HW _).out.mono ?_;rintro e w2 ⟨rfl,rfl⟩))
   go_ret
   exact⟨⟨_,rfl,HQ.out⟩,B1⟩
  ·have h1:(wv == 0)=false:=by simp[h0]
   have HE:Hid (∀ ht,dT ht=if u.port=-1 then ht else ht++⟨#[58]⟩++bs (Deci.showL u.port)):=fun ht=>by rw[HE.out,if_pos (by simp[h0])]
   by_cases hm1:u.port=-1
   ·have HE:Hid (∀ ht,dT ht=ht):=fun ht=>by rw[HE.out,if_pos hm1]
    have hpb:(u.port == -1)=true:=by rw[hm1];rfl
    clear hm1 hpo
    go_wp2_with (first|(go_at_call 33;refine(HW _).out.mono ?_;rintro e w2 ⟨rfl,rfl⟩)|((with_reducible (show wpList _ _ _ (Oper.mk _ (.load 24 _) _ _ _ none::_) _ _));refine zaa (by rfl) 24 _ rfl w.heap.size 3 rfl (hostC u.host) _ (zae R1 3 _ rfl) Tryz.underlying24 rfl host_info ?_))
    refine(HH _ (G.below B1)).out.mono ?_
    rintro e w2 ⟨⟨t,rfl,ht⟩,b2⟩
    have HQ:Hid (zaP u t):=by show _;have:=HD.out _ ht;rwa [HE.out] at this
    clear HE HD ht
    go_wp2_with fail
    go_ret
    exact⟨⟨_,rfl,HQ.out⟩,yD B1 b2⟩
   ·have HE:Hid (∀ ht,dT ht=ht++⟨#[58]⟩++bs (Deci.showL u.port)):=fun ht=>by rw[HE.out,if_neg hm1]
    have hpb:(u.port == -1)=false:=by rw[beq_eq_false_iff_ne];exact hm1
    have HS:∀ w',Hid (Calls Tryz.prog 136 #[.int .i64 u.port] w' fun e w''=>e=.returned (.string (bs (Deci.showL u.port)))∧Below w'.heap.size w' w''):=fun w'=>Deci.show_any u.port w' (by omega) (by omega)
    have hsl:=Deci.showL_len (n:=u.port) (by omega) (by omega)
    have hdz:(bs (Deci.showL u.port)).size≤20:=by rw[bs_size];exact hsl.2
    obtain⟨dp,hdp⟩:∃ d,d=bs (Deci.showL u.port):=⟨_,rfl⟩
    rw[← hdp] at hdz
    simp only[← hdp] at HS HE
    clear hdp hsl hm1 hpo
    go_wp2_with (first|(go_at_call 33;refine(HW _).out.mono ?_;rintro e w2 ⟨rfl,rfl⟩))
    refine yQ (S:=fun W=>W.heap[w.heap.size]? = some (.cells (urlC u pv) 27 (0,0))) (by kernel_rfl) R1 (fun h0=>?_)
    refine tk (i:=0) (v:=?v1) rfl (Or.inl ⟨by rfl,?y1⟩) h0 ?r1
    case y1 =>
     intro W hW
     go_simp
     try with_reducible rfl
    simp only[Act.put,zA,zB,zC,zD,zE,zF]
    refine tk (i:=1) rfl (yieldsIf_load_mid (by rfl) 24 _ rfl w.heap.size 3 rfl (hostC u.host).toList _ (fun W h=>zae h 3 _ rfl) Tryz.underlying24 rfl host_info) h0 ?_
    simp only[Act.put,zA,zB,zC,zD,zE,zF]
    refine tk (i:=4) (v:=?v2) rfl (Or.inl ⟨by rfl,?y2⟩) h0 ?r2
    case y2 =>
     intro W hW
     go_simp
     try with_reducible rfl
    simp only[Act.put,zA,zB,zC,zD,zE,zF]
    refine tk (i:=5) (v:=?v3) rfl (Or.inl ⟨by rfl,?y3⟩) h0 ?r3
    case y3 =>
     intro W hW
     have c14:=yE hW 14 (.int .i64 u.port) rfl
     go_simp
     try with_reducible rfl
    simp only[Act.put,zA,zB,zC,zD,zE,zF]
    refine zrd (i:=2) rfl (fun K hK=>?_)
    try simp only[zA,zB,zC]
    rw[if_pos (by rfl)]
    go_simp
    refine(HH _ (G.below (yD B1 (yR _)))).out.mono ?_
    rintro e w3 ⟨⟨t,rfl,ht⟩,b3⟩
    have hz3:¬ (9223372036854775807 < t.size + 1):=by have:=ht.1;omega
    have hz4:¬ (9223372036854775807 < t.size + 1 + dp.size):=by have:=ht.1;omega
    have R3:=kept b3 (show w1.drew.heap[w.heap.size]? = _ from R1)
    have B3:=yD (yD B1 (yR _)) b3
    have HTT:=Lib.hid ht
    clear ht
    refine hK.out _ _ R3 (fun h0=>?_)
    clear hK K
    try simp only[Act.put,zA,zB,zC,zD,zE,zF]
    refine tk (i:=3) (v:=?v4) rfl (Or.inl ⟨by rfl,?y4⟩) h0 ?r4
    case y4 =>
     intro W hW
     go_simp
     try with_reducible rfl
    simp only[Act.put,zA,zB,zC,zD,zE,zF]
    refine zrd (i:=6) rfl (fun K hK=>?_)
    try simp only[zA,zB,zC]
    rw[if_pos (by rfl)]
    go_simp
    refine(HS _).out.mono ?_
    rintro e w4 ⟨rfl,b4⟩
    have R4:=kept b4 R3
    refine hK.out _ _ R4 (fun h0=>?_)
    clear hK K
    try simp only[Act.put,zA,zB,zC,zD,zE,zF]
    refine tk (i:=7) (v:=?v5) rfl (Or.inl ⟨by rfl,?y5⟩) h0 ?r5
    case y5 =>
     intro W hW
     go_simp
     try with_reducible rfl
    simp only[Act.put,zA,zB,zC,zD,zE,zF]
    refine tk (i:=8) (v:=?v6) rfl (Or.inl ⟨by rfl,?y6⟩) h0 ?r6
    case y6 =>
     intro W hW
     go_simp
     try with_reducible rfl
    simp only[Act.put,zA,zB,zC,zD,zE,zF]
    refine yX (by kernel_rfl) ?_ _
    have HQ:Hid (zaP u (t++⟨#[58]⟩++dp)):=by show _;have:=HD.out _ HTT.out;rwa [HE.out] at this
    clear HE HD HTT
    go_wp2_with fail
    go_ret
    exact⟨⟨_,rfl,HQ.out⟩,yD B3 b4⟩
end
section
open Go.RowKit Go.Shelf
def showL (u:Url) (d:ByteArray):List UInt8 :=
 if urlMay u=true then
  ((((((zav [u.scheme,⟨#[58]⟩,u.opq]++za7 (decide (0 < webP u.scheme)) (zav [⟨#[47,47]⟩,u.user]))++za7 (!u.pass.toList.isEmpty) (zav [⟨#[58]⟩,u.pass]))++za7 (!u.user.toList.isEmpty || !u.pass.toList.isEmpty) (zav [⟨#[64]⟩]))++za7 (decide (0 < webP u.scheme)) (zav [d,bs (pathShow u.path)]))++za7 u.hasQ (zav [⟨#[63]⟩,u.query]))++za7 u.hasF (zav [⟨#[35]⟩,u.frag]))
 else []
def zaZ (u:Url) (t:ByteArray):Prop:=∃ d,zaP u d∧t=bs (showL u d)
structure Sh (w:World) (u:Url) (pv:Value) (b:Nat) (l:List UInt8) (W:World):Prop where
 bld:∃ v,Bld b b v l W
 row:W.heap[w.heap.size]? = some (.cells (urlC u pv) 27 (0,0))
 put:W.heap[b + 1]? = some (.cells #[putF b] 125 (0,0))
 bel:Below w.heap.size w W
 lo:w.heap.size < b
theorem Sh.below {w W W':World} {u:Url} {pv:Value} {b:Nat} {l:List UInt8} (h:Sh w u pv b l W) (k:Below W.heap.size W W'):Sh w u pv b l W':=by
 obtain⟨⟨v,hv⟩,h2,h3,h4,h5⟩:=h
 exact⟨⟨v,hv.below k⟩,kept k h2,kept k h3,yD h4 k,h5⟩
theorem zaU {w:World} {u:Url} {pv:Value} {b:Nat} {bs:List UInt8} {W:World} (h:Sh w u pv b bs W) (is:Bool) (l:List ByteArray) (hlen:bs.length + (zav l).length≤10000000) (hll:l.length≤100) :
  Calls Tryz.prog 83 #[.bool is,.slice (some ⟨W.heap.size,0,none⟩) l.length l.length,.pointer (some ⟨b + 1,0,none⟩)] (W.alloc (.cells (l.map Value.string).toArray 9)) fun e w'=>e=.returned (.tuple #[])∧Sh w u pv b (bs++za7 is (zav l)) w':=by
 have k:=bel1 W (.cells (l.map Value.string).toArray 9)
 have h1:=h.below k
 refine(zhv b (b + 1) W.heap.size bs is l _ h1.bld h1.put (row1 W _) (by omega) (by obtain⟨v,hv⟩:=h.bld;have:=hv.lt;omega) hlen hll).mono ?_
 rintro e w' ⟨rfl,hb,hS⟩
 exact⟨rfl,hb,hS.2 _ _ _ _ h1.row (by have:=h.lo;omega) (by decide),hS.2 _ _ _ _ h1.put (by omega) (by decide),h1.bel.trans (hS.1.mono (Nat.le_of_lt h.lo)),h.lo⟩
theorem zio (a b c:ByteArray):(zav [a,b,c]).length=a.size + b.size + c.size:=by simp[zav,size_len];omega
theorem zcW (a b:ByteArray):(zav [a,b]).length=a.size + b.size:=by simp[zav,size_len]
theorem zhT (a:ByteArray):(zav [a]).length=a.size:=by simp[zav,size_len]
theorem zbn (b:Bool) (l:List UInt8):(za7 b l).length≤l.length:=by cases b <;> simp[za7]
structure Url.Small (u:Url):Prop where
 fit:u.Fits
 sc:u.scheme.size≤1000000
 np:u.path.length≤1000000
 ps:(pathShow u.path).length≤1500000
set_option maxHeartbeats 8000000 in
theorem show_any (u:Url) (pv:Value) (w:World) (G:Glob w) (hp:Strs w pv u.path) (hf:u.Small) :
  Calls Tryz.prog 43 #[.agg (urlC u pv)] w fun e w'=>(∃ t,e=.returned (.string t)∧zaZ u t∧t.size≤9000000)∧Below w.heap.size w w':=by
 have R0:=row1 w (.cells (urlC u pv) 27)
 have B0:=bel1 w (.cells (urlC u pv) 27)
 have HM:=Lib.hid (zbN u pv _ (G.below B0) (hp.below B0) hf.fit)
 have HW:=fun w'=>Lib.hid (web_any u.scheme w')
 have HD:=fun w' g h=>Lib.hid (zgy u pv w' g h hf.fit)
 have HP:=fun w' h=>Lib.hid (pathShow_any pv u.path w' h (by have:=hf.np;omega) (by have:=hf.ps;omega))
 have HT:Hid (∀ d,zaP u d→zaZ u (bs (showL u d))):=fun d h=>⟨d,h,rfl⟩
 have HE:Hid (∀ d,showL u d=_):=fun d=>showL.eq_1 u d
 have HD0:Hid (zaP u (doorT u (if u.host.kind=1 then u.host.name else ⟨#[]⟩))):=⟨_,zdK u.host,rfl⟩
 have HDZ:Hid (∀ d,zaP u d→d.size≤1100000):=by
  rintro d ⟨ht,h1,rfl⟩
  have h2:=zgX u ht
  have h3:=h1.1
  have h4:=hf.fit.n
  omega
 have z1:=hf.sc
 have z2:=hf.fit.us
 have z3:=hf.fit.pa
 have z4:=hf.fit.q
 have z5:=hf.fit.f
 have z6:=hf.fit.o
 have z7:=hf.ps
 have hps:(bs (pathShow u.path)).size≤1500000:=by rw[bs_size];exact z7
 obtain⟨pt,hpt⟩:∃ p,p=bs (pathShow u.path):=⟨_,rfl⟩
 rw[← hpt] at hps
 simp only[← hpt] at HP HE
 obtain⟨sL,hsL⟩:∃ s,s=showL u:=⟨_,rfl⟩
 simp only[← hsL] at HT HE
 obtain⟨mb,hmb⟩:∃ b,b=urlMay u:=⟨_,rfl⟩
 rw[← hmb] at HM
 simp only[← hmb] at HE
 obtain⟨wv,hwv⟩:∃ b,b=webP u.scheme:=⟨_,rfl⟩
 simp only[← hwv] at HW HE
 have HPV:=Lib.hid hp
 obtain⟨qp,mp,kp,rfl⟩:=hp.slice
 have hmf:∀ (fn:Fn) (first cap:Array Value) (w:World),(Instr.makeFunc fn first cap).run Tryz.prog w=.ok (.func fn first cap) w:=fun _ _ _ _=>rfl
 clear hpt hsL hmb hwv hf z7 hp
 go_enter Tryz.func43,Tryz.ntmps43
 go_wp2_with (first|((with_reducible (show wpList _ _ _ (Oper.mk _ (.load 27 _) _ _ _ none::_) _ _));refine yK rfl 27 _ rfl w.heap.size rfl 27 _ (0,0) _ R0 yB rfl yN ?_))
 refine HM.out.mono ?_
 rintro e w1 ⟨rfl,b1⟩
 have R1:=kept b1 R0
 have B1:=yD B0 b1
 have hlo:=yS R1
 clear HM
 cases mb with
 | false =>
  have HZ:Hid (sL (doorT u (if u.host.kind=1 then u.host.name else ⟨#[]⟩))=[]):=by show _=_;rw[HE.out,if_neg (by simp)]
  have HQ:Hid (zaZ u ⟨#[]⟩):=by show _;have:=HT.out _ HD0.out;rwa [HZ.out] at this
  clear HE HT HD0
  go_wp2_with fail
  go_ret
  exact⟨⟨_,rfl,HQ.out,Nat.zero_le _⟩,B1⟩
 | true =>
  have A:=bel2 w1 (.cells #[.pointer none,.slice none 0 0] 120) (.cells #[putF w1.heap.size] 125)
  obtain⟨W2,hW2⟩:∃ W2,(w1.alloc (.cells #[.pointer none,.slice none 0 0] 120)).alloc (.cells #[.func (.func 77) #[.pointer (some ⟨w1.heap.size,0,none⟩)] #[]] 125)=W2:=⟨_,rfl⟩
  have S2:Sh w u (.slice qp mp kp) w1.heap.size [] W2:=by
   rw[← hW2]
   exact⟨⟨_,(Bld.fresh w1).below (bel1 _ _)⟩,kept A R1,row2b w1 _ _,yD B1 A,hlo⟩
  clear A
  go_upto_region 6 with fail
  clear hW2
  obtain⟨b,hb⟩:∃ b,b=w1.heap.size:=⟨_,rfl⟩
  rw[← hb] at S2 ⊢
  clear hb R1 B1 b1 R0 B0 hlo
  have c2:=url_cells S2.row
  obtain⟨c0,c1,c2,c3,c4,c5,c6,c7,c8,c9,c10,c11,c12,c13,c14,c15,c16,c17,c18,c19,c20⟩:=c2
  go_wp2_with (first|(go_at_call 33;refine(HW _).out.mono ?_;rintro e w2 ⟨rfl,rfl⟩))
  have H3:=Lib.hid (zaU S2 (true) [u.scheme,⟨#[58]⟩,u.opq] (by rw[zio];have e1:(⟨#[58]⟩:ByteArray).size=1:=rfl;have e2:(⟨#[47,47]⟩:ByteArray).size=2:=rfl;have e3:(⟨#[64]⟩:ByteArray).size=1:=rfl;have e4:(⟨#[63]⟩:ByteArray).size=1:=rfl;have e5:(⟨#[35]⟩:ByteArray).size=1:=rfl;simp only[List.length_nil];omega) (by simp))
  refine H3.out.mono ?_
  rintro e W3 ⟨rfl,S3⟩
  obtain⟨L3,E3⟩:∃ L,L=[]++za7 (true) (zav [u.scheme,⟨#[58]⟩,u.opq]):=⟨_,rfl⟩
  rw[← E3] at S3
  have n3:L3.length≤2000001:=by
   have h1:=zbn (true) (zav [u.scheme,⟨#[58]⟩,u.opq])
   rw[zio] at h1
   rw[E3,List.length_append]
   have e1:(⟨#[58]⟩:ByteArray).size=1:=rfl;have e2:(⟨#[47,47]⟩:ByteArray).size=2:=rfl;have e3:(⟨#[64]⟩:ByteArray).size=1:=rfl;have e4:(⟨#[63]⟩:ByteArray).size=1:=rfl;have e5:(⟨#[35]⟩:ByteArray).size=1:=rfl;simp only[List.length_nil];omega
  have EH3:=Lib.hid E3
  clear E3 H3 c0 c1 c2 c3 c4 c5 c6 c7 c8 c9 c10 c11 c12 c13 c14 c15 c16 c17 c18 c19 c20
  obtain⟨c0,c1,c2,c3,c4,c5,c6,c7,c8,c9,c10,c11,c12,c13,c14,c15,c16,c17,c18,c19,c20⟩:=url_cells S3.row
  go_wp2_with fail
  have H4:=Lib.hid (zaU S3 (decide (0 < wv)) [⟨#[47,47]⟩,u.user] (by rw[zcW];have e1:(⟨#[58]⟩:ByteArray).size=1:=rfl;have e2:(⟨#[47,47]⟩:ByteArray).size=2:=rfl;have e3:(⟨#[64]⟩:ByteArray).size=1:=rfl;have e4:(⟨#[63]⟩:ByteArray).size=1:=rfl;have e5:(⟨#[35]⟩:ByteArray).size=1:=rfl;omega) (by simp))
  refine H4.out.mono ?_
  rintro e W4 ⟨rfl,S4⟩
  obtain⟨L4,E4⟩:∃ L,L=L3++za7 (decide (0 < wv)) (zav [⟨#[47,47]⟩,u.user]):=⟨_,rfl⟩
  rw[← E4] at S4
  have n4:L4.length≤3000003:=by
   have h1:=zbn (decide (0 < wv)) (zav [⟨#[47,47]⟩,u.user])
   rw[zcW] at h1
   rw[E4,List.length_append]
   have e1:(⟨#[58]⟩:ByteArray).size=1:=rfl;have e2:(⟨#[47,47]⟩:ByteArray).size=2:=rfl;have e3:(⟨#[64]⟩:ByteArray).size=1:=rfl;have e4:(⟨#[63]⟩:ByteArray).size=1:=rfl;have e5:(⟨#[35]⟩:ByteArray).size=1:=rfl;omega
  have EH4:=Lib.hid E4
  clear E4 H4 c0 c1 c2 c3 c4 c5 c6 c7 c8 c9 c10 c11 c12 c13 c14 c15 c16 c17 c18 c19 c20
  obtain⟨c0,c1,c2,c3,c4,c5,c6,c7,c8,c9,c10,c11,c12,c13,c14,c15,c16,c17,c18,c19,c20⟩:=url_cells S4.row
  go_wp2_with fail
  have H5:=Lib.hid (zaU S4 (!u.pass.toList.isEmpty) [⟨#[58]⟩,u.pass] (by rw[zcW];have e1:(⟨#[58]⟩:ByteArray).size=1:=rfl;have e2:(⟨#[47,47]⟩:ByteArray).size=2:=rfl;have e3:(⟨#[64]⟩:ByteArray).size=1:=rfl;have e4:(⟨#[63]⟩:ByteArray).size=1:=rfl;have e5:(⟨#[35]⟩:ByteArray).size=1:=rfl;omega) (by simp))
  refine H5.out.mono ?_
  rintro e W5 ⟨rfl,S5⟩
  obtain⟨L5,E5⟩:∃ L,L=L4++za7 (!u.pass.toList.isEmpty) (zav [⟨#[58]⟩,u.pass]):=⟨_,rfl⟩
  rw[← E5] at S5
  have n5:L5.length≤4000004:=by
   have h1:=zbn (!u.pass.toList.isEmpty) (zav [⟨#[58]⟩,u.pass])
   rw[zcW] at h1
   rw[E5,List.length_append]
   have e1:(⟨#[58]⟩:ByteArray).size=1:=rfl;have e2:(⟨#[47,47]⟩:ByteArray).size=2:=rfl;have e3:(⟨#[64]⟩:ByteArray).size=1:=rfl;have e4:(⟨#[63]⟩:ByteArray).size=1:=rfl;have e5:(⟨#[35]⟩:ByteArray).size=1:=rfl;omega
  have EH5:=Lib.hid E5
  clear E5 H5 c0 c1 c2 c3 c4 c5 c6 c7 c8 c9 c10 c11 c12 c13 c14 c15 c16 c17 c18 c19 c20
  obtain⟨c0,c1,c2,c3,c4,c5,c6,c7,c8,c9,c10,c11,c12,c13,c14,c15,c16,c17,c18,c19,c20⟩:=url_cells S5.row
  go_upto_region 10 with fail
  obtain⟨L6,E6⟩:∃ L,L=L5++za7 (!u.user.toList.isEmpty || !u.pass.toList.isEmpty) (zav [⟨#[64]⟩]):=⟨_,rfl⟩
  have n6:L6.length≤4000005:=by
   have h1:=zbn (!u.user.toList.isEmpty || !u.pass.toList.isEmpty) (zav [⟨#[64]⟩])
   rw[zhT] at h1
   rw[E6,List.length_append]
   have e3:(⟨#[64]⟩:ByteArray).size=1:=rfl
   omega
  have EH6:=Lib.hid E6
  clear E6
  go_cut [] from 37 to 47 (fun wx=>Sh w u (.slice qp mp kp) b L6 wx)
  case first =>
   by_cases hue:u.user.toList.isEmpty=true
   ·have EQ:Hid (L6=L5++za7 (!u.pass.toList.isEmpty) (zav [⟨#[64]⟩])):=by show _=_;rw[EH6.out,hue];rfl
    go_wp2_with fail
    have H6:=Lib.hid (zaU S5 (!u.pass.toList.isEmpty) [⟨#[64]⟩] (by rw[zhT];have e3:(⟨#[64]⟩:ByteArray).size=1:=rfl;omega) (by simp))
    refine H6.out.mono ?_
    rintro e W6 ⟨rfl,S6⟩
    rw[← EQ.out] at S6
    go_wp2_with fail
    go_meet
    case rel=>exact S6
   ·have hue:u.user.toList.isEmpty=false:=by simpa using hue
    have EQ:Hid (L6=L5++za7 true (zav [⟨#[64]⟩])):=by show _=_;rw[EH6.out,hue];rfl
    go_wp2_with fail
    have H6:=Lib.hid (zaU S5 true [⟨#[64]⟩] (by rw[zhT];have e3:(⟨#[64]⟩:ByteArray).size=1:=rfl;omega) (by simp))
    refine H6.out.mono ?_
    rintro e W6 ⟨rfl,S6⟩
    rw[← EQ.out] at S6
    go_wp2_with fail
    go_meet
    case rel=>exact S6
  case rest =>
  have S6:=hcut
  clear hcut c0 c1 c2 c3 c4 c5 c6 c7 c8 c9 c10 c11 c12 c13 c14 c15 c16 c17 c18 c19 c20
  have G6:=G.below S6.bel
  go_wp2_with fail
  refine yQ (S:=fun W=>W.heap[w.heap.size]? = some (.cells (urlC u (.slice qp mp kp)) 27 (0,0))) (by kernel_rfl) S6.row (fun h0=>?_)
  refine tk (i:=2) rfl (zat w.heap.size u (.slice qp mp kp) (by rfl) _ rfl rfl (fun W h=>h)) h0 ?_
  simp only[Act.put,zA,zB,zC,zD,zE,zF]
  refine tk (i:=0) (v:=?v1) rfl (Or.inl ⟨by rfl,?y1⟩) h0 ?r1
  case y1 =>
   intro W hW
   go_simp
   try with_reducible rfl
  simp only[Act.put,zA,zB,zC,zD,zE,zF]
  refine tk (i:=1) (v:=?v2) rfl (Or.inl ⟨by rfl,?y2⟩) h0 ?r2
  case y2 =>
   intro W hW
   go_simp
   try with_reducible rfl
  simp only[Act.put,zA,zB,zC,zD,zE,zF]
  refine tk (i:=4) (v:=?v3) rfl (Or.inl ⟨by rfl,?y3⟩) h0 ?r3
  case y3 =>
   intro W hW
   go_simp
   try with_reducible rfl
  simp only[Act.put,zA,zB,zC,zD,zE,zF]
  refine tk (i:=5) (v:=?v4) rfl (Or.inl ⟨by rfl,?y4⟩) h0 ?r4
  case y4 =>
   intro W hW
   have c15:=yE hW 15 (.slice qp mp kp) rfl
   go_simp
   try with_reducible rfl
  simp only[Act.put,zA,zB,zC,zD,zE,zF]
  refine zrd (i:=3) rfl (fun K hK=>?_)
  try simp only[zA,zB,zC]
  rw[if_pos (by rfl)]
  go_simp
  refine(HD _ (G6.below (yR _)) (HPV.out.below (S6.below (yR _)).bel)).out.mono ?_
  rintro e W7 ⟨⟨d,rfl,hd⟩,b7⟩
  have S7:=(S6.below (yR _)).below b7
  have HDD:=Lib.hid hd
  clear hd
  refine hK.out _ _ S7.row (fun h0=>?_)
  clear hK K
  try simp only[Act.put,zA,zB,zC,zD,zE,zF]
  refine zrd (i:=6) rfl (fun K hK=>?_)
  try simp only[zA,zB,zC]
  rw[if_pos (by rfl)]
  go_simp
  refine(HP _ (HPV.out.below S7.bel)).out.mono ?_
  rintro e W8 ⟨rfl,b8⟩
  have S8:=S7.below b8
  refine hK.out _ _ S8.row (fun h0=>?_)
  clear hK K
  try simp only[Act.put,zA,zB,zC,zD,zE,zF]
  refine zrd (i:=7) rfl (fun K hK=>?_)
  try simp only[zA,zB,zC]
  rw[if_pos (by rfl)]
  go_simp
  have R8:=(S8.below (bel1 W8 (.cells ([d,pt].map Value.string).toArray 9))).row
  refine hK.out _ _ R8 (fun h0=>?_)
  clear hK K
  try simp only[Act.put,zA,zB,zC,zD,zE,zF]
  refine zrd (i:=8) rfl (fun K hK=>?_)
  try simp only[zA,zB,zC]
  rw[if_pos (by rfl)]
  go_simp
  have hdz:=HDZ.out d HDD.out
  have H9:=Lib.hid (zaU S8 (decide (0 < wv)) [d,pt] (by rw[zcW];omega) (by simp))
  refine H9.out.mono ?_
  rintro e W9 ⟨rfl,S9⟩
  refine hK.out _ _ S9.row (fun h0=>?_)
  clear hK K
  try simp only[Act.put,zA,zB,zC,zD,zE,zF]
  refine yX (by kernel_rfl) ?_ _
  obtain⟨L9,E9⟩:∃ L,L=L6++za7 (decide (0 < wv)) (zav [d,pt]):=⟨_,rfl⟩
  rw[← E9] at S9
  have n9:L9.length≤6600005:=by
   have h1:=zbn (decide (0 < wv)) (zav [d,pt])
   rw[zcW] at h1
   rw[E9,List.length_append]
   omega
  have EH9:=Lib.hid E9
  clear E9 H9
  obtain⟨c0,c1,c2,c3,c4,c5,c6,c7,c8,c9,c10,c11,c12,c13,c14,c15,c16,c17,c18,c19,c20⟩:=url_cells S9.row
  go_wp2_with fail
  have H10:=Lib.hid (zaU S9 (u.hasQ) [⟨#[63]⟩,u.query] (by rw[zcW];have e1:(⟨#[58]⟩:ByteArray).size=1:=rfl;have e2:(⟨#[47,47]⟩:ByteArray).size=2:=rfl;have e3:(⟨#[64]⟩:ByteArray).size=1:=rfl;have e4:(⟨#[63]⟩:ByteArray).size=1:=rfl;have e5:(⟨#[35]⟩:ByteArray).size=1:=rfl;omega) (by simp))
  refine H10.out.mono ?_
  rintro e W10 ⟨rfl,S10⟩
  obtain⟨L10,E10⟩:∃ L,L=L9++za7 (u.hasQ) (zav [⟨#[63]⟩,u.query]):=⟨_,rfl⟩
  rw[← E10] at S10
  have n10:L10.length≤7600006:=by
   have h1:=zbn (u.hasQ) (zav [⟨#[63]⟩,u.query])
   rw[zcW] at h1
   rw[E10,List.length_append]
   have e1:(⟨#[58]⟩:ByteArray).size=1:=rfl;have e2:(⟨#[47,47]⟩:ByteArray).size=2:=rfl;have e3:(⟨#[64]⟩:ByteArray).size=1:=rfl;have e4:(⟨#[63]⟩:ByteArray).size=1:=rfl;have e5:(⟨#[35]⟩:ByteArray).size=1:=rfl;omega
  have EH10:=Lib.hid E10
  clear E10 H10 c0 c1 c2 c3 c4 c5 c6 c7 c8 c9 c10 c11 c12 c13 c14 c15 c16 c17 c18 c19 c20
  obtain⟨c0,c1,c2,c3,c4,c5,c6,c7,c8,c9,c10,c11,c12,c13,c14,c15,c16,c17,c18,c19,c20⟩:=url_cells S10.row
  go_wp2_with fail
  have H11:=Lib.hid (zaU S10 (u.hasF) [⟨#[35]⟩,u.frag] (by rw[zcW];have e1:(⟨#[58]⟩:ByteArray).size=1:=rfl;have e2:(⟨#[47,47]⟩:ByteArray).size=2:=rfl;have e3:(⟨#[64]⟩:ByteArray).size=1:=rfl;have e4:(⟨#[63]⟩:ByteArray).size=1:=rfl;have e5:(⟨#[35]⟩:ByteArray).size=1:=rfl;omega) (by simp))
  refine H11.out.mono ?_
  rintro e W11 ⟨rfl,S11⟩
  obtain⟨L11,E11⟩:∃ L,L=L10++za7 (u.hasF) (zav [⟨#[35]⟩,u.frag]):=⟨_,rfl⟩
  rw[← E11] at S11
  have n11:L11.length≤8600007:=by
   have h1:=zbn (u.hasF) (zav [⟨#[35]⟩,u.frag])
   rw[zcW] at h1
   rw[E11,List.length_append]
   have e1:(⟨#[58]⟩:ByteArray).size=1:=rfl;have e2:(⟨#[47,47]⟩:ByteArray).size=2:=rfl;have e3:(⟨#[64]⟩:ByteArray).size=1:=rfl;have e4:(⟨#[63]⟩:ByteArray).size=1:=rfl;have e5:(⟨#[35]⟩:ByteArray).size=1:=rfl;omega
  have EH11:=Lib.hid E11
  clear E11 H11 c0 c1 c2 c3 c4 c5 c6 c7 c8 c9 c10 c11 c12 c13 c14 c15 c16 c17 c18 c19 c20
  obtain⟨c0,c1,c2,c3,c4,c5,c6,c7,c8,c9,c10,c11,c12,c13,c14,c15,c16,c17,c18,c19,c20⟩:=url_cells S11.row
  obtain⟨vb,hvb⟩:=S11.bld
  have HBS:=Lib.hid (Tryz.Builder_String_any_k b b L11 W11 (Lib.IsBuilderF.of hvb.isB) (Nat.le_of_lt hvb.lt))
  have HZ:Hid (sL d=L11):=by
   show _=_
   rw[HE.out,if_pos trivial,EH11.out,EH10.out,EH9.out,EH6.out,EH5.out,EH4.out,EH3.out];rfl
  have HQ:Hid (zaZ u (bs L11)):=by show _;have:=HT.out _ HDD.out;rwa [HZ.out] at this
  have BB:=S11.bel
  have hlo:=S11.lo
  clear hvb HE HT HZ c0 c1 c2 c3 c4 c5 c6 c7 c8 c9 c10 c11 c12 c13 c14 c15 c16 c17 c18 c19 c20
  go_wp2_with fail
  refine HBS.out.mono ?_
  rintro e W12 ⟨rfl,_,b12,_⟩
  go_wp2_with fail
  go_ret
  exact⟨⟨_,rfl,HQ.out,by show L11.length≤9000000;omega⟩,BB.trans (b12.mono (Nat.le_of_lt hlo))⟩
end
end Go.Proofs.YtdlkjofnnefjfaaGreatDoor
