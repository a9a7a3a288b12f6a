/- six.Show, host.Show: some text of bounded size; of a domain its name. host.Local. The walk of layer 6's Parse: eight pieces of a text: for every text of at most 1000000 bytes. -/
import Derived.Test.YtdlkjofnnefjfaaGreatDoorZHostB
import Derived.Deep.LoopGhost
import Derived.Laws.CopyOwn
set_option linter.all false
namespace Go.Proofs.YtdlkjofnnefjfaaGreatDoor
set_option maxRecDepth 100000
section
open Go.RowKit
theorem i64_and15 {x:Int} (h0:0≤x) (h1:x≤65535):bits .and .i64 x 15=x % 16:=bits_mask .i64 62 (by decide) (fun n h0 h1=>by rw[IntKind.wrap_i64];omega) 4 (by decide) x h0 (by omega)
theorem dig_one (m:Nat) (h:m < 16):((⟨#[48,49,50,51,52,53,54,55,56,57,97,98,99,100,101,102]⟩:ByteArray).extract m (m + 1)).size=1:=by
 rw[ByteArray.size_extract]
 have:(⟨#[48,49,50,51,52,53,54,55,56,57,97,98,99,100,101,102]⟩:ByteArray).size=16:=rfl
 omega
set_option maxHeartbeats 1000000 in
theorem sixText_any:∀ (k:Nat) (n:Int) (w:World),k≤10→0≤n→n≤65535→n < 16 ^ (k + 1) →
  Calls Tryz.prog 313 #[.int .i64 n] w fun e w'=>(∃ t:ByteArray,e=.returned (.string t)∧1≤t.size∧t.size≤k + 1)∧w=w':=by
 intro k
 induction k with
 | zero =>
  intro n w hk h0 h1 h2
  have ha:=i64_and15 h0 h1
  obtain⟨m,hm⟩:∃ m:Nat,n % 16=(m:Int):=⟨(n % 16).toNat,by omega⟩
  have hm16:m < 16:=by omega
  rw[hm] at ha
  have h15:n≤15:=by omega
  have HD:=Lib.hid (dig_one m hm16)
  clear hm h1 h2
  go_enter Tryz.func313,Tryz.ntmps313
  go_wp2_with fail
  go_ret
  exact⟨⟨_,rfl,by have:=HD.out;omega,by have:=HD.out;omega⟩,rfl⟩
 | succ k ih =>
  intro n w hk h0 h1 h2
  have ha:=i64_and15 h0 h1
  obtain⟨m,hm⟩:∃ m:Nat,n % 16=(m:Int):=⟨(n % 16).toNat,by omega⟩
  have hm16:m < 16:=by omega
  rw[hm] at ha
  have HD:=Lib.hid (dig_one m hm16)
  by_cases h15:n≤15
  ·clear hm h1 h2 ih
   go_enter Tryz.func313,Tryz.ntmps313
   go_wp2_with fail
   go_ret
   exact⟨⟨_,rfl,by have:=HD.out;omega,by have:=HD.out;omega⟩,rfl⟩
  ·have h2':n / 16 < 16 ^ (k + 1):=by
    rw[Int.pow_succ] at h2
    exact Int.ediv_lt_of_lt_mul (by omega) h2
   have IH:=Lib.hid (ih (n / 16) w (by omega) (by omega) (by omega) h2')
   clear ih h2 h2' hm
   go_enter Tryz.func313,Tryz.ntmps313
   go_wp2_with fail
   refine IH.out.mono ?_
   rintro e w1 ⟨⟨t,rfl,ht0,ht⟩,rfl⟩
   have hsum:t.size + (min (m + 1) 16 - m)≤9223372036854775807:=by omega
   go_wp2_with fail
   go_ret
   exact⟨⟨_,rfl,by rw[app_size];have:=HD.out;omega,by rw[app_size];have:=HD.out;omega⟩,rfl⟩
theorem join_le (sep:List UInt8) (M:Nat):∀ (l:List (List UInt8)),(∀ x∈l,x.length≤M)→(Lib.join l sep).length≤l.length * (M + sep.length)
 | [],_=>by simp[Lib.join]
 | [a],h=>by have:=h a (by simp);simp[Lib.join];omega
 | a::b::l,h=>by
  have h1:=h a (by simp)
  have h2:=join_le sep M (b::l) (fun x hx=>h x (List.mem_cons_of_mem _ hx))
  simp only[Lib.join,List.intercalate,List.intersperse,List.flatten_cons,List.length_append,List.length_cons] at h2 ⊢
  rw[Nat.add_mul,Nat.one_mul]
  omega
def Pcs (w:World) (b off n:Nat):Prop:=b < w.heap.size∧∀ j,j < n→∃ x:Int,w.cell? ⟨b,off + j,none⟩=some (.int .i64 x)∧0≤x∧x≤65535
def JoinLeft (w:World) (e:Ending) (w':World):Prop:=(∃ t:ByteArray,e=.returned (.string t)∧t.size≤1000)∧Below w.heap.size w w'
set_option maxHeartbeats 1000000 in
theorem sixJoin_any (b off n cap:Nat) (w:World) (hp:Pcs w b off n) (hn:n≤8) :
  Calls Tryz.prog 312 #[.slice (some ⟨b,off,none⟩) n cap] w (JoinLeft w):=by
 obtain⟨i0,hi,hz0,hz1,hz2⟩:=info_parts Tryz.info9
 obtain⟨hb,hc⟩:=hp
 have HC:=Lib.hid hc
 clear hc
 go_enter Tryz.func312,Tryz.ntmps312
 go_wp2_with fail
 go_loopw [3,5,8] (fun v _ i wr=>∃ k:Nat,k≤n∧i=.int .i64 k∧TextRow wr w.heap.size v k 30∧Below w.heap.size w wr) (fun _ _ i _=>n - (intOf i).toNat)
 case atStart=>exact⟨0,by omega,rfl,⟨[],rfl,by simp,World.ownsRow_nil _ _ _ _⟩,Below.refl _ _⟩
 case round =>
  obtain⟨k,hk,rfl,HR,hB⟩:=hrel
  have hB0:=hB.size
  by_cases hlt:k < n
  ·obtain⟨xs,hxs,hsz,hown⟩:=HR
   obtain⟨x,hx,hx0,hx1⟩:=HC.out k hlt
   have hcx:wr.cell? ⟨b,off + k,none⟩=some (.int .i64 x):=(hB.cell (p:=⟨b,off + k,none⟩) hb).trans hx
   have HT:=Lib.hid (sixText_any 3 x wr (by omega) hx0 hx1 (by omega))
   clear hx
   go_wp2_with fail
   refine HT.out.mono ?_
   rintro e w2 ⟨⟨t,rfl,ht0,ht⟩,rfl⟩
   have HXS:=Lib.hid hxs
   have HSZ:=Lib.hid hsz
   have HTZ:=Lib.hid (And.intro ht0 ht)
   clear hxs hsz ht ht0
   go_wp2_with (at_builtin;refine wpList_append_own _ rfl _ _ 25 rfl w.heap.size 9 i0 (.string ⟨#[]⟩) 1 16 Tryz.underlying25 hi hz0 hz1 hz2 rfl (by decide) _ _ _ rfl (hown.alloc _) ⟨wr.heap.size,0,none⟩ 1 1 [.string t] rfl rfl ?c1 ?c2 ?c3 ?c4 ?c5 ?_)
   case c1=>exact new_one rfl
   case c2=>intro u hu;simp at hu;subst hu;rfl
   case c3=>unfold maxLen;omega
   case c4=>omega
   case c5=>simp;omega
   intro v' w3 hown' hgrow _
   have hR3:TextRow w3 w.heap.size v' (k + 1) 30:=⟨xs++[t],by simp[HXS.out],by
    intro x hx
    rcases List.mem_append.1 hx with h|h
    ·exact HSZ.out x h
    ·rw[List.mem_singleton.1 h];have:=HTZ.out;omega,by simpa using hown'⟩
   have hB3:Below w.heap.size w w3:=(hB.alloc (by omega) _).grown hgrow (by simp;omega) (fun j hj=>(hown.lt j (by rw[hj])).1)
   clear hown' hgrow hown
   go_wp2
   go_roundw
   case rel=>exact⟨k + 1,by omega,by go_num,hR3,hB3⟩
   case measure=>simp[intOf];omega
  ·obtain⟨xs,hxs,hsz,hown⟩:=HR
   obtain rfl:k=n:=by omega
   have hj:=join_le [58] 30 (xs.map (·.data.toList)) (fun x hx=>by
    obtain⟨y,hy,rfl⟩:=List.mem_map.1 hx
    rw[size_len];exact(hsz y hy).2)
   have hj2:(Lib.join (xs.map (·.data.toList)) [58]).length≤1000:=by
    rw[List.length_map,hxs] at hj
    simp at hj
    omega
   have HTX:=Lib.hid hj2
   clear hj
   have hown':=hown
   obtain⟨_,h2⟩:=hown
   rcases h2 with ⟨rfl,h2⟩|⟨g,cap,cur,rfl,hg,hh,h3,h4,h5,h6⟩
   ·subst h2
    go_wp2_with fail
    refine(Tryz.strings_Join_none none 0 _ _).mono ?_
    rintro e w2 ⟨rfl,rfl⟩
    go_wp2
    go_ret
    exact⟨⟨_,rfl,by decide⟩,hB⟩
   ·have hcells:∀ (j:Nat) x,xs[j]? = some x→wr.cell? ⟨g,0 + j,none⟩=some (.string x):=by
     rcases Strs.of_own (l:=xs) (by rw[hxs];exact hown') with ⟨hv,_⟩|⟨b,off,cap',hv,_,_,_,hc⟩
     ·cases hv
     ·simp only[Value.slice.injEq,Option.some.injEq,Addr.mk.injEq] at hv
      obtain⟨⟨rfl,rfl,_⟩,_,_⟩:=hv
      intro j x hx
      have hj:j < xs.length:=(List.getElem?_eq_some_iff.1 hx).1
      rw[hc j hj];simp[List.getD,hx]
    have HJ:=Lib.hid (Tryz.strings_Join g 0 cap xs ⟨#[58]⟩ wr hcells (heap_lt hh) (by omega) (by omega) (Nat.le_trans hj2 (by omega)))
    rw[hxs] at HJ
    clear hcells hown' hh h6 hj2 hxs hsz
    go_wp2_with fail
    refine HJ.out.mono ?_
    rintro e w2 ⟨rfl,b2⟩
    go_wp2
    go_ret
    exact⟨⟨_,rfl,HTX.out⟩,hB.trans (b2.mono hB0)⟩
def RunLeft (w:World) (e:Ending) (w':World):Prop:=(∃ a n:Nat,e=.returned (.tuple #[.int .i64 a,.int .i64 n])∧a + n≤8)∧Below w.heap.size w w'
theorem six_cells {w:World} {g:Nat} {t:TypeId} {fr:Nat×Nat} {p:Six} (h:w.heap[g]? = some (.cells (sixC p) t fr)):∀ j,j < 8→∃ x:Int,w.cell? ⟨g,j,none⟩=some (.int .i64 x):=by
 intro j hj
 match j,hj with
 | 0,_=>exact⟨_,cell_in h 0 _ rfl⟩
 | 1,_=>exact⟨_,cell_in h 1 _ rfl⟩
 | 2,_=>exact⟨_,cell_in h 2 _ rfl⟩
 | 3,_=>exact⟨_,cell_in h 3 _ rfl⟩
 | 4,_=>exact⟨_,cell_in h 4 _ rfl⟩
 | 5,_=>exact⟨_,cell_in h 5 _ rfl⟩
 | 6,_=>exact⟨_,cell_in h 6 _ rfl⟩
 | 7,_=>exact⟨_,cell_in h 7 _ rfl⟩
set_option maxHeartbeats 2000000 in
theorem sixRun_any (p:Six) (w:World):Calls Tryz.prog 311 #[.agg (sixC p)] w (RunLeft w):=by
 have R0:=row1 w (.cells (sixC p) 22)
 have B0:=bel1 w (.cells (sixC p) 22)
 have HC:=Lib.hid (six_cells R0)
 clear R0
 obtain⟨W0,hW0⟩:∃ W0,w.alloc (.cells (sixC p) 22)=W0:=⟨_,rfl⟩
 rw[hW0] at HC B0
 go_enter Tryz.func311,Tryz.ntmps311
 go_wp2_with fail
 go_step3
 go_wp2_with fail
 go_step3
 go_wp2_with fail
 clear hW0
 go_loopg [4,5,10] 8 (fun g a n i wr=>∃ k x y:Nat,k + g=8∧i=.int .i64 k∧a=.int .i64 x∧n=.int .i64 y∧x + y≤8∧W0=wr)
 case atStart=>exact⟨0,0,1,by omega,rfl,rfl,rfl,by omega,rfl⟩
 case round =>
  obtain⟨k,x,y,hk,rfl,rfl,rfl,hxy,rfl⟩:=hrel
  cases gk with
  | zero =>
   have h8:¬ ((k:Int) < 8):=by omega
   by_cases hy:(y:Int) < 2
   ·go_wp2_with fail
    go_ret2
    exact⟨⟨0,0,rfl,by omega⟩,B0⟩
   ·go_wp2_with fail
    go_ret2
    exact⟨⟨x,y,rfl,by omega⟩,B0⟩
  | succ g =>
   have h8:((k:Int) < 8):=by omega
   have h8':((k:Int)≤8):=by omega
   obtain⟨m,hm⟩:∃ m,m=8 - k:=⟨_,rfl⟩
   have hmg:m=g + 1:=by omega
   go_wp2_with fail
   go_loopg [7,16] m (fun r n i wy=>∃ j c:Nat,j + r=m∧i=.int .i64 j∧n=.int .i64 c∧c≤j∧W0=wy)
   case atStart=>exact⟨0,0,by omega,rfl,rfl,by omega,rfl⟩
   case round =>
    obtain⟨j,c,hj,rfl,rfl,hcj,rfl⟩:=hrel
    cases gk with
    | zero =>
     have hlt:¬ ((j:Int) < (m:Int)):=by omega
     by_cases hy:(y:Int) < (c:Int)
     ·go_wp2_with fail
      go_roundg g
      case measure=>omega
      case rel=>exact⟨k + 1,k,c,by omega,by go_num,rfl,rfl,by omega,rfl⟩
     ·go_wp2_with fail
      go_roundg g
      case measure=>omega
      case rel=>exact⟨k + 1,x,y,by omega,by go_num,rfl,rfl,by omega,rfl⟩
    | succ r =>
     have hlt:((j:Int) < (m:Int)):=by omega
     obtain⟨v,hv⟩:=HC.out (k + j) (by omega)
     by_cases hv0:v=0
     ·subst hv0
      go_wp2_with fail
      go_roundg r
      case measure=>omega
      case rel=>exact⟨j + 1,c + 1,by omega,by go_num,by go_num,by omega,rfl⟩
     ·have hvb:(v != 0)=true:=by rw[bne_iff_ne];exact hv0
      by_cases hcy:(c:Int)≤(y:Int)
      ·go_wp2_with fail
       go_roundg g
       case measure=>omega
       case rel=>exact⟨k + 1,x,y,by omega,by go_num,rfl,rfl,by omega,rfl⟩
      ·have hy:(y:Int) < (c:Int):=by omega
       go_wp2_with fail
       go_roundg g
       case measure=>omega
       case rel=>exact⟨k + 1,k,c,by omega,by go_num,rfl,rfl,by omega,rfl⟩
def TextLeft (w:World) (e:Ending) (w':World):Prop:=(∃ t:ByteArray,e=.returned (.string t)∧t.size≤3000)∧Below w.heap.size w w'
theorem mask_le (n:Int):0≤mask n∧mask n≤65535:=by
 unfold mask
 simp only[bits,BitVec.toNat_and]
 have h:=Nat.and_le_right (n:=(BitVec.ofInt 64 n).toNat) (m:=(BitVec.ofInt 64 65535).toNat)
 have h2:(BitVec.ofInt 64 65535).toNat=65535:=by decide
 rw[h2] at h
 show 0≤IntKind.i64.wrap (((BitVec.ofInt 64 n).toNat &&& (BitVec.ofInt 64 65535).toNat:Nat):Int)∧IntKind.i64.wrap (((BitVec.ofInt 64 n).toNat &&& (BitVec.ofInt 64 65535).toNat:Nat):Int)≤65535
 rw[h2,IntKind.wrap_i64]
 omega
theorem six_pcs {w:World} {g:Nat} {t:TypeId} {fr:Nat×Nat} {p:Six} (h:w.heap[g]? = some (.cells (sixC p) t fr)) (hm:sixMay p=true) (off n:Nat) (hn:off + n≤8):Pcs w g off n:=by
 have hm:=of_decide_eq_true hm
 have r:∀ x,mask x=x→0≤x∧x≤65535:=fun x hx=>by have:=mask_le x;omega
 obtain⟨p0,p1,p2,p3,p4,p5,p6,p7⟩:=p
 simp only[maskS,Six.mk.injEq] at hm
 obtain⟨m0,m1,m2,m3,m4,m5,m6,m7⟩:=hm
 refine⟨heap_lt h,fun j hj=>?_⟩
 obtain⟨k,hk⟩:∃ k,k=off + j:=⟨_,rfl⟩
 have hk8:k < 8:=by omega
 rw[← hk]
 match k,hk8 with
 | 0,_=>exact⟨p0,cell_in h 0 _ rfl,r _ m0⟩
 | 1,_=>exact⟨p1,cell_in h 1 _ rfl,r _ m1⟩
 | 2,_=>exact⟨p2,cell_in h 2 _ rfl,r _ m2⟩
 | 3,_=>exact⟨p3,cell_in h 3 _ rfl,r _ m3⟩
 | 4,_=>exact⟨p4,cell_in h 4 _ rfl,r _ m4⟩
 | 5,_=>exact⟨p5,cell_in h 5 _ rfl,r _ m5⟩
 | 6,_=>exact⟨p6,cell_in h 6 _ rfl,r _ m6⟩
 | 7,_=>exact⟨p7,cell_in h 7 _ rfl,r _ m7⟩
set_option maxHeartbeats 2000000 in
theorem sixShow_any (p:Six) (w:World):Calls Tryz.prog 310 #[.agg (sixC p)] w (TextLeft w):=by
 have R0:=row1 w (.cells (sixC p) 22)
 have B0:=bel1 w (.cells (sixC p) 22)
 have HM:=fun w'=>Lib.hid (sixMay_any p w')
 have HR:=fun w'=>Lib.hid (sixRun_any p w')
 have HJ:Hid (∀ off n cap w',sixMay p=true→Below w.heap.size w w'→w'.heap[w.heap.size]? = some (.cells (sixC p) 22 (0,0))→off + n≤8→Calls Tryz.prog 312 #[.slice (some ⟨w.heap.size,off,none⟩) n cap] w' (JoinLeft w')):=fun off n cap w' hm hb hr hn=>sixJoin_any w.heap.size off n cap w' (six_pcs hr hm off n hn) (by omega)
 obtain⟨m,hm⟩:∃ m,m=sixMay p:=⟨_,rfl⟩
 simp only[← hm] at HM HJ
 clear hm
 go_enter Tryz.func310,Tryz.ntmps310
 go_wp2_with (first|((with_reducible (show wpList _ _ _ (Oper.mk _ (.load 22 _) _ _ _ none::_) _ _));refine wpList_load_row rfl 22 _ rfl w.heap.size rfl 22 _ (0,0) _ R0 Tryz.underlying22 rfl six_info ?_))
 refine(HM _).out.mono ?_
 rintro e w1 ⟨rfl,b1⟩
 have R1:=kept b1 R0
 have B1:=bel_on B0 b1
 clear R0 B0 b1
 cases m with
 | false =>
  go_wp2_with fail
  go_ret
  exact⟨⟨_,rfl,by decide⟩,B1⟩
 | true =>
  go_wp2_with (first|((with_reducible (show wpList _ _ _ (Oper.mk _ (.load 22 _) _ _ _ none::_) _ _));refine wpList_load_row rfl 22 _ rfl w.heap.size rfl 22 _ (0,0) _ R1 Tryz.underlying22 rfl six_info ?_))
  refine(HR _).out.mono ?_
  rintro e w2 ⟨⟨a,n,rfl,han⟩,b2⟩
  have R2:=kept b2 R1
  have B2:=bel_on B1 b2
  clear R1 B1 b2
  by_cases h0:n=0
  ·subst h0
   go_wp2_with fail
   refine(HJ.out _ _ _ _ trivial B2 R2 (by omega)).mono ?_
   rintro e w3 ⟨⟨t,rfl,ht⟩,b3⟩
   go_wp2_with fail
   go_ret
   exact⟨⟨_,rfl,by omega⟩,bel_on B2 b3⟩
  ·have hn0:((n:Int) == 0)=false:=by rw[beq_eq_false_iff_ne];omega
   obtain⟨s,hs⟩:∃ s,s=a + n:=⟨_,rfl⟩
   have ha8:(a:Int)≤8:=by omega
   have hs8:(s:Int)≤8:=by omega
   have hs':IntKind.i64.wrap ((a:Int) + (n:Int))=(s:Int):=by rw[IntKind.wrap_i64];omega
   clear han hs
   by_cases h88:s=8
   ·subst h88
    go_wp2_with fail
    go_region_with (first|(go_at_call 312;refine(HJ.out _ _ _ _ trivial (bel_on (bel_on B2 (below_drew _)) b3) (kept b3 R2) (by omega)).mono ?_;rintro e w4 ⟨⟨t4,rfl,ht4⟩,b4⟩;have hz4:¬ (9223372036854775807 < t3.size + 2 + t4.size):=by omega)|(go_at_call 312;refine(HJ.out _ _ _ _ trivial (bel_on B2 (below_drew _)) R2 (by omega)).mono ?_;rintro e w3 ⟨⟨t3,rfl,ht3⟩,b3⟩;have hz3:¬ (9223372036854775807 < t3.size + 2):=by omega))
    all_goals
     go_wp2
     go_ret
     exact⟨⟨_,rfl,by simp only[app_size];have e1:(⟨#[58,58]⟩:ByteArray).size=2:=rfl;omega⟩,bel_on (bel_on (bel_on B2 (below_drew _)) b3) b4⟩
   ·have h89:¬ 8=s:=fun h=>h88 h.symm
    go_wp2_with fail
    go_region_with (first|(go_at_call 312;refine(HJ.out _ _ _ _ trivial (bel_on (bel_on B2 (below_drew _)) b3) (kept b3 R2) (by omega)).mono ?_;rintro e w4 ⟨⟨t4,rfl,ht4⟩,b4⟩;have hz4:¬ (9223372036854775807 < t3.size + 2 + t4.size):=by omega)|(go_at_call 312;refine(HJ.out _ _ _ _ trivial (bel_on B2 (below_drew _)) R2 (by omega)).mono ?_;rintro e w3 ⟨⟨t3,rfl,ht3⟩,b3⟩;have hz3:¬ (9223372036854775807 < t3.size + 2):=by omega))
    all_goals
     go_wp2
     go_ret
     exact⟨⟨_,rfl,by simp only[app_size];have e1:(⟨#[58,58]⟩:ByteArray).size=2:=rfl;omega⟩,bel_on (bel_on (bel_on B2 (below_drew _)) b3) b4⟩
end
section
open Go.RowKit
def sixCut (s:ByteArray):List UInt8×List UInt8×Bool:=Lib.cut s.data.toList [58,58]
def sixF (s:ByteArray):ByteArray:=bs (sixCut s).1
def sixB (s:ByteArray):ByteArray:=bs (sixCut s).2.1
def sixG (s:ByteArray):Bool:=(sixCut s).2.2
def sixNo (s:ByteArray):Nat:=(splitN (sixF s)).length + (splitN (sixB s)).length
def sixOK (s:ByteArray):Bool:=splitOK (sixF s) && (splitOK (sixB s) && (if sixG s=true then decide (sixNo s < 8) else decide (sixNo s=8)))
def sixOf (l:List Int):Six:=⟨l.getD 0 0,l.getD 1 0,l.getD 2 0,l.getD 3 0,l.getD 4 0,l.getD 5 0,l.getD 6 0,l.getD 7 0⟩
def sixRow (a b:List Int):List Int:=splice (splice (List.replicate 8 0) 0 a) (8 - b.length) b
def sixN (s:ByteArray):Six:=if sixOK s=true then sixOf (sixRow (splitN (sixF s)) (splitN (sixB s))) else six0
theorem row_view {w:World} {B n:Nat} {v:Value} {xs:List Value} (h:w.ownsRow B 3 1 v n xs):∃ sp cap,v=.slice sp n cap∧n≤maxLen∧(0 < n→∃ g,sp=some ⟨g,0,none⟩∧B≤g∧∀ j x,xs[j]? = some x→w.cell? ⟨g,j,none⟩=some x):=by
 obtain⟨h1,h2⟩:=h
 rcases h2 with ⟨h2,h3⟩|⟨g,cap,cur,hv,hg,hh,h4,h5,h6,h7⟩
 ·exact⟨none,0,by rw[h2,h3],by omega,fun h=>absurd h (by omega)⟩
 ·refine⟨some ⟨g,0,none⟩,cap,hv,by omega,fun _=>⟨g,rfl,hg,fun j x hx=>?_⟩⟩
  refine cell_in hh j x ?_
  rw[← h7,List.getElem?_take] at hx
  split at hx
  ·simpa using hx
  ·cases hx
theorem add_of (g j:Nat):(⟨g,0,none⟩:Addr).add j=⟨g,j,none⟩:=by unfold Addr.add;split <;> simp_all
theorem splice_map {α β:Type} (f:α→β) (L:List α) (k:Nat) (c:List α):splice (L.map f) k (c.map f)=(splice L k c).map f:=by simp[splice]
theorem list8 (l:List Int) (h:l.length=8):∃ a b c d e f g i,l=[a,b,c,d,e,f,g,i]:=by
 match l,h with
 | [a,b,c,d,e,f,g,i],_=>exact⟨a,b,c,d,e,f,g,i,rfl⟩
theorem splitN_len (s:ByteArray) (hs:s.size≤1000000):(splitN s).length≤3000001:=by
 unfold splitN
 split
 ·simp
 ·split
  ·rw[List.length_map]
   unfold colParts;rw[parts_len _ (by decide) s.size s (Nat.le_refl _)]
   have:=Lib.countB_mul_le ⟨#[58]⟩ (by decide) s.size s (Nat.le_refl _)
   have e1:(⟨#[58]⟩:ByteArray).size=1:=rfl
   rw[e1,Nat.mul_one] at this;omega
  ·simp
theorem info22:(Tryz.prog.info? 3).map (·.size)=some 1:=by kernel_rfl
theorem splice8 (a b:List Int) (h:a.length + b.length≤8):(sixRow a b).length=8:=by
 unfold sixRow
 rw[length_splice _ _ _ (by rw[length_splice _ _ _ (by simp;omega)];simp;omega),length_splice _ _ _ (by simp;omega)];simp
theorem copy_into {ops:Array Oper} {rest:List Oper} {o:Oper} {a:Act} {w:World} {Q:Exit→Act→World→Prop} (hgd:o.guard=none) (d s:Operand)
  (ho:o.op=.call { callee:=.builtin .copy,args:=#[d,s],argTypes:=#[290,290] })
  (dp sp:Option Addr) (m dCap n sCap:Nat) (hd:a.eval d=.slice dp m dCap) (hs:a.eval s=.slice sp n sCap) (g k:Nat) (Z:List Value) (hg:w.heap[g]? = some (.cells Z.toArray 22 (0,0))) (X:List Value) (hX:X.length=Nat.min n m)
  (hp:0 < X.length→dp=some ⟨g,k,none⟩∧∃ ad,sp=some ad∧∀ j v,X[j]? = some v→w.cell? (ad.add j)=some v) (hf:k + X.length≤Z.length) (h1:∀ v∈X,v.oneCell'=true)
  (h:∀ w',Hid (w'.heap[g]? = some (.cells (splice Z k X).toArray 22 (0,0)))→Below g w w'→Hid (∀ j,j≠g→w'.heap[j]? = w.heap[j]?)→wpList Tryz.prog ops Q rest (a.put o.dst (goInt X.length)) w'):wpList Tryz.prog ops Q (o::rest) a w:=by
 rcases X with _|⟨x,X⟩
 ·refine wpList_copy_nothing hgd d s 290 290 ho 3 Tryz.underlying290 info22 dp sp m dCap n sCap hd hs hX.symm ?_
  refine h w ?_ (Below.refl _ _) (fun j _=>rfl)
  show _=_
  rw[hg];simp[splice]
 ·obtain⟨e1,ad,e2,e3⟩:=hp (by simp)
  rw[e1] at hd
  rw[e2] at hs
  refine wpList_copy_own hgd d s 290 290 ho 3 Tryz.underlying290 info22 g k m dCap ad n sCap hd hs Z.toArray 22 hg (x::X) hX e3 (by simpa using hf) h1 ?_
  refine h _ ?_ (below_setRow (Below.refl _ _) (Nat.le_refl _) _) (fun j hj=>setRow_other _ _ _ _ hj)
  show _=_
  rw[setRow_heap w g _ _ 22 _ hg];simp[splice]
set_option maxHeartbeats 2000000 in
theorem sixParse_any (s:ByteArray) (w:World) (G:Glob w) (hs:s.size≤1000000) :
  Calls Tryz.prog 209 #[.string s] w fun e w'=>e=.returned (.tuple #[.agg (sixC (sixN s)),.bool (sixOK s)])∧Below w.heap.size w w':=by
 have hz:=cut_le s.data.toList [58,58]
 rw[size_len] at hz
 have hf:(sixF s).size≤1000000:=by unfold sixF sixCut;rw[bs_size];omega
 have hb:(sixB s).size≤1000000:=by unfold sixB sixCut;rw[bs_size];omega
 have HC:=fun w'=>Lib.hid (fun (G':Glob w')=>cut_any s ⟨#[58,58]⟩ w' G' (by omega))
 have HC:∀ w',Hid (Glob w'→Calls Tryz.prog 27 #[.string s,.string ⟨#[58,58]⟩] w' fun e w''=>e=.returned (.tuple #[.string (sixF s),.string (sixB s),.bool (sixG s)])∧Below w'.heap.size w' w''):=HC
 have HF:=fun w'=>Lib.hid (fun (G':Glob w')=>sixSplit_any (sixF s) w' G' hf)
 have HB:=fun w'=>Lib.hid (fun (G':Glob w')=>sixSplit_any (sixB s) w' G' hb)
 unfold SplitLeft at HF HB
 have HOK:Hid (sixOK s=(splitOK (sixF s) && (splitOK (sixB s) && (if sixG s=true then decide ((splitN (sixF s)).length + (splitN (sixB s)).length < 8) else decide ((splitN (sixF s)).length + (splitN (sixB s)).length=8))))):=rfl
 have HN:Hid (sixN s=if sixOK s=true then sixOf (sixRow (splitN (sixF s)) (splitN (sixB s))) else six0):=rfl
 obtain⟨r,hr⟩:∃ r,r=sixN s:=⟨_,rfl⟩
 obtain⟨ok,hok⟩:∃ ok,ok=sixOK s:=⟨_,rfl⟩
 obtain⟨f,hf'⟩:∃ f,f=sixF s:=⟨_,rfl⟩
 obtain⟨l,hl'⟩:∃ l,l=sixB s:=⟨_,rfl⟩
 obtain⟨g,hg'⟩:∃ g,g=sixG s:=⟨_,rfl⟩
 rw[← hr,← hok,← hf',← hl'] at HN
 rw[← hok,← hf',← hl',← hg'] at HOK
 rw[← hr,← hok]
 simp only[← hf',← hl',← hg'] at HC HF HB
 rw[← hf'] at hf
 rw[← hl'] at hb
 clear hr hok hf' hl' hg' hz
 obtain⟨A,hA⟩:∃ A,A=splitN f:=⟨_,rfl⟩
 obtain⟨B,hB⟩:∃ B,B=splitN l:=⟨_,rfl⟩
 obtain⟨x,hx⟩:∃ x,x=splitOK f:=⟨_,rfl⟩
 obtain⟨y,hy⟩:∃ y,y=splitOK l:=⟨_,rfl⟩
 have laA:=Lib.hid (splitN_len f hf)
 have laB:=Lib.hid (splitN_len l hb)
 rw[← hA] at laA
 rw[← hB] at laB
 clear hf hb
 rw[← hA,← hB] at HN
 rw[← hA,← hB,← hx,← hy] at HOK
 simp only[← hA,← hx] at HF
 simp only[← hB,← hy] at HB
 clear hA hB hx hy
 go_enter Tryz.func209,Tryz.ntmps209
 go_wp2_with fail
 refine((HC _).out (G.below (bel2 _ _ _))).mono ?_
 rintro e w1 ⟨rfl,b1⟩
 have B1:=bel_on (bel2 w _ _) b1
 have q2:=kept b1 (row2a w _ _)
 have q4:=kept b1 (row2b w _ _)
 have SZ:Hid (w.heap.size + 2≤w1.heap.size):=by have:=b1.size;simp at this;show _≤_;omega
 clear b1
 go_wp2_with fail
 refine((HF _).out (G.below B1)).mono ?_
 rintro e w2 ⟨va,rfl,oa,b2⟩
 have B2:=bel_on B1 b2
 have q2:=kept b2 q2
 have q4:=kept b2 q4
 go_wp2_with fail
 refine((HB _).out (G.below B2)).mono ?_
 rintro e w3 ⟨vb,rfl,ob,b3⟩
 have B3:=bel_on B2 b3
 have q2:=kept b3 q2
 have q4:=kept b3 q4
 have oa:=own_below oa b3
 obtain⟨spa,ca,rfl,la,ha⟩:=row_view oa
 obtain⟨spb,cb,rfl,lb,hb⟩:=row_view ob
 have b12:Hid (w.heap.size + 2≤w2.heap.size):=by have:=B2.size;have:=b2.size;have:=SZ.out;show _≤_;omega
 clear oa ob b2 b3
 have HA:=Lib.hid ha
 have HB':=Lib.hid hb
 clear HF HB HC ha hb
 obtain⟨na,hna⟩:∃ na,na=A.length:=⟨_,rfl⟩
 obtain⟨nb,hnb⟩:∃ nb,nb=B.length:=⟨_,rfl⟩
 rw[← hna,← hnb] at HOK
 rw[← hna] at HA ⊢
 rw[← hnb] at HB' ⊢
 have lna:na≤3000001:=by rw[hna];exact laA.out
 have lnb:nb≤3000001:=by rw[hnb];exact laB.out
 clear la lb
 have hsum:wrap64 ((na:Int) + (nb:Int))=(na:Int) + (nb:Int):=by unfold wrap64;omega
 replace hna:=Lib.hid hna
 replace hnb:=Lib.hid hnb
 cases x with
 | false =>
  have HF:Hid (ok=false):=by show _=_;rw[HOK.out];rfl
  have HZ:Hid (r=six0):=by show _=_;rw[HN.out,HF.out];rfl
  clear HOK HN HA HB'
  go_wp2_with (refine wpList_store_row rfl 22 _ _ rfl w.heap.size _ rfl rfl 22 _ q2 six_info rfl (by simp[Value.oneCell']) ?_)
  rw[HF.out,HZ.out]
  exact bodyPost_ret (results_six rfl _ _ w.heap.size 22 six0 (0,0) rfl (setRow_heap _ _ _ _ _ _ q2) _ rfl) rfl ⟨rfl,below_setRow B3 (Nat.le_refl _) _⟩
 | true =>
  cases y with
  | false =>
   have HF:Hid (ok=false):=by show _=_;rw[HOK.out];rfl
   have HZ:Hid (r=six0):=by show _=_;rw[HN.out,HF.out];rfl
   clear HOK HN HA HB'
   go_wp2_with (refine wpList_store_row rfl 22 _ _ rfl w.heap.size _ rfl rfl 22 _ q2 six_info rfl (by simp[Value.oneCell']) ?_)
   rw[HF.out,HZ.out]
   exact bodyPost_ret (results_six rfl _ _ w.heap.size 22 six0 (0,0) rfl (setRow_heap _ _ _ _ _ _ q2) _ rfl) rfl ⟨rfl,below_setRow B3 (Nat.le_refl _) _⟩
  | true =>
   cases g with
   | true =>
    by_cases h8:na + nb < 8
    ·have HO:Hid (ok=true):=by show _=_;rw[HOK.out];rw[decide_eq_true h8];rfl
     have HL:Hid (na + nb≤8):=by show _≤_;omega
     have h8':((na:Int) + (nb:Int) < 8):=by omega
     clear HOK h8
     by_cases h0:nb=0
     ·obtain⟨k,hk⟩:∃ k,k=8 - nb:=⟨_,rfl⟩
      have hsub:wrap64 (8 - (nb:Int))=8:=by have:=HL.out;unfold wrap64;omega
      have e8:8 - (nb:Int)=8:=by have:=HL.out;omega
      have KN:Hid (8 - k=nb):=by have:=HL.out;show _=_;omega
      have KZ:Hid (k=8):=by show _=_;omega
      replace hk:=Lib.hid hk
      obtain⟨Z,hZ⟩:∃ Z:List Value,Z=(List.replicate 8 0).map (Value.int .i64):=⟨_,rfl⟩
      have Q4:Hid (w3.heap[w.heap.size + 1]? = some (.cells Z.toArray 22 (0,0))):=by rw[hZ];exact q4
      have zl:Z.length=8:=by rw[hZ];simp
      have ZL:=Lib.hid zl
      replace hZ:=Lib.hid hZ
      clear q4
      obtain⟨X,hX⟩:∃ X:List Value,X=A.map (Value.int .i64):=⟨_,rfl⟩
      obtain⟨Y,hY⟩:∃ Y:List Value,Y=B.map (Value.int .i64):=⟨_,rfl⟩
      have hXl:X.length=na:=by rw[hX,List.length_map,hna.out]
      have hYl:Y.length=nb:=by rw[hY,List.length_map,hnb.out]
      have XL:Hid (X.length=na):=hXl
      have YL:Hid (Y.length=nb):=hYl
      have X1:Hid (X.length=Nat.min na 8):=by show _=_;rw[hXl];exact(Nat.min_eq_left (by have:=HL.out;omega)).symm
      have X2:Hid (0 < X.length→∃ ad,spa=some ad∧∀ j v,X[j]? = some v→w3.cell? (ad.add j)=some v):=by
       intro h0
       obtain⟨g,e1,e2,e3⟩:=HA.out (by omega)
       exact⟨_,e1,fun j v hv=>by rw[add_of];exact e3 j v (by rw[← hX];exact hv)⟩
      have X3:Hid (0 + X.length≤Z.length):=by show _≤_;have:=HL.out;omega
      have X4:Hid (∀ v∈X,v.oneCell'=true):=by intro v hv;rw[hX,List.mem_map] at hv;obtain⟨a,_,rfl⟩:=hv;rfl
      have Y1:Hid (Y.length=Nat.min nb (8 - k)):=by show _=_;rw[hYl,KN.out];exact(Nat.min_eq_left (Nat.le_refl _)).symm
      have Y2:Hid (0 < Y.length→∃ g,spb=some ⟨g,0,none⟩∧g≠w.heap.size + 1∧∀ j v,Y[j]? = some v→w3.cell? ⟨g,j,none⟩=some v):=by
       intro h0
       obtain⟨g,e1,e2,e3⟩:=HB'.out (by omega)
       refine⟨_,e1,?_,fun j v hv=>e3 j v (by rw[← hY];exact hv)⟩
       have:=b12.out
       omega
      have Y4:Hid (∀ v∈Y,v.oneCell'=true):=by intro v hv;rw[hY,List.mem_map] at hv;obtain⟨a,_,rfl⟩:=hv;rfl
      have XY:Hid (splice (splice Z 0 X) 8 Y=(sixRow A B).map (Value.int .i64)):=by
       show _=_;rw[hZ.out,hX,hY];unfold sixRow;rw[← hnb.out,← hk.out,KZ.out];rw[← splice_map,← splice_map]
      clear hXl hYl hX hY HA HB' zl
      have SL:Hid ((splice Z 0 X).length=8):=by show _=_;rw[length_splice _ _ _ X3.out];exact ZL.out
      have Y5:Hid (8 + Y.length≤(splice Z 0 X).length):=by show _≤_;rw[SL.out,YL.out];have:=KN.out;have:=KZ.out;omega
      have Y6:∀ w4:World,(∀ j,j≠w.heap.size + 1→w4.heap[j]? = w3.heap[j]?)→Hid (0 < Y.length→∃ ad,spb=some ad∧∀ j v,Y[j]? = some v→w4.cell? (ad.add j)=some v):=by
       intro w4 o4 h0
       obtain⟨g,e1,e2,e3⟩:=Y2.out h0
       exact⟨_,e1,fun j v hv=>by rw[add_of];exact(World.cell?_of_block (o4 g e2)).trans (e3 j v hv)⟩
      replace Y6:=Lib.hid Y6
      have HQ:∀ w5:World,Hid (w5.heap[w.heap.size + 1]? = some (.cells (splice (splice Z 0 X) 8 Y).toArray 22 (0,0)))→Hid (w5.heap[w.heap.size + 1]? = some (.cells (sixC (sixOf (sixRow A B))) 22 (0,0))):=by
       intro w5 h
       show _=_
       rw[h.out,XY.out]
       obtain⟨x0,x1,x2,x3,x4,x5,x6,x7,hx⟩:=list8 (sixRow A B) (splice8 A B (by have:=HL.out;rw[hna.out,hnb.out] at this;exact this))
       rw[hx];rfl
      have HR:Hid (r=sixOf (sixRow A B)):=by show _=_;rw[HN.out,HO.out];rfl
      go_wp2_with (first|(refine copy_into rfl (.tmp 56) (.tmp 57) rfl _ _ _ _ _ _ rfl rfl (w.heap.size + 1) 0 Z Q4.out X X1.out (fun h=>⟨rfl,X2.out h⟩) X3.out X4.out ?_;intro w4 Q5 b4 o4;replace Y6:=Y6.out w4 o4.out;have B4:=B3.trans (b4.mono (Nat.le_succ _));have Q2:=(o4.out w.heap.size (by omega)).trans q2;clear q2 Q4 X1 X2 b4 o4)|(refine copy_into rfl (.tmp 62) (.tmp 63) rfl _ _ _ _ _ _ rfl rfl (w.heap.size + 1) 8 (splice Z 0 X) Q5.out Y (by have h1:=YL.out;have h2:=KN.out;have h3:=KZ.out;have h4:Y.length=0:=(by omega);exact h4.trans rfl) (fun h=>absurd h (by have h1:=YL.out;have h2:=KN.out;have h3:=KZ.out;omega)) Y5.out Y4.out ?_;intro w5 Q6 b5 o5;have B5:=B4.trans (b5.mono (Nat.le_succ _));have Q2:=(o5.out w.heap.size (by omega)).trans Q2;replace Q6:=HQ w5 Q6;clear o5 b5)|(refine wpList_load_row rfl 22 _ rfl (w.heap.size + 1) rfl 22 _ (0,0) _ Q6.out Tryz.underlying22 rfl six_info ?_)|(refine wpList_store_row rfl 22 _ _ rfl w.heap.size _ rfl rfl 22 _ Q2 six_info rfl (by simp[Value.oneCell',sixC]) ?_))
      rw[HO.out,HR.out]
      exact bodyPost_ret (results_six rfl _ _ w.heap.size 22 (sixOf (sixRow A B)) (0,0) rfl (setRow_heap _ _ _ _ _ _ Q2) _ rfl) rfl ⟨rfl,below_setRow B5 (Nat.le_refl _) _⟩
     ·obtain⟨k,hk⟩:∃ k,k=8 - nb:=⟨_,rfl⟩
      have hsub:wrap64 (8 - (nb:Int))=(k:Int):=by have:=HL.out;unfold wrap64;omega
      have e8:8 - (nb:Int)=(k:Int):=by have:=HL.out;omega
      have KN:Hid (8 - k=nb):=by have:=HL.out;show _=_;omega
      have k8:(k:Int)≤8:=by omega
      have k9:k≤8:=by omega
      have kne:¬ (8=k):=by have:=HL.out;omega
      replace hk:=Lib.hid hk
      obtain⟨Z,hZ⟩:∃ Z:List Value,Z=(List.replicate 8 0).map (Value.int .i64):=⟨_,rfl⟩
      have Q4:Hid (w3.heap[w.heap.size + 1]? = some (.cells Z.toArray 22 (0,0))):=by rw[hZ];exact q4
      have zl:Z.length=8:=by rw[hZ];simp
      have ZL:=Lib.hid zl
      replace hZ:=Lib.hid hZ
      clear q4
      obtain⟨X,hX⟩:∃ X:List Value,X=A.map (Value.int .i64):=⟨_,rfl⟩
      obtain⟨Y,hY⟩:∃ Y:List Value,Y=B.map (Value.int .i64):=⟨_,rfl⟩
      have hXl:X.length=na:=by rw[hX,List.length_map,hna.out]
      have hYl:Y.length=nb:=by rw[hY,List.length_map,hnb.out]
      have XL:Hid (X.length=na):=hXl
      have YL:Hid (Y.length=nb):=hYl
      have X1:Hid (X.length=Nat.min na 8):=by show _=_;rw[hXl];exact(Nat.min_eq_left (by have:=HL.out;omega)).symm
      have X2:Hid (0 < X.length→∃ ad,spa=some ad∧∀ j v,X[j]? = some v→w3.cell? (ad.add j)=some v):=by
       intro h0
       obtain⟨g,e1,e2,e3⟩:=HA.out (by omega)
       exact⟨_,e1,fun j v hv=>by rw[add_of];exact e3 j v (by rw[← hX];exact hv)⟩
      have X3:Hid (0 + X.length≤Z.length):=by show _≤_;have:=HL.out;omega
      have X4:Hid (∀ v∈X,v.oneCell'=true):=by intro v hv;rw[hX,List.mem_map] at hv;obtain⟨a,_,rfl⟩:=hv;rfl
      have Y1:Hid (Y.length=Nat.min nb (8 - k)):=by show _=_;rw[hYl,KN.out];exact(Nat.min_eq_left (Nat.le_refl _)).symm
      have Y2:Hid (0 < Y.length→∃ g,spb=some ⟨g,0,none⟩∧g≠w.heap.size + 1∧∀ j v,Y[j]? = some v→w3.cell? ⟨g,j,none⟩=some v):=by
       intro h0
       obtain⟨g,e1,e2,e3⟩:=HB'.out (by omega)
       refine⟨_,e1,?_,fun j v hv=>e3 j v (by rw[← hY];exact hv)⟩
       have:=b12.out
       omega
      have Y4:Hid (∀ v∈Y,v.oneCell'=true):=by intro v hv;rw[hY,List.mem_map] at hv;obtain⟨a,_,rfl⟩:=hv;rfl
      have XY:Hid (splice (splice Z 0 X) k Y=(sixRow A B).map (Value.int .i64)):=by
       show _=_;rw[hZ.out,hX,hY];unfold sixRow;rw[hk.out,hnb.out];rw[← splice_map,← splice_map]
      clear hXl hYl hX hY HA HB' zl
      have SL:Hid ((splice Z 0 X).length=8):=by show _=_;rw[length_splice _ _ _ X3.out];exact ZL.out
      have Y5:Hid (k + Y.length≤(splice Z 0 X).length):=by show _≤_;rw[SL.out,YL.out];have:=KN.out;omega
      have Y6:∀ w4:World,(∀ j,j≠w.heap.size + 1→w4.heap[j]? = w3.heap[j]?)→Hid (0 < Y.length→∃ ad,spb=some ad∧∀ j v,Y[j]? = some v→w4.cell? (ad.add j)=some v):=by
       intro w4 o4 h0
       obtain⟨g,e1,e2,e3⟩:=Y2.out h0
       exact⟨_,e1,fun j v hv=>by rw[add_of];exact(World.cell?_of_block (o4 g e2)).trans (e3 j v hv)⟩
      replace Y6:=Lib.hid Y6
      have HQ:∀ w5:World,Hid (w5.heap[w.heap.size + 1]? = some (.cells (splice (splice Z 0 X) k Y).toArray 22 (0,0)))→Hid (w5.heap[w.heap.size + 1]? = some (.cells (sixC (sixOf (sixRow A B))) 22 (0,0))):=by
       intro w5 h
       show _=_
       rw[h.out,XY.out]
       obtain⟨x0,x1,x2,x3,x4,x5,x6,x7,hx⟩:=list8 (sixRow A B) (splice8 A B (by have:=HL.out;rw[hna.out,hnb.out] at this;exact this))
       rw[hx];rfl
      have HR:Hid (r=sixOf (sixRow A B)):=by show _=_;rw[HN.out,HO.out];rfl
      go_wp2_with (first|(refine copy_into rfl (.tmp 56) (.tmp 57) rfl _ _ _ _ _ _ rfl rfl (w.heap.size + 1) 0 Z Q4.out X X1.out (fun h=>⟨rfl,X2.out h⟩) X3.out X4.out ?_;intro w4 Q5 b4 o4;replace Y6:=Y6.out w4 o4.out;have B4:=B3.trans (b4.mono (Nat.le_succ _));have Q2:=(o4.out w.heap.size (by omega)).trans q2;clear q2 Q4 X1 X2 b4 o4)|(refine copy_into rfl (.tmp 62) (.tmp 63) rfl _ _ _ _ _ _ rfl rfl (w.heap.size + 1) k (splice Z 0 X) Q5.out Y Y1.out (fun h=>⟨rfl,Y6.out h⟩) Y5.out Y4.out ?_;intro w5 Q6 b5 o5;have B5:=B4.trans (b5.mono (Nat.le_succ _));have Q2:=(o5.out w.heap.size (by omega)).trans Q2;replace Q6:=HQ w5 Q6;clear o5 b5)|(refine wpList_load_row rfl 22 _ rfl (w.heap.size + 1) rfl 22 _ (0,0) _ Q6.out Tryz.underlying22 rfl six_info ?_)|(refine wpList_store_row rfl 22 _ _ rfl w.heap.size _ rfl rfl 22 _ Q2 six_info rfl (by simp[Value.oneCell',sixC]) ?_))
      rw[HO.out,HR.out]
      exact bodyPost_ret (results_six rfl _ _ w.heap.size 22 (sixOf (sixRow A B)) (0,0) rfl (setRow_heap _ _ _ _ _ _ Q2) _ rfl) rfl ⟨rfl,below_setRow B5 (Nat.le_refl _) _⟩
    ·have h8':¬ ((na:Int) + (nb:Int) < 8):=by omega
     have HG:Hid (decide (na + nb < 8)=false):=decide_eq_false h8
     clear h8
     have HF:Hid (ok=false):=by show _=_;rw[HOK.out];rw[HG.out];rfl
     have HZ:Hid (r=six0):=by show _=_;rw[HN.out,HF.out];rfl
     clear HOK HN HA HB'
     go_wp2_with (refine wpList_store_row rfl 22 _ _ rfl w.heap.size _ rfl rfl 22 _ q2 six_info rfl (by simp[Value.oneCell']) ?_)
     rw[HF.out,HZ.out]
     exact bodyPost_ret (results_six rfl _ _ w.heap.size 22 six0 (0,0) rfl (setRow_heap _ _ _ _ _ _ q2) _ rfl) rfl ⟨rfl,below_setRow B3 (Nat.le_refl _) _⟩
   | false =>
    by_cases h8:na + nb=8
    ·have HO:Hid (ok=true):=by show _=_;rw[HOK.out];rw[decide_eq_true h8];rfl
     have HL:Hid (na + nb≤8):=by show _≤_;omega
     have h8':(((na:Int) + (nb:Int)) != 8)=false:=by rw[bne_eq_false_iff_eq];omega
     clear HOK h8
     by_cases h0:nb=0
     ·obtain⟨k,hk⟩:∃ k,k=8 - nb:=⟨_,rfl⟩
      have hsub:wrap64 (8 - (nb:Int))=8:=by have:=HL.out;unfold wrap64;omega
      have e8:8 - (nb:Int)=8:=by have:=HL.out;omega
      have KN:Hid (8 - k=nb):=by have:=HL.out;show _=_;omega
      have KZ:Hid (k=8):=by show _=_;omega
      replace hk:=Lib.hid hk
      obtain⟨Z,hZ⟩:∃ Z:List Value,Z=(List.replicate 8 0).map (Value.int .i64):=⟨_,rfl⟩
      have Q4:Hid (w3.heap[w.heap.size + 1]? = some (.cells Z.toArray 22 (0,0))):=by rw[hZ];exact q4
      have zl:Z.length=8:=by rw[hZ];simp
      have ZL:=Lib.hid zl
      replace hZ:=Lib.hid hZ
      clear q4
      obtain⟨X,hX⟩:∃ X:List Value,X=A.map (Value.int .i64):=⟨_,rfl⟩
      obtain⟨Y,hY⟩:∃ Y:List Value,Y=B.map (Value.int .i64):=⟨_,rfl⟩
      have hXl:X.length=na:=by rw[hX,List.length_map,hna.out]
      have hYl:Y.length=nb:=by rw[hY,List.length_map,hnb.out]
      have XL:Hid (X.length=na):=hXl
      have YL:Hid (Y.length=nb):=hYl
      have X1:Hid (X.length=Nat.min na 8):=by show _=_;rw[hXl];exact(Nat.min_eq_left (by have:=HL.out;omega)).symm
      have X2:Hid (0 < X.length→∃ ad,spa=some ad∧∀ j v,X[j]? = some v→w3.cell? (ad.add j)=some v):=by
       intro h0
       obtain⟨g,e1,e2,e3⟩:=HA.out (by omega)
       exact⟨_,e1,fun j v hv=>by rw[add_of];exact e3 j v (by rw[← hX];exact hv)⟩
      have X3:Hid (0 + X.length≤Z.length):=by show _≤_;have:=HL.out;omega
      have X4:Hid (∀ v∈X,v.oneCell'=true):=by intro v hv;rw[hX,List.mem_map] at hv;obtain⟨a,_,rfl⟩:=hv;rfl
      have Y1:Hid (Y.length=Nat.min nb (8 - k)):=by show _=_;rw[hYl,KN.out];exact(Nat.min_eq_left (Nat.le_refl _)).symm
      have Y2:Hid (0 < Y.length→∃ g,spb=some ⟨g,0,none⟩∧g≠w.heap.size + 1∧∀ j v,Y[j]? = some v→w3.cell? ⟨g,j,none⟩=some v):=by
       intro h0
       obtain⟨g,e1,e2,e3⟩:=HB'.out (by omega)
       refine⟨_,e1,?_,fun j v hv=>e3 j v (by rw[← hY];exact hv)⟩
       have:=b12.out
       omega
      have Y4:Hid (∀ v∈Y,v.oneCell'=true):=by intro v hv;rw[hY,List.mem_map] at hv;obtain⟨a,_,rfl⟩:=hv;rfl
      have XY:Hid (splice (splice Z 0 X) 8 Y=(sixRow A B).map (Value.int .i64)):=by
       show _=_;rw[hZ.out,hX,hY];unfold sixRow;rw[← hnb.out,← hk.out,KZ.out];rw[← splice_map,← splice_map]
      clear hXl hYl hX hY HA HB' zl
      have SL:Hid ((splice Z 0 X).length=8):=by show _=_;rw[length_splice _ _ _ X3.out];exact ZL.out
      have Y5:Hid (8 + Y.length≤(splice Z 0 X).length):=by show _≤_;rw[SL.out,YL.out];have:=KN.out;have:=KZ.out;omega
      have Y6:∀ w4:World,(∀ j,j≠w.heap.size + 1→w4.heap[j]? = w3.heap[j]?)→Hid (0 < Y.length→∃ ad,spb=some ad∧∀ j v,Y[j]? = some v→w4.cell? (ad.add j)=some v):=by
       intro w4 o4 h0
       obtain⟨g,e1,e2,e3⟩:=Y2.out h0
       exact⟨_,e1,fun j v hv=>by rw[add_of];exact(World.cell?_of_block (o4 g e2)).trans (e3 j v hv)⟩
      replace Y6:=Lib.hid Y6
      have HQ:∀ w5:World,Hid (w5.heap[w.heap.size + 1]? = some (.cells (splice (splice Z 0 X) 8 Y).toArray 22 (0,0)))→Hid (w5.heap[w.heap.size + 1]? = some (.cells (sixC (sixOf (sixRow A B))) 22 (0,0))):=by
       intro w5 h
       show _=_
       rw[h.out,XY.out]
       obtain⟨x0,x1,x2,x3,x4,x5,x6,x7,hx⟩:=list8 (sixRow A B) (splice8 A B (by have:=HL.out;rw[hna.out,hnb.out] at this;exact this))
       rw[hx];rfl
      have HR:Hid (r=sixOf (sixRow A B)):=by show _=_;rw[HN.out,HO.out];rfl
      go_wp2_with (first|(refine copy_into rfl (.tmp 56) (.tmp 57) rfl _ _ _ _ _ _ rfl rfl (w.heap.size + 1) 0 Z Q4.out X X1.out (fun h=>⟨rfl,X2.out h⟩) X3.out X4.out ?_;intro w4 Q5 b4 o4;replace Y6:=Y6.out w4 o4.out;have B4:=B3.trans (b4.mono (Nat.le_succ _));have Q2:=(o4.out w.heap.size (by omega)).trans q2;clear q2 Q4 X1 X2 b4 o4)|(refine copy_into rfl (.tmp 62) (.tmp 63) rfl _ _ _ _ _ _ rfl rfl (w.heap.size + 1) 8 (splice Z 0 X) Q5.out Y (by have h1:=YL.out;have h2:=KN.out;have h3:=KZ.out;have h4:Y.length=0:=(by omega);exact h4.trans rfl) (fun h=>absurd h (by have h1:=YL.out;have h2:=KN.out;have h3:=KZ.out;omega)) Y5.out Y4.out ?_;intro w5 Q6 b5 o5;have B5:=B4.trans (b5.mono (Nat.le_succ _));have Q2:=(o5.out w.heap.size (by omega)).trans Q2;replace Q6:=HQ w5 Q6;clear o5 b5)|(refine wpList_load_row rfl 22 _ rfl (w.heap.size + 1) rfl 22 _ (0,0) _ Q6.out Tryz.underlying22 rfl six_info ?_)|(refine wpList_store_row rfl 22 _ _ rfl w.heap.size _ rfl rfl 22 _ Q2 six_info rfl (by simp[Value.oneCell',sixC]) ?_))
      rw[HO.out,HR.out]
      exact bodyPost_ret (results_six rfl _ _ w.heap.size 22 (sixOf (sixRow A B)) (0,0) rfl (setRow_heap _ _ _ _ _ _ Q2) _ rfl) rfl ⟨rfl,below_setRow B5 (Nat.le_refl _) _⟩
     ·obtain⟨k,hk⟩:∃ k,k=8 - nb:=⟨_,rfl⟩
      have hsub:wrap64 (8 - (nb:Int))=(k:Int):=by have:=HL.out;unfold wrap64;omega
      have e8:8 - (nb:Int)=(k:Int):=by have:=HL.out;omega
      have KN:Hid (8 - k=nb):=by have:=HL.out;show _=_;omega
      have k8:(k:Int)≤8:=by omega
      have k9:k≤8:=by omega
      have kne:¬ (8=k):=by have:=HL.out;omega
      replace hk:=Lib.hid hk
      obtain⟨Z,hZ⟩:∃ Z:List Value,Z=(List.replicate 8 0).map (Value.int .i64):=⟨_,rfl⟩
      have Q4:Hid (w3.heap[w.heap.size + 1]? = some (.cells Z.toArray 22 (0,0))):=by rw[hZ];exact q4
      have zl:Z.length=8:=by rw[hZ];simp
      have ZL:=Lib.hid zl
      replace hZ:=Lib.hid hZ
      clear q4
      obtain⟨X,hX⟩:∃ X:List Value,X=A.map (Value.int .i64):=⟨_,rfl⟩
      obtain⟨Y,hY⟩:∃ Y:List Value,Y=B.map (Value.int .i64):=⟨_,rfl⟩
      have hXl:X.length=na:=by rw[hX,List.length_map,hna.out]
      have hYl:Y.length=nb:=by rw[hY,List.length_map,hnb.out]
      have XL:Hid (X.length=na):=hXl
      have YL:Hid (Y.length=nb):=hYl
      have X1:Hid (X.length=Nat.min na 8):=by show _=_;rw[hXl];exact(Nat.min_eq_left (by have:=HL.out;omega)).symm
      have X2:Hid (0 < X.length→∃ ad,spa=some ad∧∀ j v,X[j]? = some v→w3.cell? (ad.add j)=some v):=by
       intro h0
       obtain⟨g,e1,e2,e3⟩:=HA.out (by omega)
       exact⟨_,e1,fun j v hv=>by rw[add_of];exact e3 j v (by rw[← hX];exact hv)⟩
      have X3:Hid (0 + X.length≤Z.length):=by show _≤_;have:=HL.out;omega
      have X4:Hid (∀ v∈X,v.oneCell'=true):=by intro v hv;rw[hX,List.mem_map] at hv;obtain⟨a,_,rfl⟩:=hv;rfl
      have Y1:Hid (Y.length=Nat.min nb (8 - k)):=by show _=_;rw[hYl,KN.out];exact(Nat.min_eq_left (Nat.le_refl _)).symm
      have Y2:Hid (0 < Y.length→∃ g,spb=some ⟨g,0,none⟩∧g≠w.heap.size + 1∧∀ j v,Y[j]? = some v→w3.cell? ⟨g,j,none⟩=some v):=by
       intro h0
       obtain⟨g,e1,e2,e3⟩:=HB'.out (by omega)
       refine⟨_,e1,?_,fun j v hv=>e3 j v (by rw[← hY];exact hv)⟩
       have:=b12.out
       omega
      have Y4:Hid (∀ v∈Y,v.oneCell'=true):=by intro v hv;rw[hY,List.mem_map] at hv;obtain⟨a,_,rfl⟩:=hv;rfl
      have XY:Hid (splice (splice Z 0 X) k Y=(sixRow A B).map (Value.int .i64)):=by
       show _=_;rw[hZ.out,hX,hY];unfold sixRow;rw[hk.out,hnb.out];rw[← splice_map,← splice_map]
      clear hXl hYl hX hY HA HB' zl
      have SL:Hid ((splice Z 0 X).length=8):=by show _=_;rw[length_splice _ _ _ X3.out];exact ZL.out
      have Y5:Hid (k + Y.length≤(splice Z 0 X).length):=by show _≤_;rw[SL.out,YL.out];have:=KN.out;omega
      have Y6:∀ w4:World,(∀ j,j≠w.heap.size + 1→w4.heap[j]? = w3.heap[j]?)→Hid (0 < Y.length→∃ ad,spb=some ad∧∀ j v,Y[j]? = some v→w4.cell? (ad.add j)=some v):=by
       intro w4 o4 h0
       obtain⟨g,e1,e2,e3⟩:=Y2.out h0
       exact⟨_,e1,fun j v hv=>by rw[add_of];exact(World.cell?_of_block (o4 g e2)).trans (e3 j v hv)⟩
      replace Y6:=Lib.hid Y6
      have HQ:∀ w5:World,Hid (w5.heap[w.heap.size + 1]? = some (.cells (splice (splice Z 0 X) k Y).toArray 22 (0,0)))→Hid (w5.heap[w.heap.size + 1]? = some (.cells (sixC (sixOf (sixRow A B))) 22 (0,0))):=by
       intro w5 h
       show _=_
       rw[h.out,XY.out]
       obtain⟨x0,x1,x2,x3,x4,x5,x6,x7,hx⟩:=list8 (sixRow A B) (splice8 A B (by have:=HL.out;rw[hna.out,hnb.out] at this;exact this))
       rw[hx];rfl
      have HR:Hid (r=sixOf (sixRow A B)):=by show _=_;rw[HN.out,HO.out];rfl
      go_wp2_with (first|(refine copy_into rfl (.tmp 56) (.tmp 57) rfl _ _ _ _ _ _ rfl rfl (w.heap.size + 1) 0 Z Q4.out X X1.out (fun h=>⟨rfl,X2.out h⟩) X3.out X4.out ?_;intro w4 Q5 b4 o4;replace Y6:=Y6.out w4 o4.out;have B4:=B3.trans (b4.mono (Nat.le_succ _));have Q2:=(o4.out w.heap.size (by omega)).trans q2;clear q2 Q4 X1 X2 b4 o4)|(refine copy_into rfl (.tmp 62) (.tmp 63) rfl _ _ _ _ _ _ rfl rfl (w.heap.size + 1) k (splice Z 0 X) Q5.out Y Y1.out (fun h=>⟨rfl,Y6.out h⟩) Y5.out Y4.out ?_;intro w5 Q6 b5 o5;have B5:=B4.trans (b5.mono (Nat.le_succ _));have Q2:=(o5.out w.heap.size (by omega)).trans Q2;replace Q6:=HQ w5 Q6;clear o5 b5)|(refine wpList_load_row rfl 22 _ rfl (w.heap.size + 1) rfl 22 _ (0,0) _ Q6.out Tryz.underlying22 rfl six_info ?_)|(refine wpList_store_row rfl 22 _ _ rfl w.heap.size _ rfl rfl 22 _ Q2 six_info rfl (by simp[Value.oneCell',sixC]) ?_))
      rw[HO.out,HR.out]
      exact bodyPost_ret (results_six rfl _ _ w.heap.size 22 (sixOf (sixRow A B)) (0,0) rfl (setRow_heap _ _ _ _ _ _ Q2) _ rfl) rfl ⟨rfl,below_setRow B5 (Nat.le_refl _) _⟩
    ·have h8':(((na:Int) + (nb:Int)) != 8)=true:=by rw[bne_iff_ne];omega
     have HG:Hid (decide (na + nb=8)=false):=decide_eq_false h8
     clear h8
     have HF:Hid (ok=false):=by show _=_;rw[HOK.out];rw[HG.out];rfl
     have HZ:Hid (r=six0):=by show _=_;rw[HN.out,HF.out];rfl
     clear HOK HN HA HB'
     go_wp2_with (refine wpList_store_row rfl 22 _ _ rfl w.heap.size _ rfl rfl 22 _ q2 six_info rfl (by simp[Value.oneCell']) ?_)
     rw[HF.out,HZ.out]
     exact bodyPost_ret (results_six rfl _ _ w.heap.size 22 six0 (0,0) rfl (setRow_heap _ _ _ _ _ _ q2) _ rfl) rfl ⟨rfl,below_setRow B3 (Nat.le_refl _) _⟩
end
end Go.Proofs.YtdlkjofnnefjfaaGreatDoor
