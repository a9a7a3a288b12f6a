/- The lock, the flag, and what is done once: sync.Mutex, atomic.Bool and sync.Once where nobody else is. strings.NewReplacer of six texts; what its first use builds. A replacer's first use: what is built once; sync.Once's slow road. A replacer of single bytes by nothing: its walk. ascii.Clean. -/
import Derived.Test.YtdlkjofnnefjfaaGreatDoorZAsciiA
import Derived.Defers
import Derived.Laws.LoneSync
import Derived.RegionCalls
import Derived.Laws.Pointers
import Derived.Laws.NewBlocks
import Derived.Test.YtdlkjofnnefjfaaGreatDoorZPathA
import Derived.Laws.Rows
import Derived.Laws.Tables
import Derived.Deep.MidRow
import Derived.Great.BuildSlice
set_option linter.all false
namespace Go.Proofs.YtdlkjofnnefjfaaGreatDoor
set_option maxRecDepth 100000
section
open Go.RowKit
theorem once_disable (w:World):(callFunc 265 #[]).run Tryz.prog w=.ok (.value (.tuple #[])) w:=run_call_mark0 Tryz.func265 (by kernel_rfl) (by kernel_rfl) (by kernel_rfl) .disable (by kernel_rfl) w
theorem once_enable (w:World):(callFunc 267 #[]).run Tryz.prog w=.ok (.value (.tuple #[])) w:=run_call_mark0 Tryz.func267 (by kernel_rfl) (by kernel_rfl) (by kernel_rfl) .enable (by kernel_rfl) w
theorem once_acquire (a:Addr) (w:World):(callFunc 268 #[.pointer (some a)]).run Tryz.prog w=.ok (.value (.tuple #[])) w:=run_call_marked Tryz.func268 (by kernel_rfl) (by kernel_rfl) (by kernel_rfl) .acquire (by kernel_rfl) a w
theorem once_merge (a:Addr) (w:World):(callFunc 270 #[.pointer (some a)]).run Tryz.prog w=.ok (.value (.tuple #[])) w:=run_call_marked Tryz.func270 (by kernel_rfl) (by kernel_rfl) (by kernel_rfl) .releaseMerge (by kernel_rfl) a w
theorem store_deferred (a:Addr) (x:Value) (u:FrameMode) (w:World) (hc:w.cell? a=some x) (hz:w.frozen? a=false) :
  CallsD Tryz.prog 242 #[.pointer (some a),.bool true] u w fun e u' w'=>u'=u∧(e=.returned (.tuple #[])∧w'=w.drew.setCell a (.int .u32 1)):=by
 have hc':w.drew.cell? a=some x:=by go_simp
 have hz':w.drew.frozen? a=false:=by go_simp
 have hst:=run_call_store (P:=Tryz.prog) Tryz.func255 (by kernel_rfl) (by kernel_rfl) (by kernel_rfl) (by kernel_rfl) (k:=.u32) (y:=1) hc' hz'
 go_enter_d Tryz.func242,Tryz.ntmps242
 go_wp2
 go_region_calls
 all_goals (go_end0;exact⟨rfl,rfl⟩)
theorem unlock_deferred (a:Addr) (u:FrameMode) (w:World) (hc:w.cell? a=some (.int .i32 1)) (hz:w.frozen? a=false) :
  CallsD Tryz.prog 241 #[.pointer (some a)] u w fun e u' w'=>u'=u∧(e=.returned (.tuple #[])∧w'=w.setCell a (.int .i32 0)):=by
 have hd:=once_disable
 have he:=once_enable
 have hr:=once_merge
 have hadd:=run_call_add (P:=Tryz.prog) Tryz.func271 (by kernel_rfl) (by kernel_rfl) (by kernel_rfl) .i32 (by kernel_rfl) (y:=-1) (s:=0) hc hz (by simp[go_sem];rfl)
 have hcv:=run_convert_to_unsafe (P:=Tryz.prog) (src:=330) (dst:=179) Tryz.underlying330 Tryz.underlying179 (by kernel_rfl) hc
 go_enter_d Tryz.func241,Tryz.ntmps241
 go_wp2
 go_end0
 go_wp2
 go_end0
 exact⟨rfl,rfl⟩
theorem lock_free (a:Addr) (w:World) (hc:w.cell? a=some (.int .i32 0)) (hz:w.frozen? a=false) :
  Calls Tryz.prog 240 #[.pointer (some a)] w fun e w'=>e=.returned (.tuple #[])∧w'=w.setCell a (.int .i32 1):=by
 have hd:=once_disable
 have he:=once_enable
 have ha:=once_acquire
 have hcas:=run_call_cas_hit (P:=Tryz.prog) Tryz.func266 (by kernel_rfl) (by kernel_rfl) (by kernel_rfl) .i32 (by kernel_rfl) (y:=1) hc hz
 have hc':(w.setCell a (.int .i32 1)).cell? a=some (.int .i32 1):=World.cell?_setCell_same w a _ hc
 have hcv:=run_convert_to_unsafe (P:=Tryz.prog) (src:=330) (dst:=179) Tryz.underlying330 Tryz.underlying179 (by kernel_rfl) hc'
 go_enter Tryz.func240,Tryz.ntmps240
 go_wp2
 first|go_end0|(simp only[Exit.inBlock,Exit.then];refine bodyPost_ret (results_none rfl _ _ _) rfl ?_)|refine bodyPost_ret (results_none rfl _ _ _) rfl ?_
 go_wp2
 go_end0
 exact⟨rfl,rfl⟩
theorem load_flag (a:Addr) (w:World) (hc:w.cell? a=some (.int .u32 0)) :
  Calls Tryz.prog 216 #[.pointer (some a)] w fun e w'=>e=.returned (.bool false)∧w=w':=by
 have hl:=run_call_load (P:=Tryz.prog) Tryz.func239 (by kernel_rfl) (by kernel_rfl) (by kernel_rfl) .u32 (by kernel_rfl) hc
 go_enter Tryz.func216,Tryz.ntmps216
 go_wp2
 go_ret
 exact⟨rfl,rfl⟩
end
section
open Go.RowKit
def sixT:List ByteArray:=[⟨#[9]⟩,⟨#[]⟩,⟨#[10]⟩,⟨#[]⟩,⟨#[13]⟩,⟨#[]⟩]
def bsr0 (tv:Value):Array Value:=((List.replicate 256 (Value.slice none 0 0)).toArray).push tv
theorem bsr_zero:Tryz.zeroCells305=bsr0 (.slice none 0 0):=by kernel_rfl
theorem bsr_info:(Tryz.prog.info? 305).map (·.size)=some 257:=by kernel_rfl
theorem bsr_set (v:Value):Tryz.zeroCells305.setIfInBounds 256 v=bsr0 v:=by kernel_rfl
theorem bsr_size (v:Value):(bsr0 v).size=257:=by simp[bsr0]
theorem bsr_one (v:Value) (h:v.oneCell'=true):(bsr0 v).all (·.oneCell')=true:=by
 rw[Array.all_eq_true_iff_forall_mem]
 intro x hx
 simp[bsr0] at hx
 rcases hx with rfl|rfl
 ·rfl
 ·exact h
theorem nil_eql (w:World):(binOp .eql 118 (.slice none 0 0) (.slice none 0 0)).run Tryz.prog w=.ok (.bool true) w:=by
 simp[binOp,run_equal_slice_nil w 118 5 none 0 0 Tryz.underlying118]
theorem own_ne {w:World} {B n h:Nat} {v:Value} {xs:List Value} {cs:Array Value} (ho:w.ownsRow B 9 1 v n xs) (hh:w.heap[h]? = some (.cells cs 305 (0,0))):some h≠v.ownBlock:=by
 rcases ho.2 with ⟨rfl,_⟩|⟨g,cap,cur,rfl,hg,hg2,_⟩
 ·simp[Value.ownBlock]
 ·simp[Value.ownBlock]
  rintro rfl
  rw[hh] at hg2;cases hg2
theorem new_two {w:World} {a:Obj} {v:Value} {t:TypeId} (j:Nat) (u:Value) (hj:[v][j]? = some u):((w.alloc a).alloc (.cells #[v] t)).cell? ((⟨w.heap.size + 1,0,none⟩:Addr).add j)=some u:=by
 have hjl:j < 1:=(List.getElem?_eq_some_iff.1 hj).1
 obtain rfl:j=0:=by omega
 have h:=row2b w a (.cells #[v] t)
 rw[show (⟨w.heap.size + 1,0,none⟩:Addr).add 0=⟨w.heap.size + 1,0,none⟩ from rfl,cell_in h 0 v rfl]
 exact hj
theorem bsr_cell {w:World} {h j:Nat} {v:Value} {cs:Array Value} (hh:w.heap[h]? = some (.cells cs 305 (0,0))) (hj:cs[j]? = some v):w.cell? ⟨h,j,none⟩=some v:=by
 rw[Lib.cell_of_heap hh];exact hj
def repB:List Nat:=[13,10,9]
def repT:List ByteArray:=[⟨#[13]⟩,⟨#[10]⟩,⟨#[9]⟩]
def Bsr (k:Nat) (w:World) (B h:Nat):Prop:=∃ cs tv,w.heap[h]? = some (.cells cs 305 (0,0))∧cs.size=257∧cs[256]? = some tv∧w.ownsRow B 9 1 tv k ((repT.take k).map Value.string) ∧
 ∀ j,j < 256→∃ v,cs[j]? = some v∧((j∈repB.take k∧∃ p c,v=.slice (some p) 0 c)∨(j ∉ repB.take k∧v=.slice none 0 0))
theorem own_set {w:World} {B n h j:Nat} {v u:Value} {xs:List Value} {cs:Array Value} (ho:w.ownsRow B 9 1 v n xs) (hh:w.heap[h]? = some (.cells cs 305 (0,0))):(w.setCell ⟨h,j,none⟩ u).ownsRow B 9 1 v n xs:=by
 obtain⟨h1,h2⟩:=ho
 refine⟨h1,?_⟩
 rcases h2 with h2|⟨g,cap,cur,hv,hg,hg2,r⟩
 ·exact .inl h2
 ·refine .inr ⟨g,cap,cur,hv,hg,(Below.heap_setCell _ _ _ _ ?_).trans hg2,r⟩
  rintro rfl
  rw[hh] at hg2;cases hg2
theorem own_alloc {w:World} {B n:Nat} {v:Value} {xs:List Value} (o:Obj) (ho:w.ownsRow B 9 1 v n xs):(w.alloc o).drew.ownsRow B 9 1 v n xs:=by
 obtain⟨h1,h2⟩:=ho
 refine⟨h1,?_⟩
 rcases h2 with h2|⟨g,cap,cur,hv,hg,hg2,r⟩
 ·exact .inl h2
 ·exact .inr ⟨g,cap,cur,hv,hg,(Below.heap_alloc _ _ _ (heap_lt hg2)).trans hg2,r⟩
theorem bsr_nil (tv:Value) (j:Nat) (hj:j < 256):(bsr0 tv)[j]? = some (.slice none 0 0):=by
 unfold bsr0
 rw[Array.getElem?_push_lt (by rw[List.size_toArray,List.length_replicate];exact hj)]
 exact congrArg some (by rw[List.getElem_toArray];exact List.getElem_replicate _)
theorem own_alloc0 {w:World} {B n:Nat} {v:Value} {xs:List Value} (o:Obj) (ho:w.ownsRow B 9 1 v n xs):(w.alloc o).ownsRow B 9 1 v n xs:=own_alloc o ho
theorem own_row {w:World} {B n h:Nat} {v:Value} {xs:List Value} {cs cs':Array Value} (ho:w.ownsRow B 9 1 v n xs) (hh:w.heap[h]? = some (.cells cs 305 (0,0))):(w.setRow h cs').ownsRow B 9 1 v n xs:=by
 obtain⟨h1,h2⟩:=ho
 refine⟨h1,?_⟩
 rcases h2 with h2|⟨g,cap,cur,hv,hg,hg2,r⟩
 ·exact .inl h2
 ·refine .inr ⟨g,cap,cur,hv,hg,?_,r⟩
  have:h≠g:=by rintro rfl;rw[hh] at hg2;cases hg2
  unfold World.setRow
  simp[Array.getElem?_modify,this,hg2]
theorem below_row {B h:Nat} {w w1:World} {cs:Array Value} (hb:Below B w w1) (hh:B≤h):Below B w (w1.setRow h cs) :=
 hb.trans ⟨rfl,rfl,rfl,by simp[World.setRow],fun k hk=>by unfold World.setRow;simp[Array.getElem?_modify];omega⟩
theorem bsr_step {k B h b:Nat} {w':World} {cs:Array Value} {tv' nv:Value} (hb:repB[k]? = some b) (hz:cs.size=257)
  (hc:∀ j,j < 256→∃ v,cs[j]? = some v∧((j∈repB.take k∧∃ p c,v=.slice (some p) 0 c)∨(j ∉ repB.take k∧v=.slice none 0 0)))
  (hh:w'.heap[h]? = some (.cells ((cs.setIfInBounds 256 tv').setIfInBounds b nv) 305 (0,0))) (hn:∃ p c,nv=.slice (some p) 0 c) (ho:w'.ownsRow B 9 1 tv' (k + 1) ((repT.take (k + 1)).map .string)):Bsr (k + 1) w' B h:=by
 have hk:k < 3:=(List.getElem?_eq_some_iff.1 hb).1
 have hbl:b < 256:=by rcases k with _|_|_|k <;> simp[repB] at hb <;> omega
 refine⟨_,tv',hh,by simp[hz],?_,ho,fun j hj=>?_⟩
 ·rw[Array.getElem?_setIfInBounds_ne (by omega)]
  simp[Array.getElem?_setIfInBounds,hz]
 ·have hm:(j∈repB.take (k + 1))↔(j∈repB.take k∨j=b):=by
   rcases k with _|_|_|k <;> simp[repB] at hb ⊢ <;> omega
  by_cases hjb:j=b
  ·subst hjb
   exact⟨nv,by simp[Array.getElem?_setIfInBounds,hz];omega,.inl ⟨hm.2 (.inr rfl),hn⟩⟩
  ·obtain⟨v,hv,hcv⟩:=hc j hj
   refine⟨v,?_,?_⟩
   ·rw[Array.getElem?_setIfInBounds_ne (by omega),Array.getElem?_setIfInBounds_ne (by omega)];exact hv
   ·rw[hm];simp[hjb];exact hcv
set_option maxHeartbeats 1000000 in
theorem build_any (g b off cap:Nat) (x0 x1 x2 x3:Value) (w:World) (hb:b < w.heap.size) (hR:w.heap[g]? = some (.cells #[x0,x1,x2,x3,.slice (some ⟨b,off,none⟩) 6 cap] 228 (0,0)))
  (d0:w.cell? ⟨b,off,none⟩=some (.string ⟨#[9]⟩)) (d1:w.cell? ⟨b,off + 1,none⟩=some (.string ⟨#[]⟩)) (d2:w.cell? ⟨b,off + 2,none⟩=some (.string ⟨#[10]⟩)) (d3:w.cell? ⟨b,off + 3,none⟩=some (.string ⟨#[]⟩)) (d4:w.cell? ⟨b,off + 4,none⟩=some (.string ⟨#[13]⟩)) (d5:w.cell? ⟨b,off + 5,none⟩=some (.string ⟨#[]⟩)) :
  Calls Tryz.prog 218 #[.pointer (some ⟨g,0,none⟩)] w fun e w'=>∃ h,e=.returned (.iface 306 (.pointer (some ⟨h,0,none⟩)))∧Bsr 3 w' w.heap.size h∧w.heap.size≤h∧Below w.heap.size w w':=by
 have c4:w.cell? ⟨g,4,none⟩=some (.slice (some ⟨b,off,none⟩) 6 cap):=by unfold World.cell?;rw[hR];rfl
 obtain⟨i0,hi,hz0,hz1,hz2⟩:=info_parts (show (Tryz.prog.info? 9).map (fun i=>(i.zero,i.size,i.bytes))=some (some (.string ⟨#[]⟩),1,16) by kernel_rfl)
 go_enter Tryz.func218,Tryz.ntmps218
 go_wp2
 go_loop [4,5] (fun a i=>∃ k:Nat,k≤3∧i=.int .i64 (2 * k:Nat)∧a=.bool (decide (k=0))) (fun _ i=>6 - (intOf i).toNat)
 case atStart=>exact⟨0,by omega,rfl,rfl⟩
 case round =>
  obtain⟨k,hk,rfl,rfl⟩:=hrel
  rcases k with _|_|_|k
  ·go_wp2
   exact⟨⟨1,by omega,rfl,rfl⟩,by decide⟩
  ·go_wp2
   exact⟨⟨2,by omega,rfl,rfl⟩,by decide⟩
  ·go_wp2
   exact⟨⟨3,by omega,rfl,rfl⟩,by decide⟩
  ·obtain rfl:k=0:=by omega
   go_wp2_with (at_make;refine wpList_make_own _ rfl _ _ 25 rfl w.heap.size 9 i0 (.string ⟨#[]⟩) 1 Tryz.underlying25 hi hz0 hz1 .i64 .i64 3 3 rfl rfl rfl ?b2 ?b3 (Nat.le_refl _) ?_)
   case b3=>unfold maxLen;decide
   intro w1 hown hgrow
   go_wp2_with (first|(with_reducible (show wpList _ _ _ (Oper.mk none (.store 305 _ _) _ _ _ none::_) _ _);refine wpList_store_row rfl 305 _ _ rfl w1.heap.size _ rfl rfl 305 _ (heap_alloc_new _ _) (by rw[bsr_info];simp[bsr_zero,bsr_size]) (by simp) (by rw[bsr_set];exact bsr_one _ rfl) ?_))
   rw[bsr_set]
   obtain⟨W0,hW0⟩:∃ W0,(w1.alloc (.cells Tryz.zeroCells305 305)).setRow w1.heap.size (bsr0 (.slice (some ⟨w.heap.size,0,none⟩) 0 3))=W0:=⟨_,rfl⟩
   have B0:Below w.heap.size w w1:=(Below.refl _ _).grown hgrow (Nat.le_refl _) (fun j hj=>by cases hj)
   have E0:Bsr 0 W0 w.heap.size w1.heap.size∧Below w.heap.size w W0:=by
    rw[← hW0]
    have hx:=heap_alloc_new w1 (.cells Tryz.zeroCells305 305)
    refine⟨⟨_,.slice (some ⟨w.heap.size,0,none⟩) 0 3,setRow_heap _ _ _ _ _ _ hx,bsr_size _,by simp[bsr0],?_,?_⟩,?_⟩
    ·exact own_row (own_alloc0 _ hown) hx
    ·intro j hj
     exact⟨_,bsr_nil _ _ hj,.inr ⟨by simp[repB],rfl⟩⟩
    ·exact below_row ((B0.alloc B0.size _)) B0.size
   rw[hW0]
   clear hW0 hgrow hown
   go_loopw [12,13,14] (fun i _ _ wr=>∃ k:Nat,k≤3∧i=.int .i64 (4 - 2 * k:Int)∧Bsr k wr w.heap.size w1.heap.size∧Below w.heap.size w wr) (fun i _ _ _=>(intOf i + 2).toNat)
   case atStart=>exact⟨0,by omega,rfl,E0.1,E0.2⟩
   case round =>
    obtain⟨k,hk,rfl,⟨cs,tv,hh,hcz,hct,hown,hcs⟩,hB⟩:=hrel
    rcases k with _|_|_|k
    ·have e1:=(hB.cell (p:=⟨b,off + 4,none⟩) hb).trans d4
     have e2:=(hB.cell (p:=⟨b,off + 5,none⟩) hb).trans d5
     have e3:wr.cell? ⟨w1.heap.size,13,none⟩=some (.slice none 0 0):=by
      obtain⟨v,hv,⟨hm,_⟩|⟨_,rfl⟩⟩:=hcs 13 (by omega)
      ·simp[repB] at hm
      ·rw[Lib.cell_of_heap hh];exact hv
     have e4:wr.cell? ⟨w1.heap.size,256,none⟩=some tv:=by rw[Lib.cell_of_heap hh];exact hct
     have q:((⟨#[13]⟩:ByteArray)[0]'(by decide)).toNat=13:=rfl
     have hnil:=nil_eql
     have hcv:(convert 118 9 (.slice (some ⟨wr.heap.size,0,none⟩) 1 1)).run Tryz.prog (wr.alloc (.cells #[.int .u8 13] 5))=.ok (.string ⟨#[13]⟩) (wr.alloc (.cells #[.int .u8 13] 5)) :=
      Deci.run_convert_owned (P:=Tryz.prog) 118 9 Tryz.underlying118 Tryz.underlying5 Tryz.underlying9 (l:=[13]) ⟨rfl,.inr ⟨wr.heap.size,1,_,rfl,Nat.le_refl _,heap_alloc_new _ _,by decide,by decide,rfl,rfl⟩⟩
     have hsz:=hB.size
     have hs1:=B0.size
     go_wp2_with (at_builtin;refine wpList_append_own _ rfl _ _ 25 rfl w.heap.size 9 i0 (.string ⟨#[]⟩) 1 16 Tryz.underlying25 hi hz0 hz1 hz2 rfl (by decide) _ _ _ rfl ((hown.alloc _).alloc _) ⟨wr.heap.size + 1,0,none⟩ 1 1 [.string ⟨#[13]⟩] rfl rfl ?c1 ?c2 ?c3 ?c4 ?c5 ?_)
     case c1=>exact new_two
     case c2=>intro u hu;simp at hu;subst hu;rfl
     case c3=>unfold maxLen;omega
     case c4=>omega
     case c5=>simp;omega
     intro v' w3 hown' hgrow' _
     obtain⟨g',cap',rfl⟩:=ownsRow_succ hown'
     have hlt:=heap_lt hh
     have hh3:w3.heap[w1.heap.size]? = some (.cells cs 305 (0,0)):=(hgrow'.block _ (by simp;omega) (own_ne hown hh)).trans ((Below.heap_alloc _ _ _ (by simp;omega)).trans ((Below.heap_alloc _ _ _ hlt).trans hh))
     have B3:Below w.heap.size w w3:=((hB.alloc hsz _).alloc (by simp;omega) _).grown hgrow' (by simp;omega) (fun j hj=>(hown.lt j (by rw[hj])).1)
     have HC:=Lib.hid hcs
     have c1:=bsr_cell hh3 hct
     have c2:=Lib.frozen_of_heap hh3 256
     clear hcs hgrow' e1 e3 e4 hcv hnil
     go_upto_region 34 with fail
     obtain⟨W4,hW4⟩:∃ W4,w3.setCell ⟨w1.heap.size,256,none⟩ (.slice (some ⟨g',0,none⟩) 1 cap')=W4:=⟨_,rfl⟩
     have hh4:W4.heap[w1.heap.size]? = some (.cells (cs.setIfInBounds 256 (.slice (some ⟨g',0,none⟩) 1 cap')) 305 (0,0)):=by rw[← hW4];exact heap_setCell_same _ _ _ _ _ _ hh3
     have hown4:W4.ownsRow w.heap.size 9 1 (.slice (some ⟨g',0,none⟩) 1 cap') 1 ((repT.take 1).map Value.string):=by rw[← hW4];exact own_set hown' hh3
     have B4:Below w.heap.size w W4:=by rw[← hW4];exact B3.setCell (by simp;omega) _
     rw[hW4]
     clear hW4
     have hlt4:=heap_lt hh4
     have hcb:=fun W=>run_bytes_of_string (P:=Tryz.prog) W 9 118 5 ⟨#[]⟩ Tryz.underlying9 Tryz.underlying118 Tryz.underlying5
     have hx:∀ o,(W4.alloc o).heap[w1.heap.size]? = some (.cells (cs.setIfInBounds 256 (.slice (some ⟨g',0,none⟩) 1 cap')) 305 (0,0)):=fun o=>(Below.heap_alloc _ _ _ hlt4).trans hh4
     have c3:∀ o,(W4.alloc o).cell? ⟨w1.heap.size,13,none⟩=some (.slice none 0 0):=fun o=>bsr_cell (hx o) (by
      obtain⟨v,hv,⟨hm,_⟩|⟨_,rfl⟩⟩:=HC.out 13 (by omega)
      ·simp[repB] at hm
      ·rw[Array.getElem?_setIfInBounds_ne (by omega)];exact hv)
     have c4:∀ o,(W4.alloc o).frozen? ⟨w1.heap.size,13,none⟩=false:=fun o=>Lib.frozen_of_heap (hx o) 13
     have HX:=Lib.hid hx
     clear hx c1 c2
     have hs4:=B4.size
     go_wp2
     refine⟨⟨1,by omega,rfl,bsr_step (b:=13) rfl hcz HC.out ((Below.heap_alloc _ _ _ (by simp;exact hlt4)).trans (heap_setCell_same _ _ _ _ _ _ hh4)) ⟨_,_,rfl⟩ (own_alloc _ (own_set hown4 hh4)),?_⟩,by decide⟩
     exact((B4.setCell hs1 _).alloc (by simp;omega) _).drew
    ·have e1:=(hB.cell (p:=⟨b,off + 2,none⟩) hb).trans d2
     have e2:=(hB.cell (p:=⟨b,off + 3,none⟩) hb).trans d3
     have e3:wr.cell? ⟨w1.heap.size,10,none⟩=some (.slice none 0 0):=by
      obtain⟨v,hv,⟨hm,_⟩|⟨_,rfl⟩⟩:=hcs 10 (by omega)
      ·simp[repB] at hm
      ·rw[Lib.cell_of_heap hh];exact hv
     have e4:wr.cell? ⟨w1.heap.size,256,none⟩=some tv:=by rw[Lib.cell_of_heap hh];exact hct
     have q:((⟨#[10]⟩:ByteArray)[0]'(by decide)).toNat=10:=rfl
     have hnil:=nil_eql
     have hcv:(convert 118 9 (.slice (some ⟨wr.heap.size,0,none⟩) 1 1)).run Tryz.prog (wr.alloc (.cells #[.int .u8 10] 5))=.ok (.string ⟨#[10]⟩) (wr.alloc (.cells #[.int .u8 10] 5)) :=
      Deci.run_convert_owned (P:=Tryz.prog) 118 9 Tryz.underlying118 Tryz.underlying5 Tryz.underlying9 (l:=[10]) ⟨rfl,.inr ⟨wr.heap.size,1,_,rfl,Nat.le_refl _,heap_alloc_new _ _,by decide,by decide,rfl,rfl⟩⟩
     have hsz:=hB.size
     have hs1:=B0.size
     go_wp2_with (at_builtin;refine wpList_append_own _ rfl _ _ 25 rfl w.heap.size 9 i0 (.string ⟨#[]⟩) 1 16 Tryz.underlying25 hi hz0 hz1 hz2 rfl (by decide) _ _ _ rfl ((hown.alloc _).alloc _) ⟨wr.heap.size + 1,0,none⟩ 1 1 [.string ⟨#[10]⟩] rfl rfl ?c1 ?c2 ?c3 ?c4 ?c5 ?_)
     case c1=>exact new_two
     case c2=>intro u hu;simp at hu;subst hu;rfl
     case c3=>unfold maxLen;omega
     case c4=>omega
     case c5=>simp;omega
     intro v' w3 hown' hgrow' _
     obtain⟨g',cap',rfl⟩:=ownsRow_succ hown'
     have hlt:=heap_lt hh
     have hh3:w3.heap[w1.heap.size]? = some (.cells cs 305 (0,0)):=(hgrow'.block _ (by simp;omega) (own_ne hown hh)).trans ((Below.heap_alloc _ _ _ (by simp;omega)).trans ((Below.heap_alloc _ _ _ hlt).trans hh))
     have B3:Below w.heap.size w w3:=((hB.alloc hsz _).alloc (by simp;omega) _).grown hgrow' (by simp;omega) (fun j hj=>(hown.lt j (by rw[hj])).1)
     have HC:=Lib.hid hcs
     have c1:=bsr_cell hh3 hct
     have c2:=Lib.frozen_of_heap hh3 256
     clear hcs hgrow' e1 e3 e4 hcv hnil
     go_upto_region 34 with fail
     obtain⟨W4,hW4⟩:∃ W4,w3.setCell ⟨w1.heap.size,256,none⟩ (.slice (some ⟨g',0,none⟩) 2 cap')=W4:=⟨_,rfl⟩
     have hh4:W4.heap[w1.heap.size]? = some (.cells (cs.setIfInBounds 256 (.slice (some ⟨g',0,none⟩) 2 cap')) 305 (0,0)):=by rw[← hW4];exact heap_setCell_same _ _ _ _ _ _ hh3
     have hown4:W4.ownsRow w.heap.size 9 1 (.slice (some ⟨g',0,none⟩) 2 cap') 2 ((repT.take 2).map Value.string):=by rw[← hW4];exact own_set hown' hh3
     have B4:Below w.heap.size w W4:=by rw[← hW4];exact B3.setCell (by simp;omega) _
     rw[hW4]
     clear hW4
     have hlt4:=heap_lt hh4
     have hcb:=fun W=>run_bytes_of_string (P:=Tryz.prog) W 9 118 5 ⟨#[]⟩ Tryz.underlying9 Tryz.underlying118 Tryz.underlying5
     have hx:∀ o,(W4.alloc o).heap[w1.heap.size]? = some (.cells (cs.setIfInBounds 256 (.slice (some ⟨g',0,none⟩) 2 cap')) 305 (0,0)):=fun o=>(Below.heap_alloc _ _ _ hlt4).trans hh4
     have c3:∀ o,(W4.alloc o).cell? ⟨w1.heap.size,10,none⟩=some (.slice none 0 0):=fun o=>bsr_cell (hx o) (by
      obtain⟨v,hv,⟨hm,_⟩|⟨_,rfl⟩⟩:=HC.out 10 (by omega)
      ·simp[repB] at hm
      ·rw[Array.getElem?_setIfInBounds_ne (by omega)];exact hv)
     have c4:∀ o,(W4.alloc o).frozen? ⟨w1.heap.size,10,none⟩=false:=fun o=>Lib.frozen_of_heap (hx o) 10
     have HX:=Lib.hid hx
     clear hx c1 c2
     have hs4:=B4.size
     go_wp2
     refine⟨⟨2,by omega,rfl,bsr_step (b:=10) rfl hcz HC.out ((Below.heap_alloc _ _ _ (by simp;exact hlt4)).trans (heap_setCell_same _ _ _ _ _ _ hh4)) ⟨_,_,rfl⟩ (own_alloc _ (own_set hown4 hh4)),?_⟩,by decide⟩
     exact((B4.setCell hs1 _).alloc (by simp;omega) _).drew
    ·have e1:=(hB.cell (p:=⟨b,off,none⟩) hb).trans d0
     have e2:=(hB.cell (p:=⟨b,off + 1,none⟩) hb).trans d1
     have e3:wr.cell? ⟨w1.heap.size,9,none⟩=some (.slice none 0 0):=by
      obtain⟨v,hv,⟨hm,_⟩|⟨_,rfl⟩⟩:=hcs 9 (by omega)
      ·simp[repB] at hm
      ·rw[Lib.cell_of_heap hh];exact hv
     have e4:wr.cell? ⟨w1.heap.size,256,none⟩=some tv:=by rw[Lib.cell_of_heap hh];exact hct
     have q:((⟨#[9]⟩:ByteArray)[0]'(by decide)).toNat=9:=rfl
     have hnil:=nil_eql
     have hcv:(convert 118 9 (.slice (some ⟨wr.heap.size,0,none⟩) 1 1)).run Tryz.prog (wr.alloc (.cells #[.int .u8 9] 5))=.ok (.string ⟨#[9]⟩) (wr.alloc (.cells #[.int .u8 9] 5)) :=
      Deci.run_convert_owned (P:=Tryz.prog) 118 9 Tryz.underlying118 Tryz.underlying5 Tryz.underlying9 (l:=[9]) ⟨rfl,.inr ⟨wr.heap.size,1,_,rfl,Nat.le_refl _,heap_alloc_new _ _,by decide,by decide,rfl,rfl⟩⟩
     have hsz:=hB.size
     have hs1:=B0.size
     go_wp2_with (at_builtin;refine wpList_append_own _ rfl _ _ 25 rfl w.heap.size 9 i0 (.string ⟨#[]⟩) 1 16 Tryz.underlying25 hi hz0 hz1 hz2 rfl (by decide) _ _ _ rfl ((hown.alloc _).alloc _) ⟨wr.heap.size + 1,0,none⟩ 1 1 [.string ⟨#[9]⟩] rfl rfl ?c1 ?c2 ?c3 ?c4 ?c5 ?_)
     case c1=>exact new_two
     case c2=>intro u hu;simp at hu;subst hu;rfl
     case c3=>unfold maxLen;omega
     case c4=>omega
     case c5=>simp;omega
     intro v' w3 hown' hgrow' _
     obtain⟨g',cap',rfl⟩:=ownsRow_succ hown'
     have hlt:=heap_lt hh
     have hh3:w3.heap[w1.heap.size]? = some (.cells cs 305 (0,0)):=(hgrow'.block _ (by simp;omega) (own_ne hown hh)).trans ((Below.heap_alloc _ _ _ (by simp;omega)).trans ((Below.heap_alloc _ _ _ hlt).trans hh))
     have B3:Below w.heap.size w w3:=((hB.alloc hsz _).alloc (by simp;omega) _).grown hgrow' (by simp;omega) (fun j hj=>(hown.lt j (by rw[hj])).1)
     have HC:=Lib.hid hcs
     have c1:=bsr_cell hh3 hct
     have c2:=Lib.frozen_of_heap hh3 256
     clear hcs hgrow' e1 e3 e4 hcv hnil
     go_upto_region 34 with fail
     obtain⟨W4,hW4⟩:∃ W4,w3.setCell ⟨w1.heap.size,256,none⟩ (.slice (some ⟨g',0,none⟩) 3 cap')=W4:=⟨_,rfl⟩
     have hh4:W4.heap[w1.heap.size]? = some (.cells (cs.setIfInBounds 256 (.slice (some ⟨g',0,none⟩) 3 cap')) 305 (0,0)):=by rw[← hW4];exact heap_setCell_same _ _ _ _ _ _ hh3
     have hown4:W4.ownsRow w.heap.size 9 1 (.slice (some ⟨g',0,none⟩) 3 cap') 3 ((repT.take 3).map Value.string):=by rw[← hW4];exact own_set hown' hh3
     have B4:Below w.heap.size w W4:=by rw[← hW4];exact B3.setCell (by simp;omega) _
     rw[hW4]
     clear hW4
     have hlt4:=heap_lt hh4
     have hcb:=fun W=>run_bytes_of_string (P:=Tryz.prog) W 9 118 5 ⟨#[]⟩ Tryz.underlying9 Tryz.underlying118 Tryz.underlying5
     have hx:∀ o,(W4.alloc o).heap[w1.heap.size]? = some (.cells (cs.setIfInBounds 256 (.slice (some ⟨g',0,none⟩) 3 cap')) 305 (0,0)):=fun o=>(Below.heap_alloc _ _ _ hlt4).trans hh4
     have c3:∀ o,(W4.alloc o).cell? ⟨w1.heap.size,9,none⟩=some (.slice none 0 0):=fun o=>bsr_cell (hx o) (by
      obtain⟨v,hv,⟨hm,_⟩|⟨_,rfl⟩⟩:=HC.out 9 (by omega)
      ·simp[repB] at hm
      ·rw[Array.getElem?_setIfInBounds_ne (by omega)];exact hv)
     have c4:∀ o,(W4.alloc o).frozen? ⟨w1.heap.size,9,none⟩=false:=fun o=>Lib.frozen_of_heap (hx o) 9
     have HX:=Lib.hid hx
     clear hx c1 c2
     have hs4:=B4.size
     go_wp2
     refine⟨⟨3,by omega,rfl,bsr_step (b:=9) rfl hcz HC.out ((Below.heap_alloc _ _ _ (by simp;exact hlt4)).trans (heap_setCell_same _ _ _ _ _ _ hh4)) ⟨_,_,rfl⟩ (own_alloc _ (own_set hown4 hh4)),?_⟩,by decide⟩
     exact((B4.setCell hs1 _).alloc (by simp;omega) _).drew
    ·obtain rfl:k=0:=by omega
     go_wp2
     go_ret
     exact⟨_,rfl,⟨cs,tv,hh,hcz,hct,hown,hcs⟩,B0.size,hB⟩
def Fresh (w:World) (g:Nat):Prop:=∃ sl,w.heap[g]? = some (.cells #[.int .u32 0,.int .i32 0,.int .u32 0,.nilIface,sl] 228 (0,0))∧Strs w sl sixT∧∀ b off n c,sl=.slice (some ⟨b,off,none⟩) n c→b≠g
theorem newReplacer_any (b:Nat) (w:World) (hb:b < w.heap.size) (hc:∀ j,j < 6→w.cell? ⟨b,j,none⟩=some (.string (sixT.getD j ByteArray.empty))) :
  Calls Tryz.prog 104 #[.slice (some ⟨b,0,none⟩) 6 6] w fun e w'=>∃ g,e=.returned (.pointer (some ⟨g,0,none⟩))∧Fresh w' g∧w.heap.size≤g∧Below w.heap.size w w':=by
 obtain⟨i0,hi,hz0,hz1,hz2⟩:=info9'
 have e1:((IntKind.i64.wrap (Int.tmod 6 2)) == 1)=false:=by decide
 go_enter Tryz.func104,Tryz.ntmps104
 go_wp2_with (at_builtin;refine wpList_append_own _ rfl _ _ 25 rfl w.heap.size 9 i0 (.string ⟨#[]⟩) 1 16 Tryz.underlying25 hi hz0 hz1 hz2 rfl (by decide) _ _ _ rfl (World.ownsRow_nil _ _ _ _) ⟨b,0,none⟩ 6 6 (sixT.map .string) rfl rfl ?c1 ?c2 ?c3 ?c4 ?c5 ?_)
 case c1 =>
  intro j u hj
  have hjl:j < 6:=(List.getElem?_eq_some_iff.1 hj).1
  have:=hc j hjl
  rw[List.getElem?_map] at hj
  rw[Addr.add_mid,Nat.zero_add,this]
  rw[List.getD_eq_getElem?_getD]
  cases h:sixT[j]? with
  | none=>rw[h] at hj;cases hj
  | some x=>rw[h] at hj;simpa using hj
 case c2=>intro u hu;simp[sixT] at hu;rcases hu with rfl|rfl|rfl|rfl|rfl|rfl <;> rfl
 case c3=>unfold maxLen;omega
 case c4=>omega
 case c5=>omega
 intro v' w1 hown hgrow _
 have B1:Below w.heap.size w w1:=(Below.refl _ _).grown hgrow (by simp) (fun j hj=>by simp[Value.ownBlock] at hj)
 have S1:Strs w1 v' sixT:=Strs.of_own (l:=sixT) hown
 obtain⟨g',cap',rfl⟩:=ownsRow_succ hown
 have hg':=(hown.lt g' rfl).2
 clear hown hgrow
 go_wp2
 go_ret
 exact⟨_,rfl,⟨_,heap_alloc_new _ _,S1.below ((Below.refl _ _).alloc (Nat.le_refl _) _),fun b off n c h=>by cases h;omega⟩,B1.size,B1.alloc B1.size _⟩
end
section
open Go.RowKit
theorem Bsr.set {k B h g j:Nat} {w:World} {u:Value} (hb:Bsr k w B h) (hg:g < B) (hh:g≠h):Bsr k (w.setCell ⟨g,j,none⟩ u) B h:=by
 obtain⟨cs,tv,h1,h2,h3,h4,h5⟩:=hb
 exact⟨cs,tv,(Below.heap_setCell _ _ _ _ (Ne.symm hh)).trans h1,h2,h3,ownsRow_setCell_below h4 hg _,h5⟩
theorem Strs.setCell {w:World} {g j:Nat} {v u:Value} {l:List ByteArray} (h:Strs w v l) (hne:∀ b off n c,v=.slice (some ⟨b,off,none⟩) n c→b≠g):Strs (w.setCell ⟨g,j,none⟩ u) v l:=by
 rcases h with h|⟨b,off,cap,hv,hl,hm,hlt,hc⟩
 ·exact .inl h
 ·exact .inr ⟨b,off,cap,hv,hl,hm,by simpa using hlt,fun i hi=>(World.cell?_setCell_other _ _ _ _ (fun e=>hne _ _ _ _ hv (by cases e;rfl))).trans (hc i hi)⟩
theorem Bsr.drew {k B h:Nat} {w:World} (hb:Bsr k w B h):Bsr k w.drew B h:=hb
def Built (w:World) (g h:Nat) (x0 x1:Int):Prop:=w.heap[g]? = some (.cells #[.int .u32 x0,.int .i32 x1,.int .u32 0,.iface 306 (.pointer (some ⟨h,0,none⟩)),.slice none 0 0] 228 (0,0))∧∃ B,Bsr 3 w B h∧g < B∧B≤h
theorem buildOnce_any (g:Nat) (x0 x1:Int) (sl:Value) (w:World) (hR:w.heap[g]? = some (.cells #[.int .u32 x0,.int .i32 x1,.int .u32 0,.nilIface,sl] 228 (0,0))) (hS:Strs w sl sixT) :
  Calls Tryz.prog 161 #[.pointer (some ⟨g,0,none⟩)] w fun e w'=>e=.returned (.tuple #[])∧(∃ h,Built w' g h x0 x1)∧Below g w w':=by
 have hg:=heap_lt hR
 rcases hS with ⟨_,h0⟩|⟨b,off,cap,rfl,_,_,hb,hc⟩
 ·cases h0
 have HB:=Lib.hid (build_any g b off cap _ _ _ _ w hb hR (hc 0 (by decide)) (hc 1 (by decide)) (hc 2 (by decide)) (hc 3 (by decide)) (hc 4 (by decide)) (hc 5 (by decide)))
 clear hc
 go_enter Tryz.func161,Tryz.ntmps161
 go_wp2_with fail
 refine HB.out.mono ?_
 rintro e w1 ⟨h,rfl,hB,hh,b1⟩
 have r1:=kept b1 hR
 obtain⟨W,hW⟩:∃ W,w1.setCell ⟨g,3,none⟩ (.iface 306 (.pointer (some ⟨h,0,none⟩)))=W:=⟨_,rfl⟩
 have r2:W.heap[g]? = some (.cells #[.int .u32 x0,.int .i32 x1,.int .u32 0,.iface 306 (.pointer (some ⟨h,0,none⟩)),.slice (some ⟨b,off,none⟩) sixT.length cap] 228 (0,0)):=by rw[← hW];exact heap_setCell_same _ _ _ _ _ _ r1
 have r3:(W.setCell ⟨g,4,none⟩ (.slice none 0 0)).heap[g]? = some (.cells #[.int .u32 x0,.int .i32 x1,.int .u32 0,.iface 306 (.pointer (some ⟨h,0,none⟩)),.slice none 0 0] 228 (0,0)):=heap_setCell_same _ _ _ _ _ _ r2
 have c1:=cell_in r1 3 _ rfl
 have c2:=cell_in r2 4 _ rfl
 have f1:=Lib.frozen_of_heap r1 3
 have f2:=Lib.frozen_of_heap r2 4
 have hBW:Bsr 3 W w.heap.size h:=by rw[← hW];exact hB.set hg (by omega)
 have bW:Below g w W:=by rw[← hW];exact(b1.mono (Nat.le_of_lt hg)).setCell (p:=⟨g,3,none⟩) (Nat.le_refl g) _
 have HR:=Lib.hid r3
 clear r1 r2 r3
 have hWW:w1.setCell ⟨g,3,none⟩ (.iface 306 (.pointer (some ⟨h,0,none⟩)))=W:=hW
 clear hW
 go_wp2
 go_end0
 exact⟨rfl,⟨h,by first|exact HR.out|(rw[hWW];exact HR.out),w.heap.size,by first|exact hBW.set hg (by omega)|(rw[hWW];exact hBW.set hg (by omega)),hg,hh⟩,by first|exact bW.setCell (p:=⟨g,4,none⟩) (Nat.le_refl g) _|(rw[hWW];exact bW.setCell (p:=⟨g,4,none⟩) (Nat.le_refl g) _)⟩
theorem doSlow_any (g:Nat) (w:World) (hF:Fresh w g) :
  Calls Tryz.prog 217 #[.pointer (some ⟨g,0,none⟩),.func (.func 161) #[.pointer (some ⟨g,0,none⟩)] #[]] w fun e w'=>e=.returned (.tuple #[])∧(∃ h,Built w' g h 1 0)∧Below g w w':=by
 obtain⟨sl,hR,hS,hne⟩:=hF
 have hnot:∀ (x:Bool) (w:World),(Op.unary .not (.bool x)).run Tryz.prog w=.ok (.bool (!x)) w:=fun _ _=>rfl
 have c1:=cell_in hR 1 _ rfl
 have f1:=Lib.frozen_of_heap hR 1
 have r1:(w.setCell ⟨g,1,none⟩ (.int .i32 1)).heap[g]? = some (.cells #[.int .u32 0,.int .i32 1,.int .u32 0,.nilIface,sl] 228 (0,0)):=heap_setCell_same _ _ _ _ _ _ hR
 have c0:=cell_in r1 0 _ rfl
 have hg:=heap_lt hR
 have hS1:Strs (w.setCell ⟨g,1,none⟩ (.int .i32 1)) sl sixT:=hS.setCell hne
 have HB:=Lib.hid (buildOnce_any g 0 1 sl _ r1 hS1)
 have HL:=Lib.hid (lock_free ⟨g,1,none⟩ w c1 f1)
 have HO:=Lib.hid (load_flag ⟨g,0,none⟩ _ c0)
 have b1:Below g w (w.setCell ⟨g,1,none⟩ (.int .i32 1)):=(Below.refl _ _).setCell (p:=⟨g,1,none⟩) (Nat.le_refl g) _
 go_enter_defers Tryz.func217,Tryz.ntmps217
 go_wp2_with (first|(go_at_call 240;refine HL.out.mono ?_;rintro e w' ⟨rfl,rfl⟩)|(go_at_call 216;refine HO.out.mono ?_;rintro e w' ⟨rfl,rfl⟩)|(go_at_call 161;refine HB.out.mono ?_;rintro e w2 ⟨rfl,⟨h,hBt⟩,b2⟩))
 obtain⟨hr,B,hB,hgB,hBh⟩:=hBt
 have r2:w2.drew.heap[g]? = some (.cells #[.int .u32 0,.int .i32 1,.int .u32 0,.iface 306 (.pointer (some ⟨h,0,none⟩)),.slice none 0 0] 228 (0,0)):=hr
 have r3:(w2.drew.setCell ⟨g,0,none⟩ (.int .u32 1)).heap[g]? = some (.cells #[.int .u32 1,.int .i32 1,.int .u32 0,.iface 306 (.pointer (some ⟨h,0,none⟩)),.slice none 0 0] 228 (0,0)):=heap_setCell_same _ _ _ _ _ _ r2
 have r4:((w2.drew.setCell ⟨g,0,none⟩ (.int .u32 1)).setCell ⟨g,1,none⟩ (.int .i32 0)).heap[g]? = some (.cells #[.int .u32 1,.int .i32 0,.int .u32 0,.iface 306 (.pointer (some ⟨h,0,none⟩)),.slice none 0 0] 228 (0,0)):=heap_setCell_same _ _ _ _ _ _ r3
 have b2':Below g w w2:=b1.trans b2
 refine leaves_cons (f:=242) (args:=#[.pointer (some ⟨g,0,none⟩),.bool true]) (by simp) (by simp[go_sem]) ?_
 refine(store_deferred ⟨g,0,none⟩ (.int .u32 0) .returning _ (cell_in hr 0 _ rfl) (Lib.frozen_of_heap hr 0)).mono ?_
 rintro e u' w'' ⟨rfl,rfl,rfl⟩
 refine leaves_cons (f:=241) (args:=#[.pointer (some ⟨g,1,none⟩)]) (by simp[settle]) (by simp[go_sem]) ?_
 refine(unlock_deferred ⟨g,1,none⟩ _ _ (cell_in r3 1 _ rfl) (Lib.frozen_of_heap r3 1)).mono ?_
 rintro e u' w'' ⟨rfl,rfl,rfl⟩
 have hfin:(∃ h',Built ((w2.drew.setCell ⟨g,0,none⟩ (.int .u32 1)).setCell ⟨g,1,none⟩ (.int .i32 0)) g h' 1 0)∧Below g w ((w2.drew.setCell ⟨g,0,none⟩ (.int .u32 1)).setCell ⟨g,1,none⟩ (.int .i32 0)) :=
  ⟨⟨h,r4,B,(hB.drew.set hgB (by omega)).set hgB (by omega),hgB,hBh⟩,((b2'.drew).setCell (p:=⟨g,0,none⟩) (Nat.le_refl g) _).setCell (p:=⟨g,1,none⟩) (Nat.le_refl g) _⟩
 have HF:=Lib.hid hfin
 clear hfin
 refine⟨_,?_,rfl,HF.out⟩
 simp[results,Tryz.results217]
theorem do_any (g:Nat) (w:World) (hF:Fresh w g) :
  Calls Tryz.prog 160 #[.pointer (some ⟨g,0,none⟩),.func (.func 161) #[.pointer (some ⟨g,0,none⟩)] #[]] w fun e w'=>e=.returned (.tuple #[])∧(∃ h,Built w' g h 1 0)∧Below g w w':=by
 have hnot:∀ (x:Bool) (w:World),(Op.unary .not (.bool x)).run Tryz.prog w=.ok (.bool (!x)) w:=fun _ _=>rfl
 have HO:Hid (Calls Tryz.prog 216 #[.pointer (some ⟨g,0,none⟩)] w fun e w'=>e=.returned (.bool false)∧w=w'):=by
  obtain⟨sl,hR,_⟩:=hF
  exact load_flag ⟨g,0,none⟩ _ (cell_in hR 0 _ rfl)
 have HS:=Lib.hid (doSlow_any g w hF)
 go_enter Tryz.func160,Tryz.ntmps160
 go_wp2_with (first|(go_at_call 216;refine HO.out.mono ?_;rintro e w' ⟨rfl,rfl⟩)|(go_at_call 217;refine HS.out.mono ?_;rintro e w2 ⟨rfl,hBt,b2⟩))
 go_end0
 exact⟨rfl,hBt,b2⟩
end
section
open Go.RowKit
def gone (c:UInt8):Bool:=c == 9 || c == 10 || c == 13
def clnL (l:List UInt8):List UInt8:=l.filter (fun c=>!gone c)
def goneN (l:List UInt8):Nat:=(l.filter gone).length
theorem cln_len:∀ l,(clnL l).length + goneN l=l.length
 | []=>rfl
 | c::l=>by
  have ih:=cln_len l
  unfold clnL goneN at ih ⊢
  by_cases h:gone c <;> simp[h] <;> omega
theorem gone_count:∀ l:List UInt8,goneN l=l.count 13 + l.count 10 + l.count 9
 | []=>rfl
 | c::l=>by
  have ih:=gone_count l
  unfold goneN at ih ⊢
  rw[List.count_cons,List.count_cons,List.count_cons]
  by_cases h1:c=9
  ·subst h1;simp[gone] at ih ⊢;omega
  ·by_cases h2:c=10
   ·subst h2;simp[gone] at ih ⊢;omega
   ·by_cases h3:c=13
    ·subst h3;simp[gone] at ih ⊢;omega
    ·have:gone c=false:=by simp[gone,h1,h2,h3]
     simp[this,h1,h2,h3,ih]
theorem cln_same (l:List UInt8) (h:goneN l=0):clnL l=l:=by
 have h0:l.filter gone=[]:=List.length_eq_zero_iff.1 h
 rw[List.filter_eq_nil_iff] at h0
 unfold clnL
 rw[List.filter_eq_self]
 intro a ha
 simpa using h0 a ha
theorem gone_snoc (l:List UInt8) (c:UInt8):goneN (l++[c])=goneN l + (if gone c=true then 1 else 0):=by
 unfold goneN;by_cases h:gone c <;> simp[h]
theorem cln_snoc (l:List UInt8) (c:UInt8):clnL (l++[c])=clnL l++(if gone c=true then [] else [c]):=by
 unfold clnL;by_cases h:gone c <;> simp[h]
theorem gone_mem (c:UInt8):gone c=true↔c.toNat∈repB:=by
 have h:∀ c:Fin 256,gone (UInt8.ofNat c.val)=decide (c.val∈repB):=by decide +kernel
 have:=h ⟨c.toNat,c.toNat_lt⟩
 simp at this
 rw[this];simp
theorem Bsr.at {w:World} {B h:Nat} (hb:Bsr 3 w B h) (c:UInt8):(gone c=true∧∃ p cp,w.cell? ⟨h,c.toNat,none⟩=some (.slice (some p) 0 cp))∨(gone c=false∧w.cell? ⟨h,c.toNat,none⟩=some (.slice none 0 0)):=by
 obtain⟨cs,tv,h1,h2,h3,h4,h5⟩:=hb
 obtain⟨v,hv,h6⟩:=h5 c.toNat c.toNat_lt
 have hc:w.cell? ⟨h,c.toNat,none⟩=some v:=bsr_cell h1 hv
 rcases h6 with ⟨hm,p,cp,rfl⟩|⟨hm,rfl⟩
 ·exact .inl ⟨(gone_mem c).2 hm,p,cp,hc⟩
 ·refine .inr ⟨?_,hc⟩
  rw[Bool.eq_false_iff];intro hg;exact hm ((gone_mem c).1 hg)
def pad (A:List UInt8) (N:Nat):List UInt8:=A++List.replicate (N - A.length) 0
theorem pad_full (A:List UInt8):pad A A.length=A:=by simp[pad]
theorem pad_nil (N:Nat):pad [] N=List.replicate N 0:=by simp[pad]
theorem pad_cell {A:List UInt8} {N:Nat} (h:A.length < N):(u8s (pad A N)).toArray[A.length]? = some (.int .u8 0):=by
 unfold u8s pad
 simp only[List.map_append,List.getElem?_toArray]
 rw[List.getElem?_append_right (by simp)]
 simp only[List.length_map,Nat.sub_self,List.map_replicate]
 rw[List.getElem?_replicate,if_pos (by omega)]
 rfl
theorem pad_set {A:List UInt8} {N:Nat} (c:UInt8) (h:A.length < N):(u8s (pad A N)).toArray.setIfInBounds A.length (.int .u8 c.toNat)=(u8s (pad (A++[c]) N)).toArray:=by
 apply Array.ext'
 rw[Array.toList_setIfInBounds]
 show (u8s (pad A N)).set A.length _=u8s (pad (A++[c]) N)
 unfold u8s
 rw[← List.map_set]
 congr 1
 unfold pad
 rw[List.set_append_right _ _ (Nat.le_refl _),Nat.sub_self]
 have h2:N - A.length=(N - (A++[c]).length) + 1:=by simp;omega
 rw[h2,List.replicate_succ,List.set_cons_zero,List.append_assoc]
 rfl
theorem cln_take_le (l:List UInt8) (k:Nat):(clnL (l.take k)).length≤(clnL l).length:=((List.take_sublist k l).filter _).length_le
def G3 (l:List UInt8):Nat→Nat|0=>0|1=>l.count 13|2=>l.count 13 + l.count 10|_=>goneN l
theorem G3_le (l:List UInt8) (k:Nat):G3 l k≤l.length:=by
 have:=gone_count l
 have:=cln_len l
 unfold G3;split <;> omega
set_option maxHeartbeats 2000000 in
theorem bsr_any (h B:Nat) (s:ByteArray) (w:World) (hB:Bsr 3 w B h) (hs:s.size≤3000000) :
  Calls Tryz.prog 335 #[.pointer (some ⟨h,0,none⟩),.string s] w fun e w'=>e=.returned (.string (bs (clnL s.data.toList)))∧Below w.heap.size w w':=by
 have HAT:=Lib.hid hB.at
 obtain⟨cs,tv,h1,h2,h3,h4,h5⟩:=hB
 have c256:=bsr_cell h1 h3
 have hST:Strs w tv repT:=Strs.of_own (l:=repT) h4
 have hlt:=heap_lt h1
 have H13:=Lib.hid (h5 13 (by decide))
 clear h5 h4 h3 h2
 rcases hST with ⟨_,h0⟩|⟨b,off,cap,rfl,_,_,hb,hc⟩
 ·cases h0
 have t0:=hc 0 (by decide)
 have t1:=hc 1 (by decide)
 have t2:=hc 2 (by decide)
 change w.cell? ⟨b,off,none⟩=some (.string ⟨#[13]⟩) at t0
 change w.cell? ⟨b,off + 1,none⟩=some (.string ⟨#[10]⟩) at t1
 change w.cell? ⟨b,off + 2,none⟩=some (.string ⟨#[9]⟩) at t2
 change w.cell? ⟨h,256,none⟩=some (.slice (some ⟨b,off,none⟩) 3 cap) at c256
 clear hc h1
 have hlen:s.data.toList.length=s.size:=size_len s
 have hcl:=cln_len s.data.toList
 obtain⟨l,hl⟩:∃ l,l=s.data.toList:=⟨_,rfl⟩
 rw[← hl] at hlen hcl ⊢
 have HL:=Lib.hid hl
 clear hl
 have hnot:∀ (x:Bool) (w:World),(Op.unary .not (.bool x)).run Tryz.prog w=.ok (.bool (!x)) w:=fun _ _=>rfl
 go_enter Tryz.func335,Tryz.ntmps335
 go_upto_if 26 with fail
 go_cut [5,6] from 7 to 80 (fun n a wx=>n=.int .i64 ((clnL l).length:Nat)∧a=.bool (decide (goneN l≠0))∧Below w.heap.size w wx)
 case first =>
  by_cases h24:(24:Int)≤s.size
  ·simp only[decide_eq_true h24]
   have e3:∀ c:UInt8,goneN [c]=1→∃ p cp,w.cell? ⟨h,c.toNat,none⟩=some (.slice (some p) 0 cp):=fun c hc=>by
    rcases HAT.out c with ⟨_,r⟩|⟨hg,_⟩
    ·exact r
    ·simp[goneN,hg] at hc
   obtain⟨p1,q1,g1⟩:=e3 13 rfl
   obtain⟨p2,q2,g2⟩:=e3 10 rfl
   obtain⟨p3,q3,g3⟩:=e3 9 rfl
   change w.cell? ⟨h,13,none⟩=_ at g1
   change w.cell? ⟨h,10,none⟩=_ at g2
   change w.cell? ⟨h,9,none⟩=_ at g3
   clear e3
   go_wp2
   go_loopw [5,6,8,9,32] (fun n a _ _ i wr=>∃ k:Nat,k≤3∧i=.int .i64 k∧n=.int .i64 ((s.size:Int) - G3 l k)∧a=.bool (decide (G3 l k≠0))∧Below w.heap.size w wr) (fun _ _ _ _ i _=>3 - (intOf i).toNat)
   case atStart=>exact⟨0,by omega,rfl,by simp[G3],by simp[G3],Below.refl _ _⟩
   case round =>
    obtain⟨k,hk,rfl,rfl,rfl,hB'⟩:=hrel
    rcases k with _|_|_|k
    ·have x1:=(hB'.cell (p:=⟨h,13,none⟩) hlt).trans g1
     have x2:=(hB'.cell (p:=⟨b,off,none⟩) hb).trans t0
     have x3:=(hB'.cell (p:=⟨h,256,none⟩) hlt).trans c256
     have q:((⟨#[13]⟩:ByteArray)[0]'(by decide)).toNat=13:=rfl
     obtain⟨m,hm⟩:∃ m:Nat,m=l.count 13:=⟨_,rfl⟩
     have HC:∀ w',Hid (Calls Tryz.prog 252 #[.string s,.string ⟨#[13]⟩] w' fun e w''=>e=.returned (.int .i64 m)∧w''=w'):=fun w'=>by
      rw[hm,HL.out];exact Tryz.strings_Count_one s 13 w'
     have hG:G3 l 1=G3 l 0 + m:=by
      rw[hm]
      simp[G3]
     have hle:=G3_le l 1
     have HG:=Lib.hid hG
     obtain⟨y,hy⟩:∃ y:Nat,y=G3 l 0:=⟨_,rfl⟩
     rw[← hy] at HG ⊢
     have hyl:y + m≤l.length:=by rw[hy,← hG];exact hle
     clear hG hle hm hy
     by_cases hm0:m=0
     ·subst hm0
      go_wp2_with (go_at_call 252;refine(HC _).out.mono ?_;rintro e w2 ⟨rfl,rfl⟩)
      go_wp2
      exact⟨⟨1,by omega,rfl,by rw[HG.out];simp,by rw[HG.out];simp,hB'⟩,by simp[intOf]⟩
     ·have e1:((m:Int) != 0)=true:=by simp;omega
      go_wp2_with (go_at_call 252;refine(HC _).out.mono ?_;rintro e w2 ⟨rfl,rfl⟩)
      go_quiet (fail)
      go_wp2
      exact⟨⟨1,by omega,rfl,by rw[HG.out];congr 1;omega,by rw[HG.out];simp;omega,bel_on hB' (below_drewN _ _)⟩,by simp[intOf]⟩
    ·have x1:=(hB'.cell (p:=⟨h,10,none⟩) hlt).trans g2
     have x2:=(hB'.cell (p:=⟨b,off + 1,none⟩) hb).trans t1
     have x3:=(hB'.cell (p:=⟨h,256,none⟩) hlt).trans c256
     have q:((⟨#[10]⟩:ByteArray)[0]'(by decide)).toNat=10:=rfl
     obtain⟨m,hm⟩:∃ m:Nat,m=l.count 10:=⟨_,rfl⟩
     have HC:∀ w',Hid (Calls Tryz.prog 252 #[.string s,.string ⟨#[10]⟩] w' fun e w''=>e=.returned (.int .i64 m)∧w''=w'):=fun w'=>by
      rw[hm,HL.out];exact Tryz.strings_Count_one s 10 w'
     have hG:G3 l 2=G3 l 1 + m:=by
      rw[hm]
      simp[G3]
     have hle:=G3_le l 2
     have HG:=Lib.hid hG
     obtain⟨y,hy⟩:∃ y:Nat,y=G3 l 1:=⟨_,rfl⟩
     rw[← hy] at HG ⊢
     have hyl:y + m≤l.length:=by rw[hy,← hG];exact hle
     clear hG hle hm hy
     by_cases hm0:m=0
     ·subst hm0
      go_wp2_with (go_at_call 252;refine(HC _).out.mono ?_;rintro e w2 ⟨rfl,rfl⟩)
      go_wp2
      exact⟨⟨2,by omega,rfl,by rw[HG.out];simp,by rw[HG.out];simp,hB'⟩,by simp[intOf]⟩
     ·have e1:((m:Int) != 0)=true:=by simp;omega
      go_wp2_with (go_at_call 252;refine(HC _).out.mono ?_;rintro e w2 ⟨rfl,rfl⟩)
      go_quiet (fail)
      go_wp2
      exact⟨⟨2,by omega,rfl,by rw[HG.out];congr 1;omega,by rw[HG.out];simp;omega,bel_on hB' (below_drewN _ _)⟩,by simp[intOf]⟩
    ·have x1:=(hB'.cell (p:=⟨h,9,none⟩) hlt).trans g3
     have x2:=(hB'.cell (p:=⟨b,off + 2,none⟩) hb).trans t2
     have x3:=(hB'.cell (p:=⟨h,256,none⟩) hlt).trans c256
     have q:((⟨#[9]⟩:ByteArray)[0]'(by decide)).toNat=9:=rfl
     obtain⟨m,hm⟩:∃ m:Nat,m=l.count 9:=⟨_,rfl⟩
     have HC:∀ w',Hid (Calls Tryz.prog 252 #[.string s,.string ⟨#[9]⟩] w' fun e w''=>e=.returned (.int .i64 m)∧w''=w'):=fun w'=>by
      rw[hm,HL.out];exact Tryz.strings_Count_one s 9 w'
     have hG:G3 l 3=G3 l 2 + m:=by
      rw[hm]
      simp[G3,gone_count]
     have hle:=G3_le l 3
     have HG:=Lib.hid hG
     obtain⟨y,hy⟩:∃ y:Nat,y=G3 l 2:=⟨_,rfl⟩
     rw[← hy] at HG ⊢
     have hyl:y + m≤l.length:=by rw[hy,← hG];exact hle
     clear hG hle hm hy
     by_cases hm0:m=0
     ·subst hm0
      go_wp2_with (go_at_call 252;refine(HC _).out.mono ?_;rintro e w2 ⟨rfl,rfl⟩)
      go_wp2
      exact⟨⟨3,by omega,rfl,by rw[HG.out];simp,by rw[HG.out];simp,hB'⟩,by simp[intOf]⟩
     ·have e1:((m:Int) != 0)=true:=by simp;omega
      go_wp2_with (go_at_call 252;refine(HC _).out.mono ?_;rintro e w2 ⟨rfl,rfl⟩)
      go_quiet (fail)
      go_wp2
      exact⟨⟨3,by omega,rfl,by rw[HG.out];congr 1;omega,by rw[HG.out];simp;omega,bel_on hB' (below_drewN _ _)⟩,by simp[intOf]⟩
    ·obtain rfl:k=0:=by omega
     go_wp2
     go_meet
     exact⟨by congr 1;simp[G3];omega,rfl,hB'⟩
  ·simp only[decide_eq_false h24]
   go_wp2
   go_loopw [5,6,10,11] (fun n a i _ wr=>∃ k:Nat,k≤s.size∧i=.int .i64 k∧n=.int .i64 ((s.size:Int) - goneN (l.take k))∧a=.bool (decide (goneN (l.take k)≠0))∧w=wr) (fun _ _ i _ _=>s.size - (intOf i).toNat)
   case atStart=>exact⟨0,by omega,rfl,by simp[goneN],by simp[goneN],rfl⟩
   case round =>
    obtain⟨k,hk,rfl,rfl,rfl,rfl⟩:=hrel
    by_cases hp:k < s.size
    ·have HT:Hid (l.take (k + 1)=l.take k++[s[k]'hp]):=by show _=_;rw[HL.out];exact take_snoc s k hp
     have hcb:(0:Int)≤((s[k]'hp).toNat:Int)∧((s[k]'hp).toNat:Int) < (256:Int):=by have:=(s[k]'hp).toNat_lt;omega
     obtain⟨c,hc⟩:∃ c,c=s[k]'hp:=⟨_,rfl⟩
     have hgl:goneN (l.take k)≤k:=by have:=cln_len (l.take k);rw[List.length_take] at this;omega
     have HG:Hid (goneN (l.take (k + 1))=goneN (l.take k) + (if gone c=true then 1 else 0)):=by show _=_;rw[HT.out,← hc];exact gone_snoc _ _
     obtain⟨y,hy⟩:∃ y,y=goneN (l.take k):=⟨_,rfl⟩
     rw[← hy] at HG hgl ⊢
     clear hy
     rcases HAT.out c with ⟨hg,p,cp,x1⟩|⟨hg,x1⟩
     ·rw[hg] at HG
      rw[hc] at x1
      go_wp2
      exact⟨⟨k + 1,by omega,by simp,by rw[HG.out];congr 1;simp;omega,by rw[HG.out];simp,trivial⟩,by simp[intOf];omega⟩
     ·rw[hg] at HG
      rw[hc] at x1
      go_wp2
      exact⟨⟨k + 1,by omega,by simp,by rw[HG.out];simp,by rw[HG.out];simp,trivial⟩,by simp[intOf];omega⟩
    ·have HE:=Lib.hid (all_take_end s k hp)
     have hE:l.take k=l:=by rw[HL.out];exact HE.out
     go_wp2
     go_meet
     exact⟨by congr 1;rw[hE];omega,by rw[hE],Below.refl _ _⟩
 case rest =>
  obtain⟨rfl,rfl,hBw⟩:=hcut
  by_cases hz:goneN l=0
  ·have HR:Hid (bs (clnL l)=s):=by show _=_;rw[cln_same l hz,HL.out];exact bs_of s
   go_wp2
   go_ret
   exact⟨ret_str HR.out.symm,hBw⟩
  ·simp only[show decide (goneN l≠0)=true from decide_eq_true hz]
   have hmk:=fun w1:World=>run_make_row' (P:=Tryz.prog) 118 5 (.int .u8 0) 1 Tryz.underlying118 Tryz.info5 rfl .i64 .i64 (clnL l).length (by omega) (by omega) w1
   have hN:=cln_take_le l
   obtain⟨N,hNN⟩:∃ N,N=(clnL l).length:=⟨_,rfl⟩
   rw[← hNN] at hmk ⊢
   simp only[← hNN] at hN
   have hNs:N≤3000000:=by omega
   have HNN:=Lib.hid hNN
   clear hNN
   go_wp2
   go_loopw [13,14,15] (fun j i _ wr=>∃ k:Nat,k≤s.size∧i=.int .i64 k∧j=.int .i64 ((clnL (l.take k)).length:Nat)∧wr.heap[wc.heap.size]? = some (.cells (u8s (pad (clnL (l.take k)) N)).toArray 5 (0,0))∧Below wc.heap.size wc wr) (fun _ i _ _=>s.size - (intOf i).toNat)
   case atStart=>exact⟨0,by omega,rfl,rfl,by rw[made_u8];show _=some (Obj.cells (u8s (pad [] N)).toArray 5 (0,0));rw[pad_nil];exact row1 _ _,bel1 _ _⟩
   case round =>
    obtain⟨k,hk,rfl,rfl,hr,hb'⟩:=hrel
    by_cases hp:k < s.size
    ·have HT:Hid (l.take (k + 1)=l.take k++[s[k]'hp]):=by show _=_;rw[HL.out];exact take_snoc s k hp
     have hcb:(0:Int)≤((s[k]'hp).toNat:Int)∧((s[k]'hp).toNat:Int) < (256:Int):=by have:=(s[k]'hp).toNat_lt;omega
     obtain⟨c,hc⟩:∃ c,c=s[k]'hp:=⟨_,rfl⟩
     have HG:Hid (clnL (l.take (k + 1))=clnL (l.take k)++(if gone c=true then [] else [c])):=by show _=_;rw[HT.out,← hc];exact cln_snoc _ _
     have hN0:=hN k
     have hN1:=hN (k + 1)
     rw[HG.out] at hN1
     obtain⟨A,hA⟩:∃ A,A=clnL (l.take k):=⟨_,rfl⟩
     rw[← hA] at HG hr hN0 hN1 ⊢
     clear hA
     have hhc:h < wc.heap.size:=Nat.lt_of_lt_of_le hlt hBw.size
     rcases HAT.out c with ⟨hg,p,cp,x1⟩|⟨hg,x1⟩
     ·rw[hg] at HG
      rw[hc] at x1
      have x2:=(hb'.cell (p:=⟨h,(s[k]'hp).toNat,none⟩) hhc).trans ((hBw.cell (p:=⟨h,(s[k]'hp).toNat,none⟩) hlt).trans x1)
      clear x1
      have hcp:=fun (W:World) (d:Option Addr) (dl dc:Nat)=>run_copy_none (P:=Tryz.prog) W 118 118 3 5 d (some p) dl dc 0 cp Tryz.underlying118 (by kernel_rfl) (by simp)
      have hb1:(0:Int)≤(A.length:Int)∧(A.length:Int)≤(N:Int):=by omega
      have hb2:IntKind.i64.wrap ((A.length:Int) + 0)=A.length:=by rw[IntKind.wrap_i64];omega
      have hA:clnL (l.take (k + 1))=A:=by rw[HG.out];simp
      have HA:=Lib.hid hA
      clear hA
      obtain⟨q,hq⟩:∃ q,(if N=A.length then (some ⟨wc.heap.size,0,none⟩:Option Addr) else some ⟨wc.heap.size,A.length,none⟩)=q:=⟨_,rfl⟩
      go_wp2
      go_region
      go_wp2
      exact⟨⟨k + 1,by omega,by simp,by rw[HA.out],by rw[HA.out];exact hr,hb'.drew⟩,by simp[intOf];omega⟩
     ·rw[hg] at HG hN1
      simp at hN1
      rw[hc] at x1
      have x2:=(hb'.cell (p:=⟨h,(s[k]'hp).toNat,none⟩) hhc).trans ((hBw.cell (p:=⟨h,(s[k]'hp).toNat,none⟩) hlt).trans x1)
      clear x1
      have x3:=Lib.cell_of_heap hr A.length
      rw[pad_cell (by omega)] at x3
      have x4:=Lib.frozen_of_heap hr A.length
      have HR:=Lib.hid hr
      clear hr
      have ew:wrap64 ((A.length:Int) + 1)=((A++[c]).length:Nat):=by unfold wrap64;simp;omega
      go_wp2
      have hA':clnL (l.take (k + 1))=A++[c]:=by rw[HG.out];simp
      refine⟨⟨k + 1,by omega,by simp,by rw[hA',List.length_append,List.length_singleton];rfl,?_,hb'.setCell (p:=⟨wc.heap.size,A.length,none⟩) (Nat.le_refl wc.heap.size) _⟩,by simp[intOf];omega⟩
      rw[heap_setCell_same _ _ _ _ _ _ HR.out,hA',← hc,pad_set c (by omega)]
    ·have HE:=Lib.hid (all_take_end s k hp)
     have hE:l.take k=l:=by rw[HL.out];exact HE.out
     rw[hE] at hr ⊢
     rw[HNN.out,pad_full] at hr
     have hz0:=hb'.size
     have hcv:(convert 118 9 (.slice (some ⟨wc.heap.size,0,none⟩) N N)).run Tryz.prog wr=.ok (.string (bs (clnL l))) wr :=
      Deci.run_convert_owned (P:=Tryz.prog) (base:=0) 118 9 Tryz.underlying118 Tryz.underlying5 Tryz.underlying9 (l:=clnL l) ⟨by rw[Nat.mul_one];exact Deci.u8s_len _,.inr ⟨wc.heap.size,N,_,by rw[HNN.out],Nat.zero_le _,hr,by rw[HNN.out];exact Nat.le_refl _,by unfold maxLen;omega,by rw[HNN.out];simp[u8s],List.take_of_length_le (by simp[u8s])⟩⟩
     clear hr
     go_wp2
     go_ret
     exact⟨rfl,hBw.trans (hb'.mono hBw.size)⟩
end
section
open Go.RowKit
theorem replace_any (g:Nat) (s:ByteArray) (w:World) (hF:Fresh w g) (hs:s.size≤3000000) :
  Calls Tryz.prog 105 #[.pointer (some ⟨g,0,none⟩),.string s] w fun e w'=>e=.returned (.string (bs (clnL s.data.toList)))∧Below g w w':=by
 have HD:=Lib.hid (do_any g w hF)
 go_enter Tryz.func105,Tryz.ntmps105
 go_wp2_with fail
 refine HD.out.mono ?_
 rintro e w1 ⟨rfl,⟨h,hr,B,hB,hgB,hBh⟩,b1⟩
 have c3:=cell_in hr 3 _ rfl
 have hg:=heap_lt hr
 have HB:=Lib.hid (bsr_any h B s w1 hB hs)
 have hm:∀ w:World,(method 488 306 (.pointer (some ⟨h,0,none⟩)) "Replace").run Tryz.prog w=.ok (335,.pointer (some ⟨h,0,none⟩)) w:=fun _=>by kernel_rfl
 go_wp2_with fail
 refine HB.out.mono ?_
 rintro e w2 ⟨rfl,b2⟩
 go_wp2
 go_ret
 exact⟨rfl,b1.trans (b2.mono (Nat.le_of_lt hg))⟩
theorem trimB_le (s:ByteArray):(trimB s).size≤s.size:=by
 unfold trimB Lib.trimF Lib.trimRightF Lib.trimLeftF
 rw[ByteArray.size_extract]
 split
 ·show _ - 0≤_
  exact Nat.le_trans (Nat.sub_le _ _) (Nat.le_trans (Nat.min_le_right _ _) (Nat.zero_le _))
 ·exact Nat.le_trans (Nat.sub_le _ _) (Nat.le_trans (Nat.min_le_right _ _) (by rw[ByteArray.size_extract];omega))
def cleanB (s:ByteArray):ByteArray:=bs (clnL (trimB s).data.toList)
theorem Fresh.below {w w':World} {g:Nat} (hF:Fresh w g) (b:Below w.heap.size w w'):Fresh w' g:=by
 obtain⟨sl,h1,h2,h3⟩:=hF
 exact⟨sl,kept b h1,h2.below b,h3⟩
theorem clean_any (s:ByteArray) (w:World) (G:Glob w) (hs:s.size≤1000000) :
  Calls Tryz.prog 51 #[.string s] w fun e w'=>e=.returned (.string (cleanB s))∧Below w.heap.size w w':=by
 have hc:∀ j,j < 6→(w.alloc (.cells #[.string ⟨#[9]⟩,.string ⟨#[]⟩,.string ⟨#[10]⟩,.string ⟨#[]⟩,.string ⟨#[13]⟩,.string ⟨#[]⟩] 9)).cell? ⟨w.heap.size,j,none⟩=some (.string (sixT.getD j ByteArray.empty)):=fun j hj=>by
  have hr:=row1 w (.cells #[.string ⟨#[9]⟩,.string ⟨#[]⟩,.string ⟨#[10]⟩,.string ⟨#[]⟩,.string ⟨#[13]⟩,.string ⟨#[]⟩] 9)
  refine cell_in hr j _ ?_
  rcases j with _|_|_|_|_|_|j <;> first|rfl|omega
 have HN:=Lib.hid (newReplacer_any w.heap.size _ (by simp) hc)
 have b0:=bel1 w (.cells #[.string ⟨#[9]⟩,.string ⟨#[]⟩,.string ⟨#[10]⟩,.string ⟨#[]⟩,.string ⟨#[13]⟩,.string ⟨#[]⟩] 9)
 have HC:Hid (cleanB s=bs (clnL (trimB s).data.toList)):=rfl
 have hts:(trimB s).size≤1000000:=Nat.le_trans (trimB_le s) hs
 obtain⟨r,hr⟩:∃ r,r=cleanB s:=⟨_,rfl⟩
 rw[← hr] at HC ⊢
 clear hr hc
 go_enter Tryz.func51,Tryz.ntmps51
 go_wp2_with fail
 refine HN.out.mono ?_
 rintro e w1 ⟨g,rfl,hF,hg,b1⟩
 have B1:=bel_on b0 b1
 have HT:=Lib.hid (trim_any s w1 (G.below B1) hs)
 go_wp2_with fail
 refine HT.out.mono ?_
 rintro e w2 ⟨rfl,b2⟩
 have B2:=bel_on B1 b2
 have HR:=Lib.hid (replace_any g (trimB s) w2 (hF.below b2) (by omega))
 go_wp2_with fail
 refine HR.out.mono ?_
 rintro e w3 ⟨rfl,b3⟩
 have hg2:w.heap.size≤g:=by simp at hg;omega
 go_wp2
 go_ret
 exact⟨ret_str HC.out.symm,B2.trans (b3.mono hg2)⟩
end
end Go.Proofs.YtdlkjofnnefjfaaGreatDoor
