/- The walks of layer 1's letters and digits, and of a byte made small: for every byte. The walks of layer 1's iterator over a text's bytes made anew, and of Lower and Same: for every text of at most 1048576 bytes. The walks of layer 1's Lower and Same: for every text of at most 1048576 bytes. -/
import Derived.Test.YtdlkjofnnefjfaaGreatDoorZPctB
import Derived.Test.YtdlkjofnnefjfaaGreatDoorZDeci
import Derived.Test.YtdlkjofnnefjfaaGreatDoorZRange
import Derived.Deep.QuietTactic
import Derived.BigQuiet
import Derived.Deep.OwnRows
set_option linter.all false
namespace Go.Proofs.YtdlkjofnnefjfaaGreatDoor
set_option maxRecDepth 100000
section
open Go.RowKit
def isA (c:UInt8):Bool:=(decide (65≤c.toNat) && decide (c.toNat≤90)) || (decide (97≤c.toNat) && decide (c.toNat≤122))
def lowC (c:UInt8):UInt8:=if 65≤c.toNat∧c.toNat≤90 then c + 32 else c
def lowL (l:List UInt8):List UInt8:=l.map lowC
def sameL (a b:List UInt8):Bool:=lowL a == lowL b
theorem alpha_or:∀ n:Fin 256,((decide (65≤n.val) && decide (n.val≤90)) || (decide (97≤n.val) && decide (n.val≤122)))=(decide (97≤(n.val ||| 32)) && decide ((n.val ||| 32)≤122) && decide (n.val < 128)):=by decide +kernel
theorem alpha_any (c:UInt8) (w:World):Calls Tryz.prog 65 #[.int .u8 c.toNat] w fun e w'=>e=.returned (.bool (isA c))∧w=w':=by
 have hn:c.toNat < 256:=c.toNat_lt
 have h1:=or32 ⟨c.toNat,hn⟩
 have h2:=alpha_or ⟨c.toNat,hn⟩
 simp only at h1
 have hA:isA c=(decide (97≤(c.toNat ||| 32)) && decide ((c.toNat ||| 32)≤122) && decide (c.toNat < 128)):=h2
 clear h2
 obtain⟨b,hb⟩:∃ b,b=isA c:=⟨_,rfl⟩
 rw[← hb] at hA ⊢
 clear hb
 obtain⟨n,hnn⟩:∃ n,n=c.toNat:=⟨_,rfl⟩
 rw[← hnn] at h1 hA hn ⊢
 clear hnn
 obtain⟨o,ho⟩:∃ o,o=n ||| 32:=⟨_,rfl⟩
 rw[← ho] at h1 hA
 clear ho
 have HA:=Lib.hid hA
 clear hA
 by_cases d1:97≤o
 ·by_cases d2:o≤122
  ·by_cases d3:n < 128
   ·go_enter Tryz.func65,Tryz.ntmps65
    go_wp2
    go_ret
    exact⟨ret_bool (by rw[HA.out];simp[d1,d2,d3] <;> omega),rfl⟩
   ·go_enter Tryz.func65,Tryz.ntmps65
    go_wp2
    go_ret
    exact⟨ret_bool (by rw[HA.out];simp[d1,d2] <;> omega),rfl⟩
  ·go_enter Tryz.func65,Tryz.ntmps65
   go_wp2
   go_ret
   exact⟨ret_bool (by rw[HA.out];simp[d1,d2] <;> omega),rfl⟩
 ·go_enter Tryz.func65,Tryz.ntmps65
  go_wp2
  go_ret
  exact⟨ret_bool (by rw[HA.out];simp[d1] <;> omega),rfl⟩
theorem digit_any (c:UInt8) (w:World):Calls Tryz.prog 66 #[.int .u8 c.toNat] w fun e w'=>e=.returned (.bool (Deci.isD c))∧w=w':=by
 cases h:Deci.isD c with
 | true=>exact Deci.digit_yes c w h
 | false=>exact Deci.digit_no c w h
theorem low_fin:∀ n:Fin 256,(65≤n.val∧n.val≤90)→(UInt8.ofNat n.val + 32).toNat=n.val + 32:=by decide +kernel
theorem lowC_any (c:UInt8) (w:World):Calls Tryz.prog 121 #[.int .u8 c.toNat] w fun e w'=>e=.returned (.int .u8 (lowC c).toNat)∧w=w':=by
 have hn:c.toNat < 256:=c.toNat_lt
 by_cases d:65≤c.toNat∧c.toNat≤90
 ·have h2:=low_fin ⟨c.toNat,hn⟩ d
  simp only[UInt8.ofNat_toNat] at h2
  have e:(lowC c).toNat=c.toNat + 32:=by unfold lowC;rw[if_pos d];exact h2
  rw[e]
  clear e h2
  obtain⟨n,hnn⟩:∃ n,n=c.toNat:=⟨_,rfl⟩
  rw[← hnn] at d hn ⊢
  clear hnn
  obtain⟨d1,d2⟩:=d
  go_enter Tryz.func121,Tryz.ntmps121
  go_wp2
  go_ret
  exact⟨ret_int (by first|rfl|(simp;omega)|omega),rfl⟩
 ·have e:lowC c=c:=by unfold lowC;rw[if_neg d]
  rw[e]
  clear e
  obtain⟨n,hnn⟩:∃ n,n=c.toNat:=⟨_,rfl⟩
  rw[← hnn] at d hn ⊢
  clear hnn
  by_cases d1:65≤n
  ·have d2:90 < n:=by omega
   clear d
   go_enter Tryz.func121,Tryz.ntmps121
   go_wp2
   go_ret
   exact⟨rfl,rfl⟩
  ·clear d
   go_enter Tryz.func121,Tryz.ntmps121
   go_wp2
   go_ret
   exact⟨rfl,rfl⟩
end
section
open Go.RowKit Go.Shelf
attribute [local go_sem] Oper.semAt_some
def lowAt (s:ByteArray) (j:Nat):Nat×UInt8:=(j,lowC (s.data.toList.getD j 0))
def Went {α:Type} (J Jx:List α→World→Prop) (p:Nat→Prop) (W:World) (xs:List α):Bool→World→Prop
 | true,W'=>J xs W'∧KeepAt p W W'
 | false,W'=>Jx xs W'
set_option maxHeartbeats 2000000 in
theorem each1_in (n:Nat) (hn:2≤n) (l Bs Bw:Nat) (s:ByteArray) (hs:s.size≤1048576) (J Jx:List (Nat×UInt8)→World→Prop) (p:Nat→Prop) (hp1:p Bs) (hp2:p Bw)
  (hY:∀ pre x W,J pre W→(pre.length < s.size∧x=lowAt s pre.length)→YieldAt Fence.wide (n - 1) Tryz.prog l #[.int .i64 (x.1:Int),.int .u8 x.2.toNat] W fun e W' =>
   (e=.returned (.bool true)∧J (pre++[x]) W'∧KeepAt p W W')∨(e=.returned (.bool false)∧Jx (pre++[x]) W'))
  (hJd:∀ pre W,J pre W→J pre W.drew)
  (W:World) (hBs:W.cell? ⟨Bs,0,none⟩=some (.string s)) (hBw:W.cell? ⟨Bw,0,none⟩=some (.func (.func 121) #[] #[])) (h0:J [] W) :
  CallsIn Fence.wide n Tryz.prog 178 #[.func (.yield l) #[] #[],.pointer (some ⟨Bs,0,none⟩),.pointer (some ⟨Bw,0,none⟩)] W fun e W'=>(∃ v,e=.returned v) ∧
   ((∃ ys,ys=upto (lowAt s) s.size∧J ys W')∨(∃ pre,(∃ k,k≤s.size∧pre=upto (lowAt s) k)∧Jx pre W')):=by
 refine callsIn_of_wp Tryz.func178 rfl trivial ?_ rfl
 simp only[Tryz.ntmps178,List.size_toArray,List.length_cons,List.length_nil,Nat.reduceAdd,Nat.reduceSub,Array.replicate_succ,Array.replicate_zero,List.push_toArray,List.append_toArray,List.nil_append,List.cons_append]
 gi_wp2
 gi_loopw [7] (fun i wr=>∃ k:Nat,k≤s.size∧i=.int .i64 k∧J (upto (lowAt s) k) wr∧KeepAt p W wr)
  (fun i _=>s.size - (intOf i).toNat)
 case atStart=>exact⟨0,Nat.zero_le _,rfl,h0,KeepAt.refl _ _⟩
 case round =>
  obtain⟨k,hk,rfl,hJs,hnx⟩:=hrel
  have hc1:wr.cell? ⟨Bs,0,none⟩=some (.string s):=(hnx.cell (a:=⟨Bs,0,none⟩) hp1).trans hBs
  have hc2:wr.cell? ⟨Bw,0,none⟩=some (.func (.func 121) #[] #[]):=(hnx.cell (a:=⟨Bw,0,none⟩) hp2).trans hBw
  by_cases hlt:k < s.size
  ·obtain⟨fn,tmps,assign,body,hy,hR⟩:=hY _ (lowAt s k) wr.drew (hJd _ _ hJs) (by rw[upto_length];exact⟨hlt,rfl⟩)
   have hg:s.data.toList.getD k 0=s[k]:=by rw[List.getD,Array.getElem?_toList,Array.getElem?_eq_getElem (by exact hlt)];rfl
   unfold lowAt at hy
   rw[hg] at hy
   dsimp only at hy
   have hRR:=hR.mono (R':=fun e W'=>∃ r,e=.returned (.bool r)∧Went J Jx p wr.drew (upto (lowAt s) k++[lowAt s k]) r W') (by
    rintro e W' (⟨rfl,h1,h2⟩|⟨rfl,h1⟩)
    ·exact⟨true,rfl,h1,h2⟩
    ·exact⟨false,rfl,h1⟩)
   clear hR
   have hmx:Tryz.prog.follows .mixedOrders=true:=by kernel_rfl
   gi_wp2
   gi_region_with_o (first|(refine⟨trivial,fun _=>by omega,?_⟩;gi_at_call 121;refine(callsIn_wide.2 (lowC_any _ _)).mono ?_;rintro e w' ⟨rfl,rfl⟩)|(refine⟨fun _=>by omega,?_⟩;refine hRR.mono ?_;rintro e W' ⟨r,rfl,hw⟩)|(refine hRR.mono ?_;rintro e W' ⟨r,rfl,hw⟩))
   all_goals
    cases r with
    | true =>
     obtain⟨h1,h2⟩:=hw
     gi_wp2
     go_roundw
     case rel=>exact⟨k + 1,by omega,by simp,by rw[upto_succ];exact h1,hnx.trans h2⟩
     case measure=>simp[intOf];omega
    | false =>
     have h1:Jx _ _:=hw
     gi_wp2
     refine bodyPost_ret (results_none rfl _ _ _) rfl ?_
     exact⟨⟨_,rfl⟩,.inr ⟨_,⟨k + 1,by omega,(upto_succ _ _).symm⟩,h1⟩⟩
  ·obtain rfl:k=s.size:=by omega
   gi_wp2
   go_end0
   exact⟨⟨_,rfl⟩,.inl ⟨_,rfl,hJs⟩⟩
end
section
open Go.RowKit Go.Shelf
attribute [local go_sem] Oper.semAt_some
def lowMix (s:ByteArray) (k:Nat):List UInt8:=(lowL s.data.toList).take k++List.replicate (s.size - k) 0
theorem lowL_len (l:List UInt8):(lowL l).length=l.length:=by unfold lowL;simp
theorem lowMix_len (s:ByteArray) (k:Nat) (hk:k≤s.size):(lowMix s k).length=s.size:=by
 unfold lowMix;rw[List.length_append,List.length_take,lowL_len,size_len,List.length_replicate];omega
theorem lowMix_end (s:ByteArray):lowMix s s.size=lowL s.data.toList:=by
 unfold lowMix;rw[Nat.sub_self,List.replicate_zero,List.append_nil,List.take_of_length_le];rw[lowL_len,size_len];exact Nat.le_refl _
theorem lowMix_start (s:ByteArray):lowMix s 0=List.replicate s.size 0:=by unfold lowMix;simp
theorem lowMix_set (s:ByteArray) (k:Nat) (hk:k < s.size):(u8s (lowMix s k)).toArray.setIfInBounds k (.int .u8 (lowC (s.data.toList.getD k 0)).toNat)=(u8s (lowMix s (k + 1))).toArray:=by
 have hl:=lowMix_len s k (by omega)
 apply Array.ext'
 rw[Array.toList_setIfInBounds]
 show (u8s (lowMix s k)).set k _=u8s (lowMix s (k + 1))
 unfold u8s
 rw[← List.map_set]
 congr 1
 unfold lowMix
 have h1:((lowL s.data.toList).take k).length=k:=by rw[List.length_take,lowL_len,size_len];omega
 rw[List.set_append_right _ _ (by rw[h1];exact Nat.le_refl _),h1,Nat.sub_self]
 have h2:s.size - k=(s.size - (k + 1)) + 1:=by omega
 rw[h2,List.replicate_succ,List.set_cons_zero,take_snocL (lowL s.data.toList) k 0 (by rw[lowL_len,size_len];exact hk),List.append_assoc]
 congr 1
 rw[List.singleton_append]
 congr 1
 unfold lowL
 simp only[List.getD_eq_getElem?_getD,List.getElem?_map]
 rw[List.getElem?_eq_getElem (by rw[size_len];exact hk)]
 rfl
theorem each_any (s:ByteArray) (w:World) :
  Calls Tryz.prog 122 #[.string s,.func (.func 121) #[] #[]] w fun e w'=>e=.returned (.func (.func 178) #[] #[.pointer (some ⟨w.heap.size,0,none⟩),.pointer (some ⟨w.heap.size + 1,0,none⟩)]) ∧
   (w.alloc (.cells #[.string s] 9)).alloc (.cells #[.func (.func 121) #[] #[]] 169)=w':=by
 have hmf:∀ (fn:Fn) (first cap:Array Value) (w:World),(Instr.makeFunc fn first cap).run Tryz.prog w=.ok (.func fn first cap) w:=fun _ _ _ _=>rfl
 go_enter Tryz.func122,Tryz.ntmps122
 go_wp2
 go_ret
 exact⟨rfl,rfl⟩
theorem each_stops (n:Nat) (hn:2≤n) (Bs Bw:Nat) (s:ByteArray) (hs:s.size≤1048576) (w:World) (hBs:Bs < w.heap.size) (hBw:Bw < w.heap.size)
  (h1:w.cell? ⟨Bs,0,none⟩=some (.string s)) (h2:w.cell? ⟨Bw,0,none⟩=some (.func (.func 121) #[] #[])) :
  SeqG n Tryz.prog 178 #[.pointer (some ⟨Bs,0,none⟩),.pointer (some ⟨Bw,0,none⟩)] (fun x:Nat×UInt8=>#[.int .i64 (x.1:Int),.int .u8 x.2.toNat]) (KeepAt fun k=>k=Bs∨k=Bw) (fun pre x _=>pre.length < s.size∧x=lowAt s pre.length)
   (fun xs=>xs=upto (lowAt s) s.size) (fun pre=>∃ k,k≤s.size∧pre=upto (lowAt s) k) w:=fun l J Jx W hW hJ _ hY h0=>by
 refine(each1_in n hn l Bs Bw s hs J Jx (fun k=>k=Bs∨k=Bw) (Or.inl rfl) (Or.inr rfl) hY (fun pre W1 h=>abides_below hJ h (Below.refl _ _).drew) W ((hW.cell (p:=⟨Bs,0,none⟩) hBs).trans h1) ((hW.cell (p:=⟨Bw,0,none⟩) hBw).trans h2) h0).mono ?_
 rintro e W' ⟨he,⟨ys,hy,hj⟩|⟨pre,hp,hj⟩⟩
 ·exact⟨he,.inl ⟨ys,hy,hj⟩⟩
 ·exact⟨he,.inr ⟨pre,hp,hj⟩⟩
theorem made_u8 (n:Nat):madeCells #[.int .u8 0] n=(u8s (List.replicate n 0)).toArray:=by
 unfold madeCells u8s
 apply Array.ext'
 simp only[Array.toList_map,Array.toList_range,List.map_replicate]
 apply List.ext_getElem (by simp)
 intro i h1 h2
 have:i % 1=0:=Nat.mod_one i
 simp[this]
set_option maxHeartbeats 2000000 in
theorem lower_any (s:ByteArray) (w:World) (hs:s.size≤1048576) :
  Calls Tryz.prog 75 #[.string s] w fun e w'=>e=.returned (.string (bs (lowL s.data.toList)))∧Below w.heap.size w w':=by
 refine callsIn_wide.1 (callsIn_of_wp_marks (n:=9) Tryz.func75 rfl trivial ?_ rfl)
 simp only[Tryz.ntmps75,List.size_toArray,List.length_cons,List.length_nil,Nat.reduceAdd,Nat.reduceSub,Array.replicate_succ,Array.replicate_zero,List.push_toArray,List.append_toArray,List.nil_append,List.cons_append]
 refine wpIn_wide.2 ?_
 have hmk:=fun w1:World=>run_make_row' (P:=Tryz.prog) 118 5 (.int .u8 0) 1 Tryz.underlying118 Tryz.info5 rfl .i64 .i64 s.size (by omega) (by omega) w1
 go_wp2_with (go_at_call 122;refine(each_any s _).mono ?_;rintro e w' ⟨rfl,rfl⟩)
 obtain⟨W0,hW0⟩:∃ W0,(((w.alloc (.cells (madeCells #[.int .u8 0] s.size) 5)).alloc (.cells #[.slice (some ⟨w.heap.size,0,none⟩) s.size s.size] 118)).alloc (.cells #[.string s] 9)).alloc (.cells #[.func (.func 121) #[] #[]] 169)=W0:=⟨_,rfl⟩
 have hb0:Below w.heap.size w W0:=by rw[← hW0];exact((((Below.refl _ _).alloc (Nat.le_refl _) _).alloc (by simp) _).alloc (by simp <;> omega) _).alloc (by simp <;> omega) _
 have hz0:W0.heap.size=w.heap.size + 4:=by rw[← hW0];simp
 have r0:W0.heap[w.heap.size]? = some (.cells (u8s (lowMix s 0)).toArray 5 (0,0)):=by
  rw[← hW0,Below.heap_alloc _ _ _ (by simp <;> omega),Below.heap_alloc _ _ _ (by simp <;> omega),Below.heap_alloc _ _ _ (by simp),heap_alloc_new,lowMix_start,made_u8]
 have x0:Boxed W0 (w.heap.size + 1) 118 (.slice (some ⟨w.heap.size,0,none⟩) s.size s.size):=by
  unfold Boxed
  rw[← hW0,Below.heap_alloc _ _ _ (by simp <;> omega),Below.heap_alloc _ _ _ (by simp)]
  have:=heap_alloc_new (w.alloc (.cells (madeCells #[.int .u8 0] s.size) 5)) (.cells #[.slice (some ⟨w.heap.size,0,none⟩) s.size s.size] 118)
  simpa using this
 have c1:W0.cell? ⟨w.heap.size + 1 + 1,0,none⟩=some (.string s):=by
  rw[← hW0,World.cell?_alloc_past _ _ _ (by simp),World.cell?_alloc_at _ _ _ _ (by simp)];rfl
 have c2:W0.cell? ⟨w.heap.size + 1 + 1 + 1,0,none⟩=some (.func (.func 121) #[] #[]):=by
  rw[← hW0,World.cell?_alloc_at _ _ _ _ (by simp)];rfl
 rw[hW0]
 clear hW0
 have HR0:=Lib.hid r0
 clear r0
 refine(wpIn_wide (n:=9)).1 ?_
 refine range_over (n:=9) (gf:=178) (lb:=#[.pointer (some ⟨w.heap.size + 1 + 1,0,none⟩),.pointer (some ⟨w.heap.size + 1 + 1 + 1,0,none⟩)]) rfl (enters_of Tryz.func178 (by kernel_rfl) rfl)
  (each_stops 8 (by omega) (w.heap.size + 1 + 1) (w.heap.size + 1 + 1 + 1) s hs W0 (by omega) (by omega) c1 c2) KeepAt.trans (fun W l o hl=>KeepAt.putObj (n:=W0.heap.size) (fun k hk=>by omega) W l o hl) (Below.refl _ _) (fun _=>rfl)
  (fun (pre:List (Nat×UInt8)) W=>(W.heap[w.heap.size]? = some (.cells (u8s (lowMix s pre.length)).toArray 5 (0,0))∧Boxed W (w.heap.size + 1) 118 (.slice (some ⟨w.heap.size,0,none⟩) s.size s.size))∧Below w.heap.size w W)
  (fun _ _ _=>False)
  (OwnFrom.and (OwnFrom.and (own_block (fun _=>w.heap.size) (fun (pre:List (Nat×UInt8))=>.cells (u8s (lowMix s pre.length)).toArray 5 (0,0)) (fun _=>rfl)) (own_block (fun _=>w.heap.size + 1) (fun _=>.cells #[.slice (some ⟨w.heap.size,0,none⟩) s.size s.size] 118 (0,0)) (fun _=>rfl)))
   (ownFrom_below (Nat.le_refl _) (by omega)))
  (fun _ _ _ _ _ h _ _=>h) (fun _ _ _ _ _ h _ _=>h)
  ⟨⟨HR0.out,x0⟩,hb0⟩
  ?a1 ?assign ?body ?done ?stop
 case assign =>
  intro l x W K hK
  gi_wp2
  exact hK
 case body =>
  rintro l pre x W ⟨⟨hr,hx⟩,hb⟩ ⟨hlt,rfl⟩
  have hcx:=hx.cell
  have hd:=lowMix_set s pre.length hlt
  have hlen:=lowMix_len s pre.length (by omega)
  obtain⟨k,hk⟩:∃ k,k=pre.length:=⟨_,rfl⟩
  rw[← hk] at hr hd hlt hlen
  have hc:W.cell? ⟨w.heap.size,k,none⟩=some (.int .u8 ((lowMix s k).getD k 0).toNat):=by
   rw[Lib.cell_of_heap hr];unfold u8s;simp[hlen,hlt]
  have hf:W.frozen? ⟨w.heap.size,k,none⟩=false:=Lib.frozen_of_heap hr k
  have HR:=Lib.hid hr
  have HD:=Lib.hid hd
  clear hr hd
  unfold lowAt
  rw[← hk]
  obtain⟨c,hcc⟩:∃ c,c=lowC (s.data.toList.getD k 0):=⟨_,rfl⟩
  rw[← hcc] at HD ⊢
  clear hcc
  have HK:=Lib.hid hk
  clear hk
  gi_wp2
  refine⟨(KeepsOthers.setCell _ _ _).from _,KeepAt.setCell _ _ _ (by simp <;> omega),⟨⟨?_,?_⟩,hb.setCell (Nat.le_refl _) _⟩⟩
  ·rw[List.length_append,← HK.out,heap_setCell_same W w.heap.size k _ 5 _ HR.out,HD.out];rfl
  ·unfold Boxed;rw[Below.heap_setCell _ _ _ _ (by simp)];exact hx
 case done =>
  rintro D ys W hD rfl ⟨⟨hr,hx⟩,hb⟩ hK
  rw[upto_length,lowMix_end] at hr
  have hcx:=hx.cell
  have ho:W.ownsRow w.heap.size 5 1 (.slice (some ⟨w.heap.size,0,none⟩) (lowL s.data.toList).length s.size) (lowL s.data.toList).length (Deci.u8s (lowL s.data.toList)):=by
   refine⟨by simp[Deci.u8s],Or.inr ⟨w.heap.size,s.size,_,rfl,Nat.le_refl _,hr,by rw[lowL_len,size_len];exact Nat.le_refl _,by unfold maxLen;omega,by simp[u8s,lowL_len],?_⟩⟩
   rw[Nat.mul_one,List.take_of_length_le (by simp[u8s])];rfl
  rw[lowL_len,size_len] at ho
  have hcv:=Deci.run_convert_owned (P:=Tryz.prog) 118 9 Tryz.underlying118 Tryz.underlying5 Tryz.underlying9 (l:=lowL s.data.toList) (by rw[lowL_len,size_len];exact ho)
  go_wp2
  refine⟨by simp,.inl ⟨_,_,rfl,run_takeDeferred hK,?_⟩⟩
  exact⟨_,results_tmp rfl _ _ _,rfl,hb.trans (belowK_b (w:=w) (Nat.le_refl _) W D _ _ (by omega) hK rfl rfl)⟩
 case stop =>
  rintro D c pre W _ _ h _
  exact h.elim
theorem same_any (a b:ByteArray) (w:World) (ha:a.size≤1048576) (hb:b.size≤1048576) :
  Calls Tryz.prog 35 #[.string a,.string b] w fun e w'=>e=.returned (.bool (sameL a.data.toList b.data.toList))∧Below w.heap.size w w':=by
 go_enter Tryz.func35,Tryz.ntmps35
 go_wp2_with fail
 refine(lower_any a _ ha).mono ?_
 rintro e w1 ⟨rfl,b1⟩
 go_wp2_with fail
 refine(lower_any b _ hb).mono ?_
 rintro e w2 ⟨rfl,b2⟩
 go_wp2
 go_ret
 exact⟨ret_bool (by unfold sameL;rw[toList_data,toList_data,bs_list,bs_list]),below_then b1 b2⟩
end
end Go.Proofs.YtdlkjofnnefjfaaGreatDoor
