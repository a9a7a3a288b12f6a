/- The walks of the library's Builder (a byte written), of layer 3's put, and of a digit's worth: for every Builder of at most 10000000 bytes. The plain words of layer 3, and the walks of its sets: for every set and byte. The plain law of layer 3's encoding, and the walks of Encode and Ready: for every text of at most 3000000 bytes. -/
import Derived.Test.YtdlkjofnnefjfaaGreatDoorZRange
import Derived.Lib.Builder
import Derived.Deep.AppendLies
import Derived.RegionTactic
import Derived.Test.YtdlkjofnnefjfaaGreatDoorZShelfA
import Derived.Deep.RegionHeld3
set_option linter.all false
namespace Go.Proofs.YtdlkjofnnefjfaaGreatDoor
set_option maxRecDepth 100000
section
open Go.RowKit
theorem Tryz.info5:(Tryz.prog.info? 5).map (fun i=>(i.zero,i.size,i.bytes))=some (some (.int .u8 0),1,1):=by kernel_rfl
def u8s (l:List UInt8):List Value:=l.map fun b=>Value.int .u8 b.toNat
structure Bld (B b:Nat) (v:Value) (bs:List UInt8) (w:World):Prop where
 lo:B≤b
 blk:∃ p,(p=.pointer none∨p=.pointer (some ⟨b,0,none⟩))∧w.heap[b]? = some (.cells #[p,v] 120 (0,0))
 own:w.ownsRow B 5 1 v bs.length (u8s bs)
 ne:v.ownBlock≠some b
structure Stay (b:Nat) (v v':Value) (w w':World):Prop where
 os:w'.os=w.os
 tape:w'.tape=w.tape
 output:w'.output=w.output
 size:w.heap.size≤w'.heap.size
 block:∀ k,k < w.heap.size→k≠b→some k≠v.ownBlock→w'.heap[k]? = w.heap[k]?
 buf:∀ g,v'.ownBlock=some g→v.ownBlock=some g∨w.heap.size≤g
theorem Stay.refl (b:Nat) (v:Value) (w:World):Stay b v v w w:=⟨rfl,rfl,rfl,Nat.le_refl _,fun _ _ _ _=>rfl,fun _ h=>Or.inl h⟩
theorem Stay.trans {b:Nat} {v v' v'':Value} {w w' w'':World} (h:Stay b v v' w w') (k:Stay b v' v'' w' w''):Stay b v v'' w w'' :=
 ⟨k.os.trans h.os,k.tape.trans h.tape,k.output.trans h.output,Nat.le_trans h.size k.size,
  fun i hi hb hv=>(k.block i (Nat.lt_of_lt_of_le hi h.size) hb (fun e=>by
   rcases h.buf i e.symm with h'|h'
   ·exact hv h'.symm
   ·omega)).trans (h.block i hi hb hv),
  fun g hg=>by
   rcases k.buf g hg with h'|h'
   ·exact h.buf g h'
   ·right;have:=h.size;omega⟩
theorem Stay.below {B b:Nat} {v v':Value} {w w':World} (h:Stay b v v' w w') (hb:B≤b) (hv:∀ g,v.ownBlock=some g→B≤g) (hB:B≤w.heap.size):Below B w w' :=
 ⟨h.os,h.tape,h.output,h.size,fun k hk=>h.block k (by omega) (by omega) (fun e=>by have:=hv k e.symm;omega)⟩
theorem shape_of {w:World} {b:Nat} {p v:Value} (h:w.heap[b]? = some (.cells #[p,v] 120 (0,0))):w.shape? b=some (120,2):=by
 simp[World.shape?,h]
theorem sizeBuilder:(Tryz.prog.info? 120).map (·.size)=some 2:=by kernel_rfl
theorem liesBuilder:liesAt Tryz.prog Tryz.prog.depth 120 (2 / Tryz.prog.cellsOf 120) 0 120 1=true:=by kernel_rfl
theorem check_used (b:Nat) (w:World) (h0:w.cell? ⟨b,0,none⟩=some (.pointer (some ⟨b,0,none⟩))) :
  Calls Tryz.prog 123 #[.pointer (some ⟨b,0,none⟩)] w fun e w'=>e=.returned (.tuple #[])∧w=w':=by
 obtain⟨j,hj,_⟩:=Option.map_eq_some_iff.1 sizeBuilder
 go_enter Tryz.func123,Tryz.ntmps123
 go_wp2
 rw[Lib.run_neq_ptr_same w _ Tryz.underlying117 hj]
 go_wp2
 go_end0
 exact⟨rfl,rfl⟩
theorem check_fresh (b:Nat) (w:World) (h0:w.cell? ⟨b,0,none⟩=some (.pointer none)) (hsh:w.shape? b=some (120,2)) (hf:w.frozen? ⟨b,0,none⟩=false) :
  Calls Tryz.prog 123 #[.pointer (some ⟨b,0,none⟩)] w fun e w'=>e=.returned (.tuple #[])∧w.setCell ⟨b,0,none⟩ (.pointer (some ⟨b,0,none⟩))=w':=by
 obtain⟨j,hj,hjs⟩:=Option.map_eq_some_iff.1 sizeBuilder
 go_enter Tryz.func123,Tryz.ntmps123
 go_wp2
 rw[Lib.run_to_unsafe w ⟨b,0,none⟩ Tryz.underlying117 Tryz.underlying179 hj (by rw[hjs];decide) hsh (Nat.zero_lt_succ 1)]
 simp only[Result.andThen]
 rw[Oper.upon_value]
 go_wp2
 rw[run_callFunc_extern Tryz.func179 (by kernel_rfl) (by kernel_rfl) (by kernel_rfl) (e:=Extern.AbiNoEscape.same) (by kernel_rfl)]
 rw[Lib.run_noEscape]
 simp only[Result.andThen]
 rw[Oper.upon_value]
 go_wp2
 rw[Lib.run_from_unsafe w ⟨b,0,none⟩ Tryz.underlying179 Tryz.underlying117 hj hsh liesBuilder]
 simp only[Result.andThen]
 rw[Oper.upon_value]
 go_wp2
 go_end0
 exact⟨rfl,rfl⟩
theorem u8s_snoc (l:List UInt8) (c:UInt8):u8s l++[Value.int .u8 c.toNat]=u8s (l++[c]):=by unfold u8s;rw[List.map_append];rfl
def Wrote (B b:Nat) (v:Value) (bs:List UInt8) (w:World) (e:Ending) (w':World):Prop:=e=.returned .nilIface∧∃ v',Bld B b v' bs w'∧Stay b v v' w w'
theorem wrote_end {B b g cap:Nat} {v:Value} {bs:List UInt8} {c:UInt8} {w w2:World} {o:Obj} (hlo:B≤b) (hblk:w.heap[b]? = some (.cells #[.pointer (some ⟨b,0,none⟩),v] 120 (0,0))) (hne:v.ownBlock≠some b)
  (hown':w2.ownsRow B 5 1 (.slice (some ⟨g,0,none⟩) (bs.length + 1) cap) (bs.length + 1) (u8s bs++[.int .u8 c.toNat])) (hgrow:(w.alloc o).grownBy w2 v.ownBlock) (hat:v.ownBlock=some g∨g=w.heap.size + 1) :
  Wrote B b v (bs++[c]) w (.returned .nilIface) (w2.setCell ⟨b,1,none⟩ (.slice (some ⟨g,0,none⟩) (bs.length + 1) cap)):=by
 have hlt:=heap_lt hblk
 have hb2:w2.heap[b]? = some (.cells #[.pointer (some ⟨b,0,none⟩),v] 120 (0,0)):=by
  rw[hgrow.block b (by simp;omega) (fun e=>hne e.symm),Below.heap_alloc _ _ _ hlt];exact hblk
 have hgb:g≠b:=by
  rcases hat with h|h
  ·intro e;subst e;exact hne h
  ·omega
 have hsz:=hgrow.size
 simp at hsz
 rw[u8s_snoc] at hown'
 refine⟨rfl,.slice (some ⟨g,0,none⟩) (bs.length + 1) cap,⟨hlo,⟨_,Or.inr rfl,?_⟩,?_,?_⟩,⟨hgrow.os,hgrow.tape,hgrow.output,?_,fun k hk hkb hkv=>?_,fun g' hg'=>?_⟩⟩
 ·rw[heap_setCell_same w2 b 1 _ 120 _ hb2];rfl
 ·have:=ownsRow_setCell_other hown' (a:=⟨b,1,none⟩) (by simp[Value.ownBlock];exact hgb) (.slice (some ⟨g,0,none⟩) (bs.length + 1) cap)
  simpa using this
 ·simp[Value.ownBlock];exact hgb
 ·simp[World.setCell];omega
 ·rw[Below.heap_setCell _ _ _ _ hkb,hgrow.block k (by simp;omega) hkv,Below.heap_alloc _ _ _ hk]
 ·simp[Value.ownBlock] at hg'
  subst hg'
  rcases hat with h|h
  ·exact Or.inl h
  ·exact Or.inr (by omega)
theorem write_gen (B b:Nat) (v:Value) (bs:List UInt8) (c:UInt8) (w0 w:World) (HC:Hid (Calls Tryz.prog 123 #[.pointer (some ⟨b,0,none⟩)] w0 fun e w'=>e=.returned (.tuple #[])∧w=w')) (hlo:B≤b) (hblk:w.heap[b]? = some (.cells #[.pointer (some ⟨b,0,none⟩),v] 120 (0,0))) (hown:w.ownsRow B 5 1 v bs.length (u8s bs)) (hne:v.ownBlock≠some b) (hlen:bs.length≤10000000) (hBw:B≤w.heap.size) :
  Calls Tryz.prog 205 #[.pointer (some ⟨b,0,none⟩),.int .u8 c.toNat] w0 (Wrote B b v (bs++[c]) w):=by
 obtain⟨i0,hi,hz0,hz1,hz2⟩:=info_parts Tryz.info5
 have c0:w.cell? ⟨b,0,none⟩=some (.pointer (some ⟨b,0,none⟩)):=by rw[Lib.cell_of_heap hblk];rfl
 have c1:w.cell? ⟨b,1,none⟩=some v:=by rw[Lib.cell_of_heap hblk];rfl
 have HBK:=Lib.hid hblk
 have hlt:=heap_lt hblk
 clear hblk
 go_enter Tryz.func205,Tryz.ntmps205
 go_wp2_with fail
 refine HC.out.mono ?_
 rintro e w' ⟨rfl,rfl⟩
 go_wp2_with (at_builtin;refine wpList_append_lies _ rfl _ _ 118 rfl B 5 i0 (.int .u8 0) 1 1 Tryz.underlying118 hi hz0 hz1 hz2 rfl (by decide) _ _ _ rfl (hown.alloc _) ⟨w.heap.size,0,none⟩ 1 1 [.int .u8 c.toNat] rfl rfl ?c1 ?c2 (by decide) ?c3 ?c4 ?c5 (w.heap.size + 1) ?c6 ?_)
 case c1=>exact new_one rfl
 case c2=>intro u hu;simp at hu;subst hu;rfl
 case c3=>unfold maxLen;omega
 case c4=>omega
 case c5=>simp;omega
 case c6=>simp
 intro g cap w2 hown' hgrow hat hlt2
 have hb2:w2.heap[b]? = some (.cells #[.pointer (some ⟨b,0,none⟩),v] 120 (0,0)):=by
  rw[hgrow.block b (by simp;omega) (fun e=>hne e.symm),Below.heap_alloc _ _ _ hlt];exact HBK.out
 have d0:w2.cell? ⟨b,0,none⟩=some (.pointer (some ⟨b,0,none⟩)):=by rw[Lib.cell_of_heap hb2];rfl
 have d1:w2.cell? ⟨b,1,none⟩=some v:=by rw[Lib.cell_of_heap hb2];rfl
 have f1:w2.frozen? ⟨b,1,none⟩=false:=Lib.frozen_of_heap hb2 1
 have R:=wrote_end hlo HBK.out hne hown' hgrow hat
 clear hb2 hown' hgrow hat
 go_wp2
 go_ret
 exact R
theorem write_any (B b:Nat) (v:Value) (bs:List UInt8) (c:UInt8) (w:World) (h:Bld B b v bs w) (hlen:bs.length≤10000000) (hBw:B≤w.heap.size) :
  Calls Tryz.prog 205 #[.pointer (some ⟨b,0,none⟩),.int .u8 c.toNat] w (Wrote B b v (bs++[c]) w):=by
 obtain⟨hlo,⟨p,hp,hblk⟩,hown,hne⟩:=h
 rcases hp with rfl|rfl
 ·have c0:w.cell? ⟨b,0,none⟩=some (.pointer none):=by rw[Lib.cell_of_heap hblk];rfl
  have f0:w.frozen? ⟨b,0,none⟩=false:=Lib.frozen_of_heap hblk 0
  have hb1:(w.setCell ⟨b,0,none⟩ (.pointer (some ⟨b,0,none⟩))).heap[b]? = some (.cells #[.pointer (some ⟨b,0,none⟩),v] 120 (0,0)):=by
   rw[heap_setCell_same w b 0 _ 120 _ hblk];rfl
  refine(write_gen B b v bs c w _ (check_fresh b w c0 (shape_of hblk) f0) hlo hb1 (ownsRow_setCell_other hown (a:=⟨b,0,none⟩) hne _) hne hlen (by simpa using hBw)).mono fun e w' ⟨he,v',h1,h2⟩=>⟨he,v',h1,h2.os,h2.tape,h2.output,?_,fun k hk hkb hkv=>?_,fun g hg=>?_⟩
  ·have:=h2.size;simpa using this
  ·rw[h2.block k (by simpa using hk) hkb hkv,Below.heap_setCell _ _ _ _ hkb]
  ·have:=h2.buf g hg;simpa using this
 ·have c0:w.cell? ⟨b,0,none⟩=some (.pointer (some ⟨b,0,none⟩)):=by rw[Lib.cell_of_heap hblk];rfl
  exact write_gen B b v bs c w w (check_used b w c0) hlo hblk hown hne hlen hBw
def Put (B b:Nat) (v:Value) (bs:List UInt8) (w:World) (e:Ending) (w':World):Prop:=e=.returned (.tuple #[])∧∃ v',Bld B b v' bs w'∧Stay b v v' w w'
set_option maxRecDepth 100000 in
theorem put_any (B b g cap:Nat) (v:Value) (bs l:List UInt8) (w:World) (h:Bld B b v bs w) (hlen:bs.length + l.length≤10000000) (hBw:B≤w.heap.size)
  (hc:∀ j,j < l.length→w.cell? ⟨g,j,none⟩=some (.int .u8 (l.getD j 0).toNat)) (hg:g < w.heap.size) (hgb:g≠b) (hgv:v.ownBlock≠some g) :
  Calls Tryz.prog 151 #[.pointer (some ⟨b,0,none⟩),.slice (some ⟨g,0,none⟩) l.length cap] w (Put B b v (bs++l) w):=by
 have HC:Hid (∀ j,j < l.length→w.cell? ⟨g,j,none⟩=some (.int .u8 (l.getD j 0).toNat)):=hc
 clear hc
 go_enter Tryz.func151,Tryz.ntmps151
 go_wp2
 go_loopw [8] (fun i wr=>∃ (k:Nat) (v1:Value),k≤l.length∧i=.int .i64 k∧Bld B b v1 (bs++l.take k) wr∧Stay b v v1 w wr) (fun i _=>l.length - (intOf i).toNat)
 case atStart=>exact⟨0,v,Nat.zero_le _,rfl,by simpa using h,Stay.refl _ _ _⟩
 case round =>
  obtain⟨k,v1,hk,rfl,HB,HS⟩:=hrel
  by_cases hlt:k < l.length
  ·have hcell:wr.cell? ⟨g,k,none⟩=some (.int .u8 (l.getD k 0).toNat):=by
    rw[World.cell?_of_block (HS.block g hg hgb (fun e=>hgv e.symm))]
    exact HC.out k hlt
   have hs:=HS.size
   obtain⟨c,hcc⟩:∃ c,c=l.getD k 0:=⟨_,rfl⟩
   rw[← hcc] at hcell
   have HCC:=Lib.hid hcc
   clear hcc
   go_wp2_with fail
   refine(write_any B b v1 _ c _ HB (by simp;omega) (by omega)).mono ?_
   rintro e w2 ⟨rfl,v2,h1,h2⟩
   go_wp2_with fail
   go_roundw
   case rel=>exact⟨k + 1,v2,by omega,by go_num,by rw[take_snocL l k 0 hlt,← HCC.out,← List.append_assoc];exact h1,HS.trans h2⟩
   case measure=>simp[intOf];omega
  ·have hkl:=List.take_of_length_le (l:=l) (i:=k) (by omega)
   rw[hkl] at HB
   clear hkl
   go_wp2
   go_end0
   exact⟨rfl,v1,HB,HS⟩
def hexN (n:Nat):Int:=if 48≤n∧n≤57 then (n:Int) - 48 else if 97≤n∧n≤102 then (n:Int) - 87 else if 65≤n∧n≤70 then (n:Int) - 55 else -1
theorem or32:∀ n:Fin 256,bits BinOp.or IntKind.u8 (n.val:Int) 32=((n.val ||| 32:Nat):Int):=by decide +kernel
theorem hex_let:∀ n:Fin 256,¬ (48≤n.val∧n.val≤57)→97≤(n.val ||| 32)→(n.val ||| 32)≤102→hexN n.val=((n.val ||| 32:Nat):Int) - 87∧65≤n.val:=by decide +kernel
theorem hex_not:∀ n:Fin 256,¬ (48≤n.val∧n.val≤57)→¬ (97≤(n.val ||| 32)∧(n.val ||| 32)≤102)→hexN n.val=-1:=by decide +kernel
theorem hex_any (c:UInt8) (w:World):Calls Tryz.prog 250 #[.int .u8 c.toNat] w fun e w'=>e=.returned (.int .i64 (hexN c.toNat))∧w=w':=by
 have hn:c.toNat < 256:=c.toNat_lt
 have h1:=or32 ⟨c.toNat,hn⟩
 have h2:=hex_let ⟨c.toNat,hn⟩
 have h3:=hex_not ⟨c.toNat,hn⟩
 simp only at h1 h2 h3
 obtain⟨n,hnn⟩:∃ n,n=c.toNat:=⟨_,rfl⟩
 rw[← hnn] at h1 h2 h3 hn ⊢
 clear hnn
 obtain⟨o,ho⟩:∃ o,o=n ||| 32:=⟨_,rfl⟩
 rw[← ho] at h1 h2 h3
 clear ho
 by_cases d1:48≤n∧n≤57
 ·have e:Hid (hexN n=(n:Int) - 48):=by show _=_;unfold hexN;rw[if_pos d1]
  obtain⟨d1,d2⟩:=d1
  clear h1 h2 h3
  go_enter Tryz.func250,Tryz.ntmps250
  go_wp2
  go_ret
  exact⟨ret_int (by rw[e.out]),rfl⟩
 ·by_cases d3:97≤o∧o≤102
  ·have e:=Lib.hid (h2 d1 d3.1 d3.2).1
   have d5:=(h2 d1 d3.1 d3.2).2
   obtain⟨d3,d4⟩:=d3
   clear h2 h3
   go_enter Tryz.func250,Tryz.ntmps250
   go_wp2
   go_ret
   exact⟨ret_int (by rw[e.out];omega),rfl⟩
  ·have e:=Lib.hid (h3 d1 d3)
   clear h2 h3
   by_cases dd:48≤n
   all_goals
    by_cases d6:97≤o
    all_goals
     go_enter Tryz.func250,Tryz.ntmps250
     go_wp2
     go_ret
     exact⟨ret_int (by rw[e.out]),rfl⟩
end
section
open Go.RowKit
def hasL (l:List UInt8) (c:UInt8):Bool:=l.any (· == c)
def low (c:UInt8):Bool:=decide (c.toNat < 32) || decide (126 < c.toNat)
def in2 (c:UInt8):Bool:=low c || hasL [32,34,35,39,60,62] c
def in3 (c:UInt8):Bool:=in2 c || hasL [63,94,96,123,125] c
def inS (set:Int) (c:UInt8):Bool :=
 if set=0 then low c else if set=1 then low c || hasL [32,34,60,62,96] c else if set=2 then in2 c
 else if set=3 then in3 c else if set=4 then in3 c || hasL [47,58,59,61,64,91,92,93,124] c else false
theorem idx_no:∀ (l:List UInt8) (c:UInt8),l.any (· == c)=false→Lib.indexByte l c=-1
 | [],_,_=>rfl
 | b::l,c,h=>by
  rw[List.any_cons,Bool.or_eq_false_iff] at h
  unfold Lib.indexByte
  rw[h.1,idx_no l c h.2];rfl
theorem idx_yes:∀ (l:List UInt8) (c:UInt8),l.any (· == c)=true→0≤Lib.indexByte l c
 | b::l,c,h=>by
  unfold Lib.indexByte
  cases hb:b == c with
  | true=>simp
  | false =>
   rw[List.any_cons,hb,Bool.false_or] at h
   have:=idx_yes l c h
   have hn:(Lib.indexByte l c == -1)=false:=by rw[beq_eq_false_iff_ne];omega
   rw[hn];simp;omega
theorem index_any (s:ByteArray) (c:UInt8) (w:World) :
  Calls Tryz.prog 153 #[.string s,.int .u8 c.toNat] w fun e w'=>e=.returned (.int .i64 (Lib.indexByte s.data.toList c))∧w=w':=by
 go_enter Tryz.func153,Tryz.ntmps153
 go_wp2
 rw[run_callFunc_extern Tryz.func207 (by kernel_rfl) (by kernel_rfl) (by kernel_rfl) (e:=Extern.BytealgIndexByte.indexByte) (by kernel_rfl),Lib.run_indexByteString]
 simp only[Result.andThen]
 rw[Oper.upon_value]
 go_wp2
 go_ret
 exact⟨by simp,rfl⟩
theorem has_any (s:ByteArray) (c:UInt8) (a:Addr) (w:World) (hc:w.cell? a=some (.int .u8 c.toNat)) :
  Calls Tryz.prog 199 #[.string s,.pointer (some a)] w fun e w'=>e=.returned (.bool (s.data.toList.any (· == c)))∧w=w':=by
 cases h:s.data.toList.any (· == c) with
 | true =>
  have hi:=idx_yes _ _ h
  clear h
  go_enter Tryz.func199,Tryz.ntmps199
  go_wp2_with fail
  go_in
  go_wp2_with fail
  refine(index_any s c _).mono ?_
  rintro e w' ⟨rfl,rfl⟩
  go_wp2
  go_ret
  exact⟨ret_bool (by first|rfl|simp|(simp;omega)),rfl⟩
 | false =>
  have hi:=idx_no _ _ h
  clear h
  go_enter Tryz.func199,Tryz.ntmps199
  go_wp2_with fail
  go_in
  go_wp2_with fail
  refine(index_any s c _).mono ?_
  rintro e w' ⟨rfl,rfl⟩
  go_wp2
  go_ret
  exact⟨ret_bool (by first|rfl|(rw[hi];rfl)),rfl⟩
theorem has_is (s:ByteArray) (c:UInt8) (b:Bool) (a:Addr) (w:World) (hc:w.cell? a=some (.int .u8 c.toNat)) (hb:hasL s.data.toList c=b) :
  Calls Tryz.prog 199 #[.string s,.pointer (some a)] w fun e w'=>e=.returned (.bool b)∧w=w':=by
 subst hb;exact has_any s c a w hc
theorem low_any (c:UInt8) (a:Addr) (w:World) (hc:w.cell? a=some (.int .u8 c.toNat)) (b:Bool) (hb:low c=b) :
  Calls Tryz.prog 200 #[.pointer (some a)] w fun e w'=>e=.returned (.bool b)∧w=w':=by
 have e1:low c=(decide ((c.toNat:Int) < 32) || decide ((126:Int) < (c.toNat:Int))):=by
  unfold low
  congr 1
  ·rw[decide_eq_decide];omega
  ·rw[decide_eq_decide];omega
 rw[hb] at e1
 have E1:=Lib.hid e1
 clear e1 hb
 by_cases h1:c.toNat < 32
 ·go_enter Tryz.func200,Tryz.ntmps200
  go_wp2
  go_ret
  exact⟨ret_bool (by rw[E1.out];first|rfl|(rw[decide_eq_true (show (c.toNat:Int) < 32 by omega)];rfl)),rfl⟩
 ·by_cases h2:126 < c.toNat
  ·go_enter Tryz.func200,Tryz.ntmps200
   go_wp2
   go_ret
   exact⟨ret_bool (by rw[E1.out]),rfl⟩
  ·go_enter Tryz.func200,Tryz.ntmps200
   go_wp2
   go_ret
   exact⟨ret_bool (by rw[E1.out]),rfl⟩
def inObjs (n:Nat) (c:UInt8):World→World:=fun w =>
 ((w.alloc (.cells #[.int .u8 c.toNat] 5)).alloc (.cells #[.func (.func 199) #[] #[.pointer (some ⟨n,0,none⟩)]] 79)).alloc
  (.cells #[.func (.func 200) #[] #[.pointer (some ⟨n,0,none⟩)],.func (.func 201) #[] #[.pointer (some ⟨n,0,none⟩),.pointer (some ⟨n + 1,0,none⟩)],
   .func (.func 202) #[] #[.pointer (some ⟨n,0,none⟩),.pointer (some ⟨n + 1,0,none⟩)],.func (.func 203) #[] #[.pointer (some ⟨n,0,none⟩),.pointer (some ⟨n + 1,0,none⟩)],
   .func (.func 204) #[] #[.pointer (some ⟨n,0,none⟩),.pointer (some ⟨n + 1,0,none⟩)]] 269)
theorem in_cell0 (c:UInt8) (w:World):(inObjs w.heap.size c w).cell? ⟨w.heap.size,0,none⟩=some (.int .u8 c.toNat):=by
 unfold inObjs
 rw[World.cell?_alloc_past _ _ _ (by simp;omega),World.cell?_alloc_past _ _ _ (by simp),World.cell?_alloc_at _ _ _ _ rfl];rfl
theorem in_cell1 (c:UInt8) (w:World):(inObjs w.heap.size c w).cell? ⟨w.heap.size + 1,0,none⟩=some (.func (.func 199) #[] #[.pointer (some ⟨w.heap.size,0,none⟩)]):=by
 unfold inObjs
 rw[World.cell?_alloc_past _ _ _ (by simp),World.cell?_alloc_at _ _ _ _ (by simp)];rfl
theorem in_below (c:UInt8) (w:World):Below w.heap.size w (inObjs w.heap.size c w):=by
 unfold inObjs
 exact(((Below.refl _ _).alloc (Nat.le_refl _) _).alloc (by simp) _).alloc (by simp;omega) _
theorem in_size (c:UInt8) (w:World):w.heap.size≤(inObjs w.heap.size c w).heap.size:=(in_below c w).size
theorem below_in {c:UInt8} {w w':World} (h:Below (inObjs w.heap.size c w).heap.size (inObjs w.heap.size c w) w'):Below w.heap.size w w':=(in_below c w).trans (h.mono (in_size c w))
def InOf (set:Int) (c:UInt8) (b:Bool):Prop:=∀ w:World,Calls Tryz.prog 150 #[.int .i64 set,.int .u8 c.toNat] w fun e w'=>e=.returned (.bool b)∧Below w.heap.size w w'
theorem in_0 (c:UInt8) (b:Bool) (hb:low c=b):InOf 0 c b:=by
 intro w
 have hmf:∀ (fn:Fn) (first cap:Array Value) (w:World),(Instr.makeFunc fn first cap).run Tryz.prog w=.ok (.func fn first cap) w:=fun _ _ _ _=>rfl
 have HC:=Lib.hid (low_any c ⟨w.heap.size,0,none⟩ (inObjs w.heap.size c w) (in_cell0 c w) b hb)
 have HB:=Lib.hid (in_below c w)
 go_enter Tryz.func150,Tryz.ntmps150
 go_wp2_with fail
 refine(show Calls Tryz.prog 200 #[.pointer (some ⟨w.heap.size,0,none⟩)] _ _ from HC.out).mono ?_
 rintro e w' ⟨rfl,rfl⟩
 go_wp2
 go_ret
 exact⟨rfl,HB.out⟩
theorem in_out (c:UInt8) (set:Int) (hs:set < 0∨5≤set):InOf set c false:=by
 intro w
 have hmf:∀ (fn:Fn) (first cap:Array Value) (w:World),(Instr.makeFunc fn first cap).run Tryz.prog w=.ok (.func fn first cap) w:=fun _ _ _ _=>rfl
 have HB:=Lib.hid (in_below c w)
 rcases hs with hs|hs
 ·go_enter Tryz.func150,Tryz.ntmps150
  go_wp2
  go_ret
  exact⟨ret_bool (by first|rfl|(simp;omega)),HB.out⟩
 ·go_enter Tryz.func150,Tryz.ntmps150
  go_wp2
  go_ret
  exact⟨ret_bool (by first|rfl|(simp;omega)),HB.out⟩
theorem set23_yes (c:UInt8) (a h:Addr) (w:World) (ha:w.cell? a=some (.int .u8 c.toNat)) (hin:InOf 0 c true) :
  Calls Tryz.prog 201 #[.pointer (some a),.pointer (some h)] w fun e w'=>e=.returned (.bool true)∧Below w.heap.size w w':=by
 go_enter Tryz.func201,Tryz.ntmps201
 go_wp2_with fail
 refine(hin _).mono ?_
 rintro e w1 ⟨rfl,b1⟩
 go_wp2
 go_ret
 exact⟨rfl,b1⟩
theorem set23_no (c:UInt8) (b:Bool) (a h:Addr) (w:World) (ha:w.cell? a=some (.int .u8 c.toNat)) (hh:w.cell? h=some (.func (.func 199) #[] #[.pointer (some a)])) (hin:InOf 0 c false) (hb:hasL [32,34,60,62,96] c=b) :
  Calls Tryz.prog 201 #[.pointer (some a),.pointer (some h)] w fun e w'=>e=.returned (.bool b)∧Below w.heap.size w w':=by
 have la:=World.block_lt_of_cell? w _ ha
 have lh:=World.block_lt_of_cell? w _ hh
 have HH:=Lib.hid hh
 have HA:=Lib.hid ha
 clear hh
 go_enter Tryz.func201,Tryz.ntmps201
 go_wp2_with fail
 refine(hin _).mono ?_
 rintro e w1 ⟨rfl,b1⟩
 have ha1:w1.cell? a=some (.int .u8 c.toNat):=(b1.cell la).trans HA.out
 have hh1:w1.cell? h=some (.func (.func 199) #[] #[.pointer (some a)]):=(b1.cell lh).trans HH.out
 clear ha
 go_wp2_with fail
 refine(has_is ⟨#[32,34,60,62,96]⟩ c b a _ ha1 hb).mono ?_
 rintro e w' ⟨rfl,rfl⟩
 go_wp2
 go_ret
 exact⟨rfl,b1⟩
theorem in_1 (c:UInt8) (b1 b2:Bool) (h1:InOf 0 c b1) (h2:hasL [32,34,60,62,96] c=b2):InOf 1 c (b1 || b2):=by
 intro w
 have hmf:∀ (fn:Fn) (first cap:Array Value) (w:World),(Instr.makeFunc fn first cap).run Tryz.prog w=.ok (.func fn first cap) w:=fun _ _ _ _=>rfl
 have HC:Hid (Calls Tryz.prog 201 #[.pointer (some ⟨w.heap.size,0,none⟩),.pointer (some ⟨w.heap.size + 1,0,none⟩)] (inObjs w.heap.size c w) fun e w'=>e=.returned (.bool (b1 || b2))∧Below (inObjs w.heap.size c w).heap.size (inObjs w.heap.size c w) w'):=by
  cases b1 with
  | true=>exact set23_yes c _ _ _ (in_cell0 c w) h1
  | false=>exact set23_no c b2 _ _ _ (in_cell0 c w) (in_cell1 c w) h1 h2
 go_enter Tryz.func150,Tryz.ntmps150
 go_wp2_with fail
 refine(show Calls Tryz.prog 201 #[.pointer (some ⟨w.heap.size,0,none⟩),.pointer (some ⟨w.heap.size + 1,0,none⟩)] _ _ from HC.out).mono ?_
 rintro e w1 ⟨rfl,q1⟩
 go_wp2
 go_ret
 exact⟨rfl,below_in q1⟩
theorem set24_yes (c:UInt8) (a h:Addr) (w:World) (ha:w.cell? a=some (.int .u8 c.toNat)) (hin:InOf 0 c true) :
  Calls Tryz.prog 202 #[.pointer (some a),.pointer (some h)] w fun e w'=>e=.returned (.bool true)∧Below w.heap.size w w':=by
 go_enter Tryz.func202,Tryz.ntmps202
 go_wp2_with fail
 refine(hin _).mono ?_
 rintro e w1 ⟨rfl,b1⟩
 go_wp2
 go_ret
 exact⟨rfl,b1⟩
theorem set24_no (c:UInt8) (b:Bool) (a h:Addr) (w:World) (ha:w.cell? a=some (.int .u8 c.toNat)) (hh:w.cell? h=some (.func (.func 199) #[] #[.pointer (some a)])) (hin:InOf 0 c false) (hb:hasL [32,34,35,39,60,62] c=b) :
  Calls Tryz.prog 202 #[.pointer (some a),.pointer (some h)] w fun e w'=>e=.returned (.bool b)∧Below w.heap.size w w':=by
 have la:=World.block_lt_of_cell? w _ ha
 have lh:=World.block_lt_of_cell? w _ hh
 have HH:=Lib.hid hh
 have HA:=Lib.hid ha
 clear hh
 go_enter Tryz.func202,Tryz.ntmps202
 go_wp2_with fail
 refine(hin _).mono ?_
 rintro e w1 ⟨rfl,b1⟩
 have ha1:w1.cell? a=some (.int .u8 c.toNat):=(b1.cell la).trans HA.out
 have hh1:w1.cell? h=some (.func (.func 199) #[] #[.pointer (some a)]):=(b1.cell lh).trans HH.out
 clear ha
 go_wp2_with fail
 refine(has_is ⟨#[32,34,35,39,60,62]⟩ c b a _ ha1 hb).mono ?_
 rintro e w' ⟨rfl,rfl⟩
 go_wp2
 go_ret
 exact⟨rfl,b1⟩
theorem in_2 (c:UInt8) (b1 b2:Bool) (h1:InOf 0 c b1) (h2:hasL [32,34,35,39,60,62] c=b2):InOf 2 c (b1 || b2):=by
 intro w
 have hmf:∀ (fn:Fn) (first cap:Array Value) (w:World),(Instr.makeFunc fn first cap).run Tryz.prog w=.ok (.func fn first cap) w:=fun _ _ _ _=>rfl
 have HC:Hid (Calls Tryz.prog 202 #[.pointer (some ⟨w.heap.size,0,none⟩),.pointer (some ⟨w.heap.size + 1,0,none⟩)] (inObjs w.heap.size c w) fun e w'=>e=.returned (.bool (b1 || b2))∧Below (inObjs w.heap.size c w).heap.size (inObjs w.heap.size c w) w'):=by
  cases b1 with
  | true=>exact set24_yes c _ _ _ (in_cell0 c w) h1
  | false=>exact set24_no c b2 _ _ _ (in_cell0 c w) (in_cell1 c w) h1 h2
 go_enter Tryz.func150,Tryz.ntmps150
 go_wp2_with fail
 refine(show Calls Tryz.prog 202 #[.pointer (some ⟨w.heap.size,0,none⟩),.pointer (some ⟨w.heap.size + 1,0,none⟩)] _ _ from HC.out).mono ?_
 rintro e w1 ⟨rfl,q1⟩
 go_wp2
 go_ret
 exact⟨rfl,below_in q1⟩
theorem set25_yes (c:UInt8) (a h:Addr) (w:World) (ha:w.cell? a=some (.int .u8 c.toNat)) (hin:InOf 2 c true) :
  Calls Tryz.prog 203 #[.pointer (some a),.pointer (some h)] w fun e w'=>e=.returned (.bool true)∧Below w.heap.size w w':=by
 go_enter Tryz.func203,Tryz.ntmps203
 go_wp2_with fail
 refine(hin _).mono ?_
 rintro e w1 ⟨rfl,b1⟩
 go_wp2
 go_ret
 exact⟨rfl,b1⟩
theorem set25_no (c:UInt8) (b:Bool) (a h:Addr) (w:World) (ha:w.cell? a=some (.int .u8 c.toNat)) (hh:w.cell? h=some (.func (.func 199) #[] #[.pointer (some a)])) (hin:InOf 2 c false) (hb:hasL [63,94,96,123,125] c=b) :
  Calls Tryz.prog 203 #[.pointer (some a),.pointer (some h)] w fun e w'=>e=.returned (.bool b)∧Below w.heap.size w w':=by
 have la:=World.block_lt_of_cell? w _ ha
 have lh:=World.block_lt_of_cell? w _ hh
 have HH:=Lib.hid hh
 have HA:=Lib.hid ha
 clear hh
 go_enter Tryz.func203,Tryz.ntmps203
 go_wp2_with fail
 refine(hin _).mono ?_
 rintro e w1 ⟨rfl,b1⟩
 have ha1:w1.cell? a=some (.int .u8 c.toNat):=(b1.cell la).trans HA.out
 have hh1:w1.cell? h=some (.func (.func 199) #[] #[.pointer (some a)]):=(b1.cell lh).trans HH.out
 clear ha
 go_wp2_with fail
 refine(has_is ⟨#[63,94,96,123,125]⟩ c b a _ ha1 hb).mono ?_
 rintro e w' ⟨rfl,rfl⟩
 go_wp2
 go_ret
 exact⟨rfl,b1⟩
theorem in_3 (c:UInt8) (b1 b2:Bool) (h1:InOf 2 c b1) (h2:hasL [63,94,96,123,125] c=b2):InOf 3 c (b1 || b2):=by
 intro w
 have hmf:∀ (fn:Fn) (first cap:Array Value) (w:World),(Instr.makeFunc fn first cap).run Tryz.prog w=.ok (.func fn first cap) w:=fun _ _ _ _=>rfl
 have HC:Hid (Calls Tryz.prog 203 #[.pointer (some ⟨w.heap.size,0,none⟩),.pointer (some ⟨w.heap.size + 1,0,none⟩)] (inObjs w.heap.size c w) fun e w'=>e=.returned (.bool (b1 || b2))∧Below (inObjs w.heap.size c w).heap.size (inObjs w.heap.size c w) w'):=by
  cases b1 with
  | true=>exact set25_yes c _ _ _ (in_cell0 c w) h1
  | false=>exact set25_no c b2 _ _ _ (in_cell0 c w) (in_cell1 c w) h1 h2
 go_enter Tryz.func150,Tryz.ntmps150
 go_wp2_with fail
 refine(show Calls Tryz.prog 203 #[.pointer (some ⟨w.heap.size,0,none⟩),.pointer (some ⟨w.heap.size + 1,0,none⟩)] _ _ from HC.out).mono ?_
 rintro e w1 ⟨rfl,q1⟩
 go_wp2
 go_ret
 exact⟨rfl,below_in q1⟩
theorem set26_yes (c:UInt8) (a h:Addr) (w:World) (ha:w.cell? a=some (.int .u8 c.toNat)) (hin:InOf 3 c true) :
  Calls Tryz.prog 204 #[.pointer (some a),.pointer (some h)] w fun e w'=>e=.returned (.bool true)∧Below w.heap.size w w':=by
 go_enter Tryz.func204,Tryz.ntmps204
 go_wp2_with fail
 refine(hin _).mono ?_
 rintro e w1 ⟨rfl,b1⟩
 go_wp2
 go_ret
 exact⟨rfl,b1⟩
theorem set26_no (c:UInt8) (b:Bool) (a h:Addr) (w:World) (ha:w.cell? a=some (.int .u8 c.toNat)) (hh:w.cell? h=some (.func (.func 199) #[] #[.pointer (some a)])) (hin:InOf 3 c false) (hb:hasL [47,58,59,61,64,91,92,93,124] c=b) :
  Calls Tryz.prog 204 #[.pointer (some a),.pointer (some h)] w fun e w'=>e=.returned (.bool b)∧Below w.heap.size w w':=by
 have la:=World.block_lt_of_cell? w _ ha
 have lh:=World.block_lt_of_cell? w _ hh
 have HH:=Lib.hid hh
 have HA:=Lib.hid ha
 clear hh
 go_enter Tryz.func204,Tryz.ntmps204
 go_wp2_with fail
 refine(hin _).mono ?_
 rintro e w1 ⟨rfl,b1⟩
 have ha1:w1.cell? a=some (.int .u8 c.toNat):=(b1.cell la).trans HA.out
 have hh1:w1.cell? h=some (.func (.func 199) #[] #[.pointer (some a)]):=(b1.cell lh).trans HH.out
 clear ha
 go_wp2_with fail
 refine(has_is ⟨#[47,58,59,61,64,91,92,93,124]⟩ c b a _ ha1 hb).mono ?_
 rintro e w' ⟨rfl,rfl⟩
 go_wp2
 go_ret
 exact⟨rfl,b1⟩
theorem in_4 (c:UInt8) (b1 b2:Bool) (h1:InOf 3 c b1) (h2:hasL [47,58,59,61,64,91,92,93,124] c=b2):InOf 4 c (b1 || b2):=by
 intro w
 have hmf:∀ (fn:Fn) (first cap:Array Value) (w:World),(Instr.makeFunc fn first cap).run Tryz.prog w=.ok (.func fn first cap) w:=fun _ _ _ _=>rfl
 have HC:Hid (Calls Tryz.prog 204 #[.pointer (some ⟨w.heap.size,0,none⟩),.pointer (some ⟨w.heap.size + 1,0,none⟩)] (inObjs w.heap.size c w) fun e w'=>e=.returned (.bool (b1 || b2))∧Below (inObjs w.heap.size c w).heap.size (inObjs w.heap.size c w) w'):=by
  cases b1 with
  | true=>exact set26_yes c _ _ _ (in_cell0 c w) h1
  | false=>exact set26_no c b2 _ _ _ (in_cell0 c w) (in_cell1 c w) h1 h2
 go_enter Tryz.func150,Tryz.ntmps150
 go_wp2_with fail
 refine(show Calls Tryz.prog 204 #[.pointer (some ⟨w.heap.size,0,none⟩),.pointer (some ⟨w.heap.size + 1,0,none⟩)] _ _ from HC.out).mono ?_
 rintro e w1 ⟨rfl,q1⟩
 go_wp2
 go_ret
 exact⟨rfl,below_in q1⟩
theorem in_of (set:Int) (c:UInt8):InOf set c (inS set c):=by
 have h0:=in_0 c _ rfl
 have h2:=in_2 c _ _ h0 rfl
 have h3:=in_3 c _ _ h2 rfl
 unfold inS
 by_cases e0:set=0
 ·subst e0;exact h0
 ·rw[if_neg e0]
  by_cases e1:set=1
  ·subst e1;exact in_1 c _ _ h0 rfl
  ·rw[if_neg e1]
   by_cases e2:set=2
   ·subst e2;exact h2
   ·rw[if_neg e2]
    by_cases e3:set=3
    ·subst e3;exact h3
    ·rw[if_neg e3]
     by_cases e4:set=4
     ·subst e4;exact in_4 c _ _ h3 rfl
     ·rw[if_neg e4];exact in_out c set (by omega)
end
section
open Go.RowKit
def digs:List UInt8:=[48,49,50,51,52,53,54,55,56,57,65,66,67,68,69,70]
def hd (n:Nat):UInt8:=digs.getD n 0
def encC (set:Int) (c:UInt8):List UInt8:=if inS set c then [37,hd (c.toNat / 16),hd (c.toNat % 16)] else [c]
def encL (set:Int) (l:List UInt8):List UInt8:=l.flatMap (encC set)
theorem encL_app (set:Int) (a b:List UInt8):encL set (a++b)=encL set a++encL set b:=by unfold encL;rw[List.flatMap_append]
theorem encC_len (set:Int) (c:UInt8):1≤(encC set c).length∧(encC set c).length≤3:=by unfold encC;split <;> simp
theorem encL_len (set:Int) (l:List UInt8):l.length≤(encL set l).length∧(encL set l).length≤3 * l.length:=by
 induction l with
 | nil=>exact⟨Nat.zero_le _,Nat.zero_le _⟩
 | cons c l ih =>
  have:=encC_len set c
  have e:(encL set (c::l)).length=(encC set c).length + (encL set l).length:=by unfold encL;rw[List.flatMap_cons,List.length_append]
  rw[e,List.length_cons];omega
theorem own_below {w w':World} {B e size n:Nat} {v:Value} {xs:List Value} (h:w.ownsRow B e size v n xs) (hb:Below w.heap.size w w'):w'.ownsRow B e size v n xs:=by
 exact h.kept (row:=none) ⟨hb.os,hb.tape,hb.output,hb.size,fun j hj _=>hb.block j hj⟩ (by cases hv:v.ownBlock <;> simp)
theorem Bld.below {B b:Nat} {v:Value} {bs:List UInt8} {w w':World} (h:Bld B b v bs w) (hb:Below w.heap.size w w'):Bld B b v bs w':=by
 obtain⟨h1,⟨p,hp,hblk⟩,h3,h4⟩:=h
 exact⟨h1,⟨p,hp,by rw[hb.block b (heap_lt hblk)];exact hblk⟩,own_below h3 hb,h4⟩
theorem Bld.isB {B b:Nat} {v:Value} {bs:List UInt8} {w:World} (h:Bld B b v bs w):Lib.IsBuilder 120 5 B b (Lib.byteCells bs) w:=by
 obtain⟨h1,⟨p,hp,hblk⟩,h3,h4⟩:=h
 have hl:(Lib.byteCells bs).length=bs.length:=Lib.byteCells_length bs
 rcases hp with rfl|rfl
 ·exact Or.inl ⟨h1,v,hblk,by rw[hl];exact h3,h4⟩
 ·exact Or.inr ⟨h1,v,hblk,by rw[hl];exact h3,h4⟩
theorem Bld.fresh (w:World):Bld w.heap.size w.heap.size (.slice none 0 0) [] (w.alloc (.cells #[.pointer none,.slice none 0 0] 120)) :=
 ⟨Nat.le_refl _,⟨_,Or.inl rfl,heap_alloc_new w _⟩,World.ownsRow_nil _ _ _ _,by simp[Value.ownBlock]⟩
theorem Bld.lt {B b:Nat} {v:Value} {bs:List UInt8} {w:World} (h:Bld B b v bs w):b < w.heap.size:=by
 obtain⟨h1,⟨p,hp,hblk⟩,h3,h4⟩:=h
 exact heap_lt hblk
theorem Bld.lo' {B b:Nat} {v:Value} {bs:List UInt8} {w:World} (h:Bld B b v bs w):∀ g,v.ownBlock=some g→B≤g∧g < w.heap.size:=fun g hg=>h.own.lt g hg
theorem Put.step {B b:Nat} {v:Value} {bs:List UInt8} {w0 w w':World} {e:Ending} (h:Put B b v bs w e w') {bs0:List UInt8} (h0:Bld B b v bs0 w) (hb:Below B w0 w) (hB:B≤w0.heap.size):e=.returned (.tuple #[])∧∃ v',Bld B b v' bs w'∧Below B w0 w':=by
 obtain⟨he,v',h1,h2⟩:=h
 exact⟨he,v',h1,hb.trans (h2.below h0.lo (fun g hg=>(h0.lo' g hg).1) (Nat.le_trans hB hb.size))⟩
theorem wrap_u8 {n:Int} (h0:0≤n) (h1:n < 256):IntKind.u8.wrap n=n:=by
 unfold IntKind.wrap
 simp[IntKind.bits,IntKind.signed]
 omega
theorem dig_fin:∀ a:Fin 16,(⟨#[48,49,50,51,52,53,54,55,56,57,65,66,67,68,69,70]⟩:ByteArray)[a.val]'(a.isLt)=hd a.val:=by decide
theorem dig_at (a:Nat) (h:a < (⟨#[48,49,50,51,52,53,54,55,56,57,65,66,67,68,69,70]⟩:ByteArray).size):(⟨#[48,49,50,51,52,53,54,55,56,57,65,66,67,68,69,70]⟩:ByteArray)[a]=hd a:=dig_fin ⟨a,h⟩
theorem put_new (B b:Nat) (v:Value) (bs l:List UInt8) (w0 w:World) (cs:Array Value) (W:World) (h:Bld B b v bs w) (hlen:bs.length + l.length≤10000000) (hb0:Below B w0 w) (hB:B≤w0.heap.size) (hcs:cs.toList=u8s l) (hW:W=w.alloc (.cells cs 5)∨W=(w.alloc (.cells cs 5)).drew) :
  Calls Tryz.prog 151 #[.pointer (some ⟨b,0,none⟩),.slice (some ⟨w.heap.size,0,none⟩) l.length l.length] W fun e w'=>e=.returned (.tuple #[])∧∃ v',Bld B b v' (bs++l) w'∧Below B w0 w':=by
 have hb1:Below w.heap.size w W:=by
  rcases hW with rfl|rfl
  ·exact(Below.refl _ _).alloc (Nat.le_refl _) _
  ·exact((Below.refl _ _).alloc (Nat.le_refl _) _).drew
 have hsz:W.heap.size=w.heap.size + 1:=by rcases hW with rfl|rfl <;> simp
 have hc:∀ j,j < l.length→W.cell? ⟨w.heap.size,j,none⟩=some (.int .u8 (l.getD j 0).toNat):=by
  intro j hj
  have e:(w.alloc (.cells cs 5)).cell? ⟨w.heap.size,j,none⟩=some (.int .u8 (l.getD j 0).toNat):=by
   rw[World.cell?_alloc_at _ _ _ _ rfl]
   show cs[j]? = _
   rw[← Array.getElem?_toList,hcs];unfold u8s;simp[hj]
  rcases hW with rfl|rfl
  ·exact e
  ·exact e
 have hlt:=h.lt
 have hlo:=h.lo'
 have hb2:Below B w0 W:=hb0.trans (hb1.mono (Nat.le_trans hB hb0.size))
 have hbw:=hb0.size
 exact(put_any B b w.heap.size l.length v bs l W (h.below hb1) hlen (by omega) hc (by omega) (by omega) (fun e=>by have:=(hlo _ e).2;omega)).mono fun e w' hp=>hp.step (h.below hb1) hb2 hB
theorem encode_put (set:Int) (s:ByteArray) (k:Nat) (hp:k < s.size) (w w2 wr:World) (v:Value) (a b:Nat) (hi:inS set (s[k]'hp)=true) (ha:a=(s[k]'hp).toNat / 16) (hb:b=(s[k]'hp).toNat % 16) (HS:Below w.heap.size w wr) (b2:Below wr.heap.size wr w2)
  (HB:Bld w.heap.size w.heap.size v (encL set (s.data.toList.take k)) wr) (hs:s.size≤3000000) (x y:UInt8) (hx:x=hd a) (hy:y=hd b) :
  Calls Tryz.prog 151 #[.pointer (some ⟨w.heap.size,0,none⟩),.slice (some ⟨w2.heap.size,0,none⟩) 3 3] (w2.alloc (.cells #[.int .u8 37,.int .u8 x.toNat,.int .u8 y.toNat] 5)).drew fun e w'=>e=.returned (.tuple #[])∧∃ v',Bld w.heap.size w.heap.size v' (encL set (s.data.toList.take (k + 1))) w'∧Below w.heap.size w w':=by
 subst hx;subst hy;subst ha;subst hb
 have hl:=(encL_len set (s.data.toList.take k)).2
 rw[List.length_take,size_len] at hl
 have e:encL set (s.data.toList.take (k + 1))=encL set (s.data.toList.take k)++[37,hd ((s[k]'hp).toNat / 16),hd ((s[k]'hp).toNat % 16)]:=by
  rw[take_snoc s k hp,encL_app];congr 1;unfold encL;rw[List.flatMap_singleton];unfold encC;rw[if_pos hi]
 rw[e]
 exact put_new _ _ v _ [37,hd ((s[k]'hp).toNat / 16),hd ((s[k]'hp).toNat % 16)] w w2 _ _ (HB.below b2) (by simp;omega) (HS.trans (b2.mono HS.size)) (Nat.le_refl _) rfl (Or.inr rfl)
theorem encode_put1 (set:Int) (s:ByteArray) (k:Nat) (hp:k < s.size) (w w2 wr:World) (v:Value) (hi:inS set (s[k]'hp)=false) (HS:Below w.heap.size w wr) (b2:Below wr.heap.size wr w2)
  (HB:Bld w.heap.size w.heap.size v (encL set (s.data.toList.take k)) wr) (hs:s.size≤3000000) :
  Calls Tryz.prog 151 #[.pointer (some ⟨w.heap.size,0,none⟩),.slice (some ⟨w2.heap.size,0,none⟩) 1 1] (w2.alloc (.cells #[.int .u8 (s[k]'hp).toNat] 5)) fun e w'=>e=.returned (.tuple #[])∧∃ v',Bld w.heap.size w.heap.size v' (encL set (s.data.toList.take (k + 1))) w'∧Below w.heap.size w w':=by
 have hl:=(encL_len set (s.data.toList.take k)).2
 rw[List.length_take,size_len] at hl
 have e:encL set (s.data.toList.take (k + 1))=encL set (s.data.toList.take k)++[s[k]'hp]:=by
  rw[take_snoc s k hp,encL_app];congr 1;unfold encL;rw[List.flatMap_singleton];unfold encC;rw[if_neg (by simp[hi])]
 rw[e]
 exact put_new _ _ v _ [s[k]'hp] w w2 _ _ (HB.below b2) (by simp;omega) (HS.trans (b2.mono HS.size)) (Nat.le_refl _) rfl (Or.inl rfl)
set_option maxRecDepth 100000 in
set_option maxHeartbeats 1000000 in
theorem encode_any (s:ByteArray) (set:Int) (w:World) (hs:s.size≤3000000) :
  Calls Tryz.prog 98 #[.string s,.int .i64 set] w fun e w'=>e=.returned (.string ⟨(encL set s.data.toList).toArray⟩)∧Below w.heap.size w w':=by
 have HB0:=Lib.hid (Bld.fresh w)
 obtain⟨B,hB⟩:∃ B,B=w.heap.size:=⟨_,rfl⟩
 go_enter Tryz.func98,Tryz.ntmps98
 go_wp2
 go_loopw [10] (fun i wr=>∃ (k:Nat) (v:Value),k≤s.size∧i=.int .i64 k∧Bld w.heap.size w.heap.size v (encL set (s.data.toList.take k)) wr∧Below w.heap.size w wr) (fun i _=>s.size - (intOf i).toNat)
 case atStart=>exact⟨0,_,Nat.zero_le _,rfl,HB0.out,(Below.refl _ _).alloc (Nat.le_refl _) _⟩
 case round =>
  obtain⟨k,v,hk,rfl,HB,HS⟩:=hrel
  have hsz:=HS.size
  by_cases hp:k < s.size
  ·have HT:=Lib.hid (take_snoc s k hp)
   cases hi:inS set (s[k]'hp) with
   | true =>
    have hub:=(s[k]'hp).toNat_lt
    obtain⟨c,hc⟩:∃ c,c=s[k]'hp:=⟨_,rfl⟩
    go_wp2_with fail
    refine(in_of set (s[k]'hp) _).mono ?_
    rintro e w2 ⟨rfl,b2⟩
    rw[hi]
    have HB2:=HB.below b2
    obtain⟨a,ha⟩:∃ a,a=(s[k]'hp).toNat / 16:=⟨_,rfl⟩
    obtain⟨b,hb⟩:∃ b,b=(s[k]'hp).toNat % 16:=⟨_,rfl⟩
    have q1:((s[k]'hp).toNat:Int).tdiv 16=(a:Int):=by rw[Int.tdiv_eq_ediv_of_nonneg (by omega)];omega
    have q2:((s[k]'hp).toNat:Int).tmod 16=(b:Int):=by rw[Int.tmod_eq_emod_of_nonneg (by omega)];omega
    have q3:IntKind.u8.wrap (a:Int)=(a:Int):=wrap_u8 (by omega) (by omega)
    have q4:IntKind.u8.wrap (b:Int)=(b:Int):=wrap_u8 (by omega) (by omega)
    have a1:(0:Int)≤a:=by omega
    have b1:(0:Int)≤b:=by omega
    have a2:(a:Int) < 16:=by omega
    have b2':(b:Int) < 16:=by omega
    have HPUT:=Lib.hid (encode_put set s k hp w w2 wr v a b hi ha hb HS b2 HB hs)
    clear ha hb
    go_wp2
    go_region_held3 (fun _=>True) (trivial) ((go_at_call 151;refine(HPUT.out _ _ (dig_at a _) (dig_at b _)).mono ?_;rintro e w3 ⟨rfl,v3,HB3,HS3⟩))
    all_goals
     go_wp2
     go_roundw
     case rel=>exact⟨k + 1,v3,by omega,by go_num,HB3,HS3⟩
     case measure=>simp[intOf];omega
   | false =>
    go_wp2_with fail
    refine(in_of set (s[k]'hp) _).mono ?_
    rintro e w2 ⟨rfl,b2⟩
    rw[hi]
    have HPUT:=Lib.hid (encode_put1 set s k hp w w2 wr v hi HS b2 HB hs)
    go_wp2_with fail
    refine(HPUT.out).mono ?_
    rintro e w3 ⟨rfl,v3,HB3,HS3⟩
    go_wp2_with fail
    go_roundw
    case rel=>exact⟨k + 1,v3,by omega,by go_num,HB3,HS3⟩
    case measure=>simp[intOf];omega
  ·have HE:=Lib.hid (all_take_end s k hp)
   go_wp2_with fail
   refine(Tryz.Builder_String_any w.heap.size w.heap.size (encL set s.data.toList) _ (by rw[← HE.out];exact HB.isB) (by omega)).mono ?_
   rintro e w2 ⟨rfl,b2⟩
   go_wp2
   go_ret
   exact⟨rfl,HS.trans b2⟩
theorem ready_enc (s:ByteArray) (set:Int) (w:World) (hs:s.size≤3000000) (b:Bool) (hb:(encL set s.data.toList == s.toList)=b) :
  Calls Tryz.prog 71 #[.string s,.int .i64 set] w fun e w'=>e=.returned (.bool b)∧Below w.heap.size w w':=by
 go_enter Tryz.func71,Tryz.ntmps71
 go_wp2_with fail
 refine(encode_any s set _ hs).mono ?_
 rintro e w1 ⟨rfl,b1⟩
 go_wp2
 go_ret
 exact⟨by rw[← hb];rfl,b1⟩
end
end Go.Proofs.YtdlkjofnnefjfaaGreatDoor
