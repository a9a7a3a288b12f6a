/- The walks of layer 2: numbers in digits: for every text of at most 1048576 bytes, every number. -/
import Derived.Test.YtdlkjofnnefjfaaGreatDoorZRange
import GoSem.Op.String
import Derived.WalkMore
import Derived.ScopeJumps
import Derived.BigRegion
import Derived.RegionTactic
set_option linter.all false
namespace Go.Proofs.YtdlkjofnnefjfaaGreatDoor.Deci
open Go.RowKit
set_option maxRecDepth 100000
def dig (d:Nat):UInt8:=UInt8.ofNat (48 + d)
def isD (c:UInt8):Bool:=decide (48≤c.toNat) && decide (c.toNat≤57)
def valD (c:UInt8):Nat:=c.toNat - 48
def plainD (l:List UInt8):Bool:=l.all isD && !l.isEmpty
def val (l:List UInt8):Nat:=l.foldl (fun a c=>10 * a + valD c) 0
def digR (n:Nat):List UInt8:=dig (n % 10)::(if n / 10=0 then [] else digR (n / 10))
termination_by n
decreasing_by omega
def digs (n:Nat):List UInt8:=(digR n).reverse
def showL (n:Int):List UInt8:=if n < 0 then 45::digs n.natAbs else digs n.natAbs
def readOK (l:List UInt8) (most:Int):Bool:=plainD l && decide ((val l:Int)≤most)
def readN (l:List UInt8) (most:Int):Int:=if readOK l most then (val l:Int) else 0
theorem dig_toNat {d:Nat} (h:d < 10):(dig d).toNat=48 + d:=by unfold dig;simp;omega
theorem isD_dig {d:Nat} (h:d < 10):isD (dig d)=true:=by unfold isD;rw[dig_toNat h];simp;omega
theorem valD_dig {d:Nat} (h:d < 10):valD (dig d)=d:=by unfold valD;rw[dig_toNat h];omega
theorem isD_iff (c:UInt8):isD c=true↔48≤c.toNat∧c.toNat≤57:=by unfold isD;simp
theorem digR_step (n:Nat):digR n=dig (n % 10)::(if n / 10=0 then [] else digR (n / 10)):=by rw[digR]
theorem digs_step (n:Nat):digs n=(if n / 10=0 then [] else digs (n / 10))++[dig (n % 10)]:=by
 unfold digs;rw[digR_step,List.reverse_cons];split <;> simp
theorem foldl_val (l:List UInt8):∀ a:Nat,l.foldl (fun a c=>10 * a + valD c) a=a * 10 ^ l.length + val l:=by
 induction l with
 | nil=>intro a;simp[val]
 | cons c l ih =>
  intro a
  unfold val
  rw[List.foldl_cons,List.foldl_cons,ih,ih,List.length_cons,Nat.pow_succ,Nat.add_mul,Nat.add_mul]
  have e:10 * a * 10 ^ l.length=a * (10 ^ l.length * 10):=by rw[Nat.mul_comm 10 a,Nat.mul_assoc,Nat.mul_comm 10]
  have e2:10 * 0 * 10 ^ l.length=0:=by simp
  omega
theorem val_append (a b:List UInt8):val (a++b)=val a * 10 ^ b.length + val b:=by
 unfold val;rw[List.foldl_append,foldl_val];rfl
theorem val_snoc (a:List UInt8) (c:UInt8):val (a++[c])=10 * val a + valD c:=by
 unfold val;rw[List.foldl_append];rfl
theorem val_cons (c:UInt8) (l:List UInt8):val (c::l)=valD c * 10 ^ l.length + val l:=by
 have:=val_append [c] l
 rw[List.singleton_append] at this
 rw[this]
 have:val [c]=valD c:=by unfold val;simp
 rw[this]
theorem head_app {a b:List UInt8} (h:a≠[]):(a++b).head? = a.head?:=by
 match a,h with
 | c::t,_=>rfl
theorem digs_facts (n:Nat):val (digs n)=n∧(digs n).all isD=true∧digs n≠[]∧(n≠0→(digs n).head?≠some 48):=by
 induction n using Nat.strongRecOn with
 | _ n ih =>
  rw[digs_step]
  by_cases h:n / 10=0
  ·rw[if_pos h,List.nil_append]
   have hm:n % 10=n:=by omega
   refine⟨?_,?_,by simp,?_⟩
   ·have:=valD_dig (show n % 10 < 10 by omega)
    unfold val;simp only[List.foldl_cons,List.foldl_nil];omega
   ·simp[isD_dig (show n % 10 < 10 by omega)]
   ·intro h0 e
    simp only[List.head?_cons,Option.some.injEq] at e
    have:=congrArg UInt8.toNat e
    rw[dig_toNat (by omega)] at this
    have e48:(48:UInt8).toNat=48:=rfl
    omega
  ·rw[if_neg h]
   obtain⟨h1,h2,h3,h4⟩:=ih (n / 10) (by omega)
   refine⟨?_,?_,by simp,?_⟩
   ·rw[val_snoc,h1,valD_dig (by omega)];omega
   ·rw[List.all_append,h2];simp[isD_dig (show n % 10 < 10 by omega)]
   ·intro h0
    rw[head_app h3]
    exact h4 h
def strip:List UInt8→List UInt8
 | []=>[]
 | [c]=>[c]
 | c::d::t=>if c=48 then strip (d::t) else c::d::t
theorem digs_ge {n:Nat} (h:n≠0):10 ^ ((digs n).length - 1)≤n:=by
 obtain⟨h1,h2,h3,h4⟩:=digs_facts n
 have h4:=h4 h
 match hd:digs n,h3 with
 | c::t,_ =>
  rw[hd] at h1 h2 h4
  rw[List.all_cons,Bool.and_eq_true] at h2
  have hd2:=(isD_iff c).1 h2.1
  have:1≤valD c:=by
   simp only[List.head?_cons,ne_eq,Option.some.injEq] at h4
   have:c.toNat≠48:=fun e=>h4 (UInt8.toNat_inj.1 e)
   unfold valD;omega
  rw[val_cons] at h1
  have h5:1 * 10 ^ t.length≤valD c * 10 ^ t.length:=Nat.mul_le_mul_right _ this
  simp only[List.length_cons,Nat.add_sub_cancel]
  omega
theorem digs_len_le {n k:Nat} (h:n < 10 ^ k) (hk:1≤k):(digs n).length≤k:=by
 by_cases h0:n=0
 ·subst h0
  have:digs 0=[48]:=by rw[digs_step];rfl
  rw[this];simpa using hk
 ·have h1:=digs_ge h0
  have h3:10 ^ ((digs n).length - 1) < 10 ^ k:=by omega
  have:=(Nat.pow_lt_pow_iff_right (a:=10) (by omega)).1 h3
  omega
theorem digs_pos (n:Nat):1≤(digs n).length:=List.length_pos_iff.2 (digs_facts n).2.2.1
theorem digs_len_19 {n:Nat} (h:n < 9223372036854775809):(digs n).length≤19:=digs_len_le (by omega) (by omega)
theorem showL_len {n:Int} (h1:-9223372036854775808≤n) (h2:n≤9223372036854775807):1≤(showL n).length∧(showL n).length≤20:=by
 unfold showL
 have:=digs_len_19 (n:=n.natAbs) (by omega)
 have:=digs_pos n.natAbs
 split
 ·simp only[List.length_cons];omega
 ·omega
def revP (xs:List UInt8) (j:Nat):List UInt8:=(List.range xs.length).map fun p=>if p < j∨xs.length - j≤p then xs.getD (xs.length - 1 - p) 0 else xs.getD p 0
theorem revP_len (xs:List UInt8) (j:Nat):(revP xs j).length=xs.length:=by unfold revP;simp
theorem revP_at (xs:List UInt8) (j p:Nat) (hp:p < xs.length):(revP xs j).getD p 0=if p < j∨xs.length - j≤p then xs.getD (xs.length - 1 - p) 0 else xs.getD p 0:=by
 unfold revP
 simp[List.getD,hp]
theorem revP_zero (xs:List UInt8):revP xs 0=xs:=by
 apply List.ext_getElem
 ·exact revP_len _ _
 ·intro p h1 h2
  have:=revP_at xs 0 p h2
  rw[if_neg (by omega)] at this
  simpa [List.getD,h1,h2] using this
theorem revP_step (xs:List UInt8) (j k:Nat) (h:j + k + 1=xs.length) (hjk:j < k) :
  ((revP xs j).set j ((revP xs j).getD k 0)).set k ((revP xs j).getD j 0)=revP xs (j + 1):=by
 apply List.ext_getElem
 ·simp[revP_len]
 ·intro p h1 h2
  have hp:p < xs.length:=by rw[revP_len] at h2;exact h2
  have e2:(revP xs (j + 1))[p]=(revP xs (j + 1)).getD p 0:=by simp[List.getD,h2]
  have e1:∀ h',(revP xs j)[p]'h'=(revP xs j).getD p 0:=fun h'=>by simp[List.getD,h']
  rw[e2,revP_at xs (j + 1) p hp,List.getElem_set]
  by_cases hk:k=p
  ·subst hk
   rw[if_pos rfl,if_pos (by omega),revP_at xs j j (by omega),if_neg (by omega)]
   congr 1;omega
  ·rw[if_neg hk,List.getElem_set]
   by_cases hj:j=p
   ·subst hj
    rw[if_pos rfl,if_pos (by omega),revP_at xs j k (by omega),if_neg (by omega)]
    congr 1;omega
   ·rw[if_neg hj,e1,revP_at xs j p hp]
    by_cases hc:p < j∨xs.length - j≤p
    ·rw[if_pos hc,if_pos (by omega)]
    ·rw[if_neg hc,if_neg (by omega)]
theorem revP_end (xs:List UInt8) (j k:Nat) (h:j + k + 1=xs.length) (hjk:¬ j < k):revP xs j=xs.reverse:=by
 apply List.ext_getElem
 ·simp[revP_len]
 ·intro p h1 h2
  have hp:p < xs.length:=by simpa using h2
  have:=revP_at xs j p hp
  rw[List.getElem_reverse]
  have e:(revP xs j)[p]=(revP xs j).getD p 0:=by simp[List.getD,h1]
  rw[e,this]
  by_cases hc:p < j∨xs.length - j≤p
  ·rw[if_pos hc];simp[List.getD,show xs.length - 1 - p < xs.length by omega]
  ·rw[if_neg hc]
   have:xs.length - 1 - p=p:=by omega
   simp[List.getD,hp,this]
theorem tdiv_abs (m:Int):(m.tdiv 10).natAbs=m.natAbs / 10:=by rw[Int.natAbs_tdiv];rfl
theorem digR_more {N:Nat} {ds:List UInt8} {m:Int} (h:digR N=ds++digR m.natAbs) (hz:m.tdiv 10≠0):digR N=(ds++[dig (m.natAbs % 10)])++digR (m.tdiv 10).natAbs:=by
 have:=tdiv_abs m
 rw[h,digR_step m.natAbs,if_neg (by omega),this];simp
theorem digR_last {N:Nat} {ds:List UInt8} {m:Int} (h:digR N=ds++digR m.natAbs) (hz:m.tdiv 10=0):digR N=ds++[dig (m.natAbs % 10)]:=by
 have:=tdiv_abs m
 rw[h,digR_step m.natAbs,if_pos (by omega)]
theorem digR_len (N:Nat):(digR N).length=(digs N).length:=by unfold digs;simp
theorem digR_pos (N:Nat):1≤(digR N).length:=by rw[digR_len];exact digs_pos N
def outL (n:Int):List UInt8:=if n < 0 then digR n.natAbs++[45] else digR n.natAbs
theorem outL_rev (n:Int):(outL n).reverse=showL n:=by
 unfold outL showL digs
 split <;> simp
theorem outL_neg {n:Int} (h:n < 0):outL n=digR n.natAbs++[45]:=by unfold outL;rw[if_pos h]
theorem outL_pos {n:Int} (h:¬ n < 0):outL n=digR n.natAbs:=by unfold outL;rw[if_neg h]
theorem outL_len {n:Int} (h1:-9223372036854775808≤n) (h2:n≤9223372036854775807):1≤(outL n).length∧(outL n).length≤20:=by
 have:=showL_len h1 h2
 rw[← outL_rev] at this
 simpa using this
theorem digit_yes (c:UInt8) (w:World) (h:isD c=true):Calls Tryz.prog 66 #[.int .u8 c.toNat] w fun e w'=>e=.returned (.bool true)∧w=w':=by
 obtain⟨h1,h2⟩:=(isD_iff c).1 h
 clear h
 go_enter Tryz.func66,Tryz.ntmps66
 go_wp2
 go_ret
 exact⟨ret_bool (by first|rfl|(simp;omega)),rfl⟩
theorem digit_no (c:UInt8) (w:World) (h:isD c=false):Calls Tryz.prog 66 #[.int .u8 c.toNat] w fun e w'=>e=.returned (.bool false)∧w=w':=by
 have h':¬ (48≤c.toNat∧c.toNat≤57):=fun e=>by rw[(isD_iff c).2 e] at h;cases h
 by_cases h1:48≤c.toNat
 ·have h2:¬ c.toNat≤57:=fun e=>h' ⟨h1,e⟩
  clear h h'
  go_enter Tryz.func66,Tryz.ntmps66
  go_wp2
  go_ret
  exact⟨ret_bool (by first|rfl|(simp;omega)),rfl⟩
 ·clear h h'
  go_enter Tryz.func66,Tryz.ntmps66
  go_wp2
  go_ret
  exact⟨ret_bool (by first|rfl|(simp;omega)),rfl⟩
set_option maxRecDepth 100000 in
theorem plain_any (s:ByteArray) (w:World) (hs:s.size≤1048576) :
  Calls Tryz.prog 212 #[.string s] w fun e w'=>e=.returned (.bool (plainD s.data.toList))∧w=w':=by
 go_enter Tryz.func212,Tryz.ntmps212
 go_wp2
 go_loop [6] (fun i=>∃ k:Nat,k≤s.size∧i=.int .i64 k∧Hid ((s.data.toList.take k).all isD=true)) (fun i=>s.size - (intOf i).toNat)
 case atStart=>exact⟨0,Nat.zero_le _,rfl,rfl⟩
 case round =>
  obtain⟨k,hk,rfl,hc⟩:=hrel
  by_cases hp:k < s.size
  ·have HT:=Lib.hid (take_snoc s k hp)
   cases hr:isD (s[k]'hp) with
   | false =>
    have HD:=Lib.hid (show s.data.toList=s.data.toList.take k++s[k]::s.data.toList.drop (k + 1) from by
     rw[← List.singleton_append,← List.append_assoc,← take_snoc s k hp,List.take_append_drop])
    have HR:=Lib.hid hr
    clear hr
    go_wp2_with (go_at_call 66;refine(digit_no _ _ HR.out).mono ?_;rintro e w' ⟨rfl,rfl⟩)
    go_ret
    exact⟨ret_bool (by unfold plainD;rw[HD.out,List.all_append,List.all_cons,HR.out];simp),rfl⟩
   | true =>
    have HR:=Lib.hid hr
    clear hr
    go_wp2_with (go_at_call 66;refine(digit_yes _ _ HR.out).mono ?_;rintro e w' ⟨rfl,rfl⟩)
    go_round
    case rel=>exact⟨k + 1,by omega,by go_num,by
           show List.all _ _=true
           rw[HT.out,List.all_append,hc.out];simp[HR.out]⟩
    case measure=>simp[intOf];omega
  ·have HE:=Lib.hid (all_take_end s k hp)
   go_wp2
   go_ret
   have h:=hc.out
   rw[HE.out] at h
   exact⟨ret_bool (by unfold plainD;rw[h,Bool.true_and,toList_data]),rfl⟩
theorem Tryz.info5:(Tryz.prog.info? 5).map (fun i=>(i.zero,i.size,i.bytes))=some (some (.int .u8 0),1,1):=by kernel_rfl
theorem tmod_abs (n:Int):n.tmod 10=(n.natAbs % 10:Nat)∨n.tmod 10=-((n.natAbs % 10:Nat):Int):=by
 rcases Int.natAbs_eq n with h|h
 ·left;rw[h,Int.natAbs_natCast];rfl
 ·right;rw[h,Int.natAbs_neg,Int.natAbs_natCast,Int.neg_tmod];rfl
theorem last_any (n:Int) (a:Addr) (w:World) (h1:-9223372036854775808≤n) (h2:n≤9223372036854775807) (hc:w.cell? a=some (.int .i64 n)) (hf:w.frozen? a=false) :
  Calls Tryz.prog 191 #[.pointer (some a)] w fun e w'=>e=.returned (.int .u8 (48 + ((n.natAbs % 10:Nat):Int)))∧w.setCell a (.int .i64 (n.tdiv 10))=w':=by
 have ht:=tmod_abs n
 have hm:n.natAbs % 10 < 10:=by omega
 obtain⟨m,hmm⟩:∃ m,m=n.natAbs % 10:=⟨_,rfl⟩
 rw[← hmm] at ht hm
 rw[← hmm]
 clear hmm
 by_cases h0:n.tmod 10 < 0
 ·go_enter Tryz.func191,Tryz.ntmps191
  go_wp2
  go_ret
  exact⟨ret_int (by omega),rfl⟩
 ·go_enter Tryz.func191,Tryz.ntmps191
  go_wp2
  go_ret
  exact⟨ret_int (by omega),rfl⟩
theorem last_at (n q:Int) (d:Nat) (a:Addr) (w:World) (h1:-9223372036854775808≤n) (h2:n≤9223372036854775807) (hc:w.cell? a=some (.int .i64 n)) (hf:w.frozen? a=false) (hd:Hid (d=n.natAbs % 10)) (hq:Hid (q=n.tdiv 10)) :
  Calls Tryz.prog 191 #[.pointer (some a)] w fun e w'=>e=.returned (.int .u8 (48 + (d:Int)))∧w.setCell a (.int .i64 q)=w':=by
 have h:=hd.out
 have k:=hq.out
 subst h
 subst k
 exact last_any n a w h1 h2 hc hf
theorem wp_scope_again {P:Program} {a:Act} {w:World} {Q:Exit→Act→World→Prop} {c rest:Code} (l:Nat) (J:Act→World→Prop) (μ:Act→World→Nat) (hf:findLabel c l=some (Code.skip.seq rest)) (a0:Act) (w0:World) (hJ:J a0 w0)
  (first:Hid (rest.wp P (Exit.jump l J Q) a0 w0)→c.wp P (Exit.jump l J Q) a w)
  (pass:∀ a w,J a w→rest.wp P (Exit.jump l (fun a' w'=>J a' w'∧μ a' w' < μ a w) Q) a w):(Code.scope c).wp P Q a w:=by
 refine wp_scope_jumps l J μ hf (first (wp_mono (pass a0 w0 hJ) fun e a' w' h=>?_)) (fun a w h=>wp_seq (wp_skip (pass a w h)))
 cases e with
 | goto l'=>exact⟨h.1,h.2.1⟩
 | normal=>exact h
 | exit id=>exact h
 | ret=>exact h
 | panic ch=>exact h
 | outgrown=>exact h
def u8s (l:List UInt8):List Value:=l.map fun b=>Value.int .u8 b.toNat
structure ShowW (n:Int) (w w':World) (v:Value) (m:Int) (ds:List UInt8):Prop where
 own:w'.ownsRow (w.heap.size + 1) 5 1 v ds.length (u8s ds)
 cell:w'.cell? ⟨w.heap.size,0,none⟩=some (.int .i64 m)
 free:w'.frozen? ⟨w.heap.size,0,none⟩=false
 below:Below w.heap.size w w'
 left:digR n.natAbs=ds++digR m.natAbs
 lo:-9223372036854775808≤m
 hi:m≤9223372036854775807
theorem ShowW.lt {n:Int} {w w':World} {v:Value} {m:Int} {ds:List UInt8} (h:ShowW n w w' v m ds):w.heap.size + 1≤w'.heap.size:=World.block_lt_of_cell? w' _ h.cell
theorem u8s_len (l:List UInt8):(u8s l).length=l.length:=by unfold u8s;simp
theorem ShowW.len {n:Int} {w w':World} {v:Value} {m:Int} {ds:List UInt8} (h:ShowW n w w' v m ds):ds.length + 1≤(digR n.natAbs).length:=by
 have:=digR_pos m.natAbs
 rw[h.left,List.length_append];omega
theorem u8s_snoc (ds:List UInt8) (d:Nat) (hd:d < 10):u8s ds++[Value.int .u8 (48 + (d:Int))]=u8s (ds++[dig d]):=by
 have:=dig_toNat hd
 unfold u8s
 rw[List.map_append,List.map_cons,List.map_nil,this];rfl
theorem ShowW.step {n:Int} {w w' w1:World} {v v':Value} {m q:Int} {d:Nat} {ds:List UInt8} {o:Obj} (h:ShowW n w w' v m ds) (hd:Hid (d=m.natAbs % 10)) (hq:Hid (q=m.tdiv 10))
  (hown':w1.ownsRow (w.heap.size + 1) 5 1 v' (ds.length + 1) (u8s ds++[.int .u8 (48 + (d:Int))])) (hgrow:((w'.setCell ⟨w.heap.size,0,none⟩ (.int .i64 q)).alloc o).grownBy w1 v.ownBlock) :
  w1.cell? ⟨w.heap.size,0,none⟩=some (.int .i64 q)∧w1.frozen? ⟨w.heap.size,0,none⟩=false∧Below w.heap.size w w1∧(q≠0→ShowW n w w1 v' q (ds++[dig d])) ∧
   (q=0→w1.ownsRow (w.heap.size + 1) 5 1 v' (digR n.natAbs).length (u8s (digR n.natAbs))):=by
 have hlt:=h.lt
 have hd1:d < 10:=by have:=hd.out;omega
 have hne:some w.heap.size≠v.ownBlock:=fun e=>by have:=h.own.lt _ e.symm;omega
 have hc:w1.cell? ⟨w.heap.size,0,none⟩=some (.int .i64 q):=by
  refine hgrow.cell ?_ hne
  rw[World.cell?_alloc_past _ _ _ (by simp;omega)]
  exact World.cell?_setCell_same w' ⟨w.heap.size,0,none⟩ (.int .i64 q) h.cell
 have hf:w1.frozen? ⟨w.heap.size,0,none⟩=false:=by
  rw[World.frozen?_of_block (hgrow.block w.heap.size (by simp;omega) hne),World.frozen?_alloc_past _ _ _ (by simp;omega)]
  exact(World.frozen?_setCell _ _ _ _).trans h.free
 have hb:Below w.heap.size w w1:=Below.grown ((h.below.setCell (p:=⟨w.heap.size,0,none⟩) (Nat.le_refl _) _).alloc (by simp;omega) o) hgrow (by simp;omega) (fun k hk=>by have:=h.own.lt k hk;omega)
 rw[u8s_snoc ds d hd1] at hown'
 have hl:ds.length + 1=(ds++[dig d]).length:=by simp
 rw[hl] at hown'
 have hq':=hq.out
 have hd':=hd.out
 refine⟨hc,hf,hb,fun hz=>⟨hown',hc,hf,hb,?_,?_,?_⟩,fun hz=>?_⟩
 ·subst hq';subst hd';exact digR_more h.left hz
 ·have:=tdiv_abs m;have:=h.lo;have:=h.hi;omega
 ·have:=tdiv_abs m;have:=h.lo;have:=h.hi;omega
 ·subst hq';subst hd'
  rw[digR_last h.left hz];exact hown'
theorem u8s_at (l:List UInt8) (p:Nat) (h:p < l.length):(u8s l)[p]? = some (.int .u8 (l.getD p 0).toNat):=by
 unfold u8s
 simp[List.getD,h]
theorem cell?_setCell_some {w:World} {p q:Addr} {x v:Value} (h:w.cell? q=some v):∃ v',(w.setCell p x).cell? q=some v':=by
 by_cases e:p=q
 ·subst e;exact⟨x,World.cell?_setCell_same w p x h⟩
 ·exact⟨v,(World.cell?_setCell_other w p q x e).trans h⟩
theorem rev_round {w wr:World} {g n cap j k:Nat} {l:List UInt8} {x y:UInt8} (h:wr.ownsRow (w.heap.size + 1) 5 1 (.slice (some ⟨g,0,none⟩) n cap) n (u8s l)) (hb:Below w.heap.size w wr) :
  ((wr.setCell ⟨g,j,none⟩ (.int .u8 y.toNat)).setCell ⟨g,k,none⟩ (.int .u8 x.toNat)).ownsRow (w.heap.size + 1) 5 1 (.slice (some ⟨g,0,none⟩) n cap) n (u8s ((l.set j y).set k x)) ∧
  Below w.heap.size w ((wr.setCell ⟨g,j,none⟩ (.int .u8 y.toNat)).setCell ⟨g,k,none⟩ (.int .u8 x.toNat)):=by
 have hg:=(h.lt g rfl).1
 have h1:=(h.stored j (.int .u8 y.toNat)).1
 have h2:=(h1.stored k (.int .u8 x.toNat)).1
 refine⟨?_,(hb.setCell (by show w.heap.size≤g;omega) _).setCell (by show w.heap.size≤g;omega) _⟩
 have e:u8s ((l.set j y).set k x)=((u8s l).set j (.int .u8 y.toNat)).set k (.int .u8 x.toNat):=by unfold u8s;rw[List.map_set,List.map_set]
 rw[e];exact h2
theorem run_convert_owned {P:Program} {w:World} {base:Nat} {e:TypeId} {v:Value} {l:List UInt8} (src dst:TypeId) (hs:P.underlying src=some (.slice e)) (he:P.underlying e=some (.int .u8)) (hd:P.underlying dst=some .string)
  (h:w.ownsRow base e 1 v l.length (u8s l)):(convert src dst v).run P w=.ok (.string ⟨l.toArray⟩) w:=by
 rcases h.2 with ⟨rfl,h0⟩|⟨g,cap,cur,rfl,r⟩
 ·have:l=[]:=List.length_eq_zero_iff.1 h0
  subst this
  rw[run_convert_bytes_string w src dst e none _ _ hs he hd]
  simp[Conv.bytesToString]
  rfl
 ·refine run_convert_bytes_back w src dst e ⟨g,0,none⟩ cap l hs he hd fun j hj=>?_
  exact h.cells (g:=g) rfl j _ (by simp[u8s,hj])
theorem own_slice {w:World} {B n:Nat} {v:Value} {xs:List Value} (h:w.ownsRow B 5 1 v n xs) (hn:n≠0):∃ g cap,v=.slice (some ⟨g,0,none⟩) n cap:=by
 rcases h.2 with ⟨_,h0⟩|⟨g,cap,cur,hv,_⟩
 ·exact absurd h0 hn
 ·exact⟨g,cap,hv⟩
def ShowJ (n:Int) (w:World) (a':Act) (w':World):Prop :=
 ∃ (v:Value) (m:Int) (ds:List UInt8) (u6 u7 u11 u12 u13 u14 u15 u16 u17 u18 u19 u20 u21 u22 u23 u24 u25 u26 u27 u28 u29 u30 u31 u32 u33 u34 u35 u36 u37 u38 u39 u40 u41 u42 u43 u44 u45 u46 u47:Value),a'={ tmps:=#[.int .i64 n,.pointer (some ⟨w.heap.size,0,none⟩),.string ⟨#[]⟩,v,.func (.func 191) #[] #[.pointer (some ⟨w.heap.size,0,none⟩)],.bool (decide (n < 0)),u6,u7,.func (.func 191) #[] #[.pointer (some ⟨w.heap.size,0,none⟩)],.int .i64 n,.bool (decide (n < 0)),u11,u12,u13,u14,u15,u16,u17,u18,u19,u20,u21,u22,u23,u24,u25,u26,u27,u28,u29,u30,u31,u32,u33,u34,u35,u36,u37,u38,u39,u40,u41,u42,u43,u44,u45,u46,u47],defers:=[] }∧ShowW n w w' v m ds
set_option maxRecDepth 100000 in
set_option maxHeartbeats 400000 in
theorem show_any (n:Int) (w:World) (h1:-9223372036854775808≤n) (h2:n≤9223372036854775807) :
  Calls Tryz.prog 136 #[.int .i64 n] w fun e w'=>e=.returned (.string ⟨(showL n).toArray⟩)∧Below w.heap.size w w':=by
 have hmf:∀ (fn:Fn) (first cap:Array Value) (w:World),(Instr.makeFunc fn first cap).run Tryz.prog w=.ok (.func fn first cap) w:=fun _ _ _ _=>rfl
 obtain⟨i0,hi,hz0,hz1,hz2⟩:=info_parts Tryz.info5
 go_enter Tryz.func136,Tryz.ntmps136
 go_wp2
 refine wp_scope_again 0 (ShowJ n w) (fun a' w'=>(intOf ((w'.cell? ⟨w.heap.size,0,none⟩).getD undef)).natAbs) rfl { tmps:=#[.int .i64 n,.pointer (some ⟨w.heap.size,0,none⟩),.string ⟨#[]⟩,.slice none 0 0,.func (.func 191) #[] #[.pointer (some ⟨w.heap.size,0,none⟩)],.bool (decide (n < 0)),undef,undef,.func (.func 191) #[] #[.pointer (some ⟨w.heap.size,0,none⟩)],.int .i64 n,.bool (decide (n < 0)),undef,undef,undef,undef,undef,undef,undef,undef,undef,undef,undef,undef,undef,undef,undef,undef,undef,undef,undef,undef,undef,undef,undef,undef,undef,undef,undef,undef,undef,undef,undef,undef,undef,undef,undef,undef,undef],defers:=[] } (w.alloc (.cells #[.int .i64 n] 3)) ?_ ?_ ?_
 ·exact⟨_,n,[],_,_,_,_,_,_,_,_,_,_,_,_,_,_,_,_,_,_,_,_,_,_,_,_,_,_,_,_,_,_,_,_,_,_,_,_,_,_,_,rfl,{ own:=World.ownsRow_nil _ _ _ _,cell:=by rw[World.cell?_alloc_at _ _ _ _ rfl];rfl,free:=World.frozen?_alloc_at _ _ _ _ rfl,below:=(Below.refl _ _).alloc (Nat.le_refl _) _,left:=rfl,lo:=h1,hi:=h2 }⟩
 ·intro HR
  go_wp2
  go_step3
  rename_i hK
  exact hK _ _ HR.out
 ·rintro a' w' ⟨v,m,ds,u6,u7,u11,u12,u13,u14,u15,u16,u17,u18,u19,u20,u21,u22,u23,u24,u25,u26,u27,u28,u29,u30,u31,u32,u33,u34,u35,u36,u37,u38,u39,u40,u41,u42,u43,u44,u45,u46,u47,rfl,HJ⟩
  have hc:=HJ.cell
  have hf:=HJ.free
  have hown:=HJ.own
  have hlo:=HJ.lo
  have hhi:=HJ.hi
  obtain⟨d,hd0⟩:∃ d,d=m.natAbs % 10:=⟨_,rfl⟩
  obtain⟨q,hq0⟩:∃ q,q=m.tdiv 10:=⟨_,rfl⟩
  have hd:=Lib.hid hd0
  have hq:=Lib.hid hq0
  have hown3:=ownsRow_setCell_below (a:=⟨w.heap.size,0,none⟩) hown (Nat.lt_succ_self _) (.int .i64 q)
  have hc2:=World.cell?_setCell_same w' ⟨w.heap.size,0,none⟩ (.int .i64 q) hc
  have hsz:=HJ.lt
  have HC:=Lib.hid hc
  clear hd0 hq0
  have hdl:=HJ.len
  have hdL:=digR_len n.natAbs
  have hdM:=digs_len_19 (n:=n.natAbs) (by omega)
  rw[← hdL] at hdM
  clear hdL
  by_cases hz:q=0
  ·have hqz:(q == 0)=true:=by simpa using hz
   have HZ:=Lib.hid hz
   clear hz
   go_wp2_with (first|(go_at_call 191;refine(last_at m q d _ _ hlo hhi hc hf hd hq).mono ?_;rintro e w2 ⟨rfl,rfl⟩)|(at_builtin;refine wpList_append_own _ rfl _ _ 118 rfl (w.heap.size + 1) 5 i0 (.int .u8 0) 1 1 Tryz.underlying118 hi hz0 hz1 hz2 rfl (by decide) _ _ _ rfl (hown3.alloc _) ⟨w'.heap.size,0,none⟩ 1 1 [.int .u8 (48 + (d:Int))] rfl rfl ?c1 ?c2 ?c3 ?c4 ?c5 ?_))
   case c1=>exact new_one (by simp)
   case c2=>intro u hu;simp at hu;subst hu;rfl
   case c3=>unfold maxLen;omega
   case c4=>omega
   case c5=>simp;omega
   intro v' w1 hown' hgrow _
   have R:=HJ.step hd hq hown' hgrow
   have HO1:=R.2.2.2.2 HZ.out
   have HB1:=R.2.2.1
   have hcc:=R.1
   clear hown' hgrow hown hown3 R HJ hc hf hc2
   by_cases hneg:n < 0
   ·have hs1:=HB1.size
    have hdl1:=digR_pos n.natAbs
    have hng:decide (n < 0)=true:=decide_eq_true hneg
    go_wp2_with (at_builtin;refine wpList_append_own _ rfl _ _ 118 rfl (w.heap.size + 1) 5 i0 (.int .u8 0) 1 1 Tryz.underlying118 hi hz0 hz1 hz2 rfl (by decide) _ _ _ rfl (HO1.alloc _) ⟨w1.heap.size,0,none⟩ 1 1 [.int .u8 45] rfl rfl ?d1 ?d2 ?d3 ?d4 ?d5 ?_)
    case d1=>exact new_one (by simp)
    case d2=>intro u hu;simp at hu;subst hu;rfl
    case d3=>unfold maxLen;omega
    case d4=>omega
    case d5=>simp;exact hs1
    intro v2 w3 hown3 hgrow3 _
    have HO:w3.ownsRow (w.heap.size + 1) 5 1 v2 (outL n).length (u8s (outL n)):=by
     rw[outL_neg hneg]
     have e:u8s (digR n.natAbs)++[Value.int .u8 45]=u8s (digR n.natAbs++[45]):=by unfold u8s;rw[List.map_append];rfl
     have e2:(digR n.natAbs).length + 1=(digR n.natAbs++[45]).length:=by simp
     rw[e,e2] at hown3
     exact hown3
    have HB:Below w.heap.size w w3:=Below.grown (HB1.alloc hs1 _) hgrow3 (by simp;omega) (fun k hk=>by have:=HO1.lt k hk;omega)
    clear hown3 hgrow3 HO1 HB1 hs1
    obtain⟨g,cap,hv⟩:=own_slice HO (by have:=outL_len h1 h2;omega)
    rw[hv] at HO
    rw[hv]
    clear hv
    have hL:=outL_len h1 h2
    go_wp2
    go_loopw [6,7] (fun i k wr=>∃ j k':Nat,i=.int .i64 j∧k=.int .i64 k'∧Hid (j + k' + 1=(outL n).length)∧j≤20∧k'≤20∧wr.ownsRow (w.heap.size + 1) 5 1 (.slice (some ⟨g,0,none⟩) (outL n).length cap) (outL n).length (u8s (revP (outL n) j))∧Below w.heap.size w wr) (fun _ k _=>(intOf k).toNat)
    case atStart=>exact⟨0,(outL n).length - 1,rfl,by go_num,by show _=_;omega,by omega,by omega,by rw[revP_zero];exact HO,HB⟩
    case round =>
     obtain⟨j,k',rfl,rfl,hjk,hj20,hk20,HR,HB2⟩:=hrel
     by_cases hlt:j < k'
     ·have hx:=HR.cellAt j (by have:=hjk.out;omega)
      have hy:=HR.cellAt k' (by have:=hjk.out;omega)
      rw[u8s_at _ j (by rw[revP_len];have:=hjk.out;omega)] at hx
      rw[u8s_at _ k' (by rw[revP_len];have:=hjk.out;omega)] at hy
      obtain⟨x,hxx⟩:∃ x,x=(revP (outL n) j).getD j 0:=⟨_,rfl⟩
      obtain⟨y,hyy⟩:∃ y,y=(revP (outL n) j).getD k' 0:=⟨_,rfl⟩
      rw[← hxx] at hx
      rw[← hyy] at hy
      have HXX:=Lib.hid hxx
      have HYY:=Lib.hid hyy
      clear hxx hyy
      have fx:=HR.frozenAt j
      have fy:=HR.frozenAt k'
      have hjL:(j:Int) < ((outL n).length:Int):=by have:=hjk.out;omega
      have hkL:(k':Int) < ((outL n).length:Int):=by have:=hjk.out;omega
      obtain⟨v9,hy9⟩:=cell?_setCell_some (w:=wr.drew) (p:=⟨g,j,none⟩) (x:=.int .u8 y.toNat) (q:=⟨g,k',none⟩) (v:=.int .u8 y.toNat) hy
      go_wp2
      go_region
      go_wp2
      have R2:=rev_round HR HB2 (x:=x) (y:=y) (j:=j) (k:=k')
      rw[HXX.out,HYY.out,revP_step _ j k' hjk.out hlt] at R2
      rw[HXX.out,HYY.out]
      go_roundw
      case rel=>exact⟨j + 1,k' - 1,by go_num,by go_num,by show _=_;have:=hjk.out;omega,by have:=hjk.out;omega,by omega,R2.1.drew,R2.2.drew⟩
      case measure=>simp[intOf];omega
     ·have hr:=revP_end (outL n) j k' hjk.out hlt
      rw[hr,outL_rev,show (outL n).length=(showL n).length by rw[← outL_rev];simp] at HR
      have hcv:=run_convert_owned (P:=Tryz.prog) 118 9 Tryz.underlying118 Tryz.underlying5 Tryz.underlying9 HR
      rw[← show (outL n).length=(showL n).length by rw[← outL_rev];simp] at hcv
      clear hr HR
      go_wp2
      simp only[Exit.jump]
      go_ret
      exact⟨rfl,HB2⟩
   ·have HO:w1.ownsRow (w.heap.size + 1) 5 1 v' (outL n).length (u8s (outL n)):=by rw[outL_pos hneg];exact HO1
    have HB:=HB1
    clear HO1 HB1
    obtain⟨g,cap,hv⟩:=own_slice HO (by have:=outL_len h1 h2;omega)
    rw[hv] at HO
    rw[hv]
    clear hv
    have hL:=outL_len h1 h2
    go_wp2
    go_loopw [6,7] (fun i k wr=>∃ j k':Nat,i=.int .i64 j∧k=.int .i64 k'∧Hid (j + k' + 1=(outL n).length)∧j≤20∧k'≤20∧wr.ownsRow (w.heap.size + 1) 5 1 (.slice (some ⟨g,0,none⟩) (outL n).length cap) (outL n).length (u8s (revP (outL n) j))∧Below w.heap.size w wr) (fun _ k _=>(intOf k).toNat)
    case atStart=>exact⟨0,(outL n).length - 1,rfl,by go_num,by show _=_;omega,by omega,by omega,by rw[revP_zero];exact HO,HB⟩
    case round =>
     obtain⟨j,k',rfl,rfl,hjk,hj20,hk20,HR,HB2⟩:=hrel
     by_cases hlt:j < k'
     ·have hx:=HR.cellAt j (by have:=hjk.out;omega)
      have hy:=HR.cellAt k' (by have:=hjk.out;omega)
      rw[u8s_at _ j (by rw[revP_len];have:=hjk.out;omega)] at hx
      rw[u8s_at _ k' (by rw[revP_len];have:=hjk.out;omega)] at hy
      obtain⟨x,hxx⟩:∃ x,x=(revP (outL n) j).getD j 0:=⟨_,rfl⟩
      obtain⟨y,hyy⟩:∃ y,y=(revP (outL n) j).getD k' 0:=⟨_,rfl⟩
      rw[← hxx] at hx
      rw[← hyy] at hy
      have HXX:=Lib.hid hxx
      have HYY:=Lib.hid hyy
      clear hxx hyy
      have fx:=HR.frozenAt j
      have fy:=HR.frozenAt k'
      have hjL:(j:Int) < ((outL n).length:Int):=by have:=hjk.out;omega
      have hkL:(k':Int) < ((outL n).length:Int):=by have:=hjk.out;omega
      obtain⟨v9,hy9⟩:=cell?_setCell_some (w:=wr.drew) (p:=⟨g,j,none⟩) (x:=.int .u8 y.toNat) (q:=⟨g,k',none⟩) (v:=.int .u8 y.toNat) hy
      go_wp2
      go_region
      go_wp2
      have R2:=rev_round HR HB2 (x:=x) (y:=y) (j:=j) (k:=k')
      rw[HXX.out,HYY.out,revP_step _ j k' hjk.out hlt] at R2
      rw[HXX.out,HYY.out]
      go_roundw
      case rel=>exact⟨j + 1,k' - 1,by go_num,by go_num,by show _=_;have:=hjk.out;omega,by have:=hjk.out;omega,by omega,R2.1.drew,R2.2.drew⟩
      case measure=>simp[intOf];omega
     ·have hr:=revP_end (outL n) j k' hjk.out hlt
      rw[hr,outL_rev,show (outL n).length=(showL n).length by rw[← outL_rev];simp] at HR
      have hcv:=run_convert_owned (P:=Tryz.prog) 118 9 Tryz.underlying118 Tryz.underlying5 Tryz.underlying9 HR
      rw[← show (outL n).length=(showL n).length by rw[← outL_rev];simp] at hcv
      clear hr HR
      go_wp2
      simp only[Exit.jump]
      go_ret
      exact⟨rfl,HB2⟩
  ·have hqz:(q == 0)=false:=by simpa using hz
   go_wp2_with (first|(go_at_call 191;refine(last_at m q d _ _ hlo hhi hc hf hd hq).mono ?_;rintro e w2 ⟨rfl,rfl⟩)|(at_builtin;refine wpList_append_own _ rfl _ _ 118 rfl (w.heap.size + 1) 5 i0 (.int .u8 0) 1 1 Tryz.underlying118 hi hz0 hz1 hz2 rfl (by decide) _ _ _ rfl (hown3.alloc _) ⟨w'.heap.size,0,none⟩ 1 1 [.int .u8 (48 + (d:Int))] rfl rfl ?c1 ?c2 ?c3 ?c4 ?c5 ?_))
   case c1=>exact new_one (by simp)
   case c2=>intro u hu;simp at hu;subst hu;rfl
   case c3=>unfold maxLen;omega
   case c4=>omega
   case c5=>simp;omega
   intro v' w1 hown' hgrow _
   have R:=HJ.step hd hq hown' hgrow
   have hcc:=R.1
   have R2:=R.2.2.2.1 hz
   clear hown' hgrow hown hown3 R HJ hc hf hc2
   go_wp2
   go_step3
   exact⟨rfl,⟨_,q,ds++[dig d],_,_,_,_,_,_,_,_,_,_,_,_,_,_,_,_,_,_,_,_,_,_,_,_,_,_,_,_,_,_,_,_,_,_,_,_,_,_,_,rfl,R2⟩,by simp[hcc,HC.out,intOf];have:=tdiv_abs m;have:=hq.out;omega⟩
theorem val_take_le (a b:List UInt8):val a≤val (a++b):=by
 rw[val_append]
 have:val a * 1≤val a * 10 ^ b.length:=Nat.mul_le_mul_left _ (Nat.pow_pos (by omega))
 omega
def RdPost (s:ByteArray) (most:Int) (e:Ending):Prop:=e=.returned (.tuple #[.int .i64 (readN s.data.toList most),.bool (readOK s.data.toList most)])
theorem rd_no {s:ByteArray} {most:Int} (h:readOK s.data.toList most=false):RdPost s most (.returned (.tuple #[.int .i64 0,.bool false])):=by
 unfold RdPost readN;rw[h];rfl
theorem rd_yes {s:ByteArray} {most n:Int} (h:readOK s.data.toList most=true) (hn:n=(val s.data.toList:Int)):RdPost s most (.returned (.tuple #[.int .i64 n,.bool true])):=by
 unfold RdPost readN;rw[h,hn];rfl
theorem ok_over {s:ByteArray} {most:Int} {k:Nat} (hp:k < s.size) (h:¬ ((10 * val (s.data.toList.take k) + valD (s[k]'hp):Nat):Int)≤most):readOK s.data.toList most=false:=by
 have h1:=val_take_le (s.data.toList.take (k + 1)) (s.data.toList.drop (k + 1))
 rw[List.take_append_drop,take_snoc s k hp,val_snoc] at h1
 unfold readOK
 rw[decide_eq_false (by omega),Bool.and_false]
set_option maxRecDepth 100000 in
set_option maxHeartbeats 400000 in
theorem read_any (s:ByteArray) (most:Int) (w:World) (hs:s.size≤1048576) (hm1:-9223372036854775808≤most) (hm2:most≤9223372036854775807) :
  Calls Tryz.prog 157 #[.string s,.int .i64 most] w fun e w'=>RdPost s most e∧w=w':=by
 cases hp:plainD s.data.toList with
 | false =>
  have hr:readOK s.data.toList most=false:=by unfold readOK;rw[hp];rfl
  have HR:=Lib.hid hr
  have HP:=Lib.hid hp
  clear hr hp
  go_enter Tryz.func157,Tryz.ntmps157
  go_wp2_with (go_at_call 212;refine(plain_any s _ hs).mono ?_;rw[HP.out];rintro e w' ⟨rfl,rfl⟩)
  go_ret2
  exact⟨rd_no HR.out,rfl⟩
 | true =>
  by_cases hneg:most < 0
  ·have hr:readOK s.data.toList most=false:=by unfold readOK;rw[decide_eq_false (by omega),Bool.and_false]
   have HR:=Lib.hid hr
   have HP:=Lib.hid hp
   clear hr hp
   go_enter Tryz.func157,Tryz.ntmps157
   go_wp2_with (go_at_call 212;refine(plain_any s _ hs).mono ?_;rw[HP.out];rintro e w' ⟨rfl,rfl⟩)
   go_ret2
   exact⟨rd_no HR.out,rfl⟩
  ·have HP:=Lib.hid hp
   have HA:Hid (∀ k (h:k < s.size),isD (s[k]'h)=true):=by
    intro k h
    unfold plainD at hp
    rw[Bool.and_eq_true,List.all_eq_true] at hp
    exact hp.1 _ (Array.getElem_mem_toList (xs:=s.data) h)
   clear hp
   go_enter Tryz.func157,Tryz.ntmps157
   go_wp2_with (go_at_call 212;refine(plain_any s _ hs).mono ?_;rw[HP.out];rintro e w' ⟨rfl,rfl⟩)
   go_loop [6,18] (fun n i=>∃ k acc:Nat,k≤s.size∧i=.int .i64 k∧n=.int .i64 acc∧(acc:Int)≤most∧Hid (acc=val (s.data.toList.take k))) (fun _ i=>s.size - (intOf i).toNat)
   case atStart=>exact⟨0,0,Nat.zero_le _,rfl,rfl,by omega,rfl⟩
   case round =>
    obtain⟨k,acc,hk,rfl,rfl,hle,hacc⟩:=hrel
    by_cases hlt:k < s.size
    ·obtain⟨c1,c2⟩:=(isD_iff _).1 (HA.out k hlt)
     have HN:=Lib.hid (take_snoc s k hlt)
     by_cases hfit:10 * (acc:Int) + ((s[k]'hlt).toNat:Int) - 48≤most
     ·go_wp2
      go_round
      case rel=>exact⟨k + 1,10 * acc + ((s[k]'hlt).toNat - 48),by omega,by go_num,by go_num,by omega,by show _=_;rw[HN.out,val_snoc,← hacc.out];rfl⟩
      case measure=>simp[intOf];omega
     ·have HO:=Lib.hid (ok_over (s:=s) (most:=most) hlt (by rw[← hacc.out];unfold valD;omega))
      by_cases hd:((s[k]'hlt).toNat:Int) - 48≤most
      ·go_wp2
       go_ret2
       exact⟨rd_no HO.out,rfl⟩
      ·have ht:(most - (((s[k]'hlt).toNat:Int) - 48)).tdiv 10=0:=by
        rw[show most - (((s[k]'hlt).toNat:Int) - 48)=-(((s[k]'hlt).toNat:Int) - 48 - most) by omega,Int.neg_tdiv,Int.tdiv_eq_zero_of_lt (by omega) (by omega)];rfl
       by_cases h0:acc≤0
       ·go_wp2
        go_ret2
        exact⟨rd_no HO.out,rfl⟩
       ·go_wp2
        go_ret2
        exact⟨rd_no HO.out,rfl⟩
    ·have hE:=all_take_end s k hlt
     rw[hE] at hacc
     have HOK:Hid (readOK s.data.toList most=true):=by
      have:=hacc.out
      show _=_
      unfold readOK;rw[HP.out,decide_eq_true (by omega)];rfl
     clear hE
     go_wp2
     go_ret2
     exact⟨rd_yes HOK.out (by rw[hacc.out]),rfl⟩
end Go.Proofs.YtdlkjofnnefjfaaGreatDoor.Deci
