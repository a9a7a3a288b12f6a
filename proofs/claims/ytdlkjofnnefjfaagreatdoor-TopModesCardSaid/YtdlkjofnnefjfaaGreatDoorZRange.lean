/- Words and small lemmas that all walks of this seat use: strings as lists of bytes, and what is below a world. Words for a range over a function: which blocks a round keeps, what a call that lays new blocks alone keeps. A range over a sequence that writes a block of the caller. A range over a sequence that lays and writes blocks of its own between two elements: the caller names the blocks that are its own (F). The walk of layer 4: a text's bytes as characters: for every text of at most 1048576 bytes. -/
import Derived.Test.YtdlkjofnnefjfaaGreatDoorProg
import Derived.WalkKit
import Derived.WalkLawsBesides
import Derived.WalkSmall
import Derived.WalkSpells
import Derived.Laws.EntriesVeiled
import Derived.Lib.OthersKept
import Derived.Lib.Hide
import Derived.Lib.Bytealg
import Derived.Laws.IdiomStrings
import Derived.Laws.Externs
import Derived.OneCell
import Derived.Outline
import Derived.RangeFuncNested
import Derived.RangeFuncBound
import Derived.RangeFuncCalls
import Derived.RangeFuncLeaves
import Derived.RangeFuncBox
import Derived.RangeFuncWrites
import Derived.RangeFuncFrom
import Derived.Shelf.Abstract
import Derived.Shelf.RegionOpen
import Derived.OwnWalkIn
import Derived.TacticsInMore
import Derived.LoopNIn
import Derived.LoopIn
import Derived.Maps.AppendAt
import Derived.Lib.DecodeN
import Derived.StillTailTactics
import Derived.Laws.Cover4
import Derived.Deep.RegionHeld3
import Derived.Deep.AppendLies
import Derived.OrdersHeld
set_option linter.all false
namespace Go.Proofs.YtdlkjofnnefjfaaGreatDoor
set_option maxRecDepth 100000
section
open Go.RowKit
theorem zA:type_of% @List.getElem_toArray:=@List.getElem_toArray
theorem zB:type_of% @List.getElem_cons_succ:=@List.getElem_cons_succ
theorem zC:type_of% @List.getElem_cons_zero:=@List.getElem_cons_zero
theorem zD:type_of% @List.setIfInBounds_toArray:=@List.setIfInBounds_toArray
theorem zE:type_of% @List.set_cons_zero:=@List.set_cons_zero
theorem zF:type_of% @List.set_cons_succ:=@List.set_cons_succ
theorem tk {P:Program} {ops:Array Oper} {Q:Exit→Act→World→Prop} {md:Region.Mode} {S:World→Prop} {i:Nat} {oi:Oper} {v:Value} {fuel:Nat} {listed:Array Bool} {a:Act} {w:World} (hi:ops[i]?=some oi) (hy:YieldsIf P ops S oi v a) (hS:S w)
 (h:wpAnyH P md ops Q S fuel (listed.setIfInBounds i true) (a.put oi.dst v) w) (hs:Region.noSelect ops=true:=by kernel_rfl) (hf:Region.free md ops listed i=true:=by kernel_rfl) (hr:(Region.ready md ops listed).contains i=true:=by kernel_rfl)
 (hQ:∀ (c:List PanicEntry) (a:Act) (w:World),Q (.panic c) (a.put oi.dst v) w→Q (.panic c) a w:=by exact fun _ _ _ h=>h):wpAnyH P md ops Q S (fuel+1) listed a w:=
 wpAnyH_take hi hs hf hr hQ hy hS h
end
section
open Go.RowKit
def bs (l:List UInt8):ByteArray:=⟨l.toArray⟩
theorem bs_list (l:List UInt8):(bs l).data.toList=l:=rfl
theorem bs_size (l:List UInt8):(bs l).size=l.length:=rfl
theorem bs_of (s:ByteArray):bs s.data.toList=s:=by cases s;simp[bs]
theorem ret_bool {a b:Bool} (h:a=b):Ending.returned (.bool a)=.returned (.bool b):=by rw[h]
theorem ret_int {k:IntKind} {a b:Int} (h:a=b):Ending.returned (.int k a)=.returned (.int k b):=by rw[h]
theorem ret_str {a b:ByteArray} (h:a=b):Ending.returned (.string a)=.returned (.string b):=by rw[h]
theorem ret_val {a b:Value} (h:a=b):Ending.returned a=.returned b:=by rw[h]
theorem size_len (s:ByteArray):s.data.toList.length=s.size:=by rw[Array.length_toList];rfl
theorem take_snoc (s:ByteArray) (k:Nat) (h:k < s.size):s.data.toList.take (k + 1)=s.data.toList.take k++[s[k]]:=by
 rw[List.take_succ_eq_append_getElem (by simpa using h)];rfl
theorem below_then {a b c:World} (h:Below a.heap.size a b) (k:Below b.heap.size b c):Below a.heap.size a c:=h.trans (k.mono h.size)
theorem getD_data (s:ByteArray) (i:Nat):s.get! i=s.data.toList.getD i 0:=by
 have:s.get! i=s.data[i]!:=rfl
 rw[this]
 by_cases h:i < s.data.size
 ·rw[getElem!_pos s.data i h,List.getD,Array.getElem?_toList,Array.getElem?_eq_getElem h];rfl
 ·rw[getElem!_neg s.data i h,List.getD,Array.getElem?_toList,Array.getElem?_eq_none (by omega)];rfl
theorem toList_data (s:ByteArray):s.toList=s.data.toList:=by
 have h:∀ (n i:Nat) (r:List UInt8),s.size - i=n→ByteArray.toList.loop s i r=r.reverse++s.data.toList.drop i:=by
  intro n
  induction n with
  | zero =>
   intro i r h
   rw[ByteArray.toList.loop,if_neg (by omega),List.drop_eq_nil_of_le (by rw[size_len];omega),List.append_nil]
  | succ n ih =>
   intro i r h
   have hi:i < s.size:=by omega
   rw[ByteArray.toList.loop,if_pos hi,ih (i + 1) _ (by omega),List.reverse_cons,List.append_assoc,List.singleton_append]
   have hd:s.data.toList.drop i=s.get! i::s.data.toList.drop (i + 1):=by
    rw[List.drop_eq_getElem_cons (by rw[size_len];exact hi),getD_data]
    simp[List.getD,hi]
   rw[hd]
 have:=h (s.size - 0) 0 [] rfl
 simpa [ByteArray.toList] using this
theorem mk_list (s:ByteArray):(⟨s.data.toList.toArray⟩:ByteArray)=s:=by cases s;simp
theorem ext_list {a b:ByteArray} (h:a.data.toList=b.data.toList):a=b:=by rw[← mk_list a,← mk_list b,h]
theorem app_list (a b:ByteArray):(a++b).data.toList=a.data.toList++b.data.toList:=by simp[ByteArray.data_append]
theorem app_size (a b:ByteArray):(a++b).size=a.size + b.size:=by rw[← size_len,app_list,List.length_append,size_len,size_len]
theorem beq_no {a b:ByteArray} (h:a≠b):(a.toList == b.toList)=false:=by
 rw[beq_eq_false_iff_ne,toList_data,toList_data]
 exact fun e=>h (ext_list e)
theorem beq_dec (a b:ByteArray):(a.toList == b.toList)=decide (a=b):=by
 by_cases h:a=b
 ·subst h;simp
 ·rw[beq_no h];simp[h]
theorem extract_list (s:ByteArray) (a b:Nat):(s.extract a b).data.toList=(s.data.toList.drop a).take (b - a):=by
 rw[ByteArray.data_extract,Array.toList_extract,List.extract_eq_take_drop]
theorem all_take_end (s:ByteArray) (k:Nat) (h:¬ k < s.size):s.data.toList.take k=s.data.toList:=List.take_of_length_le (by rw[size_len];omega)
theorem empty_iff (t:ByteArray):t.toList.isEmpty=true↔t.size=0:=by
 rw[toList_data,List.isEmpty_iff,← size_len,List.length_eq_zero_iff]
theorem empty_no {t:ByteArray} (h:t.size≠0):t.toList.isEmpty=false:=by
 cases e:t.toList.isEmpty with
 | false=>rfl
 | true=>exact absurd ((empty_iff t).1 e) h
theorem heap_lt {w:World} {b:Nat} {o:Obj} (h:w.heap[b]? = some o):b < w.heap.size:=by
 rcases Nat.lt_or_ge b w.heap.size with h'|h'
 ·exact h'
 ·rw[Array.getElem?_eq_none h'] at h;cases h
theorem take_snocL {α:Type} (l:List α) (k:Nat) (d:α) (h:k < l.length):l.take (k + 1)=l.take k++[l.getD k d]:=by
 rw[List.take_succ_eq_append_getElem h];simp[List.getD,h]
theorem new_one {w:World} {x:Value} {e:TypeId} {b:Nat} (hb:b=w.heap.size):∀ (j:Nat) u,[x][j]? = some u→(w.alloc (.cells #[x] e)).cell? ((⟨b,0,none⟩:Addr).add j)=some u:=by
 intro j u hj
 match j,hj with
 | 0,hj =>
  have hu:x=u:=by simpa using hj
  have ha:(⟨b,0,none⟩:Addr).add 0=⟨b,0,none⟩:=by unfold Addr.add;rw[if_pos rfl]
  rw[ha,World.cell?_alloc_at _ _ _ _ hb,← hu];rfl
end
section
open Go.RowKit Go.Shelf
def KeepAt (p:Nat→Prop) (A B:World):Prop:=A.heap.size≤B.heap.size∧∀ k,p k→B.heap[k]? = A.heap[k]?
theorem KeepAt.refl (p:Nat→Prop) (A:World):KeepAt p A A:=⟨Nat.le_refl _,fun _ _=>rfl⟩
theorem KeepAt.trans {p:Nat→Prop} {A B C:World} (h:KeepAt p A B) (k:KeepAt p B C):KeepAt p A C :=
 ⟨Nat.le_trans h.1 k.1,fun i hi=>(k.2 i hi).trans (h.2 i hi)⟩
theorem KeepAt.cell {p:Nat→Prop} {A B:World} (h:KeepAt p A B) {a:Addr} (ha:p a.block):B.cell? a=A.cell? a:=World.cell?_of_block (w:=A) (h.2 _ ha)
theorem KeepAt.putObj {p:Nat→Prop} {n:Nat} (hp:∀ k,p k→k < n) (W:World) (l:Nat) (o:Obj) (hl:n≤l):KeepAt p W (W.putObj l o) :=
 ⟨by simp,fun k hk=>World.putObj_heap_other (fun e=>by have:=hp k hk;omega)⟩
theorem KeepAt.below {p:Nat→Prop} {n:Nat} (hp:∀ k,p k→k < n) {A B:World} (h:Below n A B):KeepAt p A B:=⟨h.size,fun k hk=>h.block k (hp k hk)⟩
theorem KeepAt.setCell {p:Nat→Prop} (W:World) (a:Addr) (v:Value) (ha:¬ p a.block):KeepAt p W (W.setCell a v) :=
 ⟨by simp,fun k hk=>Below.heap_setCell _ _ _ _ (fun e=>ha (e ▸ hk))⟩
theorem keeps_below {W W':World} (h:Below W.heap.size W W'):KeepsOthers W W' :=
 ⟨h.size,fun k _ hk _=>(h.block k (heap_lt hk)).trans hk⟩
theorem grown_below {W W':World} (h:Below W.heap.size W W'):W.grownBy W' none :=
 ⟨h.os,h.tape,h.output,h.size,fun k hk _=>h.block k hk⟩
theorem abides_below {β:Type} {B:Nat} {J:β→World→Prop} (h:AbidesFrom B J) {s:β} {W W':World} (hs:J s W) (hb:Below W.heap.size W W'):J s W' :=
 h s W W' none hs (grown_below hb) (fun r e=>by cases e)
theorem own_block {β:Type} {B:Nat} (blk:β→Nat) (o:β→Obj) (hc:∀ s,(o s).isCells=true):OwnFrom B (fun (s:β) W=>W.heap[blk s]? = some (o s)):=by
 intro s W W' row hs hg hr
 refine(hg.block _ (heap_lt hs) ?_).trans hs
 intro e
 obtain⟨_,o',h1,h2⟩:=hr _ e.symm
 rw[hs] at h1
 cases h1
 rw[hc] at h2;cases h2
def SeqG {α:Type} (n:Nat) (P:Program) (g:Nat) (lb:Array Value) (encs:α→Array Value) (Kp:World→World→Prop) (G:List α→α→World→Prop) (S Sp:List α→Prop) (w:World):Prop :=
 ∀ (l:Nat) (J Jx:List α→World→Prop) (W:World),Below w.heap.size w W→AbidesFrom W.heap.size J→AbidesFrom W.heap.size Jx →
  (∀ pre x W1,J pre W1→G pre x W1→YieldAt Fence.wide (n - 1) P l (encs x) W1 fun e W' =>
   (e=.returned (.bool true)∧J (pre++[x]) W'∧Kp W1 W')∨(e=.returned (.bool false)∧Jx (pre++[x]) W')) →
  J [] W →
  CallsIn Fence.wide n P g (#[.func (.yield l) #[] #[]]++lb) W fun e W'=>(∃ v,e=.returned v)∧((∃ xs,S xs∧J xs W')∨(∃ pre,Sp pre∧Jx pre W'))
def LeftBy {α:Type} (Kp:World→World→Prop) (B:Nat) (I:List α→World→Prop) (Ix:Code→List α→World→Prop) (xs:List α) (W:World):Exit→Act→World→Prop
 | .normal,_,W'=>KeepsFrom B W W'∧Kp W W'∧I xs W'
 | .ret,_,W'=>KeepsFrom B W W'∧Ix .ret xs W'
 | .exit id,_,W'=>KeepsFrom B W W'∧Ix (.exit id) xs W'
 | .goto t,_,W'=>KeepsFrom B W W'∧Ix (.goto t) xs W'
 | .panic _,_,_=>False
 | .outgrown,_,_=>False
theorem range_over {α:Type} {n:Nat} {P:Program} {g:Operand} {ps:Array Tmp} {assign body:Code} {Q:Exit→Act→World→Prop} {a:Act} {w:World}
  {gf:Nat} {lb:Array Value} (hg:a.eval g=.func (.func gf) #[] lb) (eg:∀ args w,(callFunc gf args).run P w=.ok (.enter gf args) w)
  {encs:α→Array Value} {Kp:World→World→Prop} {G:List α→α→World→Prop} {S Sp:List α→Prop} {w0:World} (hseq:SeqG (n - 1) P gf lb encs Kp G S Sp w0)
  (hKt:∀ {A B C:World},Kp A B→Kp B C→Kp A C) (hKb:∀ (W:World) (l:Nat) (o:Obj),w.heap.size≤l→Kp W (W.putObj l o)) (hb0:Below w0.heap.size w0 w) (hps:∀ x,(encs x).size=ps.size)
  (I:List α→World→Prop) (Ix:Code→List α→World→Prop) (hI:OwnFrom w.heap.size I) (hIx:∀ c,OwnFrom w.heap.size (Ix c)) (hG:∀ x,OwnFrom w.heap.size (fun pre W=>G pre x W)) (h0:I [] w) (a₁:α→Act)
  (hassign:∀ (l:Nat) (x:α) (W:World) (K:Act→World→Prop),K (a₁ x) W →
   assign.wpIn (Fence.wide.inRound l) (n - 1 - 1) P (Exit.then K (fun _ _ _=>False)) { tmps:=(ps.zip (encs x)).foldl (fun t (p,v)=>t.setIfInBounds p v) a.tmps,defers:=[] } W)
  (hbody:∀ (l:Nat) (pre:List α) (x:α) (W:World),I pre W→G pre x W→body.wpIn (Fence.wide.inRound l) (n - 1 - 1) P (LeftBy Kp w.heap.size I Ix (pre++[x]) W) (a₁ x) W)
  (hdone:∀ (D:Nat) (xs:List α) (W:World),w.heap.size≤D→S xs→I xs W→W.heap[D]? = some (.deferred (some []))→Q .normal { a with defers:={ target:=.collected D,args:=#[] }::a.defers } W)
  (hstop:∀ (D:Nat) (c:Code) (pre:List α) (W:World),w.heap.size≤D→Sp pre→Ix c pre W→W.heap[D]? = some (.deferred (some []))→c.wpIn Fence.wide n P Q { a with defers:={ target:=.collected D,args:=#[] }::a.defers } W) :
  (Code.rangeFunc g ps assign body).wpIn Fence.wide n P Q a w:=by
 refine wpIn_rangeFunc ?_
 intro fn hfn
 have hro:Fence.wide.round=none:=rfl
 rw[hro]
 obtain⟨rc,hrc⟩:∃ rc:LoopState→Option Code→Loop,rc=fun st pe=>{ state:=st,pending:=pe,fn,tmps:=a.tmps,params:=ps,assign,body,defers:=w.heap.size }:=⟨_,rfl⟩
 obtain⟨W1,hW1⟩:∃ W1,(w.alloc (.deferred (some []))).alloc (.loop (rc .ready none))=W1:=⟨_,rfl⟩
 have loop1:W1.heap[w.heap.size + 1]? = some (.loop (rc .ready none)):=by
  rw[← hW1]
  have h:=World.alloc_heap_new (w.alloc (.deferred (some []))) (.loop (rc .ready none))
  rwa [World.size_alloc] at h
 have dfr1:W1.heap[w.heap.size]? = some (.deferred (some [])):=by
  rw[← hW1];exact(Below.heap_alloc _ _ _ (by simp)).trans (World.alloc_heap_new w _)
 have below1:Below w.heap.size w W1:=by rw[← hW1];exact((Below.refl _ w).alloc (Nat.le_refl _) _).alloc (by simp) _
 have inv1:I [] W1:=by rw[← hW1];exact hI.alloc _ (hI.alloc _ h0)
 have size1:W1.heap.size=w.heap.size + 2:=by rw[← hW1];simp
 refine⟨w.heap.size + 1,[{ target:=.collected w.heap.size,args:=#[] }],W1,{ target:=.fn (.func gf) lb,args:=#[.func (.yield (w.heap.size + 1)) #[] #[]] },W1,gf,
  #[.func (.yield (w.heap.size + 1)) #[] #[]]++lb,W1,?_,?_,fun _ _=>trivial,?_,fun h=>by simp[Fence.wide] at h,?_⟩
 ·rw[← hW1,hrc];exact run_enterLoop_outer _ _ _ _ _
 ·simp only[resolve,hg]
  simp[go_sem]
 ·simp[invoke,go_sem,eg]
 have part:∀ {A:World} {row:Option Nat},(∀ r,row=some r→W1.heap.size≤r∧∃ o:Obj,A.heap[r]? = some o∧o.isWalk=true)→(∀ r,row=some r→w.heap.size≤r∧∃ o:Obj,A.heap[r]? = some o∧o.isCells=false) :=
  fun hr r e=>by obtain⟨hB,o,ho,hw⟩:=hr r e;exact⟨by omega,o,ho,Obj.not_cells_of_walk hw⟩
 have stay:∀ {A B:World} {row:Option Nat} {k:Nat} {o:Obj},A.grownBy B row→(∀ r,row=some r→W1.heap.size≤r∧∃ o:Obj,A.heap[r]? = some o∧o.isWalk=true)→k < W1.heap.size→A.heap[k]? = some o→B.heap[k]? = some o :=
  fun hgr hr hk ho=>(hgr.block _ (heap_lt ho) (fun e=>by have:=(hr _ e.symm).1;omega)).trans ho
 refine(hseq (w.heap.size + 1)
  (fun pre W=>I pre W∧W.heap[w.heap.size + 1]? = some (.loop (rc .ready none))∧W.heap[w.heap.size]? = some (.deferred (some [])))
  (fun pre W=>∃ c,Ix c pre W∧W.heap[w.heap.size + 1]? = some (.loop (rc .done (some c)))∧W.heap[w.heap.size]? = some (.deferred (some [])))
  W1 (hb0.trans (below1.mono hb0.size))
  (fun s A B row hs hgr hr=>⟨hI s A B row hs.1 hgr (part hr),stay hgr hr (by omega) hs.2.1,stay hgr hr (by omega) hs.2.2⟩)
  (fun s A B row hs hgr hr=>by
   obtain⟨c,hc,hl,hk⟩:=hs
   exact⟨c,hIx c s A B row hc hgr (part hr),stay hgr hr (by omega) hl,stay hgr hr (by omega) hk⟩)
  ?_ ⟨inv1,loop1,dfr1⟩).mono ?_
 ·
  rintro pre x W ⟨hi,hl,hk⟩ hx
  have hlt:w.heap.size + 1 < W.heap.size:=heap_lt hl
  have hy:=run_yield (P:=P) (args:=encs x) hl (by rw[hrc];exact hps x)
  rw[hrc] at hy
  refine⟨fn,_,assign,body,hy,roundIn_of_wpIn hfn (hassign _ x W _ ⟨_,run_beginRound hl (by rw[hrc]),?_⟩)⟩
  obtain⟨V,hV⟩:∃ V,W.putObj (w.heap.size + 1) (.loop { rc .ready none with state:=.busy })=V:=⟨_,rfl⟩
  have vl:V.heap[w.heap.size + 1]? = some (.loop { rc .ready none with state:=.busy }):=by rw[← hV];exact World.putObj_heap_same hlt
  have vk:V.heap[w.heap.size]? = some (.deferred (some [])):=by rw[← hV];exact(World.putObj_heap_other (by omega)).trans hk
  have vi:I pre V:=by rw[← hV];exact hI.putObj _ hi (by omega) hl rfl
  have vx:G pre x V:=by rw[← hV];exact(hG x).putObj _ hx (by omega) hl rfl
  have vK:Kp W V:=by rw[← hV];exact hKb _ _ _ (by omega)
  change Code.wpIn _ _ P body _ (a₁ x) (W.putObj (w.heap.size + 1) (.loop { rc .ready none with state:=.busy }))
  rw[hV]
  refine wpIn_mono (hbody _ pre x V vi vx) ?_
  have shut:∀ (jump:Option Code) (Z:World),KeepsFrom w.heap.size V Z →
    (Instr.endRound (w.heap.size + 1) jump).run P Z=.ok (.bool jump.isNone) (Z.putObj (w.heap.size + 1) (.loop (rc (if jump.isNone then .ready else .done) jump))) ∧
    Z.heap[w.heap.size + 1]? = some (.loop { rc .ready none with state:=.busy }) ∧
    (Z.putObj (w.heap.size + 1) (.loop (rc (if jump.isNone then .ready else .done) jump))).heap[w.heap.size + 1]? = some (.loop (rc (if jump.isNone then .ready else .done) jump)) ∧
    (Z.putObj (w.heap.size + 1) (.loop (rc (if jump.isNone then .ready else .done) jump))).heap[w.heap.size]? = some (.deferred (some [])):=fun jump Z hz=>by
   have zl:=hz.same _ _ (by omega) vl rfl
   have zk:=hz.same _ _ (Nat.le_refl _) vk rfl
   have he:=run_endRound (P:=P) jump zl
   rw[hrc] at he ⊢
   exact⟨he,by rw[hrc] at zl;exact zl,World.putObj_heap_same (heap_lt zl),(World.putObj_heap_other (by omega)).trans zk⟩
  rintro e a3 Z hp
  cases e with
  | normal =>
   obtain⟨hz,hzk,hzi⟩:=hp
   obtain⟨s1,s2,s3,s4⟩:=shut none Z hz
   exact⟨_,_,s1,.inl ⟨rfl,⟨hI.putObj _ hzi (by omega) s2 rfl,s3,s4⟩,hKt (hKt vK hzk) (hKb _ _ _ (by omega))⟩⟩
  | ret =>
   obtain⟨hz,hzi⟩:=hp
   obtain⟨s1,s2,s3,s4⟩:=shut (some .ret) Z hz
   exact⟨_,_,s1,.inr ⟨rfl,.ret,(hIx _).putObj _ hzi (by omega) s2 rfl,s3,s4⟩⟩
  | exit id =>
   obtain⟨hz,hzi⟩:=hp
   obtain⟨s1,s2,s3,s4⟩:=shut (some (.exit id)) Z hz
   exact⟨_,_,s1,.inr ⟨rfl,.exit id,(hIx _).putObj _ hzi (by omega) s2 rfl,s3,s4⟩⟩
  | goto t =>
   obtain⟨hz,hzi⟩:=hp
   obtain⟨s1,s2,s3,s4⟩:=shut (some (.goto t)) Z hz
   exact⟨_,_,s1,.inr ⟨rfl,.goto t,(hIx _).putObj _ hzi (by omega) s2 rfl,s3,s4⟩⟩
  | panic ch=>exact hp.elim
  | outgrown=>exact hp.elim
 ·
  rintro e Z ⟨⟨v,rfl⟩,(⟨xs,hS,hi,hl,hk⟩|⟨pre,hSp,c,hi,hl,hk⟩)⟩
  ·refine⟨none,_,by have h:=run_endLoop (P:=P) hl (by rw[hrc];simp);rw[hrc] at h;exact h,?_⟩
   exact hdone _ xs _ (Nat.le_refl _) hS (hI.putObj _ hi (by omega) hl rfl) ((World.putObj_heap_other (by omega)).trans hk)
  ·refine⟨some c,_,by have h:=run_endLoop (P:=P) hl (by rw[hrc];simp);rw[hrc] at h;exact h,?_⟩
   exact hstop _ c pre _ (Nat.le_refl _) hSp ((hIx c).putObj _ hi (by omega) hl rfl) ((World.putObj_heap_other (by omega)).trans hk)
def upto {α:Type} (f:Nat→α) (k:Nat):List α:=(List.range k).map f
theorem upto_succ {α:Type} (f:Nat→α) (k:Nat):upto f (k + 1)=upto f k++[f k]:=by simp[upto,List.range_succ]
theorem upto_length {α:Type} (f:Nat→α) (k:Nat):(upto f k).length=k:=by simp[upto]
end
section
open Go.RowKit Go.Shelf
def SeqW {α:Type} (n:Nat) (P:Program) (g:Nat) (lb:Array Value) (encs:α→Array Value) (Kp:World→World→Prop) (G:List α→α→World→Prop) (Wr:World→World→Prop) (S Sp:List α→Prop) (w:World):Prop :=
 ∀ (l:Nat) (J Jx:List α→World→Prop) (W:World),Below w.heap.size w W→AbidesFrom W.heap.size J→AbidesFrom W.heap.size Jx→(∀ s A B,J s A→Wr A B→J s B)→(∀ s A B,Jx s A→Wr A B→Jx s B) →
  (∀ pre x W1,J pre W1→G pre x W1→YieldAt Fence.wide (n - 1) P l (encs x) W1 fun e W' =>
   (e=.returned (.bool true)∧J (pre++[x]) W'∧Kp W1 W')∨(e=.returned (.bool false)∧Jx (pre++[x]) W')) →
  J [] W →
  CallsIn Fence.wide n P g (#[.func (.yield l) #[] #[]]++lb) W fun e W'=>(∃ v,e=.returned v)∧((∃ xs,S xs∧J xs W')∨(∃ pre,Sp pre∧Jx pre W'))
theorem range_overW {α:Type} {n:Nat} {P:Program} {g:Operand} {ps:Array Tmp} {assign body:Code} {Q:Exit→Act→World→Prop} {a:Act} {w:World}
  {gf:Nat} {lb:Array Value} (hg:a.eval g=.func (.func gf) #[] lb) (eg:∀ args w,(callFunc gf args).run P w=.ok (.enter gf args) w)
  {encs:α→Array Value} {Kp:World→World→Prop} {G:List α→α→World→Prop} {Wr:World→World→Prop} {S Sp:List α→Prop} {w0:World} (hseq:SeqW (n - 1) P gf lb encs Kp G Wr S Sp w0)
  (hKt:∀ {A B C:World},Kp A B→Kp B C→Kp A C) (hKb:∀ (W:World) (l:Nat) (o:Obj),w.heap.size≤l→Kp W (W.putObj l o)) (hb0:Below w0.heap.size w0 w) (hps:∀ x,(encs x).size=ps.size)
  (I:List α→World→Prop) (Ix:Code→List α→World→Prop) (hI:OwnFrom w.heap.size I) (hIx:∀ c,OwnFrom w.heap.size (Ix c)) (hIW:∀ s A B,I s A→Wr A B→I s B) (hIxW:∀ c s A B,Ix c s A→Wr A B→Ix c s B) (hWk:∀ A B,Wr A B→∀ k,w.heap.size≤k→B.heap[k]? = A.heap[k]?) (hG:∀ x,OwnFrom w.heap.size (fun pre W=>G pre x W)) (h0:I [] w) (a₁:α→Act)
  (hassign:∀ (l:Nat) (x:α) (W:World) (K:Act→World→Prop),K (a₁ x) W →
   assign.wpIn (Fence.wide.inRound l) (n - 1 - 1) P (Exit.then K (fun _ _ _=>False)) { tmps:=(ps.zip (encs x)).foldl (fun t (p,v)=>t.setIfInBounds p v) a.tmps,defers:=[] } W)
  (hbody:∀ (l:Nat) (pre:List α) (x:α) (W:World),I pre W→G pre x W→body.wpIn (Fence.wide.inRound l) (n - 1 - 1) P (LeftBy Kp w.heap.size I Ix (pre++[x]) W) (a₁ x) W)
  (hdone:∀ (D:Nat) (xs:List α) (W:World),w.heap.size≤D→S xs→I xs W→W.heap[D]? = some (.deferred (some []))→Q .normal { a with defers:={ target:=.collected D,args:=#[] }::a.defers } W)
  (hstop:∀ (D:Nat) (c:Code) (pre:List α) (W:World),w.heap.size≤D→Sp pre→Ix c pre W→W.heap[D]? = some (.deferred (some []))→c.wpIn Fence.wide n P Q { a with defers:={ target:=.collected D,args:=#[] }::a.defers } W) :
  (Code.rangeFunc g ps assign body).wpIn Fence.wide n P Q a w:=by
 refine wpIn_rangeFunc ?_
 intro fn hfn
 have hro:Fence.wide.round=none:=rfl
 rw[hro]
 obtain⟨rc,hrc⟩:∃ rc:LoopState→Option Code→Loop,rc=fun st pe=>{ state:=st,pending:=pe,fn,tmps:=a.tmps,params:=ps,assign,body,defers:=w.heap.size }:=⟨_,rfl⟩
 obtain⟨W1,hW1⟩:∃ W1,(w.alloc (.deferred (some []))).alloc (.loop (rc .ready none))=W1:=⟨_,rfl⟩
 have loop1:W1.heap[w.heap.size + 1]? = some (.loop (rc .ready none)):=by
  rw[← hW1]
  have h:=World.alloc_heap_new (w.alloc (.deferred (some []))) (.loop (rc .ready none))
  rwa [World.size_alloc] at h
 have dfr1:W1.heap[w.heap.size]? = some (.deferred (some [])):=by
  rw[← hW1];exact(Below.heap_alloc _ _ _ (by simp)).trans (World.alloc_heap_new w _)
 have below1:Below w.heap.size w W1:=by rw[← hW1];exact((Below.refl _ w).alloc (Nat.le_refl _) _).alloc (by simp) _
 have inv1:I [] W1:=by rw[← hW1];exact hI.alloc _ (hI.alloc _ h0)
 have size1:W1.heap.size=w.heap.size + 2:=by rw[← hW1];simp
 refine⟨w.heap.size + 1,[{ target:=.collected w.heap.size,args:=#[] }],W1,{ target:=.fn (.func gf) lb,args:=#[.func (.yield (w.heap.size + 1)) #[] #[]] },W1,gf,
  #[.func (.yield (w.heap.size + 1)) #[] #[]]++lb,W1,?_,?_,fun _ _=>trivial,?_,fun h=>by simp[Fence.wide] at h,?_⟩
 ·rw[← hW1,hrc];exact run_enterLoop_outer _ _ _ _ _
 ·simp only[resolve,hg]
  simp[go_sem]
 ·simp[invoke,go_sem,eg]
 have part:∀ {A:World} {row:Option Nat},(∀ r,row=some r→W1.heap.size≤r∧∃ o:Obj,A.heap[r]? = some o∧o.isWalk=true)→(∀ r,row=some r→w.heap.size≤r∧∃ o:Obj,A.heap[r]? = some o∧o.isCells=false) :=
  fun hr r e=>by obtain⟨hB,o,ho,hw⟩:=hr r e;exact⟨by omega,o,ho,Obj.not_cells_of_walk hw⟩
 have stay:∀ {A B:World} {row:Option Nat} {k:Nat} {o:Obj},A.grownBy B row→(∀ r,row=some r→W1.heap.size≤r∧∃ o:Obj,A.heap[r]? = some o∧o.isWalk=true)→k < W1.heap.size→A.heap[k]? = some o→B.heap[k]? = some o :=
  fun hgr hr hk ho=>(hgr.block _ (heap_lt ho) (fun e=>by have:=(hr _ e.symm).1;omega)).trans ho
 refine(hseq (w.heap.size + 1)
  (fun pre W=>I pre W∧W.heap[w.heap.size + 1]? = some (.loop (rc .ready none))∧W.heap[w.heap.size]? = some (.deferred (some [])))
  (fun pre W=>∃ c,Ix c pre W∧W.heap[w.heap.size + 1]? = some (.loop (rc .done (some c)))∧W.heap[w.heap.size]? = some (.deferred (some [])))
  W1 (hb0.trans (below1.mono hb0.size))
  (fun s A B row hs hgr hr=>⟨hI s A B row hs.1 hgr (part hr),stay hgr hr (by omega) hs.2.1,stay hgr hr (by omega) hs.2.2⟩)
  (fun s A B row hs hgr hr=>by
   obtain⟨c,hc,hl,hk⟩:=hs
   exact⟨c,hIx c s A B row hc hgr (part hr),stay hgr hr (by omega) hl,stay hgr hr (by omega) hk⟩)
  (fun s A B hs hw=>⟨hIW s A B hs.1 hw,(hWk A B hw _ (by omega)).trans hs.2.1,(hWk A B hw _ (Nat.le_refl _)).trans hs.2.2⟩)
  (fun s A B hs hw=>by
   obtain⟨c,hc,hl,hk⟩:=hs
   exact⟨c,hIxW c s A B hc hw,(hWk A B hw _ (by omega)).trans hl,(hWk A B hw _ (Nat.le_refl _)).trans hk⟩)
  ?_ ⟨inv1,loop1,dfr1⟩).mono ?_
 ·
  rintro pre x W ⟨hi,hl,hk⟩ hx
  have hlt:w.heap.size + 1 < W.heap.size:=heap_lt hl
  have hy:=run_yield (P:=P) (args:=encs x) hl (by rw[hrc];exact hps x)
  rw[hrc] at hy
  refine⟨fn,_,assign,body,hy,roundIn_of_wpIn hfn (hassign _ x W _ ⟨_,run_beginRound hl (by rw[hrc]),?_⟩)⟩
  obtain⟨V,hV⟩:∃ V,W.putObj (w.heap.size + 1) (.loop { rc .ready none with state:=.busy })=V:=⟨_,rfl⟩
  have vl:V.heap[w.heap.size + 1]? = some (.loop { rc .ready none with state:=.busy }):=by rw[← hV];exact World.putObj_heap_same hlt
  have vk:V.heap[w.heap.size]? = some (.deferred (some [])):=by rw[← hV];exact(World.putObj_heap_other (by omega)).trans hk
  have vi:I pre V:=by rw[← hV];exact hI.putObj _ hi (by omega) hl rfl
  have vx:G pre x V:=by rw[← hV];exact(hG x).putObj _ hx (by omega) hl rfl
  have vK:Kp W V:=by rw[← hV];exact hKb _ _ _ (by omega)
  change Code.wpIn _ _ P body _ (a₁ x) (W.putObj (w.heap.size + 1) (.loop { rc .ready none with state:=.busy }))
  rw[hV]
  refine wpIn_mono (hbody _ pre x V vi vx) ?_
  have shut:∀ (jump:Option Code) (Z:World),KeepsFrom w.heap.size V Z →
    (Instr.endRound (w.heap.size + 1) jump).run P Z=.ok (.bool jump.isNone) (Z.putObj (w.heap.size + 1) (.loop (rc (if jump.isNone then .ready else .done) jump))) ∧
    Z.heap[w.heap.size + 1]? = some (.loop { rc .ready none with state:=.busy }) ∧
    (Z.putObj (w.heap.size + 1) (.loop (rc (if jump.isNone then .ready else .done) jump))).heap[w.heap.size + 1]? = some (.loop (rc (if jump.isNone then .ready else .done) jump)) ∧
    (Z.putObj (w.heap.size + 1) (.loop (rc (if jump.isNone then .ready else .done) jump))).heap[w.heap.size]? = some (.deferred (some [])):=fun jump Z hz=>by
   have zl:=hz.same _ _ (by omega) vl rfl
   have zk:=hz.same _ _ (Nat.le_refl _) vk rfl
   have he:=run_endRound (P:=P) jump zl
   rw[hrc] at he ⊢
   exact⟨he,by rw[hrc] at zl;exact zl,World.putObj_heap_same (heap_lt zl),(World.putObj_heap_other (by omega)).trans zk⟩
  rintro e a3 Z hp
  cases e with
  | normal =>
   obtain⟨hz,hzk,hzi⟩:=hp
   obtain⟨s1,s2,s3,s4⟩:=shut none Z hz
   exact⟨_,_,s1,.inl ⟨rfl,⟨hI.putObj _ hzi (by omega) s2 rfl,s3,s4⟩,hKt (hKt vK hzk) (hKb _ _ _ (by omega))⟩⟩
  | ret =>
   obtain⟨hz,hzi⟩:=hp
   obtain⟨s1,s2,s3,s4⟩:=shut (some .ret) Z hz
   exact⟨_,_,s1,.inr ⟨rfl,.ret,(hIx _).putObj _ hzi (by omega) s2 rfl,s3,s4⟩⟩
  | exit id =>
   obtain⟨hz,hzi⟩:=hp
   obtain⟨s1,s2,s3,s4⟩:=shut (some (.exit id)) Z hz
   exact⟨_,_,s1,.inr ⟨rfl,.exit id,(hIx _).putObj _ hzi (by omega) s2 rfl,s3,s4⟩⟩
  | goto t =>
   obtain⟨hz,hzi⟩:=hp
   obtain⟨s1,s2,s3,s4⟩:=shut (some (.goto t)) Z hz
   exact⟨_,_,s1,.inr ⟨rfl,.goto t,(hIx _).putObj _ hzi (by omega) s2 rfl,s3,s4⟩⟩
  | panic ch=>exact hp.elim
  | outgrown=>exact hp.elim
 ·
  rintro e Z ⟨⟨v,rfl⟩,(⟨xs,hS,hi,hl,hk⟩|⟨pre,hSp,c,hi,hl,hk⟩)⟩
  ·refine⟨none,_,by have h:=run_endLoop (P:=P) hl (by rw[hrc];simp);rw[hrc] at h;exact h,?_⟩
   exact hdone _ xs _ (Nat.le_refl _) hS (hI.putObj _ hi (by omega) hl rfl) ((World.putObj_heap_other (by omega)).trans hk)
  ·refine⟨some c,_,by have h:=run_endLoop (P:=P) hl (by rw[hrc];simp);rw[hrc] at h;exact h,?_⟩
   exact hstop _ c pre _ (Nat.le_refl _) hSp ((hIx c).putObj _ hi (by omega) hl rfl) ((World.putObj_heap_other (by omega)).trans hk)
end
section
open Go.RowKit Go.Shelf
def Alike (A B:World):Prop:=B.os=A.os∧B.tape=A.tape∧B.output=A.output∧A.heap.size≤B.heap.size
theorem Alike.trans {A B C:World} (h:Alike A B) (k:Alike B C):Alike A C:=⟨k.1.trans h.1,k.2.1.trans h.2.1,k.2.2.1.trans h.2.2.1,Nat.le_trans h.2.2.2 k.2.2.2⟩
theorem alike_of {B:Nat} {A C:World} (h:Below B A C):Alike A C:=⟨h.os,h.tape,h.output,h.size⟩
theorem alike_put (A:World) (l:Nat) (o:Obj):Alike A (A.putObj l o):=⟨rfl,rfl,rfl,by simp⟩
def calmB:Obj→Bool
 | .cells _ t _=>t == 9 || t == 72
 | _=>false
def Held (base:Nat) (F:World→Nat→Prop) (A:World) (k:Nat):Prop:=F A k∨k < base∨∃ o,A.heap[k]? = some o∧calmB o=true
structure Firm {α:Type} (base:Nat) (F:World→Nat→Prop) (J:List α→World→Prop):Prop where
 foot:∀ s A B,J s A→(∀ k,F A k→B.heap[k]? = A.heap[k]?)→∀ k,F B k→F A k
 keep:∀ s A B,J s A→(∀ k,Held base F A k→B.heap[k]? = A.heap[k]?)→Alike A B→J s B
 lt:∀ s A k,J s A→F A k→k < A.heap.size
theorem Firm.below {α:Type} {base:Nat} {F:World→Nat→Prop} {J:List α→World→Prop} (hF:Firm base F J) {s:List α} {A B:World} (hJ:J s A) (hb:Below A.heap.size A B) (h:base≤A.heap.size):J s B :=
 hF.keep _ _ _ hJ (fun k hk=>hb.block k (by
  rcases hk with hk|hk|⟨o,hk,_⟩
  ·exact hF.lt _ _ _ hJ hk
  ·omega
  ·exact heap_lt hk)) (alike_of hb)
def Turns (F:World→Nat→Prop) (A B:World):Prop:=Alike A B∧(∀ k,k < A.heap.size→¬ F A k→B.heap[k]? = A.heap[k]?)∧(∀ k,F B k→F A k∨A.heap.size≤k)
def SeqF {α:Type} (n:Nat) (P:Program) (g:Nat) (lb:Array Value) (encs:α→Array Value) (G:List α→α→World→Prop) (S:List α→World→Prop) (base:Nat) (ok:Nat→Prop) (w:World):Prop :=
 ∀ (l:Nat) (J:List α→World→Prop) (F:World→Nat→Prop) (W:World),Below w.heap.size w W→Firm base F J→(∀ k,F W k→ok k∨w.heap.size≤k) →
  (∀ pre x W1,J pre W1→G pre x W1→YieldAt Fence.wide (n - 1) P l (encs x) W1 fun e W'=>e=.returned (.bool true)∧J (pre++[x]) W'∧Turns F W1 W') →
  J [] W →
  CallsIn Fence.wide n P g (#[.func (.yield l) #[] #[]]++lb) W fun e W'=>(∃ v,e=.returned v)∧∃ xs,S xs W'∧J xs W'
theorem range_overF {α:Type} {n:Nat} {P:Program} {g:Operand} {ps:Array Tmp} {assign body:Code} {Q:Exit→Act→World→Prop} {a:Act} {w:World}
  {gf:Nat} {lb:Array Value} (hg:a.eval g=.func (.func gf) #[] lb) (eg:∀ args w,(callFunc gf args).run P w=.ok (.enter gf args) w)
  {encs:α→Array Value} {G:List α→α→World→Prop} {S:List α→World→Prop} {base:Nat} {ok:Nat→Prop} {w0:World} (hseq:SeqF (n - 1) P gf lb encs G S base ok w0)
  (hb0:Below w0.heap.size w0 w) (hbase:base≤w.heap.size) (hps:∀ x,(encs x).size=ps.size)
  (I:List α→World→Prop) (F:World→Nat→Prop) (hI:Firm base F I) (hFc:∀ s A k o,I s A→F A k→A.heap[k]? = some o→o.isCells=true)
  (hF0:∀ k,F w k→ok k∨w0.heap.size≤k)
  (hG:∀ pre x A l o o',A.heap[l]? = some o'→o'.isCells=false→G pre x A→G pre x (A.putObj l o))
  (hS:∀ xs A l o o',A.heap[l]? = some o'→o'.isCells=false→S xs A→S xs (A.putObj l o))
  (hGb:∀ pre x A B,Below A.heap.size A B→G pre x A→G pre x B)
  (h0:I [] w) (a₁:α→World→Act) (Wa:α→World→World) (hWa:∀ x W,Below W.heap.size W (Wa x W))
  (hassign:∀ (l:Nat) (pre:List α) (x:α) (W:World) (K:Act→World→Prop),I pre W→G pre x W→K (a₁ x W) (Wa x W) →
   assign.wpIn (Fence.wide.inRound l) (n - 1 - 1) P (Exit.then K (fun _ _ _=>False)) { tmps:=(ps.zip (encs x)).foldl (fun t (p,v)=>t.setIfInBounds p v) a.tmps,defers:=[] } W)
  (hbody:∀ (l:Nat) (pre:List α) (x:α) (W V:World),(∀ k,W.heap.size≤k→V.heap[k]? = (Wa x W).heap[k]?)→I pre V→G pre x V→body.wpIn (Fence.wide.inRound l) (n - 1 - 1) P (fun e _ Z=>e=.normal∧I (pre++[x]) Z∧Turns F V Z) (a₁ x W) V)
  (hdone:∀ (D:Nat) (xs:List α) (W:World),w.heap.size≤D→S xs W→I xs W→W.heap[D]? = some (.deferred (some []))→Q .normal { a with defers:={ target:=.collected D,args:=#[] }::a.defers } W) :
  (Code.rangeFunc g ps assign body).wpIn Fence.wide n P Q a w:=by
 refine wpIn_rangeFunc ?_
 intro fn hfn
 have hro:Fence.wide.round=none:=rfl
 rw[hro]
 obtain⟨rc,hrc⟩:∃ rc:LoopState→Option Code→Loop,rc=fun st pe=>{ state:=st,pending:=pe,fn,tmps:=a.tmps,params:=ps,assign,body,defers:=w.heap.size }:=⟨_,rfl⟩
 obtain⟨W1,hW1⟩:∃ W1,(w.alloc (.deferred (some []))).alloc (.loop (rc .ready none))=W1:=⟨_,rfl⟩
 have loop1:W1.heap[w.heap.size + 1]? = some (.loop (rc .ready none)):=by
  rw[← hW1]
  have h:=World.alloc_heap_new (w.alloc (.deferred (some []))) (.loop (rc .ready none))
  rwa [World.size_alloc] at h
 have dfr1:W1.heap[w.heap.size]? = some (.deferred (some [])):=by
  rw[← hW1];exact(Below.heap_alloc _ _ _ (by simp)).trans (World.alloc_heap_new w _)
 have below1:Below w.heap.size w W1:=by rw[← hW1];exact((Below.refl _ w).alloc (Nat.le_refl _) _).alloc (by simp) _
 have same1:∀ k,F w k→W1.heap[k]? = w.heap[k]?:=fun k hk=>below1.block k (hI.lt _ _ _ h0 hk)
 have inv1:I [] W1:=hI.below h0 below1 hbase
 have size1:W1.heap.size=w.heap.size + 2:=by rw[← hW1];simp
 refine⟨w.heap.size + 1,[{ target:=.collected w.heap.size,args:=#[] }],W1,{ target:=.fn (.func gf) lb,args:=#[.func (.yield (w.heap.size + 1)) #[] #[]] },W1,gf,
  #[.func (.yield (w.heap.size + 1)) #[] #[]]++lb,W1,?_,?_,fun _ _=>trivial,?_,fun h=>by simp[Fence.wide] at h,?_⟩
 ·rw[← hW1,hrc];exact run_enterLoop_outer _ _ _ _ _
 ·simp only[resolve,hg]
  simp[go_sem]
 ·simp[invoke,go_sem,eg]
 have notL:∀ {s A} {st:LoopState} {pe:Option Code},I s A→A.heap[w.heap.size + 1]? = some (.loop (rc st pe))→∀ k,Held base F A k→k≠w.heap.size + 1:=fun hs hl k hk e=>by
  subst e
  rcases hk with hk|hk|⟨o,h1,h2⟩
  ·have:=hFc _ _ _ _ hs hk hl;cases this
  ·omega
  ·rw[hl] at h1;cases h1;cases h2
 have notD:∀ {s A},I s A→A.heap[w.heap.size]? = some (.deferred (some []))→¬ F A w.heap.size:=fun hs hl hk=>by
  have:=hFc _ _ _ _ hs hk hl;cases this
 refine(hseq (w.heap.size + 1)
  (fun pre W=>I pre W∧W.heap[w.heap.size + 1]? = some (.loop (rc .ready none))∧W.heap[w.heap.size]? = some (.deferred (some [])))
  (fun W k=>F W k∨k=w.heap.size∨k=w.heap.size + 1)
  W1 (hb0.trans (below1.mono hb0.size))
  ⟨fun s A B hs h k hk=>by
    rcases hk with hk|hk
    ·exact .inl (hI.foot _ _ _ hs.1 (fun k hk=>h k (.inl hk)) k hk)
    ·exact .inr hk,
   fun s A B hs h al=>⟨hI.keep _ _ _ hs.1 (fun k hk=>h k (hk.imp .inl id)) al,(h _ (.inl (.inr (.inr rfl)))).trans hs.2.1,(h _ (.inl (.inr (.inl rfl)))).trans hs.2.2⟩,
   fun s A k hs hk=>by
    rcases hk with hk|rfl|rfl
    ·exact hI.lt _ _ _ hs.1 hk
    ·exact heap_lt hs.2.2
    ·exact heap_lt hs.2.1⟩
  (fun k hk=>by
   have:=hb0.size
   rcases hk with hk|rfl|rfl
   ·exact hF0 k (hI.foot _ _ _ h0 same1 k hk)
   ·exact .inr this
   ·exact .inr (by omega))
  ?_ ⟨inv1,loop1,dfr1⟩).mono ?_
 ·rintro pre x W0 ⟨hi0,hl0,hk0⟩ hx0
  have hlt0:w.heap.size + 1 < W0.heap.size:=heap_lt hl0
  have hy:=run_yield (P:=P) (args:=encs x) hl0 (by rw[hrc];exact hps x)
  rw[hrc] at hy
  have wb:=hWa x W0
  obtain⟨W,hW⟩:∃ W,Wa x W0=W:=⟨_,rfl⟩
  rw[hW] at wb
  have wsame:∀ k,F W0 k→W.heap[k]? = W0.heap[k]?:=fun k hk=>wb.block k (hI.lt _ _ _ hi0 hk)
  have hi:I pre W:=hI.below hi0 wb (by omega)
  have wf:∀ k,F W k→F W0 k:=hI.foot _ _ _ hi0 wsame
  have hl:W.heap[w.heap.size + 1]? = some (.loop (rc .ready none)):=(wb.block _ hlt0).trans hl0
  have hk:W.heap[w.heap.size]? = some (.deferred (some [])):=(wb.block _ (by omega)).trans hk0
  have hx:G pre x W:=hGb _ _ _ _ wb hx0
  have hlt:w.heap.size + 1 < W.heap.size:=heap_lt hl
  refine⟨fn,_,assign,body,hy,roundIn_of_wpIn hfn (hassign _ pre x W0 _ hi0 hx0 ⟨_,run_beginRound (by rw[hW];exact hl) (by rw[hrc]),?_⟩)⟩
  rw[hW]
  obtain⟨V,hV⟩:∃ V,W.putObj (w.heap.size + 1) (.loop { rc .ready none with state:=.busy })=V:=⟨_,rfl⟩
  have vl:V.heap[w.heap.size + 1]? = some (.loop { rc .ready none with state:=.busy }):=by rw[← hV];exact World.putObj_heap_same hlt
  have vo:∀ k,k≠w.heap.size + 1→V.heap[k]? = W.heap[k]?:=fun k h=>by rw[← hV];exact World.putObj_heap_other h
  have val:Alike W V:=by rw[← hV];exact alike_put _ _ _
  have vz:V.heap.size=W.heap.size:=by rw[← hV];simp
  have vk:V.heap[w.heap.size]? = some (.deferred (some [])):=(vo _ (by omega)).trans hk
  have vi:I pre V:=hI.keep _ _ _ hi (fun k h=>vo k (notL hi hl k h)) val
  have vf:∀ k,F V k→F W k:=hI.foot _ _ _ hi (fun k h=>vo k (notL hi hl k (.inl h)))
  have vx:G pre x V:=by rw[← hV];exact hG _ _ _ _ _ _ hl rfl hx
  change Code.wpIn _ _ P body _ (a₁ x W0) (W.putObj (w.heap.size + 1) (.loop { rc .ready none with state:=.busy }))
  rw[hV]
  refine wpIn_mono (hbody _ pre x W0 V (fun k hk=>by rw[hW];exact vo k (by omega)) vi vx) ?_
  rintro e a3 Z ⟨rfl,hzi,zal,zk,zf⟩
  have zl:Z.heap[w.heap.size + 1]? = some (.loop { rc .ready none with state:=.busy }):=(zk _ (by omega) (fun h=>by have:=hFc _ _ _ _ vi h vl;cases this)).trans vl
  have zd:Z.heap[w.heap.size]? = some (.deferred (some [])):=(zk _ (by omega) (notD vi vk)).trans vk
  have he:=run_endRound (P:=P) none zl
  have znl:∀ k,Held base F Z k→k≠w.heap.size + 1:=fun k hk e=>by
   subst e
   rcases hk with hk|hk|⟨o,h1,h2⟩
   ·have:=hFc _ _ _ _ hzi hk zl;cases this
   ·omega
   ·rw[zl] at h1;cases h1;cases h2
  obtain⟨Z',hZ'⟩:∃ Z',Z.putObj (w.heap.size + 1) (.loop (rc .ready none))=Z':=⟨_,rfl⟩
  have zo:∀ k,k≠w.heap.size + 1→Z'.heap[k]? = Z.heap[k]?:=fun k h=>by rw[← hZ'];exact World.putObj_heap_other h
  have zal':Alike Z Z':=by rw[← hZ'];exact alike_put _ _ _
  have zl':Z'.heap[w.heap.size + 1]? = some (.loop (rc .ready none)):=by rw[← hZ'];exact World.putObj_heap_same (heap_lt zl)
  have wz:=wb.size
  refine⟨_,Z',?_,rfl,⟨hI.keep _ _ _ hzi (fun k h=>zo k (znl k h)) zal',zl',(zo _ (by omega)).trans zd⟩,(alike_of wb).trans (val.trans (zal.trans zal')),?_,?_⟩
  ·rw[← hZ'];rw[hrc] at he ⊢;exact he
  ·intro k hk hn
   have h1:k≠w.heap.size + 1:=fun e=>hn (.inr (.inr e))
   exact(zo k h1).trans ((zk k (by omega) (fun h=>hn (.inl (wf k (vf k h))))).trans ((vo k h1).trans (wb.block k hk)))
  ·intro k hk
   rcases hk with hk|hk
   ·rcases zf k (hI.foot _ _ _ hzi (fun k h=>zo k (znl k (.inl h))) k hk) with h|h
    ·exact .inl (.inl (wf k (vf k h)))
    ·exact .inr (by omega)
   ·exact .inl (.inr hk)
 ·rintro e Z ⟨⟨v,rfl⟩,xs,hSx,hi,hl,hk⟩
  refine⟨none,_,by have h:=run_endLoop (P:=P) hl (by rw[hrc];simp);rw[hrc] at h;exact h,?_⟩
  exact hdone _ xs _ (Nat.le_refl _) (hS _ _ _ _ _ hl rfl hSx) (hI.keep _ _ _ hi (fun k h=>World.putObj_heap_other (notL hi hl k h)) (alike_put _ _ _)) ((World.putObj_heap_other (by omega)).trans hk)
end
end Go.Proofs.YtdlkjofnnefjfaaGreatDoor
namespace Go.Proofs.YtdlkjofnnefjfaaGreatDoor.Iso
open Go.RowKit
set_option maxRecDepth 100000
def encB (b:UInt8):List UInt8:=if b.toNat < 128 then [b] else [UInt8.ofNat (192 + b.toNat / 64),UInt8.ofNat (128 + b.toNat % 64)]
def wideL:List UInt8→List UInt8
 | []=>[]
 | b::l=>encB b++wideL l
def decL (l:List UInt8):Nat×Nat:=Lib.decodeN l.length (l.getD 0 0).toNat (l.getD 1 0).toNat (l.getD 2 0).toNat (l.getD 3 0).toNat
theorem decL_width (l:List UInt8):1≤(decL l).2:=by
 unfold decL Lib.decodeN
 repeat' split
 all_goals (dsimp only;omega)
def rn (l:List UInt8):List Nat :=
 match l with
 | []=>[]
 | c::t=>(decL (c::t)).1::rn ((c::t).drop (decL (c::t)).2)
termination_by l.length
decreasing_by
 have:=decL_width (c::t)
 simp only[List.length_drop,List.length_cons]
 omega
def fits (l:List UInt8):Bool:=(rn l).all fun r=>decide (r≤255)
theorem Tryz.info21:(Tryz.prog.info? 21).map (fun i=>(i.zero,i.size,i.bytes))=some (some (.int .i32 0),1,4):=by kernel_rfl
def runeAt (s:ByteArray) (k j:Nat):Int:=if j < k then ((s.data.toList.getD j 0).toNat:Int) else 0
def WideR (s:ByteArray) (B:Nat) (w wr:World) (k:Nat):Prop :=
 (∀ j,j < s.size→wr.cell? ⟨B,j,none⟩=some (.int .i32 (runeAt s k j)))∧(∀ j,wr.frozen? ⟨B,j,none⟩=false)∧Below B w wr
theorem wideR_step {s:ByteArray} {B:Nat} {w wr:World} {k:Nat} (hk:k < s.size) (h:WideR s B w wr k) :
  WideR s B w (wr.setCell ⟨B,k,none⟩ (.int .i32 ((s[k]'hk).toNat:Int))) (k + 1):=by
 obtain⟨h1,h2,h3⟩:=h
 have e:s.data.toList.getD k 0=s[k]'hk:=by
  rw[← getD_data]
  show s.data[k]! = _
  rw[getElem!_pos s.data k hk];rfl
 refine⟨fun j hj=>?_,fun j=>(World.frozen?_setCell _ _ _ _).trans (h2 j),h3.setCell (Nat.le_refl _) _⟩
 by_cases hjk:j=k
 ·subst hjk
  rw[World.cell?_setCell_same _ _ _ (h1 j hj)]
  unfold runeAt
  rw[if_pos (by omega),e]
 ·rw[World.cell?_setCell_other _ _ _ _ (fun e=>hjk (by cases e;rfl)),h1 j hj]
  unfold runeAt
  by_cases hlt:j < k
  ·rw[if_pos hlt,if_pos (by omega)]
  ·rw[if_neg hlt,if_neg (by omega)]
theorem encode_byte (b:UInt8):Utf8.encode (b.toNat:Int)=⟨(encB b).toArray⟩:=by
 have h0:=b.toNat_lt
 unfold Utf8.encode encB
 have hv:Utf8.valid (b.toNat:Int)=true:=by unfold Utf8.valid;simp;left;omega
 simp only[hv,if_true,Int.toNat_natCast]
 split
 ·simp
 ·rw[if_pos (by omega)]
theorem runesBytes_wide (l:List UInt8):∀ acc:ByteArray,(l.map fun b=>(b.toNat:Int)).foldl (fun r n=>r++Utf8.encode n) acc=⟨acc.data++(wideL l).toArray⟩:=by
 induction l with
 | nil=>intro acc;simp[wideL]
 | cons b l ih =>
  intro acc
  rw[List.map_cons,List.foldl_cons,ih,encode_byte,wideL]
  simp
def widB (s:ByteArray):ByteArray:=⟨(wideL s.data.toList).toArray⟩
theorem wide_end {s:ByteArray} {B:Nat} {w wr:World} (h:WideR s B w wr s.size):(convert 307 9 (.slice (some ⟨B,0,none⟩) s.size s.size)).run Tryz.prog wr=.ok (.string (widB s)) wr:=by
 have hc:=run_convert_runes (P:=Tryz.prog) wr 307 9 21 ⟨B,0,none⟩ s.size s.size (s.data.toList.map fun b=>(b.toNat:Int)) (by simp) Tryz.underlying307 Tryz.underlying21 Tryz.underlying9 (fun j hj=>by
  have hj':j < s.size:=by simpa using hj
  have:=h.1 j hj'
  unfold runeAt at this
  rw[if_pos hj'] at this
  have ea:(⟨B,0,none⟩:Addr).add j=⟨B,j,none⟩:=by unfold Addr.add;split <;> simp_all
  rw[ea,this]
  simp[List.getD,List.getElem?_map]
  cases s.data[j]? <;> simp)
 rw[hc]
 rw[List.take_of_length_le (by simp)]
 unfold runesBytes
 rw[runesBytes_wide]
 unfold widB
 simp
theorem wideR_start {s:ByteArray} {w w1:World} (hown:w1.ownsRow w.heap.size 21 1 (.slice (some ⟨w.heap.size,0,none⟩) s.size s.size) s.size (madeCells #[Value.int .i32 0] s.size).toList) (hgrow:w.grownBy w1 none):WideR s w.heap.size w w1 0:=by
 refine⟨fun j hj=>?_,fun j=>?_,(Below.refl _ _).grown hgrow (Nat.le_refl _) (fun k hk=>by cases hk)⟩
 ·have:=hown.cells (g:=w.heap.size) rfl j (.int .i32 0) (by rw[toList_madeCells_one];simp[hj])
  have ea:(⟨w.heap.size,0,none⟩:Addr).add j=⟨w.heap.size,j,none⟩:=by unfold Addr.add;split <;> simp_all
  rw[ea] at this
  rw[this]
  unfold runeAt
  rw[if_neg (by omega)]
 ·rcases hown.2 with ⟨h,_⟩|⟨g,cap,cur,h,_,hg,_⟩
  ·cases h
  ·cases h
   unfold World.frozen?
   rw[hg]
   simp
set_option maxRecDepth 100000 in
set_option maxHeartbeats 400000 in
theorem wide_any (s:ByteArray) (w:World) (hs:s.size≤1048576) :
  Calls Tryz.prog 224 #[.string s] w fun e w'=>e=.returned (.string (widB s))∧Below w.heap.size w w':=by
 obtain⟨i0,hi,hz0,hz1,hz2⟩:=info_parts Tryz.info21
 go_enter Tryz.func224,Tryz.ntmps224
 go_wp2_with (first|(at_make;refine wpList_make_full _ rfl _ _ 307 rfl w.heap.size 21 i0 (.int .i32 0) 1 Tryz.underlying307 hi hz0 hz1 .i64 .i64 _ _ s.size rfl rfl rfl rfl ?b2 ?b3 (Nat.le_refl _) ?_)|fail)
 case b2=>rw[hz2];omega
 case b3=>unfold maxLen;omega
 intro w1 hown hgrow
 have hR0:=wideR_start hown hgrow
 clear hown hgrow
 go_wp2
 go_loopw [10] (fun i wr=>∃ k:Nat,k≤s.size∧i=.int .i64 k∧WideR s w.heap.size w wr k) (fun i _=>s.size - (intOf i).toNat)
 case atStart=>exact⟨0,Nat.zero_le _,rfl,hR0⟩
 case round =>
  obtain⟨k,hk,rfl,HR⟩:=hrel
  by_cases hp:k < s.size
  ·have hc:=HR.1 k hp
   have hf:=HR.2.1 k
   go_wp2
   go_roundw
   case rel=>exact⟨k + 1,by omega,by go_num,by
    have e:wrap32 ((s[k]'hp).toNat:Int)=(s[k]'hp).toNat:=by have:=(s[k]'hp).toNat_lt;unfold wrap32;omega
    rw[e];exact wideR_step hp HR⟩
   case measure=>simp[intOf];omega
  ·obtain rfl:k=s.size:=by omega
   have hcv:=wide_end HR
   go_wp2
   go_ret
   exact⟨rfl,HR.2.2⟩
end Go.Proofs.YtdlkjofnnefjfaaGreatDoor.Iso
