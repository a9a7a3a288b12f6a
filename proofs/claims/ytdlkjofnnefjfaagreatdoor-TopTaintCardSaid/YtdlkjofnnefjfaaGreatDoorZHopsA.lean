/- chain.hops: the sequence of a chain's requests. -/
import Derived.Test.YtdlkjofnnefjfaaGreatDoorZShort
import Derived.Test.YtdlkjofnnefjfaaGreatDoorZStartA
set_option linter.all false
namespace Go.Proofs.YtdlkjofnnefjfaaGreatDoor
set_option maxRecDepth 100000
open Go.RowKit Go.Shelf
attribute [local go_sem] Oper.semAt_some
theorem zcn:(Tryz.prog.info? 61).map (·.size)=some 2:=by kernel_rfl
theorem Has.below {F:World→Nat→Prop} {A B:World} {b:Nat} {o:Obj} (h:Has F A b o) (hb:Below A.heap.size A B) (hf:∀ k,F B k→F A k):Has F B b o:=⟨kept hb h.1,fun k=>h.2 (hf _ k)⟩
theorem zbo {w A B:World} {N:Nat} (h:Below N w A) (k:Below A.heap.size A B) (hN:N≤w.heap.size:=by exact yV _):Below N w B:=h.trans (k.mono (yW hN h.size))
theorem zaI {α:Type} {base:Nat} {F:World→Nat→Prop} {J:List α→World→Prop} (hF:Firm base F J) {s:List α} {A B:World} (hJ:J s A) (hb:Below A.heap.size A B) (h:base≤A.heap.size):J s B∧∀ k,F B k→F A k :=
 ⟨hF.below hJ hb h,hF.foot _ _ _ hJ (fun k hk=>hb.block k (hF.lt _ _ _ hJ hk))⟩
theorem Has.calm {base:Nat} {F:World→Nat→Prop} {A:World} {b:Nat} {o:Obj} (h:Has F A b o) (hc:calmB o=false) (hb:base≤b) (hk:Held base F A b):False:=by
 rcases hk with hk|hk|⟨o',h1,h2⟩
 ·exact h.2 hk
 ·omega
 ·rw[h.1] at h1;cases h1;rw[hc] at h2;cases h2
theorem zbV {α:Type} {base:Nat} {F:World→Nat→Prop} {J:List α→World→Prop} (hF:Firm base F J) {s:List α} {A:World} {b:Nat} {o:Obj} (hJ:J s A) (h:Has F A b o) (hb:base≤b) (cs:Array Value) (hc:calmB o=false:=by rfl):J s (A.setRow b cs)∧∀ k,F (A.setRow b cs) k→F A k :=
 ⟨hF.keep _ _ _ hJ (fun k hk=>yI _ _ _ _ (fun e=>by subst e;exact h.calm hc hb hk)) ⟨rfl,rfl,rfl,by simp[World.setRow]⟩,hF.foot _ _ _ hJ (fun k hk=>yI _ _ _ _ (fun e=>by subst e;exact h.2 hk))⟩
theorem zcx {α:Type} {base:Nat} {F:World→Nat→Prop} {J:List α→World→Prop} (hF:Firm base F J) {s:List α} {A:World} {b i:Nat} {o:Obj} (hJ:J s A) (h:Has F A b o) (hb:base≤b) (v:Value) (hc:calmB o=false:=by rfl):J s (A.setCell ⟨b,i,none⟩ v)∧∀ k,F (A.setCell ⟨b,i,none⟩ v) k→F A k :=
 ⟨hF.keep _ _ _ hJ (fun k hk=>yG _ _ _ _ (fun e=>by subst e;exact h.calm hc hb hk)) ⟨rfl,rfl,rfl,by simp⟩,hF.foot _ _ _ hJ (fun k hk=>yG _ _ _ _ (fun e=>by subst e;exact h.2 hk))⟩
structure Clos (F:World→Nat→Prop) (b1 b2 b3 b4 hb:Nat) (raw:ByteArray) (q:Req) (pq hq lv:Value) (h0 h1:Int) (W:World):Prop where
 c1:Has F W b1 (.cells #[.string raw] 9 (0,0))
 c2:Has F W b2 (.cells (reqC q pq hq) 32 (0,0))
 c3:Has F W b3 (.cells #[.pointer (some ⟨hb,0,none⟩)] 65 (0,0))
 c4:Has F W b4 (.cells #[lv] 33 (0,0))
 ch:Has F W hb (.cells #[.int .i64 h0,.int .i64 h1] 61 (0,0))
theorem Clos.below {F:World→Nat→Prop} {b1 b2 b3 b4 hb:Nat} {raw:ByteArray} {q:Req} {pq hq lv:Value} {h0 h1:Int} {A B:World} (h:Clos F b1 b2 b3 b4 hb raw q pq hq lv h0 h1 A) (k:Below A.heap.size A B) (hf:∀ k,F B k→F A k):Clos F b1 b2 b3 b4 hb raw q pq hq lv h0 h1 B :=
 ⟨h.c1.below k hf,h.c2.below k hf,h.c3.below k hf,h.c4.below k hf,h.ch.below k hf⟩
theorem Clos.turn {F:World→Nat→Prop} {b1 b2 b3 b4 hb:Nat} {raw:ByteArray} {q:Req} {pq hq lv:Value} {h0 h1:Int} {A B:World} (h:Clos F b1 b2 b3 b4 hb raw q pq hq lv h0 h1 A) (k:Turns F A B):Clos F b1 b2 b3 b4 hb raw q pq hq lv h0 h1 B :=
 ⟨h.c1.turn k,h.c2.turn k,h.c3.turn k,h.c4.turn k,h.ch.turn k⟩
def ChG (trace:List Req) (pre:List (Req×Value×Value)) (x:Req×Value×Value) (W:World):Prop:=(W.ownsRow 0 9 1 x.2.1 x.1.url.path.length (x.1.url.path.map Value.string)∧FldsN 0 W x.2.2 x.1.heads)∧∃ post,trace=pre.map (·.1)++x.1::post
def ChS (t:List Req×Int×Int) (hb:Nat) (xs:List (Req×Value×Value)) (W:World):Prop:=xs.map (·.1)=t.1∧W.heap[hb]? = some (.cells #[.int .i64 t.2.1,.int .i64 t.2.2] 61 (0,0))
def RowsS (F:World→Nat→Prop) (W:World) (pv hv:Value) (x:Req):Prop:=(W.ownsRow 0 9 1 pv x.url.path.length (x.url.path.map Value.string)∧FldsN 0 W hv x.heads)∧(∀ g,pv.ownBlock=some g→¬ F W g)∧∀ g,hv.ownBlock=some g→¬ F W g
theorem zhB {w w':World} {B e s n:Nat} {v:Value} {xs:List Value} (h:w.ownsRow B e s v n xs) (hk:∀ k,v.ownBlock=some k→k < w.heap.size→w'.heap[k]? = w.heap[k]?):w'.ownsRow B e s v n xs:=by
 obtain⟨h1,h2⟩:=h
 refine⟨h1,?_⟩
 rcases h2 with h2|⟨k,cap,cur,rfl,hg,hh,r⟩
 ·exact .inl h2
 ·exact .inr ⟨k,cap,cur,rfl,hg,(hk k rfl (yS hh)).trans hh,r⟩
theorem FldsN.at {w w':World} {B:Nat} {v:Value} {l:List Fld} (h:FldsN B w v l) (hk:∀ k,v.ownBlock=some k→k < w.heap.size→w'.heap[k]? = w.heap[k]?):FldsN B w' v l:=by
 rcases h with h|⟨k,cap,rfl,hg,h1,h2,cs,h3,h4⟩
 ·exact .inl h
 ·exact .inr ⟨k,cap,rfl,hg,h1,h2,cs,(hk k rfl (yS h3)).trans h3,h4⟩
theorem zds {w:World} {B e s n:Nat} {v:Value} {xs:List Value} (h:w.ownsRow B e s v n xs):w.ownsRow 0 e s v n xs:=by
 obtain⟨h1,h2⟩:=h
 refine⟨h1,?_⟩
 rcases h2 with h2|⟨k,cap,cur,hv,_,r⟩
 ·exact .inl h2
 ·exact .inr ⟨k,cap,cur,hv,Nat.zero_le _,r⟩
theorem zgp {w:World} {B e s n g:Nat} {v:Value} {xs:List Value} (h:w.ownsRow B e s v n xs) (hg:v.ownBlock=some g):g < w.heap.size∧B≤g:=by
 rcases h.2 with ⟨rfl,_⟩|⟨k,cap,cur,rfl,hb,hh,_⟩
 ·cases hg
 ·cases hg;exact⟨yS hh,hb⟩
theorem FldsN.lt {w:World} {B g:Nat} {v:Value} {l:List Fld} (h:FldsN B w v l) (hg:v.ownBlock=some g):g < w.heap.size∧B≤g:=by
 rcases h with ⟨rfl,_⟩|⟨k,cap,rfl,hb,h1,h2,cs,h3,h4⟩
 ·cases hg
 ·cases hg;exact⟨yS h3,hb⟩
theorem RowsS.strs {F:World→Nat→Prop} {W:World} {pv hv:Value} {x:Req} (h:RowsS F W pv hv x):Strs W pv x.url.path:=Strs.of_own h.1.1
theorem RowsS.flds {F:World→Nat→Prop} {W:World} {pv hv:Value} {x:Req} (h:RowsS F W pv hv x):Flds W hv x.heads:=h.1.2.flds
theorem RowsS.step {F:World→Nat→Prop} {A B:World} {pv hv:Value} {x:Req} (h:RowsS F A pv hv x) (hk:∀ k,(pv.ownBlock=some k∨hv.ownBlock=some k)→k < A.heap.size→B.heap[k]? = A.heap[k]?) (hf:∀ k,F B k→F A k∨A.heap.size≤k):RowsS F B pv hv x :=
 ⟨⟨zhB h.1.1 (fun k h1=>hk k (.inl h1)),h.1.2.at (fun k h1=>hk k (.inr h1))⟩,
  fun g hg hF=>(hf g hF).elim (h.2.1 g hg) (fun h'=>by have:=(zgp h.1.1 hg).1;omega),fun g hg hF=>(hf g hF).elim (h.2.2 g hg) (fun h'=>by have:=(h.1.2.lt hg).1;omega)⟩
theorem RowsS.below {F:World→Nat→Prop} {A B:World} {pv hv:Value} {x:Req} (h:RowsS F A pv hv x) (k:Below A.heap.size A B) (hf:∀ k,F B k→F A k):RowsS F B pv hv x:=h.step (fun j _ hj=>k.block j hj) (fun j hj=>.inl (hf j hj))
theorem RowsS.turn {F:World→Nat→Prop} {A B:World} {pv hv:Value} {x:Req} (h:RowsS F A pv hv x) (t:Turns F A B):RowsS F B pv hv x:=h.step (fun j hj hl=>t.2.1 j hl (hj.elim (h.2.1 j) (h.2.2 j))) t.2.2
theorem RowsS.new {α:Type} {base:Nat} {F:World→Nat→Prop} {J:List α→World→Prop} (hF:Firm base F J) {s:List α} {A B:World} (hJ:J s A) (hf:∀ k,F B k→F A k) {pv hv:Value} {x:Req} (ho:B.ownsRow A.heap.size 9 1 pv x.url.path.length (x.url.path.map Value.string)) (hn:FldsN A.heap.size B hv x.heads):RowsS F B pv hv x :=
 ⟨⟨zds ho,hn.base (Nat.zero_le _)⟩,fun g hg h=>by have h1:=(zgp ho hg).2;have h2:=hF.lt _ _ _ hJ (hf g h);omega,fun g hg h=>by have h1:=(hn.lt hg).2;have h2:=hF.lt _ _ _ hJ (hf g h);omega⟩
theorem zc1 {wq A B:World} {F:World→Nat→Prop} (h:Below wq.heap.size wq A) (hF:∀ k,F A k→wq.heap.size≤k) (t:Turns F A B):Below wq.heap.size wq B∧∀ k,F B k→wq.heap.size≤k :=
 ⟨⟨t.1.1.trans h.os,t.1.2.1.trans h.tape,t.1.2.2.1.trans h.output,yW h.size t.1.2.2.2,fun k hk=>(t.2.1 k (Nat.lt_of_lt_of_le hk h.size) (fun h'=>by have:=hF k h';omega)).trans (h.block k hk)⟩,fun k hk=>(t.2.2 k hk).elim (hF k) (fun h'=>yW h.size h')⟩
set_option maxHeartbeats 1000000 in
theorem zg6 (n Lb b3 hb:Nat) (a b h0 h1:Int) (u:FrameMode) (W:World) (hL:W.heap[Lb]? = some (.cells #[.int .i64 a,.int .i64 b] 61 (0,0))) (h3:W.heap[b3]? = some (.cells #[.pointer (some ⟨hb,0,none⟩)] 65 (0,0))) (hh:W.heap[hb]? = some (.cells #[.int .i64 h0,.int .i64 h1] 61 (0,0))) :
  CallsDIn Fence.wide n Tryz.prog 41 #[.pointer (some ⟨Lb,0,none⟩),.pointer (some ⟨b3,0,none⟩)] u W fun e u' w'=>u'=u∧((∃ v,e=.returned v)∧W.setRow hb #[.int .i64 a,.int .i64 b]=w'):=by
 have c3:=yE h3 0 (.pointer (some ⟨hb,0,none⟩)) rfl
 refine callsDIn_of_wp Tryz.func41 rfl trivial ?_ rfl
 simp only[Tryz.ntmps41,List.size_toArray,List.length_cons,List.length_nil,Nat.reduceAdd,Nat.reduceSub,Array.replicate_succ,Array.replicate_zero,List.push_toArray,List.append_toArray,List.nil_append,List.cons_append]
 gi_wp2_with (first|((with_reducible (show wpListIn _ _ _ _ _ (Oper.mk _ (.load 61 _) _ _ _ _::_) _ _));refine zar (by rfl) 61 _ rfl Lb 0 rfl #[.int .i64 a,.int .i64 b] _ (zac hL) Tryz.underlying61 rfl zcn ?_)|((with_reducible (show wpListIn _ _ _ _ _ (Oper.mk none (.store 61 _ _) _ _ _ none::_) _ _));refine zah rfl 61 _ _ rfl hb #[.int .i64 a,.int .i64 b] rfl rfl 61 _ hh zcn rfl (by simp[Value.oneCell']) _ rfl ?_))
 go_end0
 exact⟨⟨_,rfl⟩,rfl⟩
theorem zel {Fc:Fence} {n:Nat} {P:Program} {f:FuncId} {args:Array Value} {u:FrameMode} {w:World} {R R':Ending→FrameMode→World→Prop} (h:CallsDIn Fc n P f args u w R) (hR:∀ e u' w',R e u' w'→R' e u' w'):CallsDIn Fc n P f args u w R' :=
 ⟨h.1,fun c cs hm hr=>by
  obtain⟨e,u',w',fr,h1,h2⟩:=h.2 c cs hm hr
  exact⟨e,u',w',fr,hR _ _ _ h1,h2⟩⟩
theorem zbB {n:Nat} {tmps:Array Value} {R:Ending→World→Prop} (Lb b3 hb:Nat) (a b h0 h1:Int) (W:World) (hL:W.heap[Lb]? = some (.cells #[.int .i64 a,.int .i64 b] 61 (0,0))) (h3:W.heap[b3]? = some (.cells #[.pointer (some ⟨hb,0,none⟩)] 65 (0,0))) (hh:W.heap[hb]? = some (.cells #[.int .i64 h0,.int .i64 h1] 61 (0,0)))
  (hR:∀ v,R (.returned v) (W.setRow hb #[.int .i64 a,.int .i64 b])) :
  LeavesIn Fence.wide n Tryz.prog Tryz.f40 tmps R [{ target:=.fn (.func 41) #[.pointer (some ⟨Lb,0,none⟩),.pointer (some ⟨b3,0,none⟩)],args:=#[] }] .returning W:=by
 refine⟨(by simp),(fun h=>by cases h),.func 41,#[.pointer (some ⟨Lb,0,none⟩),.pointer (some ⟨b3,0,none⟩)],41,#[.pointer (some ⟨Lb,0,none⟩),.pointer (some ⟨b3,0,none⟩)],rfl,(by simp[go_sem]),fun _ _=>trivial,?_⟩
 refine zel (zg6 (n - 1) Lb b3 hb a b h0 h1 .returning W hL h3 hh) ?_
 rintro e u' w' ⟨rfl,⟨v,rfl⟩,rfl⟩
 exact⟨_,results_none rfl _ _ _,hR _⟩
theorem zh0 {i n:Nat} (h:i < n):n - (intOf (.int .i64 ((i + 1:Nat):Int))).toNat < n - (intOf (.int .i64 (i:Int))).toNat:=by
 show n - (((i + 1:Nat):Int)).toNat < n - ((i:Int)).toNat
 omega
theorem zgC {raw:ByteArray} {q:Req} {e:Int} (h:startR raw q=(none,e)):e≠0:=by
 unfold startR at h
 split at h
 ·cases h;decide
 ·split at h
  ·cases h;decide
  ·split at h
   ·cases h;decide
   ·cases h
def HopJ (wq:World) (t:List Req×Int×Int) (rs:List (Int×ByteArray)) (F:World→Nat→Prop) (J:List (Req×Value×Value)→World→Prop) (b1 b2 b3 b4 hb X L:Nat) (raw:ByteArray) (q:Req) (pq hq lv:Value) (h0 h1:Int) (i:Nat) (wr:World):Prop :=
 ∃ pre x pv hv,J pre wr∧Clos F b1 b2 b3 b4 hb raw q pq hq lv h0 h1 wr∧Has F wr X (.cells (reqC x pv hv) 32 (0,0))∧Has F wr L (.cells #[.int .i64 0,.int .i64 0] 61 (0,0))∧RowsS F wr pv hv x∧Below wq.heap.size wq wr∧(∀ k,F wr k→wq.heap.size≤k) ∧
  t=(pre.map (·.1)++(goR x (rs.drop i)).1,(goR x (rs.drop i)).2)∧zbR x (rs.drop i)
set_option maxHeartbeats 2000000 in
theorem zhX (n:Nat) (hn:3≤n) (l:Nat) (wq:World) (Gq:Glob wq) (raw:ByteArray) (q:Req) (pq hq lv:Value) (rs:List (Int×ByteArray)) (hfq:Flds wq hq q.heads) (hpq:∃ a b c,pq=.slice a b c) (hr:Resps wq lv rs) (hs:Starts raw q)
  (hg:∀ x n,startR raw q=(some x,n)→zbR x rs) (b1 b2 b3 b4 hb:Nat) (h0 h1:Int) (hbb:wq.heap.size≤hb) (J:List (Req×Value×Value)→World→Prop) (F:World→Nat→Prop) (hF:Firm wq.heap.size F J)
  (hY:∀ pre x W1,J pre W1→ChG (chainR raw q rs).1 pre x W1→YieldAt Fence.wide (n - 1) Tryz.prog l #[.agg (reqC x.1 x.2.1 x.2.2)] W1 fun e W'=>e=.returned (.bool true)∧J (pre++[x]) W'∧Turns F W1 W')
  (W:World) (hFb:∀ k,F W k→wq.heap.size≤k) (hB:Below wq.heap.size wq W) (hc:Clos F b1 b2 b3 b4 hb raw q pq hq lv h0 h1 W) (hJ:J [] W) :
  CallsIn Fence.wide n Tryz.prog 40 #[.func (.yield l) #[] #[],.pointer (some ⟨b1,0,none⟩),.pointer (some ⟨b2,0,none⟩),.pointer (some ⟨b3,0,none⟩),.pointer (some ⟨b4,0,none⟩)] W fun e W'=>(∃ v,e=.returned v)∧∃ xs,ChS (chainR raw q rs) hb xs W'∧J xs W':=by
 have hmf:∀ (fn:Fn) (first cap:Array Value) (w:World),(Instr.makeFunc fn first cap).run Tryz.prog w=.ok (.func fn first cap) w:=fun _ _ _ _=>rfl
 obtain⟨qr,cr,rfl,hrl,hrr⟩:=hr
 have hrm:rs.length≤9223372036854775807:=yW hrl (by decide)
 have HSt:=Lib.hid (zd6 raw q pq hq W (Gq.below hB) (hfq.below hB) hpq hs)
 obtain⟨t,ht⟩:∃ t,t=chainR raw q rs:=⟨_,rfl⟩
 have HT:Hid (t=_):=ht.trans (chainR.eq_1 raw q rs)
 rw[← ht] at hY ⊢
 clear ht
 obtain⟨o,ho⟩:∃ o,o=startR raw q:=⟨_,rfl⟩
 rw[← ho] at HT HSt
 have hg:∀ x n,o=(some x,n)→zbR x rs:=fun x n h=>hg x n (ho.symm.trans h)
 have hso:startR raw q=o:=ho.symm
 clear ho
 have e1:=yE hc.c1.1 0 (.string raw) rfl
 refine callsIn_of_wp_defers Tryz.func40 rfl trivial ?_ rfl
 simp only[Tryz.ntmps40,List.size_toArray,List.length_cons,List.length_nil,Nat.reduceAdd,Nat.reduceSub,Array.replicate_succ,Array.replicate_zero,List.push_toArray,List.append_toArray,List.nil_append,List.cons_append]
 gi_wp2_with (first|((with_reducible (show wpListIn _ _ _ _ _ (Oper.mk _ (.load 32 _) _ _ _ _::_) _ _));refine zar (by rfl) 32 _ rfl b2 0 rfl (reqC q pq hq) _ (zac hc.c2.1) yA rfl zab ?_))
 refine⟨trivial,fun _=>yW (by decide) hn,?_⟩
 refine(callsIn_wide.2 HSt.out).mono ?_
 rintro e w1 ⟨k1,he⟩
 clear HSt
 have hbw:=hB.size
 obtain⟨J1,f1⟩:=zaI hF hJ k1 hbw
 have c1:=hc.below k1 f1
 have B1:=zbo hB k1
 have hl1:=k1.size
 obtain⟨o,e0⟩:=o
 cases o with
 | none =>
  have hne:(e0 != 0)=true:=by simp[zgC hso]
  have HT:Hid (t=([],e0,0)):=HT.out
  obtain rfl:e=_:=he
  have A1:=row1 w1 (.cells (reqC req0 (.slice none 0 0) (.slice none 0 0)) 32)
  have k2:Below w1.heap.size w1 ((w1.alloc (.cells (reqC req0 (.slice none 0 0) (.slice none 0 0)) 32)).setRow w1.heap.size (reqC req0 (.slice none 0 0) (.slice none 0 0))):=yM (bel1 w1 (.cells (reqC req0 (.slice none 0 0) (.slice none 0 0)) 32)) (yV _)
  have A2:=yH _ _ _ (reqC req0 (.slice none 0 0) (.slice none 0 0)) _ _ A1
  obtain⟨W2,hW2⟩:∃ W2,(w1.alloc (.cells (reqC req0 (.slice none 0 0) (.slice none 0 0)) 32)).setRow w1.heap.size (reqC req0 (.slice none 0 0) (.slice none 0 0))=W2:=⟨_,rfl⟩
  have HW2:=Lib.hid hW2
  rw[hW2] at k2 A2
  clear hW2
  have hx2:w1.heap.size < W2.heap.size:=yS A2
  obtain⟨J2,f2⟩:=zaI hF J1 k2 (by omega)
  have c2:=c1.below k2 f2
  have B2:=zbo B1 k2
  have X2:Has F W2 w1.heap.size (.cells (reqC req0 (.slice none 0 0) (.slice none 0 0)) 32 (0,0)):=⟨A2,fun h=>by have:=hF.lt _ _ _ J1 (f2 _ h);omega⟩
  have L2:=row1 W2 (.cells #[.int .i64 0,.int .i64 0] 61)
  have k3:Below W2.heap.size W2 ((W2.alloc (.cells #[.int .i64 0,.int .i64 0] 61)).setRow W2.heap.size #[.int .i64 e0,.int .i64 0]):=yM (bel1 W2 _) (yV _)
  have L3:=yH _ _ _ #[.int .i64 e0,.int .i64 0] _ _ L2
  obtain⟨W3,hW3⟩:∃ W3,(W2.alloc (.cells #[.int .i64 0,.int .i64 0] 61)).setRow W2.heap.size #[.int .i64 e0,.int .i64 0]=W3:=⟨_,rfl⟩
  have HW3:=Lib.hid hW3
  rw[hW3] at k3 L3
  clear hW3
  have hx3:W2.heap.size < W3.heap.size:=yS L3
  obtain⟨J3,f3⟩:=zaI hF J2 k3 (by omega)
  have c3:=c2.below k3 f3
  have B3:=zbo B2 k3
  have X3:=X2.below k3 f3
  have Y3:Has F W3 W2.heap.size (.cells #[.int .i64 e0,.int .i64 0] 61 (0,0)):=⟨L3,fun h=>by have:=hF.lt _ _ _ J2 (f3 _ h);omega⟩
  gi_wp2_with (first|((with_reducible (show wpListIn _ _ _ _ _ (Oper.mk none (.store 32 (.tmp 6) _) _ _ _ none::_) _ _));refine zah rfl 32 _ _ rfl w1.heap.size (reqC req0 (.slice none 0 0) (.slice none 0 0)) rfl rfl 32 _ A1 zab rfl (by simp[Value.oneCell']) W2 HW2.out ?_)|((with_reducible (show wpListIn _ _ _ _ _ (Oper.mk none (.store 61 (.tmp 8) _) _ _ _ none::_) _ _));refine zah rfl 61 _ _ rfl W2.heap.size #[.int .i64 e0,.int .i64 0] rfl rfl 61 _ L2 zcn rfl (by simp[Value.oneCell']) W3 HW3.out ?_))
  refine⟨fun _ h=>(by cases h),?_⟩
  gi_wp2
  refine zbB _ _ _ _ _ _ _ W3 Y3.1 c3.c3.1 c3.ch.1 (fun v=>⟨⟨v,rfl⟩,[],?_,(zbV hF J3 c3.ch hbb _).1⟩)
  rw[HT.out]
  exact⟨rfl,yH _ _ _ _ _ _ c3.ch.1⟩
 | some x =>
  obtain⟨py,hy,rfl,o1,n1⟩:=he
  obtain⟨q1,m1,d1,rfl⟩:=(Strs.of_own o1).slice
  obtain⟨q2,m2,d2,rfl⟩:=n1.flds.slice
  have A1:=row1 w1 (.cells (reqC req0 (.slice none 0 0) (.slice none 0 0)) 32)
  have k2:Below w1.heap.size w1 ((w1.alloc (.cells (reqC req0 (.slice none 0 0) (.slice none 0 0)) 32)).setRow w1.heap.size (reqC x (.slice q1 m1 d1) (.slice q2 m2 d2))):=yM (bel1 w1 (.cells (reqC req0 (.slice none 0 0) (.slice none 0 0)) 32)) (yV _)
  have A2:=yH _ _ _ (reqC x (.slice q1 m1 d1) (.slice q2 m2 d2)) _ _ A1
  obtain⟨W2,hW2⟩:∃ W2,(w1.alloc (.cells (reqC req0 (.slice none 0 0) (.slice none 0 0)) 32)).setRow w1.heap.size (reqC x (.slice q1 m1 d1) (.slice q2 m2 d2))=W2:=⟨_,rfl⟩
  have HW2:=Lib.hid hW2
  rw[hW2] at k2 A2
  clear hW2
  have hx2:w1.heap.size < W2.heap.size:=yS A2
  obtain⟨J2,f2⟩:=zaI hF J1 k2 (by omega)
  have c2:=c1.below k2 f2
  have B2:=zbo B1 k2
  have X2:Has F W2 w1.heap.size (.cells (reqC x (.slice q1 m1 d1) (.slice q2 m2 d2)) 32 (0,0)):=⟨A2,fun h=>by have:=hF.lt _ _ _ J1 (f2 _ h);omega⟩
  have L2:=row1 W2 (.cells #[.int .i64 0,.int .i64 0] 61)
  have k3:Below W2.heap.size W2 ((W2.alloc (.cells #[.int .i64 0,.int .i64 0] 61)).setRow W2.heap.size #[.int .i64 0,.int .i64 0]):=yM (bel1 W2 _) (yV _)
  have L3:=yH _ _ _ #[.int .i64 0,.int .i64 0] _ _ L2
  obtain⟨W3,hW3⟩:∃ W3,(W2.alloc (.cells #[.int .i64 0,.int .i64 0] 61)).setRow W2.heap.size #[.int .i64 0,.int .i64 0]=W3:=⟨_,rfl⟩
  have HW3:=Lib.hid hW3
  rw[hW3] at k3 L3
  clear hW3
  have hx3:W2.heap.size < W3.heap.size:=yS L3
  obtain⟨J3,f3⟩:=zaI hF J2 k3 (by omega)
  have c3:=c2.below k3 f3
  have B3:=zbo B2 k3
  have X3:=X2.below k3 f3
  have Y3:Has F W3 W2.heap.size (.cells #[.int .i64 0,.int .i64 0] 61 (0,0)):=⟨L3,fun h=>by have:=hF.lt _ _ _ J2 (f3 _ h);omega⟩
  have r1:RowsS F w1 (.slice q1 m1 d1) (.slice q2 m2 d2) x:=RowsS.new hF hJ f1 o1 n1
  have r3:=(r1.below k2 f2).below k3 f3
  have hFb3:∀ k,F W3 k→wq.heap.size≤k:=fun k h=>hFb k (f1 k (f2 k (f3 k h)))
  have HT:Hid (t=(x::(goR x rs).1,(goR x rs).2)):=HT.out
  have HY1:=Lib.hid (hY [] (x,.slice q1 m1 d1,.slice q2 m2 d2) W3 J3 ⟨r3.1,(goR x rs).1,by rw[HT.out];rfl⟩)
  have HGF:=Lib.hid (hg x e0 rfl)
  clear o1 n1 r1
  obtain⟨fn,tmps,assign,body,hyy,hR⟩:=HY1.out
  have HR:=Lib.hid hR
  clear hR HY1
  gi_wp2_with (first|((with_reducible (show wpListIn _ _ _ _ _ (Oper.mk none (.store 32 (.tmp 6) _) _ _ _ none::_) _ _));refine zah rfl 32 _ _ rfl w1.heap.size (reqC x (.slice q1 m1 d1) (.slice q2 m2 d2)) rfl rfl 32 _ A1 zab rfl (by simp[Value.oneCell']) W2 HW2.out ?_)|((with_reducible (show wpListIn _ _ _ _ _ (Oper.mk none (.store 61 (.tmp 8) _) _ _ _ none::_) _ _));refine zah rfl 61 _ _ rfl W2.heap.size #[.int .i64 0,.int .i64 0] rfl rfl 61 _ L2 zcn rfl (by simp[Value.oneCell']) W3 HW3.out ?_)|((with_reducible (show wpListIn _ _ _ _ _ (Oper.mk _ (.load 32 (.tmp 6)) _ _ _ _::_) _ _));refine zar (by rfl) 32 _ rfl w1.heap.size 0 rfl (reqC x (.slice q1 m1 d1) (.slice q2 m2 d2)) _ (zac X3.1) yA rfl zab ?_))
  refine⟨fun _=>yW (by decide) hn,?_⟩
  refine HR.out.mono ?_
  rintro e W4 ⟨rfl,J4,t4⟩
  have c4:=c3.turn t4
  have X4:=X3.turn t4
  have Y4:=Y3.turn t4
  have r4:=r3.turn t4
  obtain⟨B4,hFb4⟩:=zc1 B3 hFb3 t4
  clear HR hyy
  have d4:=yE c4.c4.1 0 (.slice qr rs.length cr) rfl
  gi_wp2
  gi_loopw [10,11,12,13,33,34,35,36,37,38,39,40,41,42,43,44,45,46,47,48,49,50,51,52,53,54,55,56,57] (fun a10 a11 a12 a13 a33 a34 a35 a36 a37 a38 a39 a40 a41 a42 a43 a44 a45 a46 a47 a48 a49 a50 a51 a52 a53 a54 a55 a56 a57 wr=>∃ i:Nat,i≤rs.length∧a33=.int .i64 i∧HopJ wq t rs F J b1 b2 b3 b4 hb w1.heap.size W2.heap.size raw q pq hq (.slice qr rs.length cr) h0 h1 i wr) (fun a10 a11 a12 a13 a33 a34 a35 a36 a37 a38 a39 a40 a41 a42 a43 a44 a45 a46 a47 a48 a49 a50 a51 a52 a53 a54 a55 a56 a57 wr=>rs.length - (intOf a33).toNat)
  case atStart=>exact⟨0,Nat.zero_le _,rfl,[_],x,_,_,J4,c4,X4,Y4,r4,B4,hFb4,by rw[HT.out];rfl,HGF.out⟩
  case round =>
   obtain⟨i,hi,rfl,pre,y,pv,hv,J5,c5,X5,Y5,r5,B5,hFb5,ht5,hg5⟩:=hrel
   by_cases hlt:i < rs.length
   ·obtain⟨bq,off,hqr,hbl,hrg⟩:=hrr i hlt
    subst hqr
    obtain⟨r,hrd⟩:∃ r,r=rs.getD i (0,⟨#[]⟩):=⟨_,rfl⟩
    rw[← hrd] at hrg
    have hdr:rs.drop i=r::rs.drop (i + 1):=by rw[List.drop_eq_getElem_cons hlt,hrd,List.getD_eq_getElem?_getD,List.getElem?_eq_getElem hlt];rfl
    rw[hdr] at ht5 hg5
    clear hdr hrd
    have e1:=(B5.cell (p:=⟨bq,off + i * 2,none⟩) hbl).trans (hrg 0 (.int .i64 r.1) rfl)
    have e2:=(B5.cell (p:=⟨bq,off + i * 2 + 1,none⟩) hbl).trans (hrg 1 (.string r.2) rfl)
    have hlt':(i:Int) < rs.length:=by omega
    obtain⟨q3,m3,d3,rfl⟩:=r5.strs.slice
    obtain⟨q4,m4,d4,rfl⟩:=r5.flds.slice
    have hs5:=B5.size
    have hL3:b3≠W2.heap.size:=by have:=yS c2.c3.1;omega
    have hLh:hb≠W2.heap.size:=by have:=yS c2.ch.1;omega
    have hX1:b1≠w1.heap.size:=by have:=yS c1.c1.1;omega
    have hX2:b2≠w1.heap.size:=by have:=yS c1.c2.1;omega
    have hX3:b3≠w1.heap.size:=by have:=yS c1.c3.1;omega
    have hX4:b4≠w1.heap.size:=by have:=yS c1.c4.1;omega
    have hXh:hb≠w1.heap.size:=by have:=yS c1.ch.1;omega
    have hbX:wq.heap.size≤w1.heap.size:=by omega
    have hbL:wq.heap.size≤W2.heap.size:=by omega
    have hLt:wr.heap.size≠W2.heap.size:=by have:=yS Y5.1;omega
    have A6:=row1 wr (.cells #[.int .i64 0,.string ⟨#[]⟩] 45)
    have k6:Below wr.heap.size wr ((wr.alloc (.cells #[.int .i64 0,.string ⟨#[]⟩] 45)).setRow wr.heap.size #[.int .i64 r.1,.string r.2]):=yM (bel1 wr (.cells #[.int .i64 0,.string ⟨#[]⟩] 45)) (yV _)
    have T6:=yH _ _ _ #[.int .i64 r.1,.string r.2] _ _ A6
    obtain⟨W6,hW6⟩:∃ V,(wr.alloc (.cells #[.int .i64 0,.string ⟨#[]⟩] 45)).setRow wr.heap.size #[.int .i64 r.1,.string r.2]=V:=⟨_,rfl⟩
    have HW6:=Lib.hid hW6
    rw[hW6] at k6 T6
    clear hW6
    have z6:wr.heap.size < W6.heap.size:=yS T6
    obtain⟨J6,f6⟩:=zaI hF J5 k6 (by omega)
    have c6:=c5.below k6 f6
    have X6:=X5.below k6 f6
    have Y6:=Y5.below k6 f6
    have B6:=zbo B5 k6
    have r6:=r5.below k6 f6
    have HSp:=Lib.hid (zhr y (.slice q3 m3 d3) (.slice q4 m4 d4) r.1 r.2 W6 (Gq.below B6) r6.strs r6.flds hg5.1)
    have HT1:Hid (t=(pre.map (·.1)++(goR y (r::rs.drop (i + 1))).1,(goR y (r::rs.drop (i + 1))).2)):=ht5
    have hg6:=hg5.2
    have HT0:Hid (goR y (r::rs.drop (i + 1))=match stepR y r.1 r.2 with|(none,e)=>([],e,if e=0 then r.1 else 0)|(some u,_)=>(u::(goR u (rs.drop (i + 1))).1,(goR u (rs.drop (i + 1))).2)):=goR.eq_2 _ _ _
    obtain⟨⟨o,n⟩,ho⟩:∃ o,o=stepR y r.1 r.2:=⟨_,rfl⟩
    rw[← ho] at HSp HT0 hg6
    clear ho ht5 hg5 hrg
    gi_wp2_with (first|((with_reducible (show wpListIn _ _ _ _ _ (Oper.mk none (.store 45 (.tmp 10) _) _ _ _ none::_) _ _));refine zah rfl 45 _ _ rfl wr.heap.size #[.int .i64 r.1,.string r.2] rfl rfl 45 _ A6 zcK rfl (by simp[Value.oneCell']) W6 HW6.out ?_)|((with_reducible (show wpListIn _ _ _ _ _ (Oper.mk _ (.load 32 (.tmp 6)) _ _ _ _::_) _ _));refine zar (by rfl) 32 _ rfl w1.heap.size 0 rfl (reqC y (.slice q3 m3 d3) (.slice q4 m4 d4)) _ (zac X6.1) yA rfl zab ?_)|((with_reducible (show wpListIn _ _ _ _ _ (Oper.mk _ (.load 45 (.tmp 10)) _ _ _ _::_) _ _));refine zar (by rfl) 45 _ rfl wr.heap.size 0 rfl #[.int .i64 r.1,.string r.2] _ (zac T6) Tryz.underlying45 rfl zcK ?_))
    refine⟨trivial,fun _=>yW (by decide) hn,?_⟩
    refine(callsIn_wide.2 HSp.out).mono ?_
    rintro e W7 ⟨k7,he⟩
    clear HSp e1 e2
    have z7:=k7.size
    have hq7:wq.heap.size≤W7.heap.size:=by omega
    obtain⟨J7,f7⟩:=zaI hF J6 k7 (by omega)
    have c7:=c6.below k7 f7
    have X7:=X6.below k7 f7
    have Y7:=Y6.below k7 f7
    have B7:=zbo B6 k7
    have t7:=kept k7 T6
    cases o with
    | none =>
     obtain⟨q5,m5,d5,q6,m6,d6,rfl⟩:=he
     have HT1:Hid (t=(pre.map (·.1)++[],n,if n=0 then r.1 else 0)):=by show _=_;rw[HT1.out,HT0.out]
     clear HT0 hg6
     have A8:=row1 W7 (.cells (reqC req0 (.slice none 0 0) (.slice none 0 0)) 32)
     have k8:Below W7.heap.size W7 ((W7.alloc (.cells (reqC req0 (.slice none 0 0) (.slice none 0 0)) 32)).setRow W7.heap.size (reqC y (.slice q5 m5 d5) (.slice q6 m6 d6))):=yM (bel1 W7 (.cells (reqC req0 (.slice none 0 0) (.slice none 0 0)) 32)) (yV _)
     have T8:=yH _ _ _ (reqC y (.slice q5 m5 d5) (.slice q6 m6 d6)) _ _ A8
     obtain⟨W8,hW8⟩:∃ V,(W7.alloc (.cells (reqC req0 (.slice none 0 0) (.slice none 0 0)) 32)).setRow W7.heap.size (reqC y (.slice q5 m5 d5) (.slice q6 m6 d6))=V:=⟨_,rfl⟩
     have HW8:=Lib.hid hW8
     rw[hW8] at k8 T8
     clear hW8
     have z8:W7.heap.size < W8.heap.size:=yS T8
     obtain⟨J8,f8⟩:=zaI hF J7 k8 (by omega)
     have c8:=c7.below k8 f8
     have X8:=X7.below k8 f8
     have Y8:=Y7.below k8 f8
     have B8:=zbo B7 k8
     have t8:=(kept k8 t7:W8.heap[wr.heap.size]? = _)
     have g0:=yE Y8.1 0 (.int .i64 0) rfl
     have g1:=yF Y8.1 0
     have Y9:(W8.setCell ⟨W2.heap.size,0,none⟩ (.int .i64 n)).heap[W2.heap.size]? = some (.cells #[.int .i64 n,.int .i64 0] 61 (0,0)):=zap (i:=0) Y8.1 _ rfl
     have v9:=zam (i:=0) c8.c3.1 hL3 (.int .i64 n)
     have u9:=zam (i:=0) c8.ch.1 hLh (.int .i64 n)
     have t9:=zam (i:=0) t8 hLt (.int .i64 n)
     obtain⟨J9,f9⟩:=zcx (i:=0) hF J8 Y8 hbL (.int .i64 n)
     by_cases hn0:n=0
     ·have hb:(n == 0)=true:=by simp[hn0]
      have g2:=yE Y9 1 (.int .i64 0) rfl
      have g3:=yF Y9 1
      have g4:=yE t9 0 (.int .i64 r.1) rfl
      have Y10:((W8.setCell ⟨W2.heap.size,0,none⟩ (.int .i64 n)).setCell ⟨W2.heap.size,1,none⟩ (.int .i64 r.1)).heap[W2.heap.size]? = some (.cells #[.int .i64 n,.int .i64 r.1] 61 (0,0)):=zap (i:=1) Y9 _ rfl
      have v10:=zam (i:=1) v9 hL3 (.int .i64 r.1)
      have u10:=zam (i:=1) u9 hLh (.int .i64 r.1)
      obtain⟨J10,f10⟩:=zcx (i:=1) hF J9 ⟨Y9,fun h=>Y8.2 (f9 _ h)⟩ hbL (.int .i64 r.1)
      have HT2:Hid (t=(pre.map (·.1),n,r.1)):=by show _=_;rw[HT1.out,if_pos hn0];simp
      clear hn0 HT1
      gi_wp2_with (first|((with_reducible (show wpListIn _ _ _ _ _ (Oper.mk none (.store 32 (.tmp 11) _) _ _ _ none::_) _ _));refine zah rfl 32 _ _ rfl W7.heap.size (reqC y (.slice q5 m5 d5) (.slice q6 m6 d6)) rfl rfl 32 _ A8 zab rfl (by simp[Value.oneCell']) W8 HW8.out ?_))
      exact zbB _ _ _ _ _ _ _ _ Y10 v10 u10 (fun v=>⟨⟨v,rfl⟩,pre,⟨by rw[HT2.out],by rw[HT2.out];exact yH _ _ _ _ _ _ u10⟩,(zbV hF J10 ⟨u10,fun h=>c8.ch.2 (f9 _ (f10 _ h))⟩ hbb _).1⟩)
     ·have hb:(n == 0)=false:=by simp[hn0]
      have HT2:Hid (t=(pre.map (·.1),n,0)):=by show _=_;rw[HT1.out,if_neg hn0];simp
      clear hn0 HT1
      gi_wp2_with (first|((with_reducible (show wpListIn _ _ _ _ _ (Oper.mk none (.store 32 (.tmp 11) _) _ _ _ none::_) _ _));refine zah rfl 32 _ _ rfl W7.heap.size (reqC y (.slice q5 m5 d5) (.slice q6 m6 d6)) rfl rfl 32 _ A8 zab rfl (by simp[Value.oneCell']) W8 HW8.out ?_))
      exact zbB _ _ _ _ _ _ _ _ Y9 v9 u9 (fun v=>⟨⟨v,rfl⟩,pre,⟨by rw[HT2.out],by rw[HT2.out];exact yH _ _ _ _ _ _ u9⟩,(zbV hF J9 ⟨u9,fun h=>c8.ch.2 (f9 _ h)⟩ hbb _).1⟩)
    | some z =>
     obtain⟨pv7,hv7,rfl,o7,n7⟩:=he
     have r7:RowsS F W7 pv7 hv7 z:=RowsS.new hF J6 f7 o7 n7
     obtain⟨q5,m5,d5,rfl⟩:=r7.strs.slice
     obtain⟨q6,m6,d6,rfl⟩:=r7.flds.slice
     have HT1:Hid (t=(pre.map (·.1)++z::(goR z (rs.drop (i + 1))).1,(goR z (rs.drop (i + 1))).2)):=by show _=_;rw[HT1.out,HT0.out]
     have HG1:=Lib.hid (hg6 z n rfl)
     clear HT0 hg6 o7 n7
     have A8:=row1 W7 (.cells (reqC req0 (.slice none 0 0) (.slice none 0 0)) 32)
     have k8:Below W7.heap.size W7 ((W7.alloc (.cells (reqC req0 (.slice none 0 0) (.slice none 0 0)) 32)).setRow W7.heap.size (reqC z (.slice q5 m5 d5) (.slice q6 m6 d6))):=yM (bel1 W7 (.cells (reqC req0 (.slice none 0 0) (.slice none 0 0)) 32)) (yV _)
     have T8:=yH _ _ _ (reqC z (.slice q5 m5 d5) (.slice q6 m6 d6)) _ _ A8
     obtain⟨W8,hW8⟩:∃ V,(W7.alloc (.cells (reqC req0 (.slice none 0 0) (.slice none 0 0)) 32)).setRow W7.heap.size (reqC z (.slice q5 m5 d5) (.slice q6 m6 d6))=V:=⟨_,rfl⟩
     have HW8:=Lib.hid hW8
     rw[hW8] at k8 T8
     clear hW8
     have z8:W7.heap.size < W8.heap.size:=yS T8
     obtain⟨J8,f8⟩:=zaI hF J7 k8 (by omega)
     have c8:=c7.below k8 f8
     have X8:=X7.below k8 f8
     have Y8:=Y7.below k8 f8
     have B8:=zbo B7 k8
     have t8:=(kept k8 t7:W8.heap[wr.heap.size]? = _)
     have r8:=r7.below k8 f8
     have T9:=yH _ _ _ (reqC z (.slice q5 m5 d5) (.slice q6 m6 d6)) _ _ X8.1
     obtain⟨J9,f9⟩:=zbV hF J8 X8 hbX (reqC z (.slice q5 m5 d5) (.slice q6 m6 d6))
     have so:∀ k,k≠w1.heap.size→(W8.setRow w1.heap.size (reqC z (.slice q5 m5 d5) (.slice q6 m6 d6))).heap[k]? = W8.heap[k]?:=fun k h=>yI _ _ _ _ (fun e=>h e.symm)
     have c9:Clos F b1 b2 b3 b4 hb raw q pq hq (.slice (some ⟨bq,off,none⟩) rs.length cr) h0 h1 (W8.setRow w1.heap.size (reqC z (.slice q5 m5 d5) (.slice q6 m6 d6))):=⟨⟨(so _ hX1).trans c8.c1.1,fun h=>c8.c1.2 (f9 _ h)⟩,⟨(so _ hX2).trans c8.c2.1,fun h=>c8.c2.2 (f9 _ h)⟩,⟨(so _ hX3).trans c8.c3.1,fun h=>c8.c3.2 (f9 _ h)⟩,⟨(so _ hX4).trans c8.c4.1,fun h=>c8.c4.2 (f9 _ h)⟩,⟨(so _ hXh).trans c8.ch.1,fun h=>c8.ch.2 (f9 _ h)⟩⟩
     have Y9:Has F (W8.setRow w1.heap.size (reqC z (.slice q5 m5 d5) (.slice q6 m6 d6))) W2.heap.size (.cells #[.int .i64 0,.int .i64 0] 61 (0,0)):=⟨(so _ (by omega)).trans Y8.1,fun h=>Y8.2 (f9 _ h)⟩
     have r9:RowsS F (W8.setRow w1.heap.size (reqC z (.slice q5 m5 d5) (.slice q6 m6 d6))) (.slice q5 m5 d5) (.slice q6 m6 d6) z:=⟨⟨zaA r8.1.1 (zay X8.1 (by decide)),r8.1.2.other (zay X8.1 (by decide))⟩,fun g hg h=>r8.2.1 g hg (f9 _ h),fun g hg h=>r8.2.2 g hg (f9 _ h)⟩
     have B9:Below wq.heap.size wq (W8.setRow w1.heap.size (reqC z (.slice q5 m5 d5) (.slice q6 m6 d6))):=yM B8 hbX
     have X9:Has F (W8.setRow w1.heap.size (reqC z (.slice q5 m5 d5) (.slice q6 m6 d6))) w1.heap.size (.cells (reqC z (.slice q5 m5 d5) (.slice q6 m6 d6)) 32 (0,0)):=⟨T9,fun h=>X8.2 (f9 _ h)⟩
     have hFb9:∀ k,F (W8.setRow w1.heap.size (reqC z (.slice q5 m5 d5) (.slice q6 m6 d6))) k→wq.heap.size≤k:=fun k h=>hFb5 k (f6 k (f7 k (f8 k (f9 k h))))
     obtain⟨W9,hW9⟩:∃ V,W8.setRow w1.heap.size (reqC z (.slice q5 m5 d5) (.slice q6 m6 d6))=V:=⟨_,rfl⟩
     have HW9:=Lib.hid hW9
     rw[hW9] at T9 J9 c9 Y9 r9 B9 X9 hFb9
     clear hW9 so
     have HY9:=Lib.hid (hY pre (z,.slice q5 m5 d5,.slice q6 m6 d6) W9 J9 ⟨r9.1,(goR z (rs.drop (i + 1))).1,by rw[HT1.out]⟩)
     obtain⟨fn,tmps,assign,body,hyy,hR⟩:=HY9.out
     have HR:=Lib.hid hR
     clear hR HY9
     gi_wp2_with (first|((with_reducible (show wpListIn _ _ _ _ _ (Oper.mk none (.store 32 (.tmp 11) _) _ _ _ none::_) _ _));refine zah rfl 32 _ _ rfl W7.heap.size (reqC z (.slice q5 m5 d5) (.slice q6 m6 d6)) rfl rfl 32 _ A8 zab rfl (by simp[Value.oneCell']) W8 HW8.out ?_)|((with_reducible (show wpListIn _ _ _ _ _ (Oper.mk _ (.load 32 (.tmp 11)) _ _ _ _::_) _ _));refine zar (by rfl) 32 _ rfl W7.heap.size 0 rfl (reqC z (.slice q5 m5 d5) (.slice q6 m6 d6)) _ (zac T8) yA rfl zab ?_)|((with_reducible (show wpListIn _ _ _ _ _ (Oper.mk none (.store 32 (.tmp 6) _) _ _ _ none::_) _ _));refine zah rfl 32 _ _ rfl w1.heap.size (reqC z (.slice q5 m5 d5) (.slice q6 m6 d6)) rfl rfl 32 _ X8.1 zab rfl (by simp[Value.oneCell']) W9 HW9.out ?_)|((with_reducible (show wpListIn _ _ _ _ _ (Oper.mk _ (.load 32 (.tmp 6)) _ _ _ _::_) _ _));refine zar (by rfl) 32 _ rfl w1.heap.size 0 rfl (reqC z (.slice q5 m5 d5) (.slice q6 m6 d6)) _ (zac T9) yA rfl zab ?_))
     refine⟨fun _=>yW (by decide) hn,?_⟩
     refine HR.out.mono ?_
     rintro e W10 ⟨rfl,J10,t10⟩
     obtain⟨B10,hFb10⟩:=zc1 B9 hFb9 t10
     clear HR hyy
     gi_wp2
     go_roundw
     case rel=>exact⟨i + 1,hlt,rfl,pre++[(z,.slice q5 m5 d5,.slice q6 m6 d6)],z,_,_,J10,c9.turn t10,X9.turn t10,Y9.turn t10,r9.turn t10,B10,hFb10,by rw[HT1.out];simp,HG1.out⟩
     case measure=>exact zh0 hlt
   ·have hdr:rs.drop i=[]:=List.drop_eq_nil_of_le (by omega)
    have HT1:Hid (t=(pre.map (·.1),9,0)):=by show _=_;rw[ht5,hdr];simp[goR]
    have g0:=yE Y5.1 0 (.int .i64 0) rfl
    have g1:=yF Y5.1 0
    have hL3:b3≠W2.heap.size:=by have:=yS c2.c3.1;omega
    have hLh:hb≠W2.heap.size:=by have:=yS c2.ch.1;omega
    have Y6:(wr.setCell ⟨W2.heap.size,0,none⟩ (.int .i64 9)).heap[W2.heap.size]? = some (.cells #[.int .i64 9,.int .i64 0] 61 (0,0)):=zap (i:=0) Y5.1 _ rfl
    have v6:=zam (i:=0) c5.c3.1 hL3 (.int .i64 9)
    have u6:=zam (i:=0) c5.ch.1 hLh (.int .i64 9)
    obtain⟨J6,f6⟩:=zcx (i:=0) hF J5 Y5 (by omega) (.int .i64 9)
    clear ht5 hg5 hdr
    gi_wp2
    exact zbB _ _ _ _ _ _ _ _ Y6 v6 u6 (fun v=>⟨⟨v,rfl⟩,pre,⟨by rw[HT1.out],by rw[HT1.out];exact yH _ _ _ _ _ _ u6⟩,(zbV hF J6 ⟨u6,fun h=>c5.ch.2 (f6 _ h)⟩ hbb _).1⟩)
end Go.Proofs.YtdlkjofnnefjfaaGreatDoor
