/- chain.hops. What a range gathers in a row of its own, in a box: what stands from round to round. chain.Hops: all requests that are sent. A region that draws its order, in a round of a range: out of the plain walk. chain.Run: what is sent, and how it ends. -/
import Derived.Test.YtdlkjofnnefjfaaGreatDoorZShort
import Derived.Test.YtdlkjofnnefjfaaGreatDoorZHopsA
import Derived.Maps.OwnIn
set_option linter.all false
namespace Go.Proofs.YtdlkjofnnefjfaaGreatDoor
set_option maxRecDepth 100000
section
open Go.RowKit Go.Shelf
def zfo (raw:ByteArray) (q:Req) (pq hq lv:Value) (hb:Nat) (w:World):World:=(((w.alloc (.cells #[.string raw] 9)).alloc (.cells (reqC q pq hq) 32)).alloc (.cells #[lv] 33)).alloc (.cells #[.pointer (some ⟨hb,0,none⟩)] 65)
set_option maxHeartbeats 1000000 in
theorem zeY (raw:ByteArray) (q:Req) (q0 qh ql:Option Addr) (m0 c0 mh ch ml cl hb:Nat) (w:World) :
  Calls Tryz.prog 20 #[.string raw,.agg (reqC q (.slice q0 m0 c0) (.slice qh mh ch)),.slice ql ml cl,.pointer (some ⟨hb,0,none⟩)] w fun e w' =>
   e=.returned (.func (.func 40) #[] #[.pointer (some ⟨w.heap.size,0,none⟩),.pointer (some ⟨w.heap.size + 1,0,none⟩),.pointer (some ⟨w.heap.size + 3,0,none⟩),.pointer (some ⟨w.heap.size + 2,0,none⟩)])∧zfo raw q (.slice q0 m0 c0) (.slice qh mh ch) (.slice ql ml cl) hb w=w':=by
 have hmf:∀ (fn:Fn) (first cap:Array Value) (w:World),(Instr.makeFunc fn first cap).run Tryz.prog w=.ok (.func fn first cap) w:=fun _ _ _ _=>rfl
 unfold zfo
 go_enter Tryz.func20,Tryz.ntmps20
 go_wp2
 go_ret
 exact⟨rfl,rfl⟩
theorem ze9 (n:Nat) (hn:3≤n) (wq:World) (Gq:Glob wq) (raw:ByteArray) (q:Req) (pq hq lv:Value) (rs:List (Int×ByteArray)) (hfq:Flds wq hq q.heads) (hpq:∃ a b c,pq=.slice a b c) (hr:Resps wq lv rs) (hs:Starts raw q)
  (hg:∀ x n,startR raw q=(some x,n)→zbR x rs) (b1 b2 b3 b4 hb ob:Nat) (h0 h1:Int) (hbb:wq.heap.size≤hb) (hob:wq.heap.size≤ob) (w:World) (hB:Below wq.heap.size wq w)
  (c1:w.heap[b1]? = some (.cells #[.string raw] 9 (0,0))) (c2:w.heap[b2]? = some (.cells (reqC q pq hq) 32 (0,0))) (c3:w.heap[b3]? = some (.cells #[.pointer (some ⟨hb,0,none⟩)] 65 (0,0))) (c4:w.heap[b4]? = some (.cells #[lv] 33 (0,0))) (ch:w.heap[hb]? = some (.cells #[.int .i64 h0,.int .i64 h1] 61 (0,0)))
  (n1:b1≠ob) (n2:b2≠ob) (n3:b3≠ob) (n4:b4≠ob) (nh:hb≠ob) :
  SeqF n Tryz.prog 40 #[.pointer (some ⟨b1,0,none⟩),.pointer (some ⟨b2,0,none⟩),.pointer (some ⟨b3,0,none⟩),.pointer (some ⟨b4,0,none⟩)] (fun x:Req×Value×Value=>#[.agg (reqC x.1 x.2.1 x.2.2)]) (ChG (chainR raw q rs).1) (ChS (chainR raw q rs) hb) wq.heap.size (fun k=>k=ob) w:=by
 intro l J F W hW hF hFo hY hJ
 have no:∀ b o,w.heap[b]? = some o→b≠ob→Has F W b o:=fun b o h hne=>⟨kept hW h,fun hf=>(hFo b hf).elim hne (fun h'=>by have:=yS h;omega)⟩
 refine zhX n hn l wq Gq raw q pq hq lv rs hfq hpq hr hs hg b1 b2 b3 b4 hb h0 h1 hbb J F hF hY W (fun k hk=>?_) (hB.trans (hW.mono hB.size)) ⟨no _ _ c1 n1,no _ _ c2 n2,no _ _ c3 n3,no _ _ c4 n4,no _ _ ch nh⟩ hJ
 have:=hB.size
 rcases hFo k hk with h|h
 ·rw[h];exact hob
 ·omega
end
section
open Go.RowKit Go.Shelf
def OutI {β:Type} (T E sz:Nat) (enc:β→List Value) (At:World→β→Prop) (B ob:Nat) (w:World) (xs:List β) (W:World):Prop :=
 (∃ v,W.heap[ob]? = some (.cells #[v] T (0,0))∧W.ownsRow B E sz v xs.length (xs.flatMap enc))∧(∀ x∈xs,At W x)∧Below B w W
def OutF (T ob:Nat) (W:World) (k:Nat):Prop:=k=ob∨∃ v,W.heap[ob]? = some (.cells #[v] T (0,0))∧v.ownBlock=some k
def Calm {β:Type} (At:World→β→Prop):Prop:=∀ (A B:World) (x:β),At A x→(∀ (k:Nat) (o:Obj),A.heap[k]? = some o→calmB o=true→B.heap[k]? = some o)→At B x
theorem ze4 {A B:World} {b e s n:Nat} {v:Value} {xs:List Value} (he:(e == 9 || e == 72)=true) (h:A.ownsRow b e s v n xs) (hk:∀ (k:Nat) (o:Obj),A.heap[k]? = some o→calmB o=true→B.heap[k]? = some o):B.ownsRow b e s v n xs :=
 zaA h fun k cs h1=>(hk k _ h1 he).trans h1.symm
theorem zf7 {A B:World} {b:Nat} {v:Value} {l:List Fld} (h:FldsN b A v l) (hk:∀ (k:Nat) (o:Obj),A.heap[k]? = some o→calmB o=true→B.heap[k]? = some o):FldsN b B v l :=
 h.other fun k cs h1=>(hk k _ h1 rfl).trans h1.symm
section
variable {α β:Type} {T E sz:Nat} {enc:β→List Value} {At:World→β→Prop} {B ob:Nat} {w:World} {Rel:List α→List β→Prop}
theorem ze3 (hA:Calm At) (hB:B≤ob):Firm B (OutF T ob) (fun (pre:List α) W=>∃ ss,Rel pre ss∧OutI T E sz enc At B ob w ss W) where
 foot:=by
  rintro s A C ⟨ss,hr,⟨v,hv,ho⟩,ha,hb⟩ h k hk
  have h0:=h ob (.inl rfl)
  rcases hk with rfl|⟨u,hu,huk⟩
  ·exact .inl rfl
  ·exact .inr ⟨u,h0 ▸ hu,huk⟩
 keep:=by
  rintro s A C ⟨ss,hr,⟨v,hv,ho⟩,ha,hb⟩ h al
  have hc:∀ (k:Nat) (o:Obj),A.heap[k]? = some o→calmB o=true→C.heap[k]? = some o:=fun k o h1 h2=>(h k (.inr (.inr ⟨o,h1,h2⟩))).trans h1
  refine⟨ss,hr,⟨v,(h ob (.inl (.inl rfl))).trans hv,zhB ho fun k hk _=>h k (.inl (.inr ⟨v,hv,hk⟩))⟩,fun x hx=>hA A C x (ha x hx) hc,al.1.trans hb.os,al.2.1.trans hb.tape,al.2.2.1.trans hb.output,yW hb.size al.2.2.2,fun k hk=>(h k (.inr (.inl hk))).trans (hb.block k hk)⟩
 lt:=by
  rintro s A k ⟨ss,hr,⟨v,hv,ho⟩,ha,hb⟩ hk
  rcases hk with rfl|⟨u,hu,huk⟩
  ·exact yS hv
  ·rw[hv] at hu;cases hu;exact(zgp ho huk).1
theorem zdR {s:List α} {A:World} {k:Nat} {o:Obj} (h:∃ ss,Rel s ss∧OutI T E sz enc At B ob w ss A) (hk:OutF T ob A k) (ho:A.heap[k]? = some o):o.isCells=true:=by
 obtain⟨ss,hr,⟨v,hv,hw⟩,ha,hb⟩:=h
 rcases hk with rfl|⟨u,hu,huk⟩
 ·rw[hv] at ho;cases ho;rfl
 ·rw[hv] at hu;cases hu
  rcases hw.2 with ⟨rfl,_⟩|⟨g,cap,cur,rfl,hg,hh,r⟩
  ·cases huk
  ·cases huk;rw[hh] at ho;cases ho;rfl
theorem zh2 (hA:Calm At) (hT:(T == 9 || T == 72)=false) (hE:(E == 9 || E == 72)=false) (hTE:T≠E) {ss:List β} {V Z:World} {v v':Value} {s:β} (hB:B≤ob) (h:OutI T E sz enc At B ob w ss V) (hv:V.heap[ob]? = some (.cells #[v] T (0,0)))
  (al:Alike V Z) (hsame:∀ k,k < V.heap.size→k≠ob→some k≠v.ownBlock→Z.heap[k]? = V.heap[k]?) (hz:Z.heap[ob]? = some (.cells #[v'] T (0,0)))
  (ho:Z.ownsRow B E sz v' (ss.length + 1) (ss.flatMap enc++enc s)) (hat:v'.ownBlock=v.ownBlock∨∃ g,v'.ownBlock=some g∧V.heap.size≤g) (hs:At Z s) :
  OutI T E sz enc At B ob w (ss++[s]) Z∧Turns (OutF T ob) V Z:=by
 obtain⟨⟨u,hu,hw⟩,ha,hb⟩:=h
 rw[hv] at hu;cases hu
 have hown:∀ k,v.ownBlock=some k→B≤k∧∃ cur,V.heap[k]? = some (.cells cur E (0,0)):=by
  intro k hk
  rcases hw.2 with ⟨rfl,_⟩|⟨g,cap,cur,rfl,hg,hh,r⟩
  ·cases hk
  ·cases hk;exact⟨hg,cur,hh⟩
 have hc:∀ (k:Nat) (o:Obj),V.heap[k]? = some o→calmB o=true→Z.heap[k]? = some o:=fun k o h1 h2=>by
  refine(hsame k (yS h1) (fun e=>?_) (fun e=>?_)).trans h1
  ·subst e;rw[hv] at h1;cases h1;have:(T == 9 || T == 72)=true:=h2;rw[hT] at this;cases this
  ·obtain⟨_,cur,h3⟩:=hown k e.symm
   rw[h3] at h1;cases h1;have:(E == 9 || E == 72)=true:=h2;rw[hE] at this;cases this
 refine⟨⟨⟨v',hz,?_⟩,fun x hx=>?_,al.1.trans hb.os,al.2.1.trans hb.tape,al.2.2.1.trans hb.output,yW hb.size al.2.2.2,fun k hk=>?_⟩,al,fun k hk hn=>?_,fun k hk=>?_⟩
 ·rw[List.length_append,List.flatMap_append,List.flatMap_singleton];exact ho
 ·rcases List.mem_append.1 hx with hx|hx
  ·exact hA V Z x (ha x hx) hc
  ·rw[List.mem_singleton.1 hx];exact hs
 ·refine(hsame k (Nat.lt_of_lt_of_le (Nat.lt_of_lt_of_le hk hB) (Nat.le_of_lt (yS hv))) (fun e=>by omega) (fun e=>?_)).trans (hb.block k hk)
  have:=(hown k e.symm).1;omega
 ·exact hsame k hk (fun e=>hn (.inl e)) (fun e=>hn (.inr ⟨v,hv,e.symm⟩))
 ·rcases hk with rfl|⟨u,hu,huk⟩
  ·exact .inl (.inl rfl)
  ·rw[hz] at hu;cases hu
   rcases hat with h1|⟨g,h1,h2⟩
   ·exact .inl (.inr ⟨v,hv,h1 ▸ huk⟩)
   ·rw[huk] at h1;cases h1;exact .inr h2
theorem zgn (hA:Calm At) (hT:(T == 9 || T == 72)=false) (hE:(E == 9 || E == 72)=false) (hTE:T≠E) {ss:List β} {V Vk Z:World} {v v':Value} {s:β} (hB:B≤ob) (h:OutI T E sz enc At B ob w ss V) (hv:V.heap[ob]? = some (.cells #[v] T (0,0)))
  (L:Below V.heap.size V Vk) (gr:Vk.grownBy Z v.ownBlock) (ho:Z.ownsRow B E sz v' (ss.length + 1) (ss.flatMap enc++enc s)) (hat:v'.ownBlock=v.ownBlock∨v'.ownBlock=some Vk.heap.size) (hs:At Vk s) :
  OutI T E sz enc At B ob w (ss++[s]) (Z.setCell ⟨ob,0,none⟩ v')∧Turns (OutF T ob) V (Z.setCell ⟨ob,0,none⟩ v'):=by
 have hw:V.ownsRow B E sz v ss.length (ss.flatMap enc):=by
  obtain⟨⟨u,hu,hw⟩,_⟩:=h
  rw[hv] at hu;cases hu;exact hw
 have hn0:some ob≠v.ownBlock:=zba hw hv hTE
 have hvk:Vk.heap[ob]? = some (.cells #[v] T (0,0)):=kept L hv
 have hwk:=own_below hw L
 have hvz:Z.heap[ob]? = some (.cells #[v] T (0,0)):=(gr.block ob (yS hvk) hn0).trans hvk
 have hn1:some ob≠v'.ownBlock:=zba ho hvz hTE
 have hc:∀ (k:Nat) (o:Obj),Vk.heap[k]? = some o→calmB o=true→(Z.setCell ⟨ob,0,none⟩ v').heap[k]? = some o:=fun k o h1 h2=>by
  refine(yG _ _ _ _ (fun e=>?_)).trans ((gr.block k (yS h1) (fun e=>?_)).trans h1)
  ·have e':k=ob:=e
   rw[e',hvk] at h1;cases h1;have:(T == 9 || T == 72)=true:=h2;rw[hT] at this;cases this
  ·rcases hwk.2 with ⟨rfl,_⟩|⟨g,cap,cur,rfl,hg,hh,r⟩
   ·cases e
   ·cases e;rw[hh] at h1;cases h1;have:(E == 9 || E == 72)=true:=h2;rw[hE] at this;cases this
 refine zh2 hA hT hE hTE hB h hv ⟨gr.os.trans L.os,gr.tape.trans L.tape,gr.output.trans L.output,?_⟩ (fun k hk h1 h2=>?_) (zap (i:=0) hvz v' rfl) ?_ (hat.imp id fun e=>⟨_,e,L.size⟩) (hA Vk _ s hs hc)
 ·have:=yW L.size gr.size
  simpa using this
 ·exact(yG _ _ _ _ h1).trans ((gr.block k (Nat.lt_of_lt_of_le hk L.size) h2).trans (L.block k hk))
 ·exact ownsRow_setCell_other ho (a:=⟨ob,0,none⟩) (fun e=>hn1 e.symm) _
end
abbrev Hop:=Req×Value×Value
def hopC (x:Hop):List Value:=(reqC x.1 x.2.1 x.2.2).toList
def HopAt (W:World) (x:Hop):Prop:=W.ownsRow 0 9 1 x.2.1 x.1.url.path.length (x.1.url.path.map Value.string)∧FldsN 0 W x.2.2 x.1.heads
theorem zbA:Calm HopAt:=fun _ _ _ h hk=>⟨ze4 rfl h.1 hk,zf7 h.2 hk⟩
theorem HopAt.strs {W:World} {x:Hop} (h:HopAt W x):Strs W x.2.1 x.1.url.path:=Strs.of_own h.1
theorem HopAt.flds {W:World} {x:Hop} (h:HopAt W x):Flds W x.2.2 x.1.heads:=h.2.flds
theorem zcm {t:List Req} {pre:List Hop} {x:Hop} {A B:World} (h:ChG t pre x A) (hk:∀ (k:Nat) (o:Obj),A.heap[k]? = some o→calmB o=true→B.heap[k]? = some o):ChG t pre x B :=
 ⟨zbA A B x h.1 hk,h.2⟩
theorem zcp {A:World} {l:Nat} {o o':Obj} (h:A.heap[l]? = some o') (hc:o'.isCells=false):∀ (k:Nat) (p:Obj),A.heap[k]? = some p→calmB p=true→(A.putObj l o).heap[k]? = some p:=by
 intro k p h1 h2
 refine(World.putObj_heap_other (fun e=>?_)).trans h1
 subst e
 rw[h] at h1;cases h1
 cases o' with
 | cells _ _ _=>cases hc
 | _=>cases h2
theorem zbz {A B:World} (h:Below A.heap.size A B):∀ (k:Nat) (p:Obj),A.heap[k]? = some p→calmB p=true→B.heap[k]? = some p:=fun k p h1 _=>kept h h1
end
section
open Go.RowKit Go.Shelf
attribute [local go_sem] Oper.semAt_some
theorem zfW (w:World) (cs:Array Value) (t:TypeId):∀ j u,cs.toList[j]? = some u→(w.alloc (.cells cs t)).cell? ((⟨w.heap.size,0,none⟩:Addr).add j)=some u:=by
 intro j u hj
 have:=yE (row1 w (.cells cs t)) j u (by simpa using hj)
 rw[WideShapes.add_plain,Nat.zero_add]
 exact this
theorem zeD {w:World} {B e n s:Nat} {v:Value} {xs:List Value} (h:w.ownsRow B e s v n xs):v.oneCell'=true:=by
 obtain⟨q,c,rfl⟩:=own_slice h;rfl
theorem zbP {r:Req} {a b:Value} (ha:∃ q n c,a=.slice q n c) (hb:∃ q n c,b=.slice q n c):(reqC r a b).all (·.oneCell')=true:=by
 obtain⟨q,n,c,rfl⟩:=ha
 obtain⟨q',n',c',rfl⟩:=hb
 simp[Value.oneCell']
theorem HopAt.all {W:World} {x:Hop} (h:HopAt W x):(reqC x.1 x.2.1 x.2.2).all (·.oneCell')=true:=zbP h.strs.slice h.flds.slice
theorem zc3 {raw:ByteArray} {q:Req} {pq hq lv:Value} {hb s:Nat} {W3 W0:World} (hW:zfo raw q pq hq lv hb W3=W0) (z0:W3.heap.size=s + 3) :
  W0.heap[s + 3]? = some (.cells #[.string raw] 9 (0,0))∧W0.heap[s + 4]? = some (.cells (reqC q pq hq) 32 (0,0))∧W0.heap[s + 5]? = some (.cells #[lv] 33 (0,0))∧W0.heap[s + 6]? = some (.cells #[.pointer (some ⟨hb,0,none⟩)] 65 (0,0))∧W0.heap.size=s + 7:=by
 have kk:=bel1 (((W3.alloc (.cells #[.string raw] 9)).alloc (.cells (reqC q pq hq) 32)).alloc (.cells #[lv] 33)) (.cells #[.pointer (some ⟨hb,0,none⟩)] 65)
 subst hW
 refine⟨?_,?_,?_,?_,?_⟩
 ·rw[← z0];exact kept kk (row3a _ _ _ _)
 ·rw[show s + 4=W3.heap.size + 1 by omega];exact kept kk (row3b _ _ _ _)
 ·rw[show s + 5=W3.heap.size + 2 by omega];exact kept kk (row3c _ _ _ _)
 ·have h:=row1 (((W3.alloc (.cells #[.string raw] 9)).alloc (.cells (reqC q pq hq) 32)).alloc (.cells #[lv] 33)) (.cells #[.pointer (some ⟨hb,0,none⟩)] 65)
  rwa [World.size_alloc,World.size_alloc,World.size_alloc,z0] at h
 ·unfold zfo;rw[World.size_alloc,World.size_alloc,World.size_alloc,World.size_alloc,z0]
theorem zdV {P:Program} {fn:Func} {p:Tmp} (h:fn.results=#[.tmp p]) (tmps:Array Value) (w:World) (v:Value) (hv:tmps.getD p undef=v):(results fn tmps).run P w=.ok v w:=by
 have hv':tmps[p]?.getD undef=v:=by simpa using hv
 simp[results,h,hv']
def zgL (t:List Req) (w:World) (e:Ending) (w':World):Prop :=
 ∃ (v:Value) (xs:List Hop),e=.returned v∧xs.map (·.1)=t∧w'.ownsRow w.heap.size 32 45 v xs.length (xs.flatMap hopC)∧(∀ x∈xs,HopAt w' x)∧Below w.heap.size w w'
set_option maxHeartbeats 4000000 in
theorem zev (raw:ByteArray) (q:Req) (pq hq lv:Value) (rs:List (Int×ByteArray)) (w:World) (G:Glob w) (hfq:Flds w hq q.heads) (hpq:∃ a b c,pq=.slice a b c) (hr:Resps w lv rs) (hs:Starts raw q)
  (hg:∀ x n,startR raw q=(some x,n)→zbR x rs) (hn:(chainR raw q rs).1.length≤1000) :
  Calls Tryz.prog 11 #[.string raw,.agg (reqC q pq hq),lv] w (zgL (chainR raw q rs).1 w):=by
 obtain⟨i0,hi,hz0,hz1,hz2⟩:∃ i0:TypeInfo,Tryz.prog.info? 32=some i0∧i0.zero=some (.agg (reqC req0 (.slice none 0 0) (.slice none 0 0)))∧i0.size=45∧i0.bytes=464:=info_parts (by kernel_rfl)
 have hpq':=hpq
 have hfq':=hfq
 have hr':=hr
 obtain⟨qa,ma,ca,rfl⟩:=hpq
 obtain⟨qh,mh,ch,rfl⟩:=hfq.slice
 obtain⟨ql,cl,rfl,-,-⟩:=hr
 obtain⟨t,ht⟩:∃ t,t=chainR raw q rs:=⟨_,rfl⟩
 have HT:=Lib.hid ht
 rw[← ht] at hn ⊢
 clear ht
 have R0:=row3a w (.cells (reqC q (.slice qa ma ca) (.slice qh mh ch)) 32) (.cells #[.int .i64 0,.int .i64 0] 61) (.cells #[.slice none 0 0] 47)
 have H0:=row3b w (.cells (reqC q (.slice qa ma ca) (.slice qh mh ch)) 32) (.cells #[.int .i64 0,.int .i64 0] 61) (.cells #[.slice none 0 0] 47)
 have O0:=row3c w (.cells (reqC q (.slice qa ma ca) (.slice qh mh ch)) 32) (.cells #[.int .i64 0,.int .i64 0] 61) (.cells #[.slice none 0 0] 47)
 have B0:=bel3 w (.cells (reqC q (.slice qa ma ca) (.slice qh mh ch)) 32) (.cells #[.int .i64 0,.int .i64 0] 61) (.cells #[.slice none 0 0] 47)
 have z0:(((w.alloc (.cells (reqC q (.slice qa ma ca) (.slice qh mh ch)) 32)).alloc (.cells #[.int .i64 0,.int .i64 0] 61)).alloc (.cells #[.slice none 0 0] 47)).heap.size=w.heap.size + 3:=by simp
 have HH:=Lib.hid (zeY raw q qa qh ql ma ca mh ch rs.length cl (w.heap.size + 1) (((w.alloc (.cells (reqC q (.slice qa ma ca) (.slice qh mh ch)) 32)).alloc (.cells #[.int .i64 0,.int .i64 0] 61)).alloc (.cells #[.slice none 0 0] 47)))
 refine callsIn_wide.1 (callsIn_of_wp_marks (n:=11) Tryz.func11 rfl trivial ?_ rfl)
 simp only[Tryz.ntmps11,List.size_toArray,List.length_cons,List.length_nil,Nat.reduceAdd,Nat.reduceSub,Array.replicate_succ,Array.replicate_zero,List.push_toArray,List.append_toArray,List.nil_append,List.cons_append]
 refine wpIn_wide.2 ?_
 go_wp2_with (first|((with_reducible (show wpList _ _ _ (Oper.mk _ (.load 32 (.tmp 4)) _ _ _ _::_) _ _));refine zaa (by rfl) 32 _ rfl w.heap.size 0 rfl (reqC q (.slice qa ma ca) (.slice qh mh ch)) _ (zac R0) yA rfl zab ?_)|(go_at_call 20;refine HH.out.mono ?_;rintro e w' ⟨rfl,rfl⟩))
 obtain⟨W3,hW3⟩:∃ W3,(((w.alloc (.cells (reqC q (.slice qa ma ca) (.slice qh mh ch)) 32)).alloc (.cells #[.int .i64 0,.int .i64 0] 61)).alloc (.cells #[.slice none 0 0] 47))=W3:=⟨_,rfl⟩
 rw[hW3] at R0 H0 O0 B0 z0
 rw[hW3]
 clear hW3 HH R0
 obtain⟨W0,hW0⟩:∃ W0,zfo raw q (.slice qa ma ca) (.slice qh mh ch) (.slice ql rs.length cl) (w.heap.size + 1) W3=W0:=⟨_,rfl⟩
 rw[hW0]
 have k1:Below W3.heap.size W3 W0:=by rw[← hW0];exact bel4 _ _ _ _ _
 obtain⟨c1,c2,c4,c3,hz1'⟩:=zc3 hW0 z0
 have H1:=kept k1 H0
 have O1:=kept k1 O0
 have B1:=yD B0 k1
 clear hW0 k1 H0 O0 B0 z0
 refine(wpIn_wide (n:=11)).1 ?_
 refine range_overF (n:=11) (gf:=40) (lb:=#[.pointer (some ⟨w.heap.size + 3,0,none⟩),.pointer (some ⟨w.heap.size + 3 + 1,0,none⟩),.pointer (some ⟨w.heap.size + 3 + 3,0,none⟩),.pointer (some ⟨w.heap.size + 3 + 2,0,none⟩)]) rfl (enters_of Tryz.func40 (by kernel_rfl) rfl)
  (ze9 10 (by decide) w G raw q (.slice qa ma ca) (.slice qh mh ch) (.slice ql rs.length cl) rs hfq' hpq' hr' hs hg (w.heap.size + 3) (w.heap.size + 4) (w.heap.size + 6) (w.heap.size + 5) (w.heap.size + 1) (w.heap.size + 2) 0 0 (by omega) (by omega) W0 B1 c1 c2 c3 c4 H1 (by omega) (by omega) (by omega) (by omega) (by omega))
  (Below.refl _ _) (by omega) (fun _=>rfl)
  (fun (pre:List Hop) W=>∃ ss,ss=pre∧OutI 47 32 45 hopC HopAt w.heap.size (w.heap.size + 2) w ss W) (OutF 47 (w.heap.size + 2)) (ze3 (Rel:=fun (pre:List Hop) ss=>ss=pre) zbA (by omega)) (fun s A k o=>zdR (Rel:=fun (pre:List Hop) ss=>ss=pre)) ?f0 ?g1 ?s1 ?g2 ?h0 ?a1 (fun x W=>(W.alloc (.cells (reqC req0 (.slice none 0 0) (.slice none 0 0)) 32)).setRow W.heap.size (reqC x.1 x.2.1 x.2.2)) (fun x W=>yM (bel1 W _) (yV _)) ?assign ?body ?done
 case f0 =>
  rintro k (rfl|⟨v,hv,hk⟩)
  ·exact .inl rfl
  ·rw[O1] at hv;cases hv;cases hk
 case g1=>exact fun pre x A l o o' h1 h2 h3=>zcm h3 (zcp h1 h2)
 case s1 =>
  rintro xs A l o o' h1 h2 ⟨h3,h4⟩
  refine⟨h3,(World.putObj_heap_other (fun e=>?_)).trans h4⟩
  rw[e,h1] at h4;cases h4;cases h2
 case g2=>exact fun pre x A C h1 h2=>zcm h2 (zbz h1)
 case h0=>exact⟨[],rfl,⟨_,O1,World.ownsRow_nil _ _ _ _⟩,(fun x hx=>by cases hx),B1⟩
 case assign =>
  intro l pre x W K hI hG hK
  have hall:=HopAt.all (x:=x) hG.1
  have A1:=row1 W (.cells (reqC req0 (.slice none 0 0) (.slice none 0 0)) 32)
  gi_wp2_with (first|((with_reducible (show wpListIn _ _ _ _ _ (Oper.mk none (.store 32 (.tmp 9) _) _ _ _ none::_) _ _));refine zah rfl 32 _ _ rfl W.heap.size (reqC x.1 x.2.1 x.2.2) rfl rfl 32 _ A1 zab rfl hall _ rfl ?_))
  exact hK
 case body =>
  rintro l pre x W V hkV ⟨ss,rfl,hI⟩ hG
  obtain⟨post,hpo⟩:=hG.2
  have hx:HopAt V x:=hG.1
  have hall:=HopAt.all (x:=x) hG.1
  have hl:ss.length≤1000:=by
   have h2:(t.1).length=ss.length + (post.length + 1):=by rw[HT.out,hpo];simp
   omega
  have hX:V.heap[W.heap.size]? = some (.cells (reqC x.1 x.2.1 x.2.2) 32 (0,0)):=(hkV _ (yV _)).trans (yH _ _ _ _ _ _ (row1 W _))
  obtain⟨v,hv,ho⟩:=hI.1
  obtain⟨qv,cv,rfl⟩:=own_slice ho
  have hwv:w.heap.size + 2 < V.heap.size:=yS hv
  have HEND:=fun (Vk Z:World) (v':Value)=>Lib.hid (zgn (T:=47) (E:=32) (sz:=45) (enc:=hopC) (At:=HopAt) (w:=w) (Vk:=Vk) (Z:=Z) (v':=v') (s:=x) zbA rfl rfl (by decide) (by omega:w.heap.size≤w.heap.size + 2) hI hv)
  have cc:=yE hv 0 _ rfl
  have HX:=Lib.hid hX
  have HV:=Lib.hid hv
  have HO:=Lib.hid ho
  have HPX:=Lib.hid hx
  have HAL:=Lib.hid hall
  clear hkV hpo hG hn G O1 B1 hI hX hv ho hx hall HT
  gi_wp2_with (first|((with_reducible (show wpListIn _ _ _ _ _ (Oper.mk _ (.load 32 (.tmp 9)) _ _ _ _::_) _ _));refine zar (by rfl) 32 _ rfl W.heap.size 0 rfl (reqC x.1 x.2.1 x.2.2) _ (zac HX.out) yA rfl zab ?_)|(refine wpListIn_append_own_at _ rfl _ _ 47 rfl w.heap.size 32 i0 _ 45 464 Tryz.underlying47 hi hz0 hz1 hz2 rfl (by decide) _ _ _ rfl (HO.out.alloc _) ⟨V.heap.size,0,none⟩ 1 1 (hopC x) rfl rfl (zfW V _ 32) (fun u hu=>by have h:=HAL.out;rw[Array.all_eq_true_iff_forall_mem] at h;exact h u (by simpa [hopC] using hu)) (by unfold maxLen;omega) (by omega) (by simp;omega) ?_;intro v' Z hown' hgrow _ hat;have HE:=HEND (V.alloc (.cells (reqC x.1 x.2.1 x.2.2) 32)) Z v';have HE2:=Lib.hid (HE.out (bel1 V _) hgrow hown' hat (zbA _ _ _ HPX.out (zbz (bel1 V _))));have hzo:Z.heap[w.heap.size + 2]? = some (.cells #[.slice qv ss.length cv] 47 (0,0)):=(hgrow.block _ (by simp;omega) (zba HO.out HV.out (by decide))).trans (kept (bel1 V _) HV.out);have cz:=yE hzo 0 _ rfl;have fz:=yF hzo 0;obtain⟨g',cap',rfl⟩:=ownsRow_succ hown';clear hown' hgrow hat hzo HE))
  exact HE2.out
 case done =>
  rintro D xs W hD hS ⟨ss,rfl,hI⟩ hK
  obtain⟨⟨v,hv,ho⟩,ha,hb⟩:=hI
  obtain⟨qv,cv,rfl⟩:=own_slice ho
  have cc:=yE hv 0 _ rfl
  have HS1:=Lib.hid hS.1
  have HO:=Lib.hid ho
  have HA:=Lib.hid ha
  have HB:=Lib.hid hb
  have HK:=Lib.hid hK
  clear hS hv ho ha hb hK hn G O1 B1
  go_wp2
  refine⟨by simp,.inl ⟨_,_,rfl,run_takeDeferred HK.out,?_⟩⟩
  exact⟨_,zdV rfl _ _ _ rfl,_,ss,rfl,HT.out ▸ HS1.out,ownsRow_putObj HO.out _ HK.out rfl,fun x hx=>zbA _ _ x (HA.out x hx) (zcp HK.out rfl),HB.out.trans (belowK_b (w:=w) (yV _) _ D _ _ (by omega) HK.out rfl rfl)⟩
end
section
open Go
theorem zcE {P:Program} {ops:Array Oper} {Q:Exit→Act→World→Prop} (l n:Nat) (hQ:¬ LetsOut Q) (hd:∀ (i:Nat) (o:Oper),ops[i]? = some o→∀ c,o.op≠.defer c) :
  ∀ (ls:List Nat) (a:Act) (w:World),wpOps P ops Q ls a w→wpOpsIn (Fence.wide.inRound l) n P ops Q ls a w
 | [],a,w,h=>h
 | i::rest,a,w,h=>by
  have ih:=zcE (P:=P) l n hQ hd rest
  simp only[wpOps] at h
  simp only[wpOpsIn]
  cases ho:ops[i]? with
  | none=>rw[ho] at h;exact ih a w h
  | some o =>
   rw[ho] at h
   simp only at h ⊢
   split
   ·rename_i hw
    rw[if_pos hw] at h
    rcases h with h|⟨_,h⟩
    ·refine⟨fun _ _=>trivial,?_⟩
     rw[Oper.semAt_plain _ _ _ (hd i o ho)]
     unfold Oper.wp at h
     generalize (execOp a.eval o).run P w=r at h ⊢
     cases r with
     | ok x w' =>
      cases x with
      | value v=>exact ih _ _ h
      | skip=>exact ih _ _ h
      | defer d=>exact ih _ _ h
      | enter f args =>
       refine⟨fun h0=>(by cases h0),?_⟩
       have h':CallsIn Fence.wide (n - 1) P f args w' _:=callsIn_wide.2 h
       exact CallsIn.inRound l (h'.mono fun e w'' he=>by
        cases e with
        | returned v=>exact ih _ _ he
        | panicked c=>exact he
        | outgrown=>exact he)
      | row row args =>
       refine⟨fun h0=>(by cases h0),fun c cs _=>?_⟩
       obtain⟨v,w'',r,s⟩:=h c cs
       exact⟨v,w'',ih _ _ r,stepsIn_wide.2 s⟩
      | _=>exact h.elim
     | halt x w' =>
      cases x <;> first|exact h|exact h.elim
    ·exact absurd h hQ
   ·rename_i hw
    rw[if_neg hw] at h
    exact⟨fun _ _=>trivial,ih _ _ h⟩
theorem zcX {P:Program} {ops:Array Oper} {Q:Exit→Act→World→Prop} {id:Nat} {a:Act} {w:World} (l n:Nat) (S:World→Prop) (hm:P.follows .mixedOrders=true) (hQ:¬ LetsOut Q) (hd:∀ (i:Nat) (o:Oper),ops[i]? = some o→∀ c,o.op≠.defer c) (hS:S w.drew)
  (h:S w.drew→wpAnyH P .any ops Q S ops.size (Array.replicate ops.size false) a w.drew):(Code.region id ops true).wpIn (Fence.wide.inRound l) n P Q a w :=
 wpIn_region_draw fun t=>by
  refine zcE l n hQ hd _ _ _ ?_
  simp only[Region.schedule,hm,Bool.true_or,if_true]
  exact wpAny_sound ops.size t _ a _ (wpAny_of_held _ _ _ _ (h hS))
theorem zaX {P:Program} (w:World) {o:Oper} {a:Act} {K:Act→World→Prop} {Q:Exit→Act→World→Prop} (s x:Operand) (t:TypeId)
  (ho:o.op=.call { callee:=.builtin .append,args:=#[s,x],argTypes:=#[t,t] })
  (base:Nat) (e:TypeId) (i:TypeInfo) (z:Value) (size bytes:Nat) (ht:P.underlying t=some (.slice e)) (hi:P.info? e=some i) (hz:i.zero=some z)
  (hsize:i.size=size) (hby:i.bytes=bytes) (hzs:z.cells.size=size) (hsz:0 < size)
  (v:Value) (n:Nat) (xs:List Value) (hs:a.eval s=v) (hown:w.ownsRow base e size v n xs)
  (ad:Addr) (m c:Nat) (news:List Value) (hx:a.eval x=.slice (some ad) m c) (hl:news.length=m * size) (hnews:∀ j u,news[j]? = some u→w.cell? (ad.add j)=some u) (h1:∀ u∈news,u.oneCell'=true)
  (h63:n + m≤maxLen) (hbytes:(n + m) * bytes≤140737488355328) (hbase:base≤w.heap.size)
  (h:∀ v' w',w'.ownsRow base e size v' (n + m) (xs++news)→w.grownBy w' v.ownBlock→(v'.ownBlock=v.ownBlock∨v'.ownBlock=some w.heap.size)→K (a.put o.dst v') w'):o.wp P a w K Q:=by
 obtain⟨v',w',hr,h2,h3,h4,h5⟩:=run_append_own_at (P:=P) w base t o.type e i z size bytes ht hi hz hsize hby hzs hsz v n xs hown ad m c news hl hnews h1 h63 hbytes hbase
 unfold Oper.wp execOp
 simp only[ho,resolve,invoke,builtin,Sem.run_bind,Sem.run_pure,Result.andThen_ok,List.map_toArray,List.map_cons,List.map_nil,hs,hx,hr]
 exact h v' w' h2 h3 h5
end
section
open Go.RowKit Go.Shelf
attribute [local go_sem] Oper.semAt_some
structure Snt where
 ut:ByteArray
 mt:ByteArray
 hx:Value
 bd:Bool
 hs:List Fld
def sntC (s:Snt):List Value:=(zad s.ut s.mt s.hx s.bd).toList
def SntAt (W:World) (s:Snt):Prop:=W.ownsRow 0 72 2 s.hx s.hs.length (zai s.hs)
theorem zdv:Calm SntAt:=fun _ _ _ h hk=>ze4 rfl h hk
def zfJ (x:Req) (s:Snt):Prop:=(mayR x=true→zcr x s.hs)∧s.hs.length≤x.heads.length + 2
def Sents (l:List Req) (k:List Snt):Prop:=k.length=l.length∧∀ (i:Nat) x s,l[i]? = some x→k[i]? = some s→zfJ x s
theorem Sents.len {l:List Req} {k:List Snt} (h:Sents l k):k.length=l.length:=h.1
theorem Sents.nil:Sents [] []:=⟨rfl,fun i x s h=>by cases h⟩
theorem Sents.snoc {l:List Req} {k:List Snt} {x:Req} {s:Snt} (h:Sents l k) (h':zfJ x s):Sents (l++[x]) (k++[s]):=by
 refine⟨by simp[h.1],fun i y t hy ht=>?_⟩
 have hl:=h.1
 by_cases hi:i < l.length
 ·rw[List.getElem?_append_left hi] at hy
  rw[List.getElem?_append_left (by omega)] at ht
  exact h.2 i y t hy ht
 ·rw[List.getElem?_append_right (by omega)] at hy ht
  rw[hl] at ht
  cases hk:i - l.length with
  | zero=>rw[hk] at hy ht;cases hy;cases ht;exact h'
  | succ n=>rw[hk] at hy;cases hy
theorem zdW {P:Program} {fn:Func} {p q r:Tmp} (h:fn.results=#[.tmp p,.tmp q,.tmp r]) (tmps:Array Value) (w:World) (a b c:Value) (ha:tmps.getD p undef=a) (hb:tmps.getD q undef=b) (hc:tmps.getD r undef=c):(results fn tmps).run P w=.ok (.tuple #[a,b,c]) w:=by
 have ha':tmps[p]?.getD undef=a:=by simpa using ha
 have hb':tmps[q]?.getD undef=b:=by simpa using hb
 have hc':tmps[r]?.getD undef=c:=by simpa using hc
 simp[results,h,ha',hb',hc']
def zfK (t:List Req×Int×Int) (w:World) (e:Ending) (w':World):Prop :=
 ∃ (v:Value) (ss:List Snt),e=.returned (.tuple #[v,.int .i64 t.2.1,.int .i64 t.2.2])∧Sents t.1 ss∧w'.ownsRow w.heap.size 54 4 v ss.length (ss.flatMap sntC)∧(∀ s∈ss,SntAt w' s)∧Below w.heap.size w w'
def RunR (pre:List Hop) (ss:List Snt):Prop:=Sents (pre.map (·.1)) ss
def RunI (w:World) (pre:List Hop) (W:World):Prop:=∃ ss,RunR pre ss∧OutI 36 54 4 sntC SntAt w.heap.size (w.heap.size + 2) w ss W
theorem zhn (w:World):Firm w.heap.size (OutF 36 (w.heap.size + 2)) (RunI w):=ze3 (Rel:=RunR) zdv (by omega)
theorem zgl {a b c d e f:Oper} (h:∀ o∈[a,b,c,d,e,f],∀ c,o.op≠.defer c):∀ (i:Nat) (o:Oper),#[a,b,c,d,e,f][i]? = some o→∀ c,o.op≠.defer c:=fun i o ho=>h o (by
 have:=Array.mem_of_getElem? ho
 simpa using this)
theorem zgx {w V Vk Z:World} {pre:List Hop} {x:Hop} {ss:List Snt} {v v':Value} {s:Snt} (hs:Sents (pre.map (·.1)) ss) (h:OutI 36 54 4 sntC SntAt w.heap.size (w.heap.size + 2) w ss V) (hv:V.heap[w.heap.size + 2]? = some (.cells #[v] 36 (0,0)))
  (L:Below V.heap.size V Vk) (gr:Vk.grownBy Z v.ownBlock) (ho:Z.ownsRow w.heap.size 54 4 v' (ss.length + 1) (ss.flatMap sntC++sntC s)) (hat:v'.ownBlock=v.ownBlock∨v'.ownBlock=some Vk.heap.size) (ha:SntAt Vk s) (hk:zfJ x.1 s) :
  RunI w (pre++[x]) (Z.setCell ⟨w.heap.size + 2,0,none⟩ v')∧Turns (OutF 36 (w.heap.size + 2)) V (Z.setCell ⟨w.heap.size + 2,0,none⟩ v'):=by
 have:=zgn zdv rfl rfl (by decide) (by omega) h hv L gr ho hat ha
 refine⟨⟨_,?_,this.1⟩,this.2⟩
 unfold RunR
 rw[List.map_append]
 exact hs.snoc hk
set_option maxHeartbeats 8000000 in
theorem zeI (raw:ByteArray) (q:Req) (pq hq lv:Value) (rs:List (Int×ByteArray)) (w:World) (G:Glob w) (hfq:Flds w hq q.heads) (hpq:∃ a b c,pq=.slice a b c) (hr:Resps w lv rs) (hs:Starts raw q)
  (hg:∀ x n,startR raw q=(some x,n)→zbR x rs) (hn:(chainR raw q rs).1.length≤1000) (hsm:∀ x∈(chainR raw q rs).1,x.Small) :
  Calls Tryz.prog 7 #[.string raw,.agg (reqC q pq hq),lv] w (zfK (chainR raw q rs) w):=by
 obtain⟨i0,hi,hz0,hz1,hz2⟩:∃ i0:TypeInfo,Tryz.prog.info? 54=some i0∧i0.zero=some (.agg (zad ⟨#[]⟩ ⟨#[]⟩ (.slice none 0 0) false))∧i0.size=4∧i0.bytes=64:=info_parts (by kernel_rfl)
 have hpq':=hpq
 have hfq':=hfq
 have hr':=hr
 obtain⟨qa,ma,ca,rfl⟩:=hpq
 obtain⟨qh,mh,ch,rfl⟩:=hfq.slice
 obtain⟨ql,cl,rfl,-,-⟩:=hr
 have HSEQ:=fun b1 b2 b3 b4 hb ob h1 h2 W h3 c1 c2 c3 c4 c5 n1 n2 n3 n4 n5=>Lib.hid (ze9 10 (by decide) w G raw q (.slice qa ma ca) (.slice qh mh ch) (.slice ql rs.length cl) rs hfq' hpq' hr' hs hg b1 b2 b3 b4 hb ob 0 0 h1 h2 W h3 c1 c2 c3 c4 c5 n1 n2 n3 n4 n5)
 obtain⟨t,ht⟩:∃ t,t=chainR raw q rs:=⟨_,rfl⟩
 rw[← ht] at hn hsm ⊢
 simp only[← ht] at HSEQ
 clear ht hpq' hfq' hr' hs hg
 have R0:=row3a w (.cells (reqC q (.slice qa ma ca) (.slice qh mh ch)) 32) (.cells #[.int .i64 0,.int .i64 0] 61) (.cells #[.slice none 0 0] 36)
 have H0:=row3b w (.cells (reqC q (.slice qa ma ca) (.slice qh mh ch)) 32) (.cells #[.int .i64 0,.int .i64 0] 61) (.cells #[.slice none 0 0] 36)
 have O0:=row3c w (.cells (reqC q (.slice qa ma ca) (.slice qh mh ch)) 32) (.cells #[.int .i64 0,.int .i64 0] 61) (.cells #[.slice none 0 0] 36)
 have B0:=bel3 w (.cells (reqC q (.slice qa ma ca) (.slice qh mh ch)) 32) (.cells #[.int .i64 0,.int .i64 0] 61) (.cells #[.slice none 0 0] 36)
 have z0:(((w.alloc (.cells (reqC q (.slice qa ma ca) (.slice qh mh ch)) 32)).alloc (.cells #[.int .i64 0,.int .i64 0] 61)).alloc (.cells #[.slice none 0 0] 36)).heap.size=w.heap.size + 3:=by simp
 have HH:=Lib.hid (zeY raw q qa qh ql ma ca mh ch rs.length cl (w.heap.size + 1) (((w.alloc (.cells (reqC q (.slice qa ma ca) (.slice qh mh ch)) 32)).alloc (.cells #[.int .i64 0,.int .i64 0] 61)).alloc (.cells #[.slice none 0 0] 36)))
 refine callsIn_wide.1 (callsIn_of_wp_marks (n:=11) Tryz.func7 rfl trivial ?_ rfl)
 simp only[Tryz.ntmps7,List.size_toArray,List.length_cons,List.length_nil,Nat.reduceAdd,Nat.reduceSub,Array.replicate_succ,Array.replicate_zero,List.push_toArray,List.append_toArray,List.nil_append,List.cons_append]
 refine wpIn_wide.2 ?_
 go_wp2_with (first|((with_reducible (show wpList _ _ _ (Oper.mk _ (.load 32 (.tmp 4)) _ _ _ _::_) _ _));refine zaa (by rfl) 32 _ rfl w.heap.size 0 rfl (reqC q (.slice qa ma ca) (.slice qh mh ch)) _ (zac R0) yA rfl zab ?_)|(go_at_call 20;refine HH.out.mono ?_;rintro e w' ⟨rfl,rfl⟩))
 obtain⟨W3,hW3⟩:∃ W3,(((w.alloc (.cells (reqC q (.slice qa ma ca) (.slice qh mh ch)) 32)).alloc (.cells #[.int .i64 0,.int .i64 0] 61)).alloc (.cells #[.slice none 0 0] 36))=W3:=⟨_,rfl⟩
 rw[hW3] at R0 H0 O0 B0 z0
 rw[hW3]
 clear hW3 HH R0
 obtain⟨W0,hW0⟩:∃ W0,zfo raw q (.slice qa ma ca) (.slice qh mh ch) (.slice ql rs.length cl) (w.heap.size + 1) W3=W0:=⟨_,rfl⟩
 rw[hW0]
 have k1:Below W3.heap.size W3 W0:=by rw[← hW0];exact bel4 _ _ _ _ _
 obtain⟨c1,c2,c4,c3,hz1'⟩:=zc3 hW0 z0
 have H1:=kept k1 H0
 have O1:=kept k1 O0
 have B1:=yD B0 k1
 clear hW0 k1 H0 O0 B0 z0
 have HSQ:=HSEQ (w.heap.size + 3) (w.heap.size + 4) (w.heap.size + 6) (w.heap.size + 5) (w.heap.size + 1) (w.heap.size + 2) (by omega) (by omega) W0 B1 c1 c2 c3 c4 H1 (by omega) (by omega) (by omega) (by omega) (by omega)
 clear HSEQ c1 c2 c3 c4 H1
 refine(wpIn_wide (n:=11)).1 ?_
 refine range_overF (n:=11) (gf:=40) (lb:=#[.pointer (some ⟨w.heap.size + 3,0,none⟩),.pointer (some ⟨w.heap.size + 3 + 1,0,none⟩),.pointer (some ⟨w.heap.size + 3 + 3,0,none⟩),.pointer (some ⟨w.heap.size + 3 + 2,0,none⟩)]) rfl (enters_of Tryz.func40 (by kernel_rfl) rfl)
  HSQ.out (Below.refl _ _) (by omega) (fun _=>rfl)
  (RunI w) (OutF 36 (w.heap.size + 2)) (zhn w) (fun s A k o h=>zdR (At:=SntAt) (enc:=sntC) (E:=54) (sz:=4) (B:=w.heap.size) (w:=w) (Rel:=RunR) h) ?f0 ?g1 ?s1 ?g2 ?h0 ?a1 (fun x W=>(W.alloc (.cells (reqC req0 (.slice none 0 0) (.slice none 0 0)) 32)).setRow W.heap.size (reqC x.1 x.2.1 x.2.2)) (fun x W=>yM (bel1 W _) (yV _)) ?assign ?body ?done
 case f0 =>
  rintro k (rfl|⟨v,hv,hk⟩)
  ·exact .inl rfl
  ·rw[O1] at hv;cases hv;cases hk
 case g1=>exact fun pre x A l o o' h1 h2 h3=>zcm h3 (zcp h1 h2)
 case s1 =>
  rintro xs A l o o' h1 h2 ⟨h3,h4⟩
  refine⟨h3,(World.putObj_heap_other (fun e=>?_)).trans h4⟩
  rw[e,h1] at h4;cases h4;cases h2
 case g2=>exact fun pre x A C h1 h2=>zcm h2 (zbz h1)
 case h0=>exact⟨[],Sents.nil,⟨_,O1,World.ownsRow_nil _ _ _ _⟩,(fun x hx=>by cases hx),B1⟩
 case assign =>
  intro l pre x W K hI hG hK
  have hall:=HopAt.all (x:=x) hG.1
  have A1:=row1 W (.cells (reqC req0 (.slice none 0 0) (.slice none 0 0)) 32)
  gi_wp2_with (first|((with_reducible (show wpListIn _ _ _ _ _ (Oper.mk none (.store 32 (.tmp 11) _) _ _ _ none::_) _ _));refine zah rfl 32 _ _ rfl W.heap.size (reqC x.1 x.2.1 x.2.2) rfl rfl 32 _ A1 zab rfl hall _ rfl ?_))
  exact hK
 case body =>
  rintro l pre x W V hkV ⟨ss,hss,hI⟩ hG
  obtain⟨post,hpo⟩:=hG.2
  have hx:HopAt V x:=hG.1
  have GV:Glob V:=G.below hI.2.2
  have hxs:x.1.Small:=hsm x.1 (by rw[hpo];simp)
  have hl:ss.length≤1000:=by
   have h1:=hss.len
   have h2:(t.1).length=pre.length + (post.length + 1):=by rw[hpo];simp
   rw[List.length_map] at h1
   omega
  have hX:V.heap[W.heap.size]? = some (.cells (reqC x.1 x.2.1 x.2.2) 32 (0,0)):=(hkV _ (yV _)).trans (yH _ _ _ _ _ _ (row1 W _))
  clear hkV hpo hG hsm hn HSQ G O1 B1
  obtain⟨X,hXe⟩:∃ X,X=W.heap.size:=⟨_,rfl⟩
  rw[← hXe] at hX ⊢
  clear hXe
  obtain⟨v,hv,ho⟩:=hI.1
  obtain⟨qv,cv,rfl⟩:=own_slice ho
  have HS:=fun W' (h:Below V.heap.size V W')=>Lib.hid (zhp x.1 x.2.1 x.2.2 W' (GV.below h) (hx.strs.below h) (hx.flds.below h) hxs)
  have HEND:=fun (Vk Z:World) (v':Value) (s:Snt)=>Lib.hid (zgx (w:=w) (V:=V) (Vk:=Vk) (Z:=Z) (pre:=pre) (x:=x) (ss:=ss) (v:=.slice qv ss.length cv) (v':=v') (s:=s) hss hI hv)
  refine wpIn_block ?_
  refine wpIn_mono (Q:=fun e _ Z=>e=.normal∧RunI w (pre++[x]) Z∧Turns (OutF 36 (w.heap.size + 2)) V Z) ?_ (by rintro e a Z ⟨rfl,h⟩;exact⟨rfl,h⟩)
  obtain⟨QQ,hQQ⟩:∃ Q:Exit→Act→World→Prop,Q=fun e _ Z=>e=.normal∧RunI w (pre++[x]) Z∧Turns (OutF 36 (w.heap.size + 2)) V Z:=⟨_,rfl⟩
  have HQQ:Hid (∀ a Z,QQ .normal a Z↔RunI w (pre++[x]) Z∧Turns (OutF 36 (w.heap.size + 2)) V Z):=fun a Z=>by rw[hQQ];simp
  have hpan:∀ c a w,¬ QQ (.panic c) a w:=by intro c a w h;rw[hQQ] at h;cases h.1
  have hno:¬ LetsOut QQ:=by rintro⟨a,Z,h⟩;rw[hQQ] at h;cases h.1
  rw[← hQQ]
  clear hQQ
  have L0:=yR V
  have X0:V.drew.heap[X]? = some (.cells (reqC x.1 x.2.1 x.2.2) 32 (0,0)):=hX
  have C0:V.drew.heap[w.heap.size + 2]? = some (.cells #[.slice qv ss.length cv] 36 (0,0)):=hv
  have O0:V.drew.ownsRow w.heap.size 54 4 (.slice qv ss.length cv) ss.length (ss.flatMap sntC):=ho
  have hwv:w.heap.size + 2 < V.heap.size:=yS hv
  refine zcX l _ (fun W=>W.heap[X]? = some (.cells (reqC x.1 x.2.1 x.2.2) 32 (0,0))) (by kernel_rfl) hno ?hd X0 (fun h0=>?_)
  case hd=>exact zgl (by intro o ho c;simp only[List.mem_cons,List.mem_nil_iff,or_false] at ho;rcases ho with rfl|rfl|rfl|rfl|rfl|rfl <;> simp)
  obtain⟨V0,hV0⟩:∃ V',V.drew=V':=⟨_,rfl⟩
  rw[hV0] at L0 X0 C0 O0
  simp only[hV0] at h0 ⊢
  clear hV0 ho hv hI hss hX
  refine wpAnyH_take (i:=1) rfl (by kernel_rfl) (by kernel_rfl) (by kernel_rfl) (fun _ _ _ h=>absurd h (hpan _ _ _)) (zaC X x.1 x.2.1 x.2.2 (by rfl) _ rfl rfl (fun W h=>h)) h0 ?_
  simp only[Act.put,zA,zB,zC,zD,zE,zF]
  refine wpAnyH_ready (rs:=[0,2]) (by kernel_rfl) (by simp) ?_
  refine AllReadyH.cons rfl (fun K hK=>?_) (AllReadyH.cons rfl (fun K hK=>?_) AllReadyH.nil)
  all_goals try simp only[zA,zB,zC]
  all_goals rw[if_pos (by rfl)]
  ·have cc:=yE C0 0 _ rfl
   go_simp
   refine hK.out _ _ X0 (fun h0=>?_)
   clear hK K cc
   try simp only[Act.put,zA,zB,zC,zD,zE,zF]
   refine zrd (i:=2) rfl (fun K hK=>?_)
   all_goals try simp only[zA,zB,zC]
   all_goals rw[if_pos (by rfl)]
   ·go_simp
    go_at_call 21
    refine(HS V0 L0).out.mono ?_
    rintro e V1 ⟨ut,mt,hx,bd,hs,rfl,so,hs1,hs2,hs3,k1⟩
    have SO1:SntAt V1 ⟨ut,mt,hx,bd,hs⟩:=zds so
    clear so
    have X1:=kept k1 X0
    have C1:=kept k1 C0
    have O1:=own_below O0 k1
    have L1:=yD L0 k1
    refine hK.out _ _ X1 (fun h0=>?_)
    clear hK K
    try simp only[Act.put,zA,zB,zC,zD,zE,zF]
    refine zrd (i:=3) rfl (fun K hK=>?_)
    all_goals try simp only[zA,zB,zC]
    all_goals rw[if_pos (by rfl)]
    ·go_simp
     have k2:=bel1 V1 (.cells (zad ut mt hx bd) 54)
     have X2:=kept k2 X1
     have SB2:=row1 V1 (.cells (zad ut mt hx bd) 54)
     refine hK.out _ _ X2 (fun h0=>?_)
     clear hK K
     try simp only[Act.put,zA,zB,zC,zD,zE,zF]
     generalize hV2:V1.alloc (.cells (zad ut mt hx bd) 54)=V2 at k2 X2 SB2 h0 ⊢
     clear hV2
     have C2:=kept k2 C1
     have O2:=own_below O1 k2
     have L2:=yD L1 k2
     have SO2:SntAt V2 ⟨ut,mt,hx,bd,hs⟩:=own_below SO1 k2
     refine zrd (i:=4) rfl (fun K hK=>?_)
     try simp only[zA,zB,zC]
     rw[if_pos (by rfl)]
     refine zaX _ _ _ 36 rfl w.heap.size 54 i0 _ 4 64 Tryz.underlying36 hi hz0 hz1 hz2 rfl (by decide) _ _ _ rfl O2 ⟨V1.heap.size,0,none⟩ 1 1 (sntC ⟨ut,mt,hx,bd,hs⟩) rfl rfl (fun j u hj=>by have:=yE SB2 j u (by simpa [sntC] using hj);rw[WideShapes.add_plain,Nat.zero_add];exact this) (by intro u hu;simp[sntC] at hu;rcases hu with rfl|rfl|rfl|rfl <;> first|rfl|exact zeD SO2) (by unfold maxLen;omega) (by omega) (by have:=L2.size;omega) ?_
     intro v' V3 hown' hgrow hat
     have HE3:=HEND V2 V3 v' ⟨ut,mt,hx,bd,hs⟩
     have HE3:=Lib.hid (HE3.out L2 hgrow hown' hat SO2 ⟨hs1,hs3⟩)
     have C3:V3.heap[w.heap.size + 2]? = some (.cells #[.slice qv ss.length cv] 36 (0,0)):=(hgrow.block _ (yS C2) (zba O2 C2 (by decide))).trans C2
     have X3:V3.heap[X]? = some (.cells (reqC x.1 x.2.1 x.2.2) 32 (0,0)):=(hgrow.block _ (yS X2) (zba O2 X2 (by decide))).trans X2
     obtain⟨g',cap',rfl⟩:=ownsRow_succ hown'
     clear hown' hgrow hat
     refine hK.out _ _ X3 (fun h0=>?_)
     clear hK K
     try simp only[Act.put,zA,zB,zC,zD,zE,zF]
     refine zrd (i:=5) rfl (fun K hK=>?_)
     try simp only[zA,zB,zC]
     rw[if_pos (by rfl)]
     have cc:=yE C3 0 _ rfl
     have ff:=yF C3 0
     go_simp
     refine hK.out _ _ ((yG _ _ _ _ (by show X≠w.heap.size + 2;intro e;rw[e,C3] at X3;cases X3)).trans X3) (fun h0=>?_)
     clear hK K
     refine yX (by kernel_rfl) ?_ _
     exact(HQQ.out _ _).2 HE3.out
  ·go_simp
   go_at_call 21
   refine(HS V0 L0).out.mono ?_
   rintro e V1 ⟨ut,mt,hx,bd,hs,rfl,so,hs1,hs2,hs3,k1⟩
   have SO1:SntAt V1 ⟨ut,mt,hx,bd,hs⟩:=zds so
   clear so
   have X1:=kept k1 X0
   have C1:=kept k1 C0
   have O1:=own_below O0 k1
   have L1:=yD L0 k1
   refine hK.out _ _ X1 (fun h0=>?_)
   clear hK K
   try simp only[Act.put,zA,zB,zC,zD,zE,zF]
   refine wpAnyH_ready (rs:=[0,3]) (by kernel_rfl) (by simp) ?_
   refine AllReadyH.cons rfl (fun K hK=>?_) (AllReadyH.cons rfl (fun K hK=>?_) AllReadyH.nil)
   all_goals try simp only[zA,zB,zC]
   all_goals rw[if_pos (by rfl)]
   ·have cc:=yE C1 0 _ rfl
    go_simp
    refine hK.out _ _ X1 (fun h0=>?_)
    clear hK K cc
    try simp only[Act.put,zA,zB,zC,zD,zE,zF]
    refine zrd (i:=3) rfl (fun K hK=>?_)
    all_goals try simp only[zA,zB,zC]
    all_goals rw[if_pos (by rfl)]
    ·go_simp
     have k2:=bel1 V1 (.cells (zad ut mt hx bd) 54)
     have X2:=kept k2 X1
     have SB2:=row1 V1 (.cells (zad ut mt hx bd) 54)
     refine hK.out _ _ X2 (fun h0=>?_)
     clear hK K
     try simp only[Act.put,zA,zB,zC,zD,zE,zF]
     generalize hV2:V1.alloc (.cells (zad ut mt hx bd) 54)=V2 at k2 X2 SB2 h0 ⊢
     clear hV2
     have C2:=kept k2 C1
     have O2:=own_below O1 k2
     have L2:=yD L1 k2
     have SO2:SntAt V2 ⟨ut,mt,hx,bd,hs⟩:=own_below SO1 k2
     refine zrd (i:=4) rfl (fun K hK=>?_)
     try simp only[zA,zB,zC]
     rw[if_pos (by rfl)]
     refine zaX _ _ _ 36 rfl w.heap.size 54 i0 _ 4 64 Tryz.underlying36 hi hz0 hz1 hz2 rfl (by decide) _ _ _ rfl O2 ⟨V1.heap.size,0,none⟩ 1 1 (sntC ⟨ut,mt,hx,bd,hs⟩) rfl rfl (fun j u hj=>by have:=yE SB2 j u (by simpa [sntC] using hj);rw[WideShapes.add_plain,Nat.zero_add];exact this) (by intro u hu;simp[sntC] at hu;rcases hu with rfl|rfl|rfl|rfl <;> first|rfl|exact zeD SO2) (by unfold maxLen;omega) (by omega) (by have:=L2.size;omega) ?_
     intro v' V3 hown' hgrow hat
     have HE3:=HEND V2 V3 v' ⟨ut,mt,hx,bd,hs⟩
     have HE3:=Lib.hid (HE3.out L2 hgrow hown' hat SO2 ⟨hs1,hs3⟩)
     have C3:V3.heap[w.heap.size + 2]? = some (.cells #[.slice qv ss.length cv] 36 (0,0)):=(hgrow.block _ (yS C2) (zba O2 C2 (by decide))).trans C2
     have X3:V3.heap[X]? = some (.cells (reqC x.1 x.2.1 x.2.2) 32 (0,0)):=(hgrow.block _ (yS X2) (zba O2 X2 (by decide))).trans X2
     obtain⟨g',cap',rfl⟩:=ownsRow_succ hown'
     clear hown' hgrow hat
     refine hK.out _ _ X3 (fun h0=>?_)
     clear hK K
     try simp only[Act.put,zA,zB,zC,zD,zE,zF]
     refine zrd (i:=5) rfl (fun K hK=>?_)
     try simp only[zA,zB,zC]
     rw[if_pos (by rfl)]
     have cc:=yE C3 0 _ rfl
     have ff:=yF C3 0
     go_simp
     refine hK.out _ _ ((yG _ _ _ _ (by show X≠w.heap.size + 2;intro e;rw[e,C3] at X3;cases X3)).trans X3) (fun h0=>?_)
     clear hK K
     refine yX (by kernel_rfl) ?_ _
     exact(HQQ.out _ _).2 HE3.out
   ·go_simp
    have k2:=bel1 V1 (.cells (zad ut mt hx bd) 54)
    have X2:=kept k2 X1
    have SB2:=row1 V1 (.cells (zad ut mt hx bd) 54)
    refine hK.out _ _ X2 (fun h0=>?_)
    clear hK K
    try simp only[Act.put,zA,zB,zC,zD,zE,zF]
    generalize hV2:V1.alloc (.cells (zad ut mt hx bd) 54)=V2 at k2 X2 SB2 h0 ⊢
    clear hV2
    have C2:=kept k2 C1
    have O2:=own_below O1 k2
    have L2:=yD L1 k2
    have SO2:SntAt V2 ⟨ut,mt,hx,bd,hs⟩:=own_below SO1 k2
    refine zrd (i:=0) rfl (fun K hK=>?_)
    all_goals try simp only[zA,zB,zC]
    all_goals rw[if_pos (by rfl)]
    ·have cc:=yE C2 0 _ rfl
     go_simp
     refine hK.out _ _ X2 (fun h0=>?_)
     clear hK K cc
     try simp only[Act.put,zA,zB,zC,zD,zE,zF]
     refine zrd (i:=4) rfl (fun K hK=>?_)
     try simp only[zA,zB,zC]
     rw[if_pos (by rfl)]
     refine zaX _ _ _ 36 rfl w.heap.size 54 i0 _ 4 64 Tryz.underlying36 hi hz0 hz1 hz2 rfl (by decide) _ _ _ rfl O2 ⟨V1.heap.size,0,none⟩ 1 1 (sntC ⟨ut,mt,hx,bd,hs⟩) rfl rfl (fun j u hj=>by have:=yE SB2 j u (by simpa [sntC] using hj);rw[WideShapes.add_plain,Nat.zero_add];exact this) (by intro u hu;simp[sntC] at hu;rcases hu with rfl|rfl|rfl|rfl <;> first|rfl|exact zeD SO2) (by unfold maxLen;omega) (by omega) (by have:=L2.size;omega) ?_
     intro v' V3 hown' hgrow hat
     have HE3:=HEND V2 V3 v' ⟨ut,mt,hx,bd,hs⟩
     have HE3:=Lib.hid (HE3.out L2 hgrow hown' hat SO2 ⟨hs1,hs3⟩)
     have C3:V3.heap[w.heap.size + 2]? = some (.cells #[.slice qv ss.length cv] 36 (0,0)):=(hgrow.block _ (yS C2) (zba O2 C2 (by decide))).trans C2
     have X3:V3.heap[X]? = some (.cells (reqC x.1 x.2.1 x.2.2) 32 (0,0)):=(hgrow.block _ (yS X2) (zba O2 X2 (by decide))).trans X2
     obtain⟨g',cap',rfl⟩:=ownsRow_succ hown'
     clear hown' hgrow hat
     refine hK.out _ _ X3 (fun h0=>?_)
     clear hK K
     try simp only[Act.put,zA,zB,zC,zD,zE,zF]
     refine zrd (i:=5) rfl (fun K hK=>?_)
     try simp only[zA,zB,zC]
     rw[if_pos (by rfl)]
     have cc:=yE C3 0 _ rfl
     have ff:=yF C3 0
     go_simp
     refine hK.out _ _ ((yG _ _ _ _ (by show X≠w.heap.size + 2;intro e;rw[e,C3] at X3;cases X3)).trans X3) (fun h0=>?_)
     clear hK K
     refine yX (by kernel_rfl) ?_ _
     exact(HQQ.out _ _).2 HE3.out
 case done =>
  rintro D xs W hD ⟨hS1,hS2⟩ ⟨ss,hss,⟨⟨v,hv,ho⟩,ha,hb⟩⟩ hK
  obtain⟨qv,cv,rfl⟩:=own_slice ho
  have cc:=yE hv 0 _ rfl
  have s0:=yE hS2 0 _ rfl
  have s1:=yE hS2 1 _ rfl
  have HS1:=Lib.hid hS1
  have HSS:=Lib.hid hss
  have HO:=Lib.hid ho
  have HA:=Lib.hid ha
  have HB:=Lib.hid hb
  have HK:=Lib.hid hK
  clear hS1 hS2 hss hv ho ha hb hK hn hsm HSQ G O1 B1
  go_wp2_with fail
  go_quiet (fail)
  go_wp2
  refine⟨by simp,.inl ⟨_,_,rfl,run_takeDeferred HK.out,?_⟩⟩
  exact⟨_,zdW rfl _ _ _ _ _ rfl rfl rfl,_,ss,rfl,HS1.out ▸ HSS.out,ownsRow_putObj HO.out _ HK.out rfl,fun x hx=>zdv _ _ x (HA.out x hx) (zcp HK.out rfl),(HB.out.trans ((below_drewN W _).mono HB.out.size)).trans (belowK_b (w:=w) (yV _) (W.drewN _) D (.deferred (some [])) _ (by omega) HK.out rfl rfl)⟩
end
end Go.Proofs.YtdlkjofnnefjfaaGreatDoor
