/- The laws' guards: are texts, fields, responses, an address, a request, few and short? For every input. The laws' guards: an address, a request, and all of a law's input. For every input. -/
import Derived.Test.YtdlkjofnnefjfaaGreatDoorZShort
import Derived.Test.YtdlkjofnnefjfaaGreatDoorZChainP
set_option linter.all false
namespace Go.Proofs.YtdlkjofnnefjfaaGreatDoor
set_option maxRecDepth 100000
section
open Go.RowKit
theorem zaW {a b:Bool} (h:a=b):Ending.returned (.bool a)=.returned (.bool b):=by rw[h]
theorem Strs.cells {w:World} {v:Value} {l:List ByteArray} (h:Strs w v l):∃ q cap,v=.slice q l.length cap∧∀ j,j < l.length→∃ b off,q=some ⟨b,off,none⟩∧w.cell? ⟨b,off + j,none⟩=some (.string (l.getD j ByteArray.empty)):=by
 rcases h with ⟨rfl,rfl⟩|⟨b,off,cap,rfl,h1,h2,h3,h4⟩
 ·exact⟨_,_,rfl,fun j hj=>absurd hj (Nat.not_lt_zero _)⟩
 ·exact⟨_,_,rfl,fun j hj=>⟨b,off,rfl,h4 j hj⟩⟩
theorem Flds.cells {w:World} {v:Value} {l:List Fld} (h:Flds w v l):∃ q cap,v=.slice q l.length cap∧∀ j,j < l.length→∃ b off,q=some ⟨b,off,none⟩∧w.cell? ⟨b,off + j * 2,none⟩=some (.string (l.getD j (⟨#[]⟩,⟨#[]⟩)).1)∧w.cell? ⟨b,off + j * 2 + 1,none⟩=some (.string (l.getD j (⟨#[]⟩,⟨#[]⟩)).2):=by
 rcases h with ⟨rfl,rfl⟩|⟨b,off,cap,rfl,h1,h2,h3,h4⟩
 ·exact⟨_,_,rfl,fun j hj=>absurd hj (Nat.not_lt_zero _)⟩
 ·exact⟨_,_,rfl,fun j hj=>⟨b,off,rfl,h4 j hj⟩⟩
def fewL {α:Type} (p:α→Bool) (m:Nat) (l:List α):Bool:=decide (l.length≤m) && l.all p
theorem zer {α:Type} {p:α→Bool} {m:Nat} {l:List α} (k:Nat) (d:α) (hk:k < l.length) (h:p (l.getD k d)=false):fewL p m l=false:=by
 unfold fewL
 have:l.all p=false:=by
  rw[List.all_eq_false]
  refine⟨l.getD k d,?_,by rw[h];exact Bool.false_ne_true⟩
  rw[List.getD_eq_getElem?_getD,List.getElem?_eq_getElem hk]
  exact List.getElem_mem hk
 rw[this,Bool.and_false]
theorem zdj {α:Type} {p:α→Bool} {m:Nat} {l:List α} (d:α) (h:∀ j,j < l.length→p (l.getD j d)=true):fewL p m l=decide (l.length≤m):=by
 unfold fewL
 have:l.all p=true:=by
  rw[List.all_eq_true]
  intro x hx
  obtain⟨j,hj,rfl⟩:=List.getElem_of_mem hx
  have:=h j hj
  rwa [List.getD_eq_getElem?_getD,List.getElem?_eq_getElem hj] at this
 rw[this,Bool.and_true]
theorem zdk {α:Type} {p:α→Bool} {m:Nat} {l:List α} (h:¬ l.length≤m):fewL p m l=false:=by
 unfold fewL;rw[decide_eq_false h,Bool.false_and]
theorem zeq {α:Type} {p:α→Bool} {m:Nat} {l:List α} (h:fewL p m l=true):l.length≤m∧∀ x∈l,p x=true:=by
 unfold fewL at h
 rw[Bool.and_eq_true,decide_eq_true_eq,List.all_eq_true] at h
 exact h
def zau (n:Nat) (s:ByteArray):Bool:=decide (s.size≤n)
def zbl (f:Fld):Bool:=zau 300 f.1 && zau 300 f.2
def zb2 (r:Int×ByteArray):Bool:=zau 300 r.2
theorem Resps.cells {w:World} {v:Value} {l:List (Int×ByteArray)} (h:Resps w v l):∃ q cap,v=.slice q l.length cap∧∀ j,j < l.length→∃ b off,q=some ⟨b,off,none⟩∧w.cell? ⟨b,off + j * 2 + 1,none⟩=some (.string (l.getD j (0,⟨#[]⟩)).2):=by
 obtain⟨q,cap,rfl,h1,h2⟩:=h
 refine⟨_,_,rfl,fun j hj=>?_⟩
 obtain⟨b,off,rfl,_,hr⟩:=h2 j hj
 exact⟨b,off,rfl,hr 1 _ rfl⟩
theorem Resps.below {w w':World} {v:Value} {l:List (Int×ByteArray)} (h:Resps w v l) (k:Below w.heap.size w w'):Resps w' v l:=by
 obtain⟨q,cap,rfl,h1,h2⟩:=h
 refine⟨_,_,rfl,h1,fun j hj=>?_⟩
 obtain⟨b,off,rfl,hb,hr⟩:=h2 j hj
 exact⟨b,off,rfl,Nat.lt_of_lt_of_le hb k.size,fun i u hu=>(k.cell (p:=⟨b,off + j * 2 + i,none⟩) hb).trans (hr i u hu)⟩
set_option maxHeartbeats 1000000 in
theorem zg1 (v:Value) (l:List ByteArray) (w:World) (hv:Strs w v l) :
  Calls Tryz.prog 125 #[v] w fun e w'=>e=.returned (.bool (fewL (zau 300) 60 l))∧w=w':=by
 obtain⟨q,cap,rfl,hc⟩:=hv.cells
 have HC:=Lib.hid hc
 have HN:=fun k hk h=>Lib.hid (zer (p:=zau 300) (m:=60) (l:=l) k ByteArray.empty hk h)
 have HE:=fun h=>Lib.hid (zdj (p:=zau 300) (m:=60) (l:=l) ByteArray.empty h)
 have HF:=fun h=>Lib.hid (zdk (p:=zau 300) (m:=60) (l:=l) h)
 obtain⟨r,hr⟩:∃ r,r=fewL (zau 300) 60 l:=⟨_,rfl⟩
 simp only[← hr] at HN HE HF
 rw[← hr]
 clear hr hc
 go_enter Tryz.func125,Tryz.ntmps125
 go_wp2
 go_loopw [3] (fun i wr=>∃ k:Nat,k≤l.length∧i=.int .i64 k∧w=wr∧Hid (∀ j,j < k→zau 300 (l.getD j ByteArray.empty)=true)) (fun i _=>l.length - (intOf i).toNat)
 case atStart=>exact⟨0,by omega,rfl,rfl,fun j hj=>absurd hj (Nat.not_lt_zero _)⟩
 case round =>
  obtain⟨k,hk,rfl,rfl,HA⟩:=hrel
  by_cases hlt:k < l.length
  ·by_cases h60:k≤60
   ·obtain⟨b,off,rfl,c0⟩:=HC.out k hlt
    obtain⟨s,hs⟩:∃ s,s=l.getD k ByteArray.empty:=⟨_,rfl⟩
    rw[← hs] at c0
    by_cases hz:s.size≤300
    ·have HA':Hid (∀ j,j < k + 1→zau 300 (l.getD j ByteArray.empty)=true):=fun j hj=>by
      by_cases hjk:j=k
      ·rw[hjk,← hs];exact decide_eq_true hz
      ·exact HA.out j (by omega)
     clear hs
     go_wp2
     exact⟨⟨k + 1,by omega,by simp,by trivial,HA'⟩,by simp[intOf];omega⟩
    ·have hno:=HN k hlt (by rw[← hs];exact decide_eq_false hz)
     clear hs
     go_wp2
     go_ret
     exact⟨zaW (by rw[hno.out]),rfl⟩
   ·have hfar:=HF (by omega)
    go_wp2
    go_ret
    exact⟨zaW (by rw[hfar.out];simp;omega),rfl⟩
  ·obtain rfl:k=l.length:=by omega
   have he:=HE HA.out
   go_wp2
   go_ret
   exact⟨zaW (by rw[he.out];simp;omega),rfl⟩
set_option maxHeartbeats 1000000 in
theorem zf2 (v:Value) (l:List Fld) (w:World) (hv:Flds w v l) :
  Calls Tryz.prog 39 #[v] w fun e w'=>e=.returned (.bool (fewL zbl 60 l))∧w=w':=by
 obtain⟨q,cap,rfl,hc⟩:=hv.cells
 have HC:=Lib.hid hc
 have HN:=fun k hk h=>Lib.hid (zer (p:=zbl) (m:=60) (l:=l) k (⟨#[]⟩,⟨#[]⟩) hk h)
 have HE:=fun h=>Lib.hid (zdj (p:=zbl) (m:=60) (l:=l) (⟨#[]⟩,⟨#[]⟩) h)
 have HF:=fun h=>Lib.hid (zdk (p:=zbl) (m:=60) (l:=l) h)
 obtain⟨r,hr⟩:∃ r,r=fewL zbl 60 l:=⟨_,rfl⟩
 simp only[← hr] at HN HE HF
 rw[← hr]
 clear hr hc
 go_enter Tryz.func39,Tryz.ntmps39
 go_wp2
 go_loopw [3] (fun i wr=>∃ k:Nat,k≤l.length∧i=.int .i64 k∧w=wr∧Hid (∀ j,j < k→zbl (l.getD j (⟨#[]⟩,⟨#[]⟩))=true)) (fun i _=>l.length - (intOf i).toNat)
 case atStart=>exact⟨0,by omega,rfl,rfl,fun j hj=>absurd hj (Nat.not_lt_zero _)⟩
 case round =>
  obtain⟨k,hk,rfl,rfl,HA⟩:=hrel
  by_cases hlt:k < l.length
  ·by_cases h60:k≤60
   ·obtain⟨b,off,rfl,c0,c1⟩:=HC.out k hlt
    obtain⟨s,hs⟩:∃ s,s=l.getD k (⟨#[]⟩,⟨#[]⟩):=⟨_,rfl⟩
    rw[← hs] at c0 c1
    by_cases hz:s.1.size≤300
    ·by_cases hy:s.2.size≤300
     ·have HA':Hid (∀ j,j < k + 1→zbl (l.getD j (⟨#[]⟩,⟨#[]⟩))=true):=fun j hj=>by
       by_cases hjk:j=k
       ·rw[hjk,← hs];unfold zbl zau;rw[decide_eq_true hz,decide_eq_true hy];rfl
       ·exact HA.out j (by omega)
      clear hs
      go_wp2
      exact⟨⟨k + 1,by omega,by simp,by trivial,HA'⟩,by simp[intOf];omega⟩
     ·have hno:=HN k hlt (by rw[← hs];unfold zbl zau;rw[decide_eq_false hy,Bool.and_false])
      clear hs
      go_wp2
      go_ret
      exact⟨zaW (by rw[hno.out]),rfl⟩
    ·have hno:=HN k hlt (by rw[← hs];unfold zbl zau;rw[decide_eq_false hz,Bool.false_and])
     clear hs
     go_wp2
     go_ret
     exact⟨zaW (by rw[hno.out]),rfl⟩
   ·have hfar:=HF (by omega)
    go_wp2
    go_ret
    exact⟨zaW (by rw[hfar.out];simp;omega),rfl⟩
  ·obtain rfl:k=l.length:=by omega
   have he:=HE HA.out
   go_wp2
   go_ret
   exact⟨zaW (by rw[he.out];simp;omega),rfl⟩
set_option maxHeartbeats 1000000 in
theorem zf5 (v:Value) (l:List (Int×ByteArray)) (w:World) (hv:Resps w v l) :
  Calls Tryz.prog 19 #[v] w fun e w'=>e=.returned (.bool (fewL zb2 30 l))∧w=w':=by
 obtain⟨q,cap,rfl,hc⟩:=hv.cells
 have HC:=Lib.hid hc
 have HN:=fun k hk h=>Lib.hid (zer (p:=zb2) (m:=30) (l:=l) k (0,⟨#[]⟩) hk h)
 have HE:=fun h=>Lib.hid (zdj (p:=zb2) (m:=30) (l:=l) (0,⟨#[]⟩) h)
 have HF:=fun h=>Lib.hid (zdk (p:=zb2) (m:=30) (l:=l) h)
 obtain⟨r,hr⟩:∃ r,r=fewL zb2 30 l:=⟨_,rfl⟩
 simp only[← hr] at HN HE HF
 rw[← hr]
 clear hr hc
 go_enter Tryz.func19,Tryz.ntmps19
 go_wp2
 go_loopw [3] (fun i wr=>∃ k:Nat,k≤l.length∧i=.int .i64 k∧w=wr∧Hid (∀ j,j < k→zb2 (l.getD j (0,⟨#[]⟩))=true)) (fun i _=>l.length - (intOf i).toNat)
 case atStart=>exact⟨0,by omega,rfl,rfl,fun j hj=>absurd hj (Nat.not_lt_zero _)⟩
 case round =>
  obtain⟨k,hk,rfl,rfl,HA⟩:=hrel
  by_cases hlt:k < l.length
  ·by_cases h30:k≤30
   ·obtain⟨b,off,rfl,c0⟩:=HC.out k hlt
    obtain⟨s,hs⟩:∃ s,s=l.getD k (0,⟨#[]⟩):=⟨_,rfl⟩
    rw[← hs] at c0
    by_cases hz:s.2.size≤300
    ·have HA':Hid (∀ j,j < k + 1→zb2 (l.getD j (0,⟨#[]⟩))=true):=fun j hj=>by
      by_cases hjk:j=k
      ·rw[hjk,← hs];exact decide_eq_true hz
      ·exact HA.out j (by omega)
     clear hs
     go_wp2
     exact⟨⟨k + 1,by omega,by simp,by trivial,HA'⟩,by simp[intOf];omega⟩
    ·have hno:=HN k hlt (by rw[← hs];exact decide_eq_false hz)
     clear hs
     go_wp2
     go_ret
     exact⟨zaW (by rw[hno.out]),rfl⟩
   ·have hfar:=HF (by omega)
    go_wp2
    go_ret
    exact⟨zaW (by rw[hfar.out];simp;omega),rfl⟩
  ·obtain rfl:k=l.length:=by omega
   have he:=HE HA.out
   go_wp2
   go_ret
   exact⟨zaW (by rw[he.out];simp;omega),rfl⟩
end
section
open Go.RowKit
def fewU (u:Url):Bool:=fewL (zau 300) 60 u.path && (zau 300 u.scheme && (zau 300 u.user && (zau 300 u.pass && (zau 300 u.host.name && (zau 300 u.opq && (zau 300 u.query && zau 300 u.frag))))))
def fewQ (q:Req):Bool:=fewU q.url && (zau 300 q.method && (zau 300 q.orig.scheme && (zau 300 q.orig.host.name && zau 5000 q.referrer)))
def fewF (q:Req):Bool:=fewQ q && fewL zbl 60 q.heads
def fewT (raw:ByteArray) (q:Req) (rs:List (Int×ByteArray)):Bool:=(fewF q && fewL zb2 30 rs) && zau 300 raw
theorem zaj {n:Nat} {s:ByteArray} (h:s.size≤n):zau n s=true:=decide_eq_true h
theorem za6 {n:Nat} {s:ByteArray} (h:¬ s.size≤n):zau n s=false:=decide_eq_false h
set_option maxHeartbeats 4000000 in
theorem zg2 (u:Url) (pv:Value) (w:World) (hp:Strs w pv u.path) :
  Calls Tryz.prog 79 #[.agg (urlC u pv)] w fun e w'=>e=.returned (.bool (fewU u))∧Below w.heap.size w w':=by
 have R0:=row1 w (.cells (urlC u pv) 27)
 have B0:=bel1 w (.cells (urlC u pv) 27)
 have H8:=Lib.hid (zg1 pv u.path _ (hp.below B0))
 have HE:Hid (fewU u=_):=fewU.eq_1 u
 obtain⟨r,hr⟩:∃ r,r=fewU u:=⟨_,rfl⟩
 rw[← hr] at HE ⊢
 clear hr
 obtain⟨b,hb⟩:∃ b,b=fewL (zau 300) 60 u.path:=⟨_,rfl⟩
 rw[← hb] at HE H8
 clear hb
 obtain⟨q,m,c,rfl⟩:=hp.slice
 have e15:=yE R0 15 (.slice q m c) rfl
 have e0:=yE R0 0 (.string u.scheme) rfl
 have e1:=yE R0 1 (.string u.user) rfl
 have e2:=yE R0 2 (.string u.pass) rfl
 have e4:=yE R0 4 (.string u.host.name) rfl
 have e16:=yE R0 16 (.string u.opq) rfl
 have e17:=yE R0 17 (.string u.query) rfl
 have e18:=yE R0 18 (.string u.frag) rfl
 go_enter Tryz.func79,Tryz.ntmps79
 go_wp2_with fail
 refine H8.out.mono ?_
 rintro e w1 ⟨rfl,rfl⟩
 clear H8 e15
 cases b with
 | false =>
  go_wp2
  go_ret
  exact⟨zaW (by rw[HE.out];rfl),B0⟩
 | true =>
  by_cases nh1:¬ (u.scheme.size≤300)
  ·go_wp2
   go_ret
   exact⟨zaW (by rw[HE.out,za6 nh1];rfl),B0⟩
  have h1:=Decidable.not_not.1 nh1
  clear nh1
  by_cases nh2:¬ (u.user.size≤300)
  ·go_wp2
   go_ret
   exact⟨zaW (by rw[HE.out,zaj h1,za6 nh2];rfl),B0⟩
  have h2:=Decidable.not_not.1 nh2
  clear nh2
  by_cases nh3:¬ (u.pass.size≤300)
  ·go_wp2
   go_ret
   exact⟨zaW (by rw[HE.out,zaj h1,zaj h2,za6 nh3];rfl),B0⟩
  have h3:=Decidable.not_not.1 nh3
  clear nh3
  by_cases nh4:¬ (u.host.name.size≤300)
  ·go_wp2
   go_ret
   exact⟨zaW (by rw[HE.out,zaj h1,zaj h2,zaj h3,za6 nh4];rfl),B0⟩
  have h4:=Decidable.not_not.1 nh4
  clear nh4
  by_cases nh5:¬ (u.opq.size≤300)
  ·go_wp2
   go_ret
   exact⟨zaW (by rw[HE.out,zaj h1,zaj h2,zaj h3,zaj h4,za6 nh5];rfl),B0⟩
  have h5:=Decidable.not_not.1 nh5
  clear nh5
  by_cases nh6:¬ (u.query.size≤300)
  ·go_wp2
   go_ret
   exact⟨zaW (by rw[HE.out,zaj h1,zaj h2,zaj h3,zaj h4,zaj h5,za6 nh6];rfl),B0⟩
  have h6:=Decidable.not_not.1 nh6
  clear nh6
  go_wp2
  go_ret
  exact⟨zaW (by rw[HE.out,zaj h1,zaj h2,zaj h3,zaj h4,zaj h5,zaj h6];simp[zau];omega),B0⟩
set_option maxHeartbeats 4000000 in
theorem zf3 (q:Req) (pv hv:Value) (w:World) (hp:Strs w pv q.url.path) :
  Calls Tryz.prog 38 #[.agg (reqC q pv hv)] w fun e w'=>e=.returned (.bool (fewQ q))∧Below w.heap.size w w':=by
 have R0:=row1 w (.cells (reqC q pv hv) 32)
 have B0:=bel1 w (.cells (reqC q pv hv) 32)
 have H8:=Lib.hid (zg2 q.url pv _ (hp.below B0))
 have HE:Hid (fewQ q=_):=fewQ.eq_1 q
 obtain⟨r,hr⟩:∃ r,r=fewQ q:=⟨_,rfl⟩
 rw[← hr] at HE ⊢
 clear hr
 obtain⟨b,hb⟩:∃ b,b=fewU q.url:=⟨_,rfl⟩
 rw[← hb] at HE H8
 clear hb
 go_enter Tryz.func38,Tryz.ntmps38
 go_wp2_with (first|((with_reducible (show wpList _ _ _ (Oper.mk _ (.load 27 _) _ _ _ _::_) _ _));refine zaa (by rfl) 27 _ rfl w.heap.size 0 rfl (urlC q.url pv) _ (zae R0 0 _ rfl) yB rfl yN ?_))
 refine H8.out.mono ?_
 rintro e w1 ⟨rfl,b1⟩
 have R1:=kept b1 R0
 have B1:=yD B0 b1
 have e21:=yE R1 21 (.string q.method) rfl
 have e25:=yE R1 25 (.string q.orig.scheme) rfl
 have e27:=yE R1 27 (.string q.orig.host.name) rfl
 have e41:=yE R1 41 (.string q.referrer) rfl
 clear H8 R0 B0 b1 R1
 cases b with
 | false =>
  go_wp2
  go_ret
  exact⟨zaW (by rw[HE.out];rfl),B1⟩
 | true =>
  by_cases nh1:¬ (q.method.size≤300)
  ·go_wp2
   go_ret
   exact⟨zaW (by rw[HE.out,za6 nh1];rfl),B1⟩
  have h1:=Decidable.not_not.1 nh1
  clear nh1
  by_cases nh2:¬ (q.orig.scheme.size≤300)
  ·go_wp2
   go_ret
   exact⟨zaW (by rw[HE.out,zaj h1,za6 nh2];rfl),B1⟩
  have h2:=Decidable.not_not.1 nh2
  clear nh2
  by_cases nh3:¬ (q.orig.host.name.size≤300)
  ·go_wp2
   go_ret
   exact⟨zaW (by rw[HE.out,zaj h1,zaj h2,za6 nh3];rfl),B1⟩
  have h3:=Decidable.not_not.1 nh3
  clear nh3
  go_wp2
  go_ret
  exact⟨zaW (by rw[HE.out,zaj h1,zaj h2,zaj h3];simp[zau];omega),B1⟩
set_option maxHeartbeats 4000000 in
theorem zf4 (q:Req) (pv hv:Value) (w:World) (hp:Strs w pv q.url.path) (hh:Flds w hv q.heads) :
  Calls Tryz.prog 18 #[.agg (reqC q pv hv)] w fun e w'=>e=.returned (.bool (fewF q))∧Below w.heap.size w w':=by
 have R0:=row1 w (.cells (reqC q pv hv) 32)
 have B0:=bel1 w (.cells (reqC q pv hv) 32)
 have H8:=Lib.hid (zf3 q pv hv _ (hp.below B0))
 have H9:=fun w' h=>Lib.hid (zf2 hv q.heads w' (hh.below h))
 have HE:Hid (fewF q=_):=fewF.eq_1 q
 obtain⟨r,hr⟩:∃ r,r=fewF q:=⟨_,rfl⟩
 rw[← hr] at HE ⊢
 clear hr
 obtain⟨b,hb⟩:∃ b,b=fewQ q:=⟨_,rfl⟩
 rw[← hb] at HE H8
 clear hb
 obtain⟨c,hc⟩:∃ b,b=fewL zbl 60 q.heads:=⟨_,rfl⟩
 rw[← hc] at HE
 simp only[← hc] at H9
 clear hc
 obtain⟨q1,m1,c1,rfl⟩:=hh.slice
 go_enter Tryz.func18,Tryz.ntmps18
 go_wp2_with (first|((with_reducible (show wpList _ _ _ (Oper.mk _ (.load 32 _) _ _ _ _::_) _ _));refine zaa (by rfl) 32 _ rfl w.heap.size 0 rfl (reqC q pv (.slice q1 m1 c1)) _ (zac R0) yA rfl zab ?_))
 refine H8.out.mono ?_
 rintro e w1 ⟨rfl,b1⟩
 have B1:=yD B0 b1
 have e22:=yE (kept b1 R0) 22 (.slice q1 m1 c1) rfl
 go_wp2_with fail
 refine(H9 _ B1).out.mono ?_
 rintro e w2 ⟨rfl,rfl⟩
 clear H8 H9 e22 b1 R0 B0
 cases b <;> cases c <;> go_wp2 <;> go_ret <;> exact⟨zaW (by rw[HE.out];rfl),B1⟩
set_option maxHeartbeats 4000000 in
theorem zeV (raw:ByteArray) (q:Req) (pv hv lv:Value) (rs:List (Int×ByteArray)) (w:World) (hp:Strs w pv q.url.path) (hh:Flds w hv q.heads) (hr:Resps w lv rs) :
  Calls Tryz.prog 6 #[.string raw,.agg (reqC q pv hv),lv] w fun e w'=>e=.returned (.bool (fewT raw q rs))∧Below w.heap.size w w':=by
 have R0:=row1 w (.cells (reqC q pv hv) 32)
 have B0:=bel1 w (.cells (reqC q pv hv) 32)
 have H8:=Lib.hid (zf4 q pv hv _ (hp.below B0) (hh.below B0))
 have H9:=fun w' h=>Lib.hid (zf5 lv rs w' (hr.below h))
 have HE:Hid (fewT raw q rs=_):=fewT.eq_1 raw q rs
 obtain⟨r,hr'⟩:∃ r,r=fewT raw q rs:=⟨_,rfl⟩
 rw[← hr'] at HE ⊢
 clear hr'
 obtain⟨b,hb⟩:∃ b,b=fewF q:=⟨_,rfl⟩
 rw[← hb] at HE H8
 clear hb
 obtain⟨c,hc⟩:∃ b,b=fewL zb2 30 rs:=⟨_,rfl⟩
 rw[← hc] at HE
 simp only[← hc] at H9
 clear hc
 go_enter Tryz.func6,Tryz.ntmps6
 go_wp2_with (first|((with_reducible (show wpList _ _ _ (Oper.mk _ (.load 32 _) _ _ _ _::_) _ _));refine zaa (by rfl) 32 _ rfl w.heap.size 0 rfl (reqC q pv hv) _ (zac R0) yA rfl zab ?_))
 refine H8.out.mono ?_
 rintro e w1 ⟨rfl,b1⟩
 have B1:=yD B0 b1
 go_wp2_with fail
 refine(H9 _ B1).out.mono ?_
 rintro e w2 ⟨rfl,rfl⟩
 clear H8 H9 b1 R0 B0
 cases b <;> cases c <;> go_wp2 <;> go_ret <;> exact⟨zaW (by rw[HE.out];first|rfl|(simp[zau] <;> omega)),B1⟩
theorem zdI {raw:ByteArray} {q:Req} {rs:List (Int×ByteArray)} (h:fewT raw q rs=true):Begin raw q∧zcc rs∧rs.length≤30:=by
 unfold fewT fewF fewQ fewU at h
 simp only[Bool.and_eq_true] at h
 obtain⟨⟨⟨⟨⟨h1,h2,h3,h4,h5,h6,h7,h8⟩,h9,h10,h11,h12⟩,h13⟩,h14⟩,h15⟩:=h
 have hs:∀ {n:Nat} {s:ByteArray},zau n s=true→s.size≤n:=fun h=>of_decide_eq_true h
 have p1:=zeq h1
 have p2:=zeq h13
 have p3:=zeq h14
 have hf:∀ f∈q.heads,f.1.size≤300∧f.2.size≤300:=fun f hf=>by
  have:=p2.2 f hf
  unfold zbl at this
  rw[Bool.and_eq_true] at this
  exact⟨hs this.1,hs this.2⟩
 have hw:∀ l:List ByteArray,(∀ x∈l,x.size≤300)→(pathShow l).length≤301 * l.length:=by
  intro l
  induction l with
  | nil=>intro _;exact Nat.zero_le _
  | cons x l ih =>
   intro hl
   have h1:=ih (fun y hy=>hl y (by simp[hy]))
   have h2:=hl x (by simp)
   rw[zaT,List.length_cons];omega
 refine⟨⟨hs h15,⟨hs h2,hs h3,hs h4,hs h5,hs h6,hs h7,hs h8,?_⟩,hs h9,p2.1,hf,hs h11,hs h10,hs h12⟩,fun r hr=>hs (p3.2 r hr),p3.1⟩
 have:=hw q.url.path (fun x hx=>hs (p1.2 x hx))
 have:=p1.1
 omega
end
end Go.Proofs.YtdlkjofnnefjfaaGreatDoor
