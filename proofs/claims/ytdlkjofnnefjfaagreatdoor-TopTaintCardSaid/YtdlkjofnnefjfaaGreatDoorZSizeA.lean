/- How large an address is that a text tells, or that a text tells beside another one (no program in sight). -/
import Derived.Test.YtdlkjofnnefjfaaGreatDoorZShort
import Derived.Test.YtdlkjofnnefjfaaGreatDoorZStartA
set_option linter.all false
namespace Go.Proofs.YtdlkjofnnefjfaaGreatDoor
set_option maxRecDepth 100000
open Go.RowKit
theorem zhG (s:ByteArray):s.data.toList.length=s.size:=rfl
theorem zic (l:List UInt8):(bs l).size=l.length:=by rw[bs_size]
theorem zaT (s:ByteArray) (l:List ByteArray):(pathShow (s::l)).length=1 + s.size + (pathShow l).length:=by
 show ((47::s.data.toList)++pathShow l).length=_
 rw[List.length_append,List.length_cons,zhG];omega
theorem zbH:∀ (a b:List ByteArray),(pathShow (a++b)).length=(pathShow a).length + (pathShow b).length
 | [],b=>by simp[pathShow]
 | s::a,b=>by rw[List.cons_append,zaT,zbH a b,zaT];omega
theorem zd2 (l:List ByteArray):(pathShow l.dropLast).length≤(pathShow l).length:=by
 rcases l.eq_nil_or_concat with rfl|⟨a,x,rfl⟩
 ·exact yV _
 ·rw[List.concat_eq_append,List.dropLast_concat,zbH];omega
theorem zdu:∀ (l:List ByteArray),l.length≤(pathShow l).length
 | []=>Nat.zero_le _
 | s::l=>by have:=zdu l;rw[zaT,List.length_cons];omega
theorem zfa:∀ (l:List ByteArray),∀ x∈l,x.size≤(pathShow l).length
 | [],x,h=>by cases h
 | s::l,x,h=>by
  rw[zaT]
  rcases List.mem_cons.1 h with rfl|h
  ·omega
  ·have:=zfa l x h;omega
theorem zb3 (x:ByteArray):(pathShow [x]).length=1 + x.size:=by rw[zaT];rfl
theorem zdo (out:List ByteArray) (x:ByteArray×Bool):(pathShow (normStep out x)).length≤(pathShow out).length + (1 + x.1.size):=by
 have hd:=zd2 out
 have e0:(⟨#[]⟩:ByteArray).size=0:=rfl
 unfold normStep
 split
 ·rw[zbH,zb3];omega
 ·split <;> split
  ·rw[zbH,zb3,e0];omega
  ·rw[zbH,zb3,e0];omega
  ·omega
  ·omega
theorem zdP:∀ (pre:List (ByteArray×Bool)) (out:List ByteArray),(pathShow (pre.foldl normStep out)).length≤(pathShow out).length + (pathShow (pre.map Prod.fst)).length
 | [],out=>by simp[pathShow]
 | x::pre,out=>by
  have h1:=zdP pre (normStep out x)
  have h2:=zdo out x
  rw[List.foldl_cons,List.map_cons,zaT];omega
theorem zc8 (l:List ByteArray):(pathShow (normL l)).length≤(pathShow l).length:=by
 have h:=zdP (upto (segAt l) l.length) []
 rw[upto_fst l l.length (yV _),List.take_length] at h
 unfold normL
 have e0:(pathShow []).length=0:=rfl
 omega
theorem zdc (sep:ByteArray) (h1:sep.size=1):∀ (k:Nat) (s:ByteArray),(pathShow (Lib.splitB sep 0 k s)).length≤s.size + 1
 | 0,s=>by rw[Lib.splitB_zero,zb3];omega
 | k + 1,s=>by
  rcases Lib.indexB_cases s sep with hix|⟨i,hix,hroom⟩
  ·rw[Lib.splitB_miss sep 0 _ s hix,zb3];omega
  ·rw[Lib.splitB_hit sep 0 k s i hix,zaT]
   have h2:=zdc sep h1 k (s.extract (i + sep.size) s.size)
   rw[ByteArray.size_extract] at h2 ⊢
   omega
theorem zb0 (s:ByteArray):(pathShow (pathSegs s)).length≤3 * s.size + 1:=by
 have hz:=pathEnc_size s
 have h:=zdc ⟨#[47]⟩ rfl (Lib.countB (bs (encL 3 (Lib.trimPrefix s.data.toList [47]))) ⟨#[47]⟩) (bs (encL 3 (Lib.trimPrefix s.data.toList [47])))
 unfold pathSegs parts
 omega
theorem zda (s:ByteArray):(pathShow (pathL s)).length≤3 * s.size + 1:=yW (zc8 _) (zb0 s)
theorem zez (base:List ByteArray) (s:ByteArray):(pathShow (mergeL base s)).length≤(pathShow base).length + (3 * s.size + 1):=by
 have h:=zc8 (base.dropLast++pathSegs s)
 have h1:=zd2 base
 have h2:=zb0 s
 rw[zbH] at h
 unfold mergeL
 omega
theorem zgH (p:List ByteArray) (t:ByteArray):(pathShow (wayP p t)).length≤(pathShow p).length + (3 * t.size + 1):=by
 unfold wayP
 split
 ·omega
 ·split
  ·have:=zda t;omega
  ·exact zez p t
structure Url.In (u:Url) (N K:Nat):Prop where
 sc:u.scheme.size≤N
 us:u.user.size≤N
 pa:u.pass.size≤N
 n:u.host.name.size≤N
 o:u.opq.size≤N
 q:u.query.size≤N
 f:u.frag.size≤N
 ps:(pathShow u.path).length≤K
theorem Url.In.mono {u:Url} {N K N' K':Nat} (h:u.In N K) (h1:N≤N') (h2:K≤K'):u.In N' K' :=
 ⟨yW h.sc h1,yW h.us h1,yW h.pa h1,yW h.n h1,yW h.o h1,yW h.q h1,yW h.f h1,yW h.ps h2⟩
theorem Url.In.fits {u:Url} {N K:Nat} (h:u.In N K) (h1:N≤1000000) (h2:K≤1000000):u.Fits :=
 ⟨yW (zdu _) (yW h.ps (yW h2 (by decide))),fun p hp=>yW (zfa _ p hp) (yW h.ps h2),yW h.q h1,yW h.f h1,yW h.us h1,yW h.pa h1,yW h.n h1,yW h.o h1⟩
theorem Url.In.small {u:Url} {N K:Nat} (h:u.In N K) (h1:N≤1000000) (h2:K≤1000000):u.Small :=
 ⟨h.fits h1 h2,yW h.sc h1,yW (zdu _) (yW h.ps h2),yW h.ps (yW h2 (by decide))⟩
theorem zdh (s sep:List UInt8):(bs (Lib.cut s sep).1).size≤s.length∧(bs (Lib.cut s sep).2.1).size≤s.length:=by
 rw[zic,zic];exact cut_le s sep
theorem zia (s:ByteArray):(schS s).size≤s.size:=by
 unfold schS
 split
 ·rw[lowL_size];exact(zdh _ _).1
 ·exact Nat.zero_le _
theorem za8 (s:ByteArray) (a b:Nat):(s.extract a b).size≤s.size:=by rw[ByteArray.size_extract];omega
theorem zgq (t:ByteArray):(pWhere t).size≤t.size:=by
 unfold pWhere
 split
 ·exact za8 _ _ _
 ·exact yV _
theorem zhk (t:ByteArray):(pPath t).size≤t.size:=by
 unfold pPath
 split
 ·exact za8 _ _ _
 ·exact Nat.zero_le _
theorem zhj (t:ByteArray):(pDoor t).size≤t.size:=by
 unfold pDoor
 split
 ·exact za8 _ _ _
 ·exact yV _
theorem zhl (t:ByteArray):(pUser t).size≤3 * t.size∧(pPass t).size≤3 * t.size:=by
 unfold pUser pPass
 split
 ·have h:=zdh (t.extract 0 (pJ t).toNat).data.toList [58]
  have h0:(t.extract 0 (pJ t).toNat).data.toList.length≤t.size:=za8 _ _ _
  have h1:=enc_le 4 (bs (pUp t).1)
  have h2:=enc_le 4 (bs (pUp t).2.1)
  have h3:(bs (pUp t).1).size≤t.size:=yW h.1 h0
  have h4:(bs (pUp t).2.1).size≤t.size:=yW h.2 h0
  omega
 ·exact⟨Nat.zero_le _,Nat.zero_le _⟩
theorem zgW (s:ByteArray):(dName s).size≤s.size:=by
 unfold dName
 split
 ·exact za8 _ _ _
 ·exact yV _
theorem zg8 (s:ByteArray) (x:HX) (h:hostX s=some x):x.host.name.size≤s.size:=by
 unfold hostX at h
 split at h
 ·split at h
  ·cases h;exact Nat.zero_le _
  ·cases h
 ·split at h
  ·split at h
   ·cases h;exact Nat.zero_le _
   ·cases h
  ·split at h
   ·cases h;show (bs (lowL s.data.toList)).size≤_;rw[lowL_size];exact yV _
   ·cases h
theorem zgY (sc s:ByteArray) (d:Host×Option Int) (h:doorX sc s=some d):d.1.name.size≤s.size:=by
 unfold doorX at h
 cases hx:hostX (dName s) with
 | none=>rw[hx] at h;cases h
 | some x =>
  rw[hx] at h
  have h1:=zg8 _ _ hx
  have h2:=zgW s
  simp only at h
  split at h
  ·cases h;exact yW h1 h2
  ·split at h
   ·cases h;exact yW h1 h2
   ·cases h
theorem zgr (s:ByteArray) (u:Url) (h:parseX s=some u):u.In (3 * s.size) (3 * s.size + 1):=by
 have hs:=zia s
 have hr:=schR_le s
 have ht:=tail_le (schR s)
 have hq:=enc_le 2 (tailQ (schR s))
 have hf:=enc_le 1 (tailF (schR s))
 have ho:=enc_le 1 (tailT (schR s))
 unfold parseX at h
 split at h
 ·cases h
 ·split at h
  ·cases h
   exact⟨by show (schS s).size≤_;omega,Nat.zero_le _,Nat.zero_le _,Nat.zero_le _,by show (encB 1 (tailT (schR s))).size≤_;omega,by show (encB 2 (tailQ (schR s))).size≤_;omega,by show (encB 1 (tailF (schR s))).size≤_;omega,Nat.zero_le _⟩
  ·split at h
   ·cases h
   ·cases hd:doorX (schS s) (pDoor (pWhere (pRest s))) with
    | none=>rw[hd] at h;cases h
    | some d =>
     rw[hd] at h
     have h1:=zgY _ _ _ hd
     have h2:=zhj (pWhere (pRest s))
     have h3:=zgq (pRest s)
     have h4:=pRest_le s
     have h5:=zhl (pWhere (pRest s))
     have h6:=zhk (pRest s)
     have h7:=zda (pPath (pRest s))
     have hu:u={ setDoor { pBase s with user:=pUser (pWhere (pRest s)),pass:=pPass (pWhere (pRest s)) } d with path:=pathL (pPath (pRest s)) }:=(Option.some.inj h).symm
     have e1:u.scheme=schS s:=by rw[hu];rfl
     have e2:u.user=pUser (pWhere (pRest s)):=by rw[hu];rfl
     have e3:u.pass=pPass (pWhere (pRest s)):=by rw[hu];rfl
     have e4:u.host=d.1:=by rw[hu];rfl
     have e5:u.opq=⟨#[]⟩:=by rw[hu];rfl
     have e6:u.query=encB 2 (tailQ (schR s)):=by rw[hu];rfl
     have e7:u.frag=encB 1 (tailF (schR s)):=by rw[hu];rfl
     have e8:u.path=pathL (pPath (pRest s)):=by rw[hu]
     clear hu h hd
     exact⟨by rw[e1] <;> omega,by rw[e2] <;> omega,by rw[e3] <;> omega,by rw[e4] <;> omega,by rw[e5];first|done|exact Nat.zero_le _,by rw[e6] <;> omega,by rw[e7] <;> omega,by rw[e8] <;> omega⟩
theorem zby (s:ByteArray) (u:Url) (h:parseR s=some u):u.In (3 * s.size) (3 * s.size + 1):=by
 have h1:=cleanB_le s
 exact(zgr _ _ h).mono (by omega) (by omega)
theorem zh5 (b:Url) (s:ByteArray) (N K:Nat) (h:b.In N K) (hN:3 * s.size≤N):(relU b s).In N (K + (3 * s.size + 1)):=by
 have ht:=tail_le s
 have hq:=enc_le 2 (tailQ s)
 have hf:=enc_le 1 (tailF s)
 have hw:=zgH b.path (tailT s)
 have hp:=h.ps
 refine⟨h.sc,h.us,h.pa,h.n,h.o,?_,?_,?_⟩
 ·show (if tailHQ s=true∨(tailT s).size≠0 then encB 2 (tailQ s) else b.query).size≤N
  split
  ·omega
  ·exact h.q
 ·show (encB 1 (tailF s)).size≤N
  omega
 ·show (pathShow (wayP b.path (tailT s))).length≤_
  omega
theorem zcJ (b:Url) (ref:ByteArray) (N K:Nat) (h:b.In N K) (hN:3 * (ref.size + 6)≤N) (r:Url) (hr:resolveR b ref=some r):r.In N (K + (3 * (ref.size + 6) + 1)):=by
 have hc:=cleanB_le ref
 unfold resolveR at hr
 split at hr
 ·cases hr
 ·split at hr
  ·exact(zby _ _ hr).mono (by omega) (by omega)
  ·split at hr
   ·cases hr
   ·rename_i hw
    have h5:=zcU _ hw
    split at hr
    ·have hz:(b.scheme++⟨#[58]⟩++cleanB ref).size≤ref.size + 6:=by
      rw[ByteArray.size_append,ByteArray.size_append]
      have:(⟨#[58]⟩:ByteArray).size=1:=rfl
      omega
     exact(zby _ _ hr).mono (by omega) (by omega)
    ·cases hr
     exact(zh5 b _ N K h (by omega)).mono (yV _) (by omega)
theorem zhY (u f:Url) (N K:Nat) (h:u.In N K) (hf:f.frag.size≤N):(inhU u f).In N K:=by
 unfold inhU
 split
 ·exact h
 ·exact⟨h.sc,h.us,h.pa,h.n,h.o,h.q,hf,h.ps⟩
theorem zgG (N K:Nat):url0.In N K:=⟨Nat.zero_le _,Nat.zero_le _,Nat.zero_le _,Nat.zero_le _,Nat.zero_le _,Nat.zero_le _,Nat.zero_le _,Nat.zero_le _⟩
theorem zgt (l:List Fld) (u:Url) (N K:Nat) (h:u.In N K) (hN:3 * ((rawR l).1.size + 6)≤N):(zbd l u).In N (K + (3 * ((rawR l).1.size + 6) + 1)):=by
 unfold zbd placeR
 split
 ·cases hr:resolveR u (rawR l).1 with
  | none=>exact zgG _ _
  | some r=>exact zhY r u _ _ (zcJ u _ N K h hN r hr) h.f
 ·exact zgG _ _
theorem zgJ:∀ l:List UInt8,(Iso.wideL l).length≤2 * l.length
 | []=>Nat.zero_le _
 | b::l=>by
  have h:=zgJ l
  have h1:(Iso.encB b).length≤2:=by unfold Iso.encB;split <;> simp
  rw[Iso.wideL,List.length_append,List.length_cons];omega
theorem zh3 (l:List Fld) (N:Nat) (h:∀ f∈l,f.2.size≤N):(rawR l).1.size≤2 * N:=by
 unfold rawR
 cases ha:allL sLoc l with
 | nil=>exact Nat.zero_le _
 | cons x r =>
  have hx:x∈allL sLoc l:=by rw[ha];simp
  have hxs:x.size≤N:=by
   unfold allL at hx
   obtain⟨f,hf,rfl⟩:=List.mem_map.1 hx
   exact h f (List.mem_filter.1 hf).1
  simp only
  split
  ·exact Nat.zero_le _
  ·have:=zgJ x.data.toList
   rw[zhG] at this
   show (Iso.wideL x.data.toList).length≤_
   omega
theorem zgg (N:Nat):∀ l:List ByteArray,(∀ x∈l,x.size≤N)→(Lib.lens (l.map (·.data.toList)))≤l.length * N
 | [],_=>Nat.zero_le _
 | x::l,h=>by
  have h1:=zgg N l (fun y hy=>h y (by simp[hy]))
  have h2:=h x (by simp)
  have h3:x.data.toList.length=x.size:=rfl
  have h4:Lib.lens ((x::l).map (·.data.toList))=x.data.toList.length + Lib.lens (l.map (·.data.toList)):=by simp[Lib.lens]
  rw[h4,List.length_cons,Nat.add_mul];omega
theorem zhW (l:List Fld) (nm:ByteArray) (M N:Nat) (hl:l.length≤M) (h:∀ f∈l,f.2.size≤N):(getL l nm).size≤M * (N + 2):=by
 unfold getL
 rw[zic]
 have hm:∀ x∈allL nm l,x.size≤N:=by
  intro x hx
  unfold allL at hx
  obtain⟨f,hf,rfl⟩:=List.mem_map.1 hx
  exact h f (List.mem_filter.1 hf).1
 have hn:=yW (zbT nm l) hl
 obtain⟨a,ha⟩:∃ a,a=allL nm l:=⟨_,rfl⟩
 rw[← ha] at hm hn ⊢
 cases a with
 | nil=>exact Nat.zero_le _
 | cons x r =>
  rw[List.map_cons,Lib.join_length]
  have h1:=zgg N (x::r) hm
  rw[List.map_cons] at h1
  rw[List.length_map]
  have h2:([44,32]:List UInt8).length=2:=rfl
  rw[h2]
  have h3:(x::r).length * (N + 2)≤M * (N + 2):=Nat.mul_le_mul_right _ hn
  rw[List.length_cons] at h1 h3
  rw[Nat.mul_add] at h3
  omega
theorem zcI (s:ByteArray):(zaw s).length≤s.size∧∀ f∈zaw s,f.1.size≤s.size∧f.2.size≤s.size:=by
 unfold zaw
 split
 ·have h:=zc6 s
  unfold hpL
  refine⟨by rw[List.length_map];exact h.1,fun f hf=>?_⟩
  obtain⟨x,hx,rfl⟩:=List.mem_map.1 hf
  have h1:=h.2 x hx
  have h2:=zdh x.1.data.toList [58]
  have h3:x.1.data.toList.length=x.1.size:=rfl
  have h4:=zcS (hpV x).data.toList [32,9]
  have h5:(hpT x).size=(Lib.trimS (hpV x).data.toList [32,9]).length:=rfl
  have h6:(hpV x).data.toList.length=(hpV x).size:=rfl
  have h7:(hpN x).size≤x.1.data.toList.length:=h2.1
  have h8:(hpV x).size≤x.1.data.toList.length:=h2.2
  exact⟨by show (hpN x).size≤_;omega,by show (hpT x).size≤_;omega⟩
 ·exact⟨Nat.zero_le _,fun f hf=>by cases hf⟩
end Go.Proofs.YtdlkjofnnefjfaaGreatDoor
