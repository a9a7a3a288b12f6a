/- Header fields: all values of one name. Fields that are taken away: what asks of a field; the first that is asked for. slices.DeleteFunc of fields that lie in a row of one's own. head.Drop. method.own: a request of its own, without some fields. -/
import Derived.Test.YtdlkjofnnefjfaaGreatDoorZShort
import Derived.Test.YtdlkjofnnefjfaaGreatDoorZReqA
set_option linter.all false
namespace Go.Proofs.YtdlkjofnnefjfaaGreatDoor
set_option maxRecDepth 100000
section
open Go.RowKit
def zbg (a b:ByteArray):Bool:=sameL a.data.toList b.data.toList
def allL (name:ByteArray) (l:List Fld):List ByteArray:=(l.filter (fun f=>zbg f.1 name)).map (·.2)
theorem zdB (name:ByteArray) (l:List Fld) (f:Fld):allL name (l++[f])=allL name l++(if zbg f.1 name=true then [f.2] else []):=by
 unfold allL;by_cases h:zbg f.1 name <;> simp[h]
theorem zbT (name:ByteArray) (l:List Fld):(allL name l).length≤l.length:=by
 unfold allL;rw[List.length_map];exact List.length_filter_le _ _
def zax (l:List Fld):Prop:=l.length≤1000000∧∀ f∈l,f.1.size≤1000000∧f.2.size≤1000000
set_option maxHeartbeats 1000000 in
theorem zfO (v:Value) (l:List Fld) (name:ByteArray) (w:World) (hv:Flds w v l) (hf:zax l) (hn:name.size≤1000000) :
  Calls Tryz.prog 15 #[v,.string name] w fun e w'=>∃ v',e=.returned v'∧w'.ownsRow w.heap.size 9 1 v' (allL name l).length ((allL name l).map Value.string)∧Below w.heap.size w w':=by
 obtain⟨i0,hi,hz0,hz1,hz2⟩:=info9'
 have HS:=fun (a:ByteArray) (ha:a.size≤1000000) w'=>Lib.hid (same_any a name w' (by omega) (by omega))
 rcases hv with ⟨rfl,rfl⟩|⟨b,off,cap,rfl,hl,hm,hlt,hc⟩
 ·go_enter Tryz.func15,Tryz.ntmps15
  go_wp2
  go_loopw [5,7,10] (fun v _ i wr=>i=.int .i64 0∧v=.slice none 0 0∧w=wr) (fun _ _ i _=>0)
  case atStart=>exact⟨rfl,rfl,rfl⟩
  case round =>
   obtain⟨rfl,rfl,rfl⟩:=hrel
   go_wp2
   go_ret
   exact⟨_,rfl,World.ownsRow_nil _ _ _ _,Below.refl _ _⟩
 ·have HC:=Lib.hid hc
  clear hc
  go_enter Tryz.func15,Tryz.ntmps15
  go_wp2
  go_loopw [5,7,10] (fun v _ i wr=>∃ k:Nat,k≤l.length∧i=.int .i64 k∧wr.ownsRow w.heap.size 9 1 v (allL name (l.take k)).length ((allL name (l.take k)).map Value.string)∧Below w.heap.size w wr) (fun _ _ i _=>l.length - (intOf i).toNat)
  case atStart=>exact⟨0,by omega,rfl,World.ownsRow_nil _ _ _ _,Below.refl _ _⟩
  case round =>
   obtain⟨k,hk,rfl,hown,hB⟩:=hrel
   by_cases hlt':k < l.length
   ·have e1:=(hB.cell (p:=⟨b,off + k * 2,none⟩) hlt).trans (HC.out k hlt').1
    have e2:=(hB.cell (p:=⟨b,off + k * 2 + 1,none⟩) hlt).trans (HC.out k hlt').2
    obtain⟨f,hf'⟩:∃ f,f=l.getD k (⟨#[]⟩,⟨#[]⟩):=⟨_,rfl⟩
    have hmem:f∈l:=by rw[hf',List.getD_eq_getElem?_getD,List.getElem?_eq_getElem hlt'];exact List.getElem_mem hlt'
    have hz:=hf.2 f hmem
    have HT:Hid (allL name (l.take (k + 1))=allL name (l.take k)++(if zbg f.1 name=true then [f.2] else [])):=by show _=_;rw[take_snocL l k (⟨#[]⟩,⟨#[]⟩) hlt',← hf'];exact zdB _ _ _
    have hal:=zbT name (l.take k)
    rw[List.length_take] at hal
    rw[← hf'] at e1 e2
    obtain⟨A,hA⟩:∃ A,A=allL name (l.take k):=⟨_,rfl⟩
    rw[← hA] at hown HT hal
    have hl1:=hf.1
    clear hf' hmem hA
    have HSf:∀ w',Hid (Calls Tryz.prog 35 #[.string f.1,.string name] w' fun e w''=>e=.returned (.bool (zbg f.1 name))∧Below w'.heap.size w' w''):=fun w'=>HS f.1 hz.1 w'
    obtain⟨sb,hsb⟩:∃ sb,sb=zbg f.1 name:=⟨_,rfl⟩
    rw[← hsb] at HT
    simp only[← hsb] at HSf
    clear hsb HS
    have hs0:=hB.size
    have B1:Below w.heap.size w (wr.alloc (.cells #[.string f.1,.string f.2] 72)):=hB.alloc hs0 _
    have R1:=row1 wr (.cells #[.string f.1,.string f.2] 72)
    go_wp2_with fail
    refine(HSf _).out.mono ?_
    rintro e w2 ⟨rfl,b2⟩
    have B2:=yD B1 b2
    have R2:=kept b2 R1
    have c1:=yE R2 1 (.string f.2) rfl
    have hown2:=own_below (hown.alloc _) b2
    have hs2:=B2.size
    clear R1 R2 B1 hown
    cases sb with
    | false =>
     have hT:allL name (l.take (k + 1))=A:=by rw[HT.out];simp
     have HTT:=Lib.hid hT
     clear hT
     go_wp2
     exact⟨⟨k + 1,by omega,by simp,by rw[HTT.out];exact hown2,B2⟩,by simp[intOf];omega⟩
    | true =>
     have hT:allL name (l.take (k + 1))=A++[f.2]:=by rw[HT.out];simp
     have HTT:=Lib.hid hT
     clear hT
     go_wp2_with (at_builtin;refine wpList_append_own _ rfl _ _ 25 rfl w.heap.size 9 i0 (.string ⟨#[]⟩) 1 16 Tryz.underlying25 hi hz0 hz1 hz2 rfl (by decide) _ _ _ rfl (hown2.alloc _) ⟨w2.heap.size,0,none⟩ 1 1 [.string f.2] rfl rfl ?c1 ?c2 ?c3 ?c4 ?c5 ?_)
     case c1=>exact new_one rfl
     case c2=>intro u hu;simp at hu;subst hu;rfl
     case c3=>unfold maxLen;omega
     case c4=>omega
     case c5=>simp;omega
     intro v' w3 hown' hgrow _
     have B3:Below w.heap.size w w3:=(B2.alloc hs2 _).grown hgrow (by simp;omega) (fun j hj=>(hown2.lt j (by rw[hj])).1)
     go_wp2
     exact⟨⟨k + 1,by omega,by simp,by rw[HTT.out,List.length_append,List.map_append];exact hown',B3⟩,by simp[intOf];omega⟩
   ·obtain rfl:k=l.length:=by omega
    rw[List.take_length] at hown
    go_wp2
    go_ret
    exact⟨_,rfl,hown,hB⟩
end
section
open Go.RowKit
theorem zfZ (fb:Nat) (nm:ByteArray) (w:World) (hn:nm.size≤1000000) (hc:w.cell? ⟨fb,0,none⟩=some (.string nm)) (s:ByteArray) (hs:s.size≤1000000) :
  Calls Tryz.prog 88 #[.string s,.pointer (some ⟨fb,0,none⟩)] w fun e w'=>e=.returned (.bool (zbg s nm))∧Below w.heap.size w w':=by
 have HS:∀ w',Hid (Calls Tryz.prog 35 #[.string s,.string nm] w' fun e w''=>e=.returned (.bool (zbg s nm))∧Below w'.heap.size w' w''):=fun w'=>same_any s nm w' (by omega) (by omega)
 go_enter Tryz.func88,Tryz.ntmps88
 go_wp2_with fail
 refine(HS _).out.mono ?_
 rintro e w1 ⟨rfl,b1⟩
 go_wp2
 go_ret
 exact⟨rfl,b1⟩
def zcD (names:List ByteArray) (f:Fld):Bool:=names.any (fun s=>zbg s f.1)
theorem zeU (nb:Nat) (nv:Value) (names:List ByteArray) (w:World) (hc:w.cell? ⟨nb,0,none⟩=some nv) (hlt:nb < w.heap.size) (hv:Strs w nv names) (hl:names.length≤1000000) (hz:∀ x∈names,x.size≤1000000) (f:Fld) (hf:f.1.size≤1000000) :
  Calls Tryz.prog 86 #[.agg #[.string f.1,.string f.2],.pointer (some ⟨nb,0,none⟩)] w fun e w'=>e=.returned (.bool (zcD names f))∧Below w.heap.size w w':=by
 have hmf:∀ (fn:Fn) (first cap:Array Value) (w:World),(Instr.makeFunc fn first cap).run Tryz.prog w=.ok (.func fn first cap) w:=fun _ _ _ _=>rfl
 have R1:=row1 w (.cells #[.string f.1,.string f.2] 72)
 have B1:=bel1 w (.cells #[.string f.1,.string f.2] 72)
 have c0:(w.alloc (.cells #[.string f.1,.string f.2] 72)).cell? ⟨nb,0,none⟩=some nv:=(B1.cell (p:=⟨nb,0,none⟩) hlt).trans hc
 have hask:AskStr 88 #[.pointer (some ⟨w.heap.size,0,none⟩)] (fun s=>zbg s f.1) 1000000 (w.alloc (.cells #[.string f.1,.string f.2] 72)):=fun W hW s hs =>
  zfZ w.heap.size f.1 W hf (yE (kept hW R1) 0 _ rfl) s hs
 have HC:=Lib.hid (containsFunc_any 88 #[.pointer (some ⟨w.heap.size,0,none⟩)] (enters_of Tryz.func88 (by kernel_rfl) rfl) (fun s=>zbg s f.1) 1000000 nv names _ hask (hv.below B1) (by omega) hz)
 clear hask R1
 go_enter Tryz.func86,Tryz.ntmps86
 go_wp2_with fail
 refine HC.out.mono ?_
 rintro e w1 ⟨rfl,b1⟩
 go_wp2
 go_ret
 exact⟨rfl,yD B1 b1⟩
def AskF (B:Nat) (g:Nat) (lb:Array Value) (p:Fld→Bool) (w:World):Prop :=
 ∀ W,Below B w W→∀ f:Fld,f.1.size≤1000000→f.2.size≤1000000→Calls Tryz.prog g (#[.agg #[.string f.1,.string f.2]]++lb) W fun e w'=>e=.returned (.bool (p f))∧Below W.heap.size W w'
def ixGo {α:Type} (p:α→Bool):List α→Int→Int
 | [],_=>-1
 | x::l,k=>if p x=true then k else ixGo p l (k + 1)
theorem zco {α:Type} (p:α→Bool):∀ (l:List α) (k:Int),0≤k→(ixGo p l k=-1∧∀ x∈l,p x=false)∨∃ i:Nat,i < l.length∧ixGo p l k=k + i∧(∀ x∈l.take i,p x=false)∧∃ x,l[i]? = some x∧p x=true
 | [],k,_=>.inl ⟨rfl,fun _ h=>by cases h⟩
 | x::l,k,hk=>by
  unfold ixGo
  split
  ·rename_i h
   exact .inr ⟨0,by simp,by simp,by simp,x,rfl,h⟩
  ·rename_i h
   have h':p x=false:=by simpa using h
   rcases zco p l (k + 1) (by omega) with ⟨h1,h2⟩|⟨i,h1,h2,h3,h4⟩
   ·exact .inl ⟨h1,fun y hy=>by rcases List.mem_cons.1 hy with rfl|hy;exact h';exact h2 y hy⟩
   ·refine .inr ⟨i + 1,by simp;omega,by rw[h2];omega,fun y hy=>?_,by simpa using h4⟩
    rw[List.take_succ_cons] at hy
    rcases List.mem_cons.1 hy with rfl|hy
    ·exact h'
    ·exact h3 y hy
set_option maxHeartbeats 1000000 in
theorem zbj (g:Nat) (lb:Array Value) (eg:∀ args w,(callFunc g args).run Tryz.prog w=.ok (.enter g args) w) (p:Fld→Bool) (v:Value) (l:List Fld) (w:World) (hp:AskF w.heap.size g lb p w) (hv:Flds w v l) (hf:zax l) :
  Calls Tryz.prog 107 #[v,.func (.func g) #[] lb] w fun e w'=>e=.returned (.int .i64 (ixGo p l 0))∧Below w.heap.size w w':=by
 have hl1:=hf.1
 obtain⟨r,hr⟩:∃ r,r=ixGo p l 0:=⟨_,rfl⟩
 rw[← hr]
 rcases hv with ⟨rfl,rfl⟩|⟨b,off,cap,rfl,hl,hm,hlt,hc⟩
 ·have HR:=Lib.hid hr
  clear hr
  go_enter Tryz.func107,Tryz.ntmps107
  go_wp2
  go_loopw [5,8] (fun _ i wr=>i=.int .i64 0∧w=wr) (fun _ i _=>0)
  case atStart=>exact⟨rfl,rfl⟩
  case round =>
   obtain⟨rfl,rfl⟩:=hrel
   go_wp2
   go_ret
   exact⟨by rw[HR.out];rfl,Below.refl _ _⟩
 ·have HC:=Lib.hid hc
  clear hc
  go_enter Tryz.func107,Tryz.ntmps107
  go_wp2
  go_loopw [5,8] (fun _ i wr=>∃ k:Nat,k≤l.length∧i=.int .i64 k∧Hid (r=ixGo p (l.drop k) k)∧Below w.heap.size w wr) (fun _ i _=>l.length - (intOf i).toNat)
  case atStart=>exact⟨0,by omega,rfl,hr,Below.refl _ _⟩
  case round =>
   obtain⟨k,hk,rfl,hR,hB⟩:=hrel
   by_cases hlt':k < l.length
   ·have e1:=(hB.cell (p:=⟨b,off + k * 2,none⟩) hlt).trans (HC.out k hlt').1
    have e2:=(hB.cell (p:=⟨b,off + k * 2 + 1,none⟩) hlt).trans (HC.out k hlt').2
    obtain⟨f,hf'⟩:∃ f,f=l.getD k (⟨#[]⟩,⟨#[]⟩):=⟨_,rfl⟩
    have hmem:f∈l:=by rw[hf',List.getD_eq_getElem?_getD,List.getElem?_eq_getElem hlt'];exact List.getElem_mem hlt'
    have hz:=hf.2 f hmem
    have hd:l.drop k=f::l.drop (k + 1):=by
     rw[List.drop_eq_getElem_cons hlt',hf',List.getD_eq_getElem?_getD,List.getElem?_eq_getElem hlt'];rfl
    have HR2:Hid (r=if p f=true then (k:Int) else ixGo p (l.drop (k + 1)) ((k:Int) + 1)):=by show _=_;rw[hR.out,hd];rfl
    rw[← hf'] at e1 e2
    clear hf' hmem hd hR
    have HP:=Lib.hid (hp wr hB f hz.1 hz.2)
    obtain⟨pb,hpb⟩:∃ pb,pb=p f:=⟨_,rfl⟩
    rw[← hpb] at HP HR2
    clear hpb
    go_wp2_with fail
    refine HP.out.mono ?_
    rintro e w1 ⟨rfl,b1⟩
    have B1:=yD hB b1
    cases pb with
    | true =>
     have HZ:Hid (r=(k:Int)):=by show _=_;rw[HR2.out];rfl
     clear HR2
     go_wp2
     go_ret
     exact⟨by rw[HZ.out];rfl,B1⟩
    | false =>
     have HZ:Hid (r=ixGo p (l.drop (k + 1)) ((k:Int) + 1)):=by show _=_;rw[HR2.out];rfl
     clear HR2
     go_wp2
     go_roundw
     case rel=>exact⟨k + 1,by omega,by go_num,by show _=_;rw[HZ.out];rfl,B1⟩
     case measure=>simp[intOf];omega
   ·obtain rfl:k=l.length:=by omega
    have HZ:Hid (r=-1):=by show _=_;rw[hR.out,List.drop_length];rfl
    go_wp2
    go_ret
    exact⟨by rw[HZ.out];rfl,hB⟩
end
section
open Go.RowKit
def RowF (g:Nat) (l:List Fld) (w:World):Prop:=∃ cs:Array Value,w.heap[g]? = some (.cells cs 72 (0,0))∧l.length * 2≤cs.size∧∀ j f,l[j]? = some f→cs[j * 2]? = some (.string f.1)∧cs[j * 2 + 1]? = some (.string f.2)
theorem RowF.cells {g:Nat} {l:List Fld} {w:World} (h:RowF g l w) {j:Nat} {f:Fld} (hj:l[j]? = some f):w.cell? ⟨g,j * 2,none⟩=some (.string f.1)∧w.cell? ⟨g,j * 2 + 1,none⟩=some (.string f.2):=by
 obtain⟨cs,h1,_,h3⟩:=h
 exact⟨yE h1 _ _ (h3 j f hj).1,yE h1 _ _ (h3 j f hj).2⟩
theorem RowF.kept {g:Nat} {l:List Fld} {w w':World} (h:RowF g l w) (b:Below w.heap.size w w'):RowF g l w':=by
 obtain⟨cs,h1,h2⟩:=h
 exact⟨cs,YtdlkjofnnefjfaaGreatDoor.kept b h1,h2⟩
theorem RowF.flds {g cap:Nat} {l:List Fld} {w:World} (h:RowF g l w) (hc:l.length≤cap) (hm:cap≤maxLen):Flds w (.slice (some ⟨g,0,none⟩) l.length cap) l:=by
 refine .inr ⟨g,0,cap,rfl,hc,hm,?_,fun j hj=>?_⟩
 ·obtain⟨cs,h1,_⟩:=h;exact yS h1
 ·have:=h.cells (j:=j) (f:=l.getD j (⟨#[]⟩,⟨#[]⟩)) (by rw[List.getD_eq_getElem?_getD,List.getElem?_eq_getElem hj];rfl)
  rw[Nat.zero_add]
  exact this
theorem RowF.take {g:Nat} {l:List Fld} {w:World} (h:RowF g l w) (k:Nat):RowF g (l.take k) w:=by
 obtain⟨cs,h1,h2,h3⟩:=h
 refine⟨cs,h1,by rw[List.length_take];omega,fun j f hj=>?_⟩
 rw[List.getElem?_take] at hj
 split at hj
 ·exact h3 j f hj
 ·cases hj
theorem RowF.there {g:Nat} {l:List Fld} {w:World} (h:RowF g l w) {i n:Nat} (hi:i + n≤l.length):w.there g (i * 2) (n * 2):=by
 obtain⟨cs,h1,h2,_⟩:=h
 exact there_row h1 (by omega)
theorem RowF.set {g:Nat} {l:List Fld} {w:World} (h:RowF g l w) (i:Nat) (f:Fld) (hi:i < l.length):RowF g (l.set i f) (w.setCells g (i * 2) [.string f.1,.string f.2]):=by
 obtain⟨cs,h1,h2,h3⟩:=h
 refine⟨_,setCells_row g 72 _ _ _ _ h1,by simpa [setAll] using h2,fun j f' hj=>?_⟩
 simp only[setAll]
 rw[List.getElem?_set] at hj
 by_cases hij:i=j
 ·subst hij
  rw[if_pos rfl,if_pos hi] at hj
  cases hj
  refine⟨?_,?_⟩
  ·rw[Array.getElem?_setIfInBounds_ne (by omega)]
   simp[Array.getElem?_setIfInBounds];omega
  ·simp[Array.getElem?_setIfInBounds];omega
 ·rw[if_neg hij] at hj
  refine⟨?_,?_⟩
  ·rw[Array.getElem?_setIfInBounds_ne (by omega),Array.getElem?_setIfInBounds_ne (by omega)];exact(h3 j f' hj).1
  ·rw[Array.getElem?_setIfInBounds_ne (by omega),Array.getElem?_setIfInBounds_ne (by omega)];exact(h3 j f' hj).2
theorem zaS:∀ (vs:List Value) (cs:Array Value) (o k:Nat),k < o→(setAll cs o vs)[k]? = cs[k]?∧(setAll cs o vs).size=cs.size
 | [],cs,o,k,_=>⟨rfl,rfl⟩
 | v::vs,cs,o,k,h=>by
  obtain⟨h1,h2⟩:=zaS vs (cs.setIfInBounds o v) (o + 1) k (by omega)
  exact⟨by show (setAll (cs.setIfInBounds o v) (o + 1) vs)[k]? = _;rw[h1,Array.getElem?_setIfInBounds_ne (by omega)],by show (setAll (cs.setIfInBounds o v) (o + 1) vs).size=_;rw[h2];simp⟩
theorem RowF.behind {g:Nat} {l:List Fld} {w:World} (h:RowF g l w) (i:Nat) (vs:List Value) (hi:l.length≤i) (h0:0 < l.length * 2∨l=[]):RowF g l (w.setCells g (i * 2) vs):=by
 obtain⟨cs,h1,h2,h3⟩:=h
 have hsz:(setAll cs (i * 2) vs).size=cs.size:=by
  rcases Nat.eq_zero_or_pos (i * 2) with h|h
  ·have:∀ (vs:List Value) (cs:Array Value) (o:Nat),(setAll cs o vs).size=cs.size:=by
    intro vs
    induction vs with
    | nil=>intro cs o;rfl
    | cons v vs ih=>intro cs o;show (setAll (cs.setIfInBounds o v) (o + 1) vs).size=_;rw[ih];simp
   exact this _ _ _
  ·exact(zaS vs cs (i * 2) 0 h).2
 refine⟨_,setCells_row g 72 _ _ _ _ h1,by rw[hsz];exact h2,fun j f hj=>?_⟩
 have hjl:j < l.length:=(List.getElem?_eq_some_iff.1 hj).1
 rw[(zaS vs cs (i * 2) (j * 2) (by omega)).1,(zaS vs cs (i * 2) (j * 2 + 1) (by omega)).1]
 exact h3 j f hj
theorem zeW:(Tryz.prog.info? 72).map (·.size)=some 2:=by kernel_rfl
theorem zbt (w:World) (ty:TypeId) (g o n c:Nat) (ht:w.there g o (n * 2)) (hn:0 < n) :
  ∃ vs,(Builtin.clear_ #[28] ty #[.slice (some ⟨g,o,none⟩) n c]).run Tryz.prog w=.ok (.tuple #[]) (w.setCells g o vs):=by
 have hz:(Value.agg #[Value.string ⟨#[]⟩,Value.string ⟨#[]⟩]).cells=#[Value.string ⟨#[]⟩,Value.string ⟨#[]⟩]:=rfl
 refine⟨(Builtin.zeroCells #[Value.string ⟨#[]⟩,Value.string ⟨#[]⟩] n).toList,?_⟩
 have hl:(Builtin.zeroCells #[Value.string ⟨#[]⟩,Value.string ⟨#[]⟩] n).toList.length=n * 2:=by simp[Builtin.zeroCells]
 have hst:=run_storeCells_cells (P:=Tryz.prog) g o (Builtin.zeroCells #[Value.string ⟨#[]⟩,Value.string ⟨#[]⟩] n).toList 0 w (fun j hj=>by simpa using (ht j (by omega)).1) (fun j hj=>by simpa using (ht j (by omega)).2)
  (fun v hv=>by
   simp[Builtin.zeroCells] at hv
   obtain⟨a,_,rfl⟩:=hv
   have:a % 2=0∨a % 2=1:=by omega
   rcases this with h|h <;> simp[h] <;> rfl)
 simp only[Nat.add_zero] at hst
 obtain⟨n,rfl⟩:∃ k,n=k + 1:=⟨n - 1,by omega⟩
 simp only[Builtin.clear_,Sem.run_bind,Tryz.zeroValue72,run_underlying Tryz.underlying28,Result.andThen_ok,List.getElem?_toArray,List.getElem?_cons_zero]
 rw[hz,hst]
 rfl
theorem zbq {p:Fld→Bool} {l:List Fld} {j:Nat} {f:Fld} (h:l[j]? = some f):(l.take (j + 1)).filter (fun f=>!p f)=(l.take j).filter (fun f=>!p f)++(if p f=true then [] else [f]):=by
 have hj:j < l.length:=(List.getElem?_eq_some_iff.1 h).1
 have:l.take (j + 1)=l.take j++[f]:=by
  rw[List.take_succ_eq_append_getElem hj]
  rw[List.getElem?_eq_getElem hj] at h
  cases h;rfl
 rw[this,List.filter_append]
 by_cases hp:p f <;> simp[hp]
theorem zb4 {α:Type} (l:List α) (k:Nat) (x:α) (h:k < l.length):(l.set k x).take (k + 1)=l.take k++[x]:=by
 rw[List.take_succ_eq_append_getElem (by simpa using h)]
 simp[List.take_set_of_le]
set_option maxHeartbeats 2000000 in
theorem zen (g cap:Nat) (l:List Fld) (gf:Nat) (lb:Array Value) (eg:∀ args w,(callFunc gf args).run Tryz.prog w=.ok (.enter gf args) w) (p:Fld→Bool) (w:World) (hR:RowF g l w) (hc:l.length≤cap) (hm:cap≤maxLen) (hf:zax l) (hp:AskF g gf lb p w) :
  Calls Tryz.prog 89 #[.slice (some ⟨g,0,none⟩) l.length cap,.func (.func gf) #[] lb] w fun e w'=>e=.returned (.slice (some ⟨g,0,none⟩) (l.filter (fun f=>!p f)).length cap)∧RowF g (l.filter (fun f=>!p f)) w'∧Below g w w':=by
 have hl1:=hf.1
 have hgw:g < w.heap.size:=by obtain⟨cs,h1,_⟩:=hR;exact yS h1
 have HI:=Lib.hid (zbj gf lb eg p _ l w (fun W hW=>hp W (hW.mono (Nat.le_of_lt hgw))) (hR.flds hc hm) hf)
 have hix:=zco p l 0 (by omega)
 obtain⟨F,hF⟩:∃ F,F=l.filter (fun f=>!p f):=⟨_,rfl⟩
 rw[← hF]
 obtain⟨r,hr⟩:∃ r,r=ixGo p l 0:=⟨_,rfl⟩
 rw[← hr] at HI hix
 clear hr
 rcases hix with ⟨rfl,hno⟩|⟨i,hil,hri,hno,x,hx,hpx⟩
 ·have hFl:F=l:=by rw[hF,List.filter_eq_self];intro a ha;simp[hno a ha]
  subst hFl
  clear hF hno
  go_enter Tryz.func89,Tryz.ntmps89
  go_wp2_with fail
  refine HI.out.mono ?_
  rintro e w1 ⟨rfl,b1⟩
  go_wp2
  go_ret
  exact⟨rfl,hR.kept b1,b1.mono (Nat.le_of_lt hgw)⟩
 ·have hri':r=(i:Int):=by omega
  subst hri'
  clear hri
  have hFi:(l.take (i + 1)).filter (fun f=>!p f)=l.take i:=by
   rw[zbq hx,if_pos hpx,List.append_nil,List.filter_eq_self]
   intro a ha;simp[hno a ha]
  have HF:=Lib.hid hF
  have HFI:=Lib.hid hFi
  clear hF hFi hno hx hpx
  have hne:((i:Int) == -1)=false:=by simp
  go_enter Tryz.func89,Tryz.ntmps89
  go_wp2_with fail
  refine HI.out.mono ?_
  rintro e w1 ⟨rfl,b1⟩
  have hR1:=hR.kept b1
  have B1:=b1.mono (Nat.le_of_lt hgw)
  go_wp2
  go_loopw [5,6,7] (fun a b _ wr=>∃ (k j:Nat) (cur:List Fld),k < j∧j≤l.length∧a=.int .i64 k∧b=.int .i64 j∧Hid (k=((l.take j).filter (fun f=>!p f)).length)∧Hid (cur.take k=(l.take j).filter (fun f=>!p f))∧Hid (cur.drop j=l.drop j)∧cur.length=l.length∧RowF g cur wr∧Below g w wr) (fun _ b _ _=>l.length - (intOf b).toNat)
  case atStart=>exact⟨i,i + 1,l,by omega,by omega,rfl,rfl,by show _=_;rw[HFI.out,List.length_take];omega,HFI.out.symm,rfl,rfl,hR1,B1⟩
  case round =>
   obtain⟨k,j,cur,hkj,hjl,rfl,rfl,HK,HT,HD,hcl,hRc,hB⟩:=hrel
   by_cases hj:j < l.length
   ·obtain⟨f,hf'⟩:∃ f,l[j]? = some f:=⟨_,List.getElem?_eq_getElem hj⟩
    have hcf:cur[j]? = some f:=by
     have h:=congrArg (·[0]?) HD.out
     simpa [List.getElem?_drop,hf'] using h
    have hz:=hf.2 f (List.mem_of_getElem? hf')
    obtain⟨e1,e2⟩:=hRc.cells hcf
    have HT1:Hid ((l.take (j + 1)).filter (fun f=>!p f)=(l.take j).filter (fun f=>!p f)++(if p f=true then [] else [f])):=zbq hf'
    have HD1:Hid (cur.drop (j + 1)=l.drop (j + 1)):=by
     show _=_
     have h:=congrArg (List.drop 1) HD.out
     rwa [List.drop_drop,List.drop_drop] at h
    have hs0:=hB.size
    have hgr:g < wr.heap.size:=by obtain⟨cs,h1,_⟩:=hRc;exact yS h1
    have B2:Below g w (wr.alloc (.cells #[.string f.1,.string f.2] 72)):=hB.alloc (Nat.le_of_lt hgr) _
    have R2:=row1 wr (.cells #[.string f.1,.string f.2] 72)
    have hRc2:=hRc.kept (bel1 wr (.cells #[.string f.1,.string f.2] 72))
    have HP:=Lib.hid (hp _ B2 f hz.1 hz.2)
    have hl2:=hf.1
    clear hf' hcf HD
    obtain⟨pb,hpb⟩:∃ pb,pb=p f:=⟨_,rfl⟩
    rw[← hpb] at HP HT1
    clear hpb
    go_wp2_with fail
    refine HP.out.mono ?_
    rintro e w3 ⟨rfl,b3⟩
    have hgs:g≤(wr.alloc (.cells #[.string f.1,.string f.2] 72)).heap.size:=by simp;omega
    have B3:=B2.trans (b3.mono hgs)
    have R3:=YtdlkjofnnefjfaaGreatDoor.kept b3 R2
    have hRc3:=hRc2.kept b3
    clear R2 hRc2 b3 B2
    cases pb with
    | true =>
     have hT:(l.take (j + 1)).filter (fun f=>!p f)=(l.take j).filter (fun f=>!p f):=by rw[HT1.out];simp
     have HTT:=Lib.hid hT
     clear hT
     go_wp2
     exact⟨⟨k,j + 1,cur,by omega,by omega,rfl,by simp,by show _=_;rw[HTT.out];exact HK.out,by show _=_;rw[HTT.out];exact HT.out,HD1,hcl,hRc3,B3⟩,by simp[intOf];omega⟩
    | false =>
     have hT:(l.take (j + 1)).filter (fun f=>!p f)=(l.take j).filter (fun f=>!p f)++[f]:=by rw[HT1.out];simp
     have HTT:=Lib.hid hT
     clear hT
     have hth:=hRc3.there (i:=k) (n:=1) (by omega)
     have hset:=hRc3.set k f (by omega)
     have HC:=Lib.hid (And.intro hset (setCells_below g g (yV _) [.string f.1,.string f.2] (k * 2) _ _ B3))
     clear hset
     have c1:=yE R3 0 (.string f.1) rfl
     have c2:=yE R3 1 (.string f.2) rfl
     go_wp2_with (first|((with_reducible (show wpList _ _ _ (Oper.mk none (.store 72 _ _) _ _ _ none::_) _ _));refine wpList_store_mid rfl 72 _ _ rfl g (k * 2) #[.string f.1,.string f.2] rfl rfl hth zeW (by simp[Value.oneCell']) ?_))
     refine⟨⟨k + 1,j + 1,cur.set k f,by omega,by omega,by simp,by simp,?_,?_,?_,by simp[hcl],HC.out.1,HC.out.2⟩,by simp[intOf];omega⟩
     ·show _=_
      rw[HTT.out,List.length_append,← HK.out];rfl
     ·show _=_
      rw[HTT.out,zb4 _ _ _ (by omega),HT.out]
     ·show _=_
      rw[List.drop_set_of_lt (by omega)];exact HD1.out
   ·obtain rfl:j=l.length:=by omega
    have hs0:=hB.size
    have hck:¬ cap=k:=by omega
    obtain⟨vs,hcl'⟩:=zbt wr 0 g (k * 2) (l.length - k) (cap - k) (by rw[← hcl];exact hRc.there (by omega)) (by omega)
    have hfin:RowF g (cur.take k) (wr.setCells g (k * 2) vs):=(hRc.take k).behind k vs (by rw[List.length_take];omega) (by
     rcases Nat.eq_zero_or_pos (cur.take k).length with h|h
     ·exact .inr (List.length_eq_zero_iff.1 h)
     ·exact .inl (by omega))
    have hFk:F=cur.take k:=by rw[HF.out,HT.out,List.take_length]
    have hkF:k=F.length:=by rw[HF.out,HK.out,List.take_length]
    rw[← hFk] at hfin
    have HFin:=Lib.hid (And.intro hfin (setCells_below g g (yV _) vs (k * 2) _ _ hB))
    have HKF:=Lib.hid hkF
    clear hfin hFk hkF
    go_wp2
    go_ret
    exact⟨ret_val (congrArg (fun n=>Value.slice (some ⟨g,0,none⟩) n cap) HKF.out),HFin.out.1,HFin.out.2⟩
end
section
open Go.RowKit
def FldsN (B:Nat) (w:World) (v:Value) (l:List Fld):Prop:=(v=.slice none 0 0∧l=[])∨∃ g cap,v=.slice (some ⟨g,0,none⟩) l.length cap∧B≤g∧l.length≤cap∧cap≤maxLen∧RowF g l w
theorem FldsN.flds {B:Nat} {w:World} {v:Value} {l:List Fld} (h:FldsN B w v l):Flds w v l:=by
 rcases h with h|⟨g,cap,rfl,_,h1,h2,h3⟩
 ·exact .inl h
 ·exact h3.flds h1 h2
def zai (l:List Fld):List Value:=l.flatMap (fun f=>[.string f.1,.string f.2])
theorem zas:∀ l,(zai l).length=l.length * 2
 | []=>rfl
 | f::l=>by
  have:=zas l
  simp[zai] at this ⊢;omega
theorem za9:∀ (l:List Fld) (j:Nat) (f:Fld),l[j]? = some f→(zai l)[j * 2]? = some (.string f.1)∧(zai l)[j * 2 + 1]? = some (.string f.2)
 | [],j,f,h=>by simp at h
 | f0::l,0,f,h=>by simp at h;subst h;exact⟨rfl,rfl⟩
 | f0::l,j + 1,f,h=>by
  have ih:=za9 l j f (by simpa using h)
  have e:zai (f0::l)=.string f0.1::.string f0.2::zai l:=rfl
  rw[e,show (j + 1) * 2=j * 2 + 1 + 1 by omega]
  simpa using ih
theorem Flds.get {w:World} {b off cap:Nat} {l:List Fld} (hc:∀ j,j < l.length→w.cell? ⟨b,off + j * 2,none⟩=some (.string (l.getD j (⟨#[]⟩,⟨#[]⟩)).1)∧w.cell? ⟨b,off + j * 2 + 1,none⟩=some (.string (l.getD j (⟨#[]⟩,⟨#[]⟩)).2)) (k:Nat) (u:Value) (hk:(zai l)[k]? = some u):w.cell? ⟨b,off + k,none⟩=some u:=by
 have hkl:k < l.length * 2:=by rw[← zas];exact(List.getElem?_eq_some_iff.1 hk).1
 obtain⟨j,hj⟩:∃ j,k=j * 2∨k=j * 2 + 1:=⟨k / 2,by omega⟩
 have hjl:j < l.length:=by omega
 have hf:l[j]? = some (l.getD j (⟨#[]⟩,⟨#[]⟩)):=by rw[List.getD_eq_getElem?_getD,List.getElem?_eq_getElem hjl];rfl
 have hg:=za9 l j _ hf
 rcases hj with rfl|rfl
 ·rw[(hc j hjl).1,← hg.1,hk]
 ·rw[← Nat.add_assoc,(hc j hjl).2,← hg.2,hk]
theorem zca {w:World} {B cap n:Nat} {v:Value} {l:List Fld} (h:w.ownsRow B 72 2 v n (zai l)) (hn:n=l.length) (hv:v≠.slice none 0 0):∃ g cap,v=.slice (some ⟨g,0,none⟩) l.length cap∧B≤g∧l.length≤cap∧cap≤maxLen∧RowF g l w:=by
 subst hn
 obtain⟨h1,h2⟩:=h
 rcases h2 with ⟨rfl,_⟩|⟨g,cap,cur,rfl,hg,hh,h3,h4,h5,h6⟩
 ·exact absurd rfl hv
 ·refine⟨g,cap,rfl,hg,h3,h4,cur,hh,by omega,fun j f hj=>?_⟩
  have hjl:j < l.length:=(List.getElem?_eq_some_iff.1 hj).1
  have hgt:=za9 l j f hj
  rw[← h6,List.getElem?_take,if_pos (by omega),List.getElem?_take,if_pos (by omega),Array.getElem?_toList,Array.getElem?_toList] at hgt
  exact hgt
theorem zbi (v:Value) (l:List Fld) (w:World) (hv:Flds w v l) (hf:zax l) :
  Calls Tryz.prog 24 #[v] w fun e w'=>∃ v',e=.returned v'∧FldsN w.heap.size w' v' l∧Below w.heap.size w w':=by
 have hl:=hf.1
 rcases hv with ⟨rfl,rfl⟩|⟨b,off,cap,rfl,_,_,hlt,hc⟩
 ·exact(Tryz.slices_Clone_fields_nil 0 0 w).mono fun e w' ⟨he,hw⟩=>⟨_,he,.inl ⟨rfl,rfl⟩,by rw[hw];exact Below.refl _ _⟩
 ·obtain⟨i0,hi,hz0,hz1,hz2⟩:∃ i0:TypeInfo,Tryz.prog.info? 72=some i0∧i0.zero=some (.agg #[.string ⟨#[]⟩,.string ⟨#[]⟩])∧i0.size=2∧i0.bytes=32:=info_parts (by kernel_rfl)
  refine(Tryz.slices_Clone_fields i0 _ 2 32 hi hz0 hz1 hz2 rfl (by omega) Tryz.sizeOf72 b off l.length cap (zai l) w (zas l) (by unfold maxLen;omega) (by omega) (Flds.get (cap:=cap) hc) ?_).mono ?_
  ·intro u hu
   unfold zai at hu
   rw[List.mem_flatMap] at hu
   obtain⟨f,_,hu⟩:=hu
   simp at hu
   rcases hu with rfl|rfl <;> rfl
  ·rintro e w' ⟨v',he,ho,hne,b1⟩
   exact⟨v',he,.inr (zca (cap:=0) ho rfl hne),b1⟩
def zaf (names:List ByteArray) (l:List Fld):List Fld:=l.filter (fun f=>!zcD names f)
set_option maxHeartbeats 1000000 in
theorem zg0 (v nv:Value) (l:List Fld) (names:List ByteArray) (w:World) (hv:Flds w v l) (hf:zax l) (hn:Strs w nv names) (hnl:names.length≤1000000) (hnz:∀ x∈names,x.size≤1000000) :
  Calls Tryz.prog 45 #[v,nv] w fun e w'=>∃ v',e=.returned v'∧FldsN w.heap.size w' v' (zaf names l)∧Below w.heap.size w w':=by
 have hmf:∀ (fn:Fn) (first cap:Array Value) (w:World),(Instr.makeFunc fn first cap).run Tryz.prog w=.ok (.func fn first cap) w:=fun _ _ _ _=>rfl
 have R1:=row1 w (.cells #[nv] 25)
 have B1:=bel1 w (.cells #[nv] 25)
 have HC:=Lib.hid (zbi v l _ (hv.below B1) hf)
 have hs1:(w.alloc (.cells #[nv] 25)).heap.size=w.heap.size + 1:=by simp
 have hask:∀ (B:Nat) (W0:World),w.heap.size + 1≤B→Below w.heap.size w W0→W0.heap[w.heap.size]? = some (.cells #[nv] 25 (0,0))→AskF B 86 #[.pointer (some ⟨w.heap.size,0,none⟩)] (zcD names) W0:=fun B W0 hB0 hb hr W hW f h1 h2=>by
  have hr':W.heap[w.heap.size]? = some (.cells #[nv] 25 (0,0)):=(hW.block _ (by omega)).trans hr
  exact zeU w.heap.size nv names W (yE hr' 0 _ rfl) (yS hr') (hn.below (hb.trans (hW.mono (by omega)))) hnl hnz f h1
 obtain⟨q,m,c,rfl⟩:=hv.slice
 obtain⟨q',m',c',rfl⟩:=hn.slice
 go_enter Tryz.func45,Tryz.ntmps45
 go_wp2_with fail
 refine HC.out.mono ?_
 rintro e w2 ⟨v2,rfl,hN,b2⟩
 have B2:=yD B1 b2
 have R2:=kept b2 R1
 rw[hs1] at hN
 rcases hN with ⟨rfl,rfl⟩|⟨g,cap,rfl,hg,hc1,hm1,hrow⟩
 ·have HI:=Lib.hid (zbj 86 #[.pointer (some ⟨w.heap.size,0,none⟩)] (enters_of Tryz.func86 (by kernel_rfl) rfl) (zcD names) (.slice none 0 0) [] w2 (hask _ w2 (by have:=yS R2;omega) B2 R2) (.inl ⟨rfl,rfl⟩) hf)
  go_wp2_with (first|(go_at_call 89;go_in)|(go_at_call 107;refine HI.out.mono ?_;rintro e w3 ⟨rfl,b3⟩))
  go_ret
  exact⟨_,rfl,.inl ⟨rfl,rfl⟩,yD B2 b3⟩
 ·have HD:=Lib.hid (zen g cap l 86 #[.pointer (some ⟨w.heap.size,0,none⟩)] (enters_of Tryz.func86 (by kernel_rfl) rfl) (zcD names) w2 hrow hc1 hm1 hf (hask g w2 hg B2 R2))
  go_wp2_with fail
  refine HD.out.mono ?_
  rintro e w3 ⟨rfl,hr3,b3⟩
  have hle:(l.filter (fun f=>!zcD names f)).length≤cap:=yW (List.length_filter_le _ _) hc1
  have HF:=Lib.hid (And.intro hr3 hle)
  clear hr3 hle
  go_wp2
  go_ret
  exact⟨_,rfl,.inr ⟨g,cap,rfl,by omega,HF.out.2,hm1,HF.out.1⟩,B2.trans (b3.mono (by omega))⟩
end
section
open Go.RowKit
theorem zcQ:∀ (vs:List Value) (cs:Array Value) (o k:Nat),o + vs.length≤cs.size→k < vs.length→(setAll cs o vs)[o + k]? = vs[k]?
 | [],cs,o,k,_,hk=>by simp at hk
 | v::vs,cs,o,0,h,_=>by
  show (setAll (cs.setIfInBounds o v) (o + 1) vs)[o]? = some v
  rw[(zaS vs _ (o + 1) o (by omega)).1]
  simp[Array.getElem?_setIfInBounds];simp at h;omega
 | v::vs,cs,o,k + 1,h,hk=>by
  show (setAll (cs.setIfInBounds o v) (o + 1) vs)[o + (k + 1)]? = vs[k]?
  rw[show o + (k + 1)=o + 1 + k by omega]
  exact zcQ vs _ (o + 1) k (by simp at h ⊢;omega) (by simpa using hk)
theorem zbQ:∀ (vs:List Value) (cs:Array Value) (o:Nat),(setAll cs o vs).size=cs.size
 | [],cs,o=>rfl
 | v::vs,cs,o=>by show (setAll (cs.setIfInBounds o v) (o + 1) vs).size=_;rw[zbQ];simp
theorem RowF.fill {g:Nat} {l:List Fld} {w:World} {cs:Array Value} (h:w.heap[g]? = some (.cells cs 72 (0,0))) (hs:l.length * 2≤cs.size):RowF g l (w.setCells g 0 (zai l)):=by
 refine⟨_,setCells_row g 72 _ _ _ _ h,by rw[zbQ];exact hs,fun j f hj=>?_⟩
 have hjl:j < l.length:=(List.getElem?_eq_some_iff.1 hj).1
 have hg:=za9 l j f hj
 have h1:=zcQ (zai l) cs 0 (j * 2) (by rw[zas];omega) (by rw[zas];omega)
 have h2:=zcQ (zai l) cs 0 (j * 2 + 1) (by rw[zas];omega) (by rw[zas];omega)
 rw[Nat.zero_add] at h1 h2
 exact⟨h1.trans hg.1,h2.trans hg.2⟩
theorem zes (l:List Fld):∀ v∈zai l,v.oneCell'=true:=by
 intro u hu
 unfold zai at hu
 rw[List.mem_flatMap] at hu
 obtain⟨f,_,hu⟩:=hu
 simp at hu
 rcases hu with rfl|rfl <;> rfl
theorem zcP (w:World) (ty:TypeId) (g dCap:Nat) (v:Value) (l:List Fld) (hv:Flds w v l) (ht:w.there g 0 (l.length * 2)) :
  (Builtin.copy_ #[28,28] ty #[.slice (some ⟨g,0,none⟩) l.length dCap,v]).run Tryz.prog w=.ok (goInt l.length) (w.setCells g 0 (zai l)):=by
 have hst:=run_storeCells_cells (P:=Tryz.prog) g 0 (zai l) 0 w (fun j hj=>by simpa using (ht j (by rw[zas] at hj;exact hj)).1) (fun j hj=>by simpa using (ht j (by rw[zas] at hj;exact hj)).2) (zes l)
 simp only[Nat.add_zero] at hst
 rcases hv with ⟨rfl,rfl⟩|⟨b,off,cap,rfl,_,_,_,hc⟩
 ·simp[Builtin.copy_,run_underlying Tryz.underlying28,Builtin.lenOf,Builtin.firstCells,Tryz.sizeOf72,zai,storeCells,World.setCells]
 ·have hl:=run_loadCells_list (P:=Tryz.prog) w ⟨b,off,none⟩ (zai l) (fun j v hv=>by rw[Addr.add_mid];exact Flds.get (cap:=cap) hc j v hv)
  rw[zas] at hl
  simp[Builtin.copy_,run_underlying Tryz.underlying28,Builtin.lenOf,Builtin.firstCells,Tryz.sizeOf72,hl,hst]
theorem RowF.setCell {g h j:Nat} {l:List Fld} {w:World} {u:Value} (hr:RowF g l w) (hne:g≠h):RowF g l (w.setCell ⟨h,j,none⟩ u):=by
 obtain⟨cs,h1,h2⟩:=hr
 exact⟨cs,(yG _ _ _ _ hne).trans h1,h2⟩
theorem RowF.setRow {g h:Nat} {l:List Fld} {w:World} {u:Array Value} (hr:RowF g l w) (hne:h≠g):RowF g l (w.setRow h u):=by
 obtain⟨cs,h1,h2⟩:=hr
 exact⟨cs,(yI _ _ _ _ hne).trans h1,h2⟩
theorem FldsN.setCell {B h j:Nat} {l:List Fld} {w:World} {v u:Value} (hr:FldsN B w v l) (hne:h < B):FldsN B (w.setCell ⟨h,j,none⟩ u) v l:=by
 rcases hr with hr|⟨g,cap,hv,hg,h1,h2,h3⟩
 ·exact .inl hr
 ·exact .inr ⟨g,cap,hv,hg,h1,h2,h3.setCell (by omega)⟩
theorem FldsN.setRow {B h:Nat} {l:List Fld} {w:World} {v:Value} {u:Array Value} (hr:FldsN B w v l) (hne:h < B):FldsN B (w.setRow h u) v l:=by
 rcases hr with hr|⟨g,cap,hv,hg,h1,h2,h3⟩
 ·exact .inl hr
 ·exact .inr ⟨g,cap,hv,hg,h1,h2,h3.setRow (by omega)⟩
theorem FldsN.kept {B:Nat} {l:List Fld} {w w':World} {v:Value} (hr:FldsN B w v l) (b:Below w.heap.size w w'):FldsN B w' v l:=by
 rcases hr with hr|⟨g,cap,hv,hg,h1,h2,h3⟩
 ·exact .inl hr
 ·exact .inr ⟨g,cap,hv,hg,h1,h2,h3.kept b⟩
theorem FldsN.base {B B':Nat} {l:List Fld} {w:World} {v:Value} (hr:FldsN B w v l) (h:B'≤B):FldsN B' w v l:=by
 rcases hr with hr|⟨g,cap,hv,hg,r⟩
 ·exact .inl hr
 ·exact .inr ⟨g,cap,hv,by omega,r⟩
theorem zaO (v:Value) (l:List ByteArray) (w:World) (hv:Strs w v l) (hl:l.length≤10000000) :
  Calls Tryz.prog 82 #[v] w fun e w'=>∃ v',e=.returned v'∧w'.ownsRow w.heap.size 9 1 v' l.length (l.map Value.string)∧Below w.heap.size w w':=by
 rcases hv with ⟨rfl,rfl⟩|⟨b,off,cap,rfl,_,_,hlt,hc⟩
 ·exact(Tryz.slices_Clone_string_nil 0 0 w).mono fun e w' ⟨he,hw⟩=>⟨_,he,World.ownsRow_nil _ _ _ _,by rw[hw];exact Below.refl _ _⟩
 ·refine(Tryz.slices_Clone_string b off l.length cap l w (yV _) (by omega) hc).mono fun e w' ⟨v',he,ho,_,b1⟩=>⟨v',he,by rw[List.take_length] at ho;exact ho,b1⟩
def req0:Req:=⟨url0,⟨#[]⟩,[],false,zfv,0,0,0,⟨#[]⟩,false,false,0⟩
set_option maxHeartbeats 2000000 in
theorem zcH (r:Req) (pu hv nv:Value) (names:List ByteArray) (w:World) (hp:Strs w pu r.url.path) (hpl:r.url.path.length≤10000000) (hh:Flds w hv r.heads) (hf:zax r.heads) (hn:Strs w nv names) (hnl:names.length≤1000000) (hnz:∀ x∈names,x.size≤1000000) :
  Calls Tryz.prog 184 #[.agg (reqC r pu hv),nv] w fun e w'=>∃ pu' hv',e=.returned (.agg (reqC { r with heads:=zaf names r.heads } pu' hv'))∧w'.ownsRow w.heap.size 9 1 pu' r.url.path.length (r.url.path.map Value.string)∧FldsN w.heap.size w' hv' (zaf names r.heads)∧Below w.heap.size w w':=by
 have hl:=hf.1
 obtain⟨i0,hi,hz0,hz1,hz2⟩:∃ i0:TypeInfo,Tryz.prog.info? 72=some i0∧i0.zero=some (.agg #[.string ⟨#[]⟩,.string ⟨#[]⟩])∧i0.size=2∧i0.bytes=32:=info_parts (by kernel_rfl)
 have hmk:=fun W:World=>run_make (P:=Tryz.prog) W 28 72 i0 _ Tryz.underlying28 hi hz0 .i64 .i64 r.heads.length r.heads.length (by omega) (by omega) (by rw[hz2];omega) (by omega)
 rw[hz1] at hmk
 simp only[Int.toNat_natCast] at hmk
 obtain⟨q,m,c,rfl⟩:=hp.slice
 obtain⟨q',m',c',rfl⟩:=hn.slice
 obtain⟨qh,mh,ch,rfl⟩:=hh.slice
 have hmh:mh=r.heads.length:=by
  rcases hh with ⟨h1,h2⟩|⟨b,off,cap,h1,_⟩
  ·cases h1;rw[h2];rfl
  ·cases h1;rfl
 subst hmh
 clear hi hz0 hz1 hz2 i0
 obtain⟨o1,ho1⟩:∃ o,o=Obj.cells (reqC r (.slice q m c) (.slice qh r.heads.length ch)) 32 (0,0):=⟨_,rfl⟩
 obtain⟨o2,ho2⟩:∃ o,o=Obj.cells (reqC req0 (.slice none 0 0) (.slice none 0 0)) 32 (0,0):=⟨_,rfl⟩
 obtain⟨o3,ho3⟩:∃ o,o=Obj.cells (madeCells #[.string ⟨#[]⟩,.string ⟨#[]⟩] (r.heads.length * 2)) 72 (0,0):=⟨_,rfl⟩
 have RA:=row3a w o1 o2 o3
 have RR:=row3b w o1 o2 o3
 have RM:(((w.alloc o1).alloc o2).alloc o3).heap[w.heap.size + 1 + 1]? = some o3:=row3c w o1 o2 o3
 have B3:=bel3 w o1 o2 o3
 have hz3:(((w.alloc o1).alloc o2).alloc o3).heap.size=w.heap.size + 3:=by simp
 obtain⟨W3,hW3⟩:∃ W3,((w.alloc o1).alloc o2).alloc o3=W3:=⟨_,rfl⟩
 rw[hW3] at RA RR RM B3 hz3
 rw[ho1] at RA
 rw[ho2] at RR
 rw[ho3] at RM
 have hth:W3.there (w.heap.size + 1 + 1) 0 (r.heads.length * 2):=there_row RM (by rw[size_madeCells];omega)
 have hcp:=zcP W3 3 (w.heap.size + 1 + 1) r.heads.length _ r.heads (hh.below B3) hth
 have hfill:=RowF.fill (l:=r.heads) RM (by rw[size_madeCells];exact yV _)
 have b4:Below (w.heap.size + 1 + 1) W3 (W3.setCells (w.heap.size + 1 + 1) 0 (zai r.heads)):=setCells_below _ _ (yV _) _ _ _ _ (Below.refl _ _)
 obtain⟨W4,hW4⟩:∃ W4,W3.setCells (w.heap.size + 1 + 1) 0 (zai r.heads)=W4:=⟨_,rfl⟩
 rw[hW4] at hcp hfill b4
 have RA4:W4.heap[w.heap.size]? = _:=(b4.block _ (by omega)).trans RA
 have RR4:W4.heap[w.heap.size + 1]? = _:=(b4.block _ (by omega)).trans RR
 have B4:Below w.heap.size w W4:=B3.trans (b4.mono (by omega))
 have hz4:=b4.size
 have HD:=Lib.hid (zg0 _ _ r.heads names W4 (hfill.flds (cap:=r.heads.length) (yV _) (by unfold maxLen;omega)) hf (hn.below B4) hnl hnz)
 have HCL:=fun w' s=>Lib.hid (zaO (.slice q m c) r.url.path w' s hpl)
 obtain⟨D,hD⟩:∃ D,D=zaf names r.heads:=⟨_,rfl⟩
 rw[← hD] at HD ⊢
 have HW:=Lib.hid hW3
 have HW1:=Lib.hid (And.intro ho1 (And.intro ho2 ho3))
 clear hD hW4 hfill hth RM hW3 ho1 ho2 ho3
 go_enter Tryz.func184,Tryz.ntmps184
 go_upto_region 2 with fail
 have HE:=HW.out
 rw[HW1.out.1,HW1.out.2.1,HW1.out.2.2] at HE
 change Code.wp Tryz.prog _ _ _ (((w.alloc (.cells (reqC r (.slice q m c) (.slice qh r.heads.length ch)) 32)).alloc (.cells (reqC req0 (.slice none 0 0) (.slice none 0 0)) 32)).alloc (.cells (madeCells #[.string ⟨#[]⟩,.string ⟨#[]⟩] (r.heads.length * 2)) 72))
 rw[HE]
 clear HE
 have c22:=yE RA 22 (.slice qh r.heads.length ch) rfl
 go_wp2_with fail
 refine HD.out.mono ?_
 rintro e W5 ⟨v5,rfl,hN,b5⟩
 have RA5:=kept b5 RA4
 have RR5:=kept b5 RR4
 have B5:=yD B4 b5
 obtain⟨qd,md,cd,rfl⟩:=hN.flds.slice
 have c22':=yE RA5 22 (.slice qh r.heads.length ch) rfl
 have f22:=yF RA5 22
 have RA6:(W5.setCell ⟨w.heap.size,22,none⟩ (.slice qd md cd)).heap[w.heap.size]? = some (.cells (reqC { r with heads:=D } (.slice q m c) (.slice qd md cd)) 32 (0,0)):=by
  rw[heap_setCell_same _ _ _ _ _ _ RA5];simp[reqC]
 have RR6:(W5.setCell ⟨w.heap.size,22,none⟩ (.slice qd md cd)).heap[w.heap.size + 1]? = _:=(yG _ _ _ _ (by simp)).trans RR5
 have B6:Below w.heap.size w (W5.setCell ⟨w.heap.size,22,none⟩ (.slice qd md cd)):=B5.setCell (p:=⟨w.heap.size,22,none⟩) (yV _) _
 have hN6:=hN.setCell (h:=w.heap.size) (j:=22) (u:=.slice qd md cd) (by omega)
 clear hN RA RR RA4 RR4 b5 b4
 obtain⟨W6,hW6⟩:∃ W6,W5.setCell ⟨w.heap.size,22,none⟩ (.slice qd md cd)=W6:=⟨_,rfl⟩
 go_upto_region 4 with fail
 rw[hW6] at RA6 RR6 B6 hN6
 clear hW6
 have c15:=yE RA6 15 (.slice q m c) rfl
 go_wp2_with fail
 refine(HCL _ (hp.below B6)).out.mono ?_
 rintro e W7 ⟨v7,rfl,hO,b7⟩
 have RA7:=kept b7 RA6
 have RR7:=kept b7 RR6
 have B7:=yD B6 b7
 have hN7:=hN6.kept b7
 have hz6:=yS RR6
 obtain⟨qp,mp,cp,rfl⟩:=(Strs.of_own hO).slice
 have c15':=yE RA7 15 (.slice q m c) rfl
 have f15:=yF RA7 15
 have RA8:(W7.setCell ⟨w.heap.size,15,none⟩ (.slice qp mp cp)).heap[w.heap.size]? = some (.cells (reqC { r with heads:=D } (.slice qp mp cp) (.slice qd md cd)) 32 (0,0)):=by
  rw[heap_setCell_same _ _ _ _ _ _ RA7];simp[reqC]
 have RR8:(W7.setCell ⟨w.heap.size,15,none⟩ (.slice qp mp cp)).heap[w.heap.size + 1]? = _:=(yG _ _ _ _ (by simp)).trans RR7
 have B8:Below w.heap.size w (W7.setCell ⟨w.heap.size,15,none⟩ (.slice qp mp cp)):=B7.setCell (p:=⟨w.heap.size,15,none⟩) (yV _) _
 have hN8:=hN7.setCell (h:=w.heap.size) (j:=15) (u:=.slice qp mp cp) (by omega)
 have hO8:=yU hO (a:=⟨w.heap.size,15,none⟩) (by simp;omega) (.slice qp mp cp)
 have hN9:=hN8.setRow (h:=w.heap.size + 1) (u:=reqC { r with heads:=D } (.slice qp mp cp) (.slice qd md cd)) (by omega)
 have hO9:=own_setRow (g:=w.heap.size + 1) (cs:=reqC { r with heads:=D } (.slice qp mp cp) (.slice qd md cd)) hO8 (by omega)
 have HF:=Lib.hid (And.intro (own_base hO9 (B':=w.heap.size) (by omega)) (hN9.base (B':=w.heap.size) (by omega)))
 clear hN6 hN7 hN8 hN9 hO hO8 hO9 RA6 RA7 RR6 RR7 B6 B7
 go_wp2_with (first
  | ((with_reducible (show wpList _ _ _ (Oper.mk _ (.load 32 _) _ _ _ none::_) _ _));refine yK rfl 32 _ rfl w.heap.size rfl 32 _ (0,0) _ RA8 yA rfl zab ?_)
  | ((with_reducible (show wpList _ _ _ (Oper.mk none (.store 32 _ _) _ _ _ none::_) _ _));refine yJ rfl 32 _ _ rfl (w.heap.size + 1) _ rfl rfl 32 _ RR8 zab rfl (by simp[Value.oneCell']) ?_))
 refine yO (yT rfl _ _ _ _ _ (0,0) _ rfl (yH _ _ _ _ _ _ RR8) yA rfl zab) rfl ?_
 exact⟨_,_,rfl,HF.out.1,HF.out.2,yM B8 (by omega)⟩
end
end Go.Proofs.YtdlkjofnnefjfaaGreatDoor
