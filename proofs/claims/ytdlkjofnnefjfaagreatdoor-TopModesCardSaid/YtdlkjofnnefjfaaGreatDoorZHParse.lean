/- The walk of head.Parse: a range over lines. -/
import Derived.Test.YtdlkjofnnefjfaaGreatDoorZShort
import Derived.Test.YtdlkjofnnefjfaaGreatDoorZValue
set_option linter.all false
namespace Go.Proofs.YtdlkjofnnefjfaaGreatDoor
set_option maxRecDepth 100000
open Go.RowKit Go.Shelf
attribute [local go_sem] Oper.semAt_some
def hpN (x:ByteArray×Bool):ByteArray:=bs (Lib.cut x.1.data.toList [58]).1
def hpV (x:ByteArray×Bool):ByteArray:=bs (Lib.cut x.1.data.toList [58]).2.1
def hpH (x:ByteArray×Bool):Bool:=(Lib.cut x.1.data.toList [58]).2.2
def hpT (x:ByteArray×Bool):ByteArray:=bs (Lib.trimS (hpV x).data.toList [32,9])
def hpOk (x:ByteArray×Bool):Bool:=x.2 && (hpH x && (nameB (hpN x) && zcg (hpT x)))
def hpL (l:List (ByteArray×Bool)):List Fld:=l.map fun x=>(hpN x,hpT x)
def zaN (s:ByteArray):Bool:=(zaK s).all hpOk
def zaw (s:ByteArray):List Fld:=if zaN s=true then hpL (zaK s) else []
theorem zg9 (pre:List (ByteArray×Bool)) (x:ByteArray×Bool):hpL (pre++[x])=hpL pre++[(hpN x,hpT x)]:=by simp[hpL]
theorem zce (l:List Fld) (f:Fld):zai (l++[f])=zai l++[.string f.1,.string f.2]:=by simp[zai]
theorem zcS (l cs:List UInt8):(Lib.trimS l cs).length≤l.length:=by
 unfold Lib.trimS Lib.trimLeftS Lib.trimRightS
 have h1:=(List.dropWhile_sublist (cs.contains ·) (l:=(List.dropWhile (cs.contains ·) l.reverse).reverse)).length_le
 have h2:=(List.dropWhile_sublist (cs.contains ·) (l:=l.reverse)).length_le
 simp only[List.length_reverse] at h1 h2
 omega
theorem zc7:∀ (k:Nat) (s:ByteArray),(zbX k s).length≤k∧∀ x∈zbX k s,x.1.size≤s.size
 | 0,s=>⟨yV _,fun x h=>by cases h⟩
 | k + 1,s=>by
  unfold zbX
  split
  ·exact⟨Nat.zero_le _,fun x h=>by cases h⟩
  ·rename_i h0
   have ih:=zc7 k (lnR s)
   have hlt:=ze1 s h0
   have hc:=(cut_le s.data.toList [13,10]).1
   refine⟨by rw[List.length_cons];omega,fun x hx=>?_⟩
   rcases List.mem_cons.1 hx with rfl|hx
   ·show (Lib.cut s.data.toList [13,10]).1.length≤s.size
    have h2:s.data.toList.length=s.size:=(size_len _).symm
    omega
   ·have:=ih.2 x hx;omega
theorem zc6 (s:ByteArray):(zaK s).length≤s.size∧∀ x∈zaK s,x.1.size≤s.size:=zc7 s.size s
theorem zdb {P:Program} {fn:Func} {p u:Tmp} {t1 t2:TypeId} (h:fn.results=#[.cell p t1,.cell u t2]) (tmps:Array Value) (w:World) (g k:Nat) (v1 v2:Value)
  (hp:tmps.getD p undef=.pointer (some ⟨g,0,none⟩)) (hg:(loadVar t1 ⟨g,0,none⟩).run P w=.ok v1 w) (hv:tmps.getD u undef=.pointer (some ⟨k,0,none⟩)) (hk:(loadVar t2 ⟨k,0,none⟩).run P w=.ok v2 w) :
  (results fn tmps).run P w=.ok (.tuple #[v1,v2]) w:=by
 have hp':tmps[p]?.getD undef=.pointer (some ⟨g,0,none⟩):=by simpa using hp
 have hv':tmps[u]?.getD undef=.pointer (some ⟨k,0,none⟩):=by simpa using hv
 simp[results,h,hp',hv',asAddr,hg,hk]
theorem zcB {w:World} {k m c:Nat} {q:Option Addr} (h:w.heap[k]? = some (.cells #[.slice q m c] 28 (0,0))):(loadVar 28 ⟨k,0,none⟩).run Tryz.prog w=.ok (.slice q m c) w:=by
 have c:=yE h 0 _ rfl
 simp[loadVar,go_sem,c,run_underlying Tryz.underlying28]
set_option maxHeartbeats 2000000 in
theorem zbW (s:ByteArray) (w:World) (hG:Glob w) (hs:s.size≤1000000) :
  Calls Tryz.prog 9 #[.string s] w fun e w'=>∃ v,e=.returned (.tuple #[v,.bool (zaN s)])∧w'.ownsRow w.heap.size 72 2 v (zaw s).length (zai (zaw s))∧Below w.heap.size w w':=by
 obtain⟨i0,hi,hz0,hz1,hz2⟩:∃ i0:TypeInfo,Tryz.prog.info? 72=some i0∧i0.zero=some (.agg #[.string ⟨#[]⟩,.string ⟨#[]⟩])∧i0.size=2∧i0.bytes=32:=info_parts (by kernel_rfl)
 refine callsIn_wide.1 (callsIn_of_wp_marks (n:=9) Tryz.func9 rfl trivial ?_ rfl)
 simp only[Tryz.ntmps9,List.size_toArray,List.length_cons,List.length_nil,Nat.reduceAdd,Nat.reduceSub,Array.replicate_succ,Array.replicate_zero,List.push_toArray,List.append_toArray,List.nil_append,List.cons_append]
 refine wpIn_wide.2 ?_
 go_wp2_with (go_at_call 26;refine(zgi s _).mono ?_;rintro e w' ⟨rfl,rfl⟩)
 obtain⟨W0,hW0⟩:∃ W0,(((w.alloc (.cells #[.slice none 0 0] 28)).alloc (.cells #[.bool false] 4)).alloc (.cells #[.slice none 0 0] 28)).alloc (.cells #[.string s] 9)=W0:=⟨_,rfl⟩
 have hb0:Below w.heap.size w W0:=by rw[← hW0];exact((((Below.refl _ w).alloc (yV _) _).alloc (by simp) _).alloc (by simp;omega) _).alloc (by simp;omega) _
 have hz9:W0.heap.size=w.heap.size + 4:=by rw[← hW0];simp
 have x0:Boxed W0 w.heap.size 28 (.slice none 0 0):=by
  rw[← hW0];exact(((Boxed.new w 28 _).alloc _).alloc _).alloc _
 have x1:Boxed W0 (w.heap.size + 1) 4 (.bool false):=by
  have h:=Boxed.new (w.alloc (.cells #[.slice none 0 0] 28)) 4 (.bool false)
  rw[World.size_alloc] at h
  rw[← hW0];exact(h.alloc _).alloc _
 have x2:Boxed W0 (w.heap.size + 2) 28 (.slice none 0 0):=by
  have h:=Boxed.new ((w.alloc (.cells #[.slice none 0 0] 28)).alloc (.cells #[.bool false] 4)) 28 (.slice none 0 0)
  rw[World.size_alloc,World.size_alloc] at h
  rw[← hW0];exact h.alloc _
 have x3:Boxed W0 (w.heap.size + 3) 9 (.string s):=by
  have h:=Boxed.new (((w.alloc (.cells #[.slice none 0 0] 28)).alloc (.cells #[.bool false] 4)).alloc (.cells #[.slice none 0 0] 28)) 9 (.string s)
  rw[World.size_alloc,World.size_alloc,World.size_alloc] at h
  rw[← hW0];exact h
 have ow0:W0.ownsRow w.heap.size 72 2 (.slice none 0 0) 0 []:=World.ownsRow_nil _ _ _ _
 have hl6:=hG.lt
 have hG0:=hG.below hb0
 have hfit:=zc6 s
 rw[hW0]
 clear hW0
 refine(wpIn_wide (n:=9)).1 ?_
 refine range_overW (n:=9) (gf:=55) (lb:=#[.pointer (some ⟨w.heap.size + 3,0,none⟩)]) rfl (enters_of Tryz.func55 (by kernel_rfl) rfl)
  (zfq 8 (by omega) (w.heap.size + 3) (by omega) s hs W0 hG0 x3) KeepAt.trans (fun W l o hl=>KeepAt.putObj (n:=W0.heap.size) (fun k hk=>by omega) W l o hl) (Below.refl _ _) (fun _=>rfl)
  (fun (pre:List (ByteArray×Bool)) W=>(∃ v,Boxed W (w.heap.size + 2) 28 v∧W.ownsRow w.heap.size 72 2 v (hpL pre).length (zai (hpL pre))∧True)∧(((W.heap[w.heap.size]? = some (.cells #[.slice none 0 0] 28 (0,0))∧W.heap[w.heap.size + 1]? = some (.cells #[.bool false] 4 (0,0)))∧Below w.heap.size w W)∧((∃ u,Boxed W (w.heap.size + 3) 9 u)∧pre.all hpOk=true)))
  (fun c pre W=>((W.heap[w.heap.size]? = some (.cells #[.slice none 0 0] 28 (0,0))∧W.heap[w.heap.size + 1]? = some (.cells #[.bool false] 4 (0,0)))∧Below w.heap.size w W)∧(c=.ret∧pre.all hpOk=false))
  (OwnFrom.and (Own.from (holdsRow_own w.heap.size (w.heap.size + 2) 28 72 2 (fun (pre:List (ByteArray×Bool))=>(hpL pre).length) (fun pre=>zai (hpL pre)) (fun _ _=>True)) _)
   (OwnFrom.and (OwnFrom.and (OwnFrom.and (own_block (fun _=>w.heap.size) (fun _=>.cells #[.slice none 0 0] 28 (0,0)) (fun _=>rfl)) (own_block (fun _=>w.heap.size + 1) (fun _=>.cells #[.bool false] 4 (0,0)) (fun _=>rfl)))
    (ownFrom_below (yV _) (by omega))) (OwnFrom.and (fun s' A B row hs hg hr=>by
     obtain⟨u,hu⟩:=hs
     exact⟨u,own_block (fun (_:List (ByteArray×Bool))=>w.heap.size + 3) (fun _=>.cells #[u] 9 (0,0)) (fun _=>rfl) s' A B row hu hg hr⟩) (fun _ _ _ _ h _ _=>h))))
  (fun c=>OwnFrom.and (OwnFrom.and (OwnFrom.and (own_block (fun _=>w.heap.size) (fun _=>.cells #[.slice none 0 0] 28 (0,0)) (fun _=>rfl)) (own_block (fun _=>w.heap.size + 1) (fun _=>.cells #[.bool false] 4 (0,0)) (fun _=>rfl)))
    (ownFrom_below (yV _) (by omega))) (fun _ _ _ _ h _ _=>h))
  (by
   rintro pre A B ⟨⟨v,hb,ho,_⟩,⟨⟨h0,h1⟩,hB⟩,⟨u,hu⟩,hok⟩ ⟨v',rfl⟩
   exact⟨⟨v,Boxed.other hb (by omega) v',ho.kept (grownBy_setCell' A (w.heap.size + 3) v') (.inr (fun e=>(hu.not_row (by decide) ho) e.symm)),trivial⟩,⟨⟨(yG _ _ _ _ (by simp)).trans h0,(yG _ _ _ _ (by simp)).trans h1⟩,hB.setCell (p:=⟨w.heap.size + 3,0,none⟩) (by simp) _⟩,⟨v',hu.set v'⟩,hok⟩)
  (by
   rintro c pre A B ⟨⟨⟨h0,h1⟩,hB⟩,hc⟩ ⟨v',rfl⟩
   exact⟨⟨⟨(yG _ _ _ _ (by simp)).trans h0,(yG _ _ _ _ (by simp)).trans h1⟩,hB.setCell (p:=⟨w.heap.size + 3,0,none⟩) (by simp) _⟩,hc⟩)
  (by
   rintro A B ⟨v',rfl⟩ k hk
   exact yG _ _ _ _ (by show k≠w.heap.size + 3;omega))
  (fun _ _ _ _ _ h _ _=>h)
  ⟨⟨_,x2,ow0,trivial⟩,⟨⟨x0,x1⟩,hb0⟩,⟨_,x3⟩,rfl⟩
  ?a1 ?assign ?body ?done ?stop
 case assign =>
  intro l x W K hK
  gi_wp2
  exact hK
 case body =>
  rintro l pre x W ⟨⟨vo,hb,ho,_⟩,⟨⟨hr0,hr1⟩,hB⟩,⟨u3,hb3⟩,hall⟩ ⟨post,hx⟩
  have hmem:x∈zaK s:=by rw[hx];simp
  have hxs:x.1.size≤1000000:=yW (hfit.2 x hmem) hs
  have hpl:pre.length≤1000000:=by
   have h1:=hfit.1
   rw[hx,List.length_append] at h1
   omega
  have hc1:=(cut_le x.1.data.toList [58])
  have hnm:(hpN x).size≤1000000:=by
   have h1:(hpN x).size=(Lib.cut x.1.data.toList [58]).1.length:=rfl
   have h2:x.1.data.toList.length=x.1.size:=(size_len _).symm
   omega
  have hvl:(hpV x).size≤1000000:=by
   have h1:(hpV x).size=(Lib.cut x.1.data.toList [58]).2.1.length:=rfl
   have h2:x.1.data.toList.length=x.1.size:=(size_len _).symm
   omega
  have htl:(hpT x).size≤1000000:=by
   have h1:=zcS (hpV x).data.toList [32,9]
   have h2:(hpT x).size=(Lib.trimS (hpV x).data.toList [32,9]).length:=rfl
   have h3:(hpV x).data.toList.length=(hpV x).size:=(size_len _).symm
   omega
  have G:Glob W:=hG.below hB
  have HC:∀ W',Below W.heap.size W W'→Hid (Calls Tryz.prog 27 #[.string x.1,.string ⟨#[58]⟩] W' fun e w''=>e=.returned (.tuple #[.string (hpN x),.string (hpV x),.bool (hpH x)])∧Below W'.heap.size W' w''):=fun W' hh=>cut_any x.1 ⟨#[58]⟩ W' (G.below hh) (by omega)
  have HT:∀ W',Hid (Calls Tryz.prog 28 #[.string (hpV x),.string ⟨#[32,9]⟩] W' fun e w''=>e=.returned (.string (hpT x))∧Below W'.heap.size W' w''):=fun W'=>trimBlank_any (hpV x) W' (by omega)
  have HN:∀ W',Hid (Calls Tryz.prog 29 #[.string (hpN x)] W' fun e w''=>e=.returned (.bool (nameB (hpN x)))∧Below W'.heap.size W' w''):=fun W'=>name_any (hpN x) W' hnm
  have HV:∀ W',Hid (Calls Tryz.prog 30 #[.string (hpT x)] W' fun e w''=>e=.returned (.bool (zcg (hpT x)))∧Below W'.heap.size W' w''):=fun W'=>zed (hpT x) W' htl
  have HOK:Hid ((pre++[x]).all hpOk=(x.2 && (hpH x && (nameB (hpN x) && zcg (hpT x))))):=by
   show _=_
   rw[List.all_append,hall];simp[hpOk]
  have HL:Hid (hpL (pre++[x])=hpL pre++[(hpN x,hpT x)]):=zg9 pre x
  have hlen:(hpL pre).length=pre.length:=by simp[hpL]
  obtain⟨L,hL⟩:∃ L,L=hpL pre:=⟨_,rfl⟩
  obtain⟨nm,hnm'⟩:∃ nm,nm=hpN x:=⟨_,rfl⟩
  obtain⟨vl,hvl'⟩:∃ vl,vl=hpV x:=⟨_,rfl⟩
  obtain⟨tv,htv⟩:∃ tv,tv=hpT x:=⟨_,rfl⟩
  obtain⟨has,hhas⟩:∃ has,has=hpH x:=⟨_,rfl⟩
  simp only[← hL,← hnm',← hvl',← htv,← hhas] at HC HT HN HV HOK HL ho hlen
  obtain⟨nb,hnb⟩:∃ nb,nb=nameB nm:=⟨_,rfl⟩
  obtain⟨vb,hvb⟩:∃ vb,vb=zcg tv:=⟨_,rfl⟩
  simp only[← hnb,← hvb] at HN HV HOK
  obtain⟨line,isb⟩:=x
  simp only at HC HOK
  have HFL:Hid (L.length≤1000000):=by
   have h5:L.length≤1000000:=by omega
   exact h5
  clear hL hnm' hvl' htv hhas hnb hvb hxs hnm hvl htl hc1 hmem hall hlen hpl hx
  have hsz:=hB.size
  have d0:W.cell? ⟨w.heap.size,0,none⟩=some (.slice none 0 0):=Boxed.cell (t:=28) hr0
  have d1:W.cell? ⟨w.heap.size + 1,0,none⟩=some (.bool false):=Boxed.cell (t:=4) hr1
  have l0:w.heap.size < W.heap.size:=yS hr0
  have l1:w.heap.size + 1 < W.heap.size:=yS hr1
  have z0:W.frozen? ⟨w.heap.size,0,none⟩=false:=Boxed.frozen (t:=28) hr0
  have z1:W.frozen? ⟨w.heap.size + 1,0,none⟩=false:=Boxed.frozen (t:=4) hr1
  have HR0:=Lib.hid hr0
  have HR1:=Lib.hid hr1
  have HBX:=Lib.hid hb
  have HOW:=Lib.hid ho
  have HB3:=Lib.hid hb3
  have HBB:=Lib.hid hB
  clear hr0 hr1 hb ho hb3 hB
  have FAIL:∀ W',Below W.heap.size W W'→(pre++[(line,isb)]).all hpOk=false→Hid (KeepsFrom W0.heap.size W ((W'.setCell ⟨w.heap.size,0,none⟩ (.slice none 0 0)).setCell ⟨w.heap.size + 1,0,none⟩ (.bool false))∧(((((W'.setCell ⟨w.heap.size,0,none⟩ (.slice none 0 0)).setCell ⟨w.heap.size + 1,0,none⟩ (.bool false)).heap[w.heap.size]? = some (.cells #[.slice none 0 0] 28 (0,0))∧((W'.setCell ⟨w.heap.size,0,none⟩ (.slice none 0 0)).setCell ⟨w.heap.size + 1,0,none⟩ (.bool false)).heap[w.heap.size + 1]? = some (.cells #[.bool false] 4 (0,0)))∧Below w.heap.size w ((W'.setCell ⟨w.heap.size,0,none⟩ (.slice none 0 0)).setCell ⟨w.heap.size + 1,0,none⟩ (.bool false)))∧((pre++[(line,isb)]).all hpOk=false))):=by
   intro W' hh hno
   have k0:Boxed W' w.heap.size 28 (.slice none 0 0):=kept hh HR0.out
   have k1:Boxed W' (w.heap.size + 1) 4 (.bool false):=kept hh HR1.out
   exact⟨(((keeps_below hh).trans (KeepsOthers.setCell _ _ _)).trans (KeepsOthers.setCell _ _ _)).from _,⟨⟨Boxed.other (k0.set (.slice none 0 0)) (by omega) (.bool false),Boxed.set (.bool false) (Boxed.other k1 (by omega) (.slice none 0 0))⟩,((HBB.out.trans (hh.mono HBB.out.size)).setCell (p:=⟨w.heap.size,0,none⟩) (yV _) _).setCell (p:=⟨w.heap.size + 1,0,none⟩) (by simp) _⟩,hno⟩
  cases isb with
  | false =>
   have hno:(pre++[(line,false)]).all hpOk=false:=by rw[HOK.out];rfl
   have HF:=fun W' hh=>FAIL W' hh hno
   clear hno FAIL HOK
   gi_wp2_with (first|(refine⟨trivial,?_⟩;gi_at_call 27;refine(CallsIn.inRound l (callsIn_wide.2 (HC _ (Below.refl _ _)).out)).mono ?_;rintro e w1 ⟨rfl,b1⟩;have B1:=b1;have c01:=(B1.cell (p:=⟨w.heap.size,0,none⟩) l0).trans d0;have c11:=(B1.cell (p:=⟨w.heap.size + 1,0,none⟩) l1).trans d1;have f01:=(B1.frozen (p:=⟨w.heap.size,0,none⟩) l0).trans z0;have f11:=(B1.frozen (p:=⟨w.heap.size + 1,0,none⟩) l1).trans z1)|(refine⟨trivial,?_⟩;gi_at_call 28;refine(CallsIn.inRound l (callsIn_wide.2 (HT _).out)).mono ?_;rintro e w2 ⟨rfl,b2⟩;have B2:=yD B1 b2;have c02:=(B2.cell (p:=⟨w.heap.size,0,none⟩) l0).trans d0;have c12:=(B2.cell (p:=⟨w.heap.size + 1,0,none⟩) l1).trans d1;have f02:=(B2.frozen (p:=⟨w.heap.size,0,none⟩) l0).trans z0;have f12:=(B2.frozen (p:=⟨w.heap.size + 1,0,none⟩) l1).trans z1)|(refine⟨trivial,?_⟩))
   have h:=(HF _ B2).out
   exact⟨h.1,h.2.1,rfl,h.2.2⟩
  | true =>
   cases has with
   | false =>
    have hno:(pre++[(line,true)]).all hpOk=false:=by rw[HOK.out];rfl
    have HF:=fun W' hh=>FAIL W' hh hno
    clear hno FAIL HOK
    gi_wp2_with (first|(refine⟨trivial,?_⟩;gi_at_call 27;refine(CallsIn.inRound l (callsIn_wide.2 (HC _ (Below.refl _ _)).out)).mono ?_;rintro e w1 ⟨rfl,b1⟩;have B1:=b1;have c01:=(B1.cell (p:=⟨w.heap.size,0,none⟩) l0).trans d0;have c11:=(B1.cell (p:=⟨w.heap.size + 1,0,none⟩) l1).trans d1;have f01:=(B1.frozen (p:=⟨w.heap.size,0,none⟩) l0).trans z0;have f11:=(B1.frozen (p:=⟨w.heap.size + 1,0,none⟩) l1).trans z1)|(refine⟨trivial,?_⟩;gi_at_call 28;refine(CallsIn.inRound l (callsIn_wide.2 (HT _).out)).mono ?_;rintro e w2 ⟨rfl,b2⟩;have B2:=yD B1 b2;have c02:=(B2.cell (p:=⟨w.heap.size,0,none⟩) l0).trans d0;have c12:=(B2.cell (p:=⟨w.heap.size + 1,0,none⟩) l1).trans d1;have f02:=(B2.frozen (p:=⟨w.heap.size,0,none⟩) l0).trans z0;have f12:=(B2.frozen (p:=⟨w.heap.size + 1,0,none⟩) l1).trans z1)|(refine⟨trivial,?_⟩))
    have h:=(HF _ B2).out
    exact⟨h.1,h.2.1,rfl,h.2.2⟩
   | true =>
    cases nb with
    | false =>
     have hno:(pre++[(line,true)]).all hpOk=false:=by rw[HOK.out];rfl
     have HF:=fun W' hh=>FAIL W' hh hno
     clear hno FAIL HOK
     gi_wp2_with (first|(refine⟨trivial,?_⟩;gi_at_call 27;refine(CallsIn.inRound l (callsIn_wide.2 (HC _ (Below.refl _ _)).out)).mono ?_;rintro e w1 ⟨rfl,b1⟩;have B1:=b1;have c01:=(B1.cell (p:=⟨w.heap.size,0,none⟩) l0).trans d0;have c11:=(B1.cell (p:=⟨w.heap.size + 1,0,none⟩) l1).trans d1;have f01:=(B1.frozen (p:=⟨w.heap.size,0,none⟩) l0).trans z0;have f11:=(B1.frozen (p:=⟨w.heap.size + 1,0,none⟩) l1).trans z1)|(refine⟨trivial,?_⟩;gi_at_call 28;refine(CallsIn.inRound l (callsIn_wide.2 (HT _).out)).mono ?_;rintro e w2 ⟨rfl,b2⟩;have B2:=yD B1 b2;have c02:=(B2.cell (p:=⟨w.heap.size,0,none⟩) l0).trans d0;have c12:=(B2.cell (p:=⟨w.heap.size + 1,0,none⟩) l1).trans d1;have f02:=(B2.frozen (p:=⟨w.heap.size,0,none⟩) l0).trans z0;have f12:=(B2.frozen (p:=⟨w.heap.size + 1,0,none⟩) l1).trans z1)|(refine⟨trivial,?_⟩;gi_at_call 29;refine(CallsIn.inRound l (callsIn_wide.2 (HN _).out)).mono ?_;rintro e w3 ⟨rfl,b3⟩;have B3:=yD B2 b3;have c03:=(B3.cell (p:=⟨w.heap.size,0,none⟩) l0).trans d0;have c13:=(B3.cell (p:=⟨w.heap.size + 1,0,none⟩) l1).trans d1;have f03:=(B3.frozen (p:=⟨w.heap.size,0,none⟩) l0).trans z0;have f13:=(B3.frozen (p:=⟨w.heap.size + 1,0,none⟩) l1).trans z1)|(refine⟨trivial,?_⟩))
     have h:=(HF _ B3).out
     exact⟨h.1,h.2.1,rfl,h.2.2⟩
    | true =>
     cases vb with
     | false =>
      have hno:(pre++[(line,true)]).all hpOk=false:=by rw[HOK.out];rfl
      have HF:=fun W' hh=>FAIL W' hh hno
      clear hno FAIL HOK
      gi_wp2_with (first|(refine⟨trivial,?_⟩;gi_at_call 27;refine(CallsIn.inRound l (callsIn_wide.2 (HC _ (Below.refl _ _)).out)).mono ?_;rintro e w1 ⟨rfl,b1⟩;have B1:=b1;have c01:=(B1.cell (p:=⟨w.heap.size,0,none⟩) l0).trans d0;have c11:=(B1.cell (p:=⟨w.heap.size + 1,0,none⟩) l1).trans d1;have f01:=(B1.frozen (p:=⟨w.heap.size,0,none⟩) l0).trans z0;have f11:=(B1.frozen (p:=⟨w.heap.size + 1,0,none⟩) l1).trans z1)|(refine⟨trivial,?_⟩;gi_at_call 28;refine(CallsIn.inRound l (callsIn_wide.2 (HT _).out)).mono ?_;rintro e w2 ⟨rfl,b2⟩;have B2:=yD B1 b2;have c02:=(B2.cell (p:=⟨w.heap.size,0,none⟩) l0).trans d0;have c12:=(B2.cell (p:=⟨w.heap.size + 1,0,none⟩) l1).trans d1;have f02:=(B2.frozen (p:=⟨w.heap.size,0,none⟩) l0).trans z0;have f12:=(B2.frozen (p:=⟨w.heap.size + 1,0,none⟩) l1).trans z1)|(refine⟨trivial,?_⟩;gi_at_call 29;refine(CallsIn.inRound l (callsIn_wide.2 (HN _).out)).mono ?_;rintro e w3 ⟨rfl,b3⟩;have B3:=yD B2 b3;have c03:=(B3.cell (p:=⟨w.heap.size,0,none⟩) l0).trans d0;have c13:=(B3.cell (p:=⟨w.heap.size + 1,0,none⟩) l1).trans d1;have f03:=(B3.frozen (p:=⟨w.heap.size,0,none⟩) l0).trans z0;have f13:=(B3.frozen (p:=⟨w.heap.size + 1,0,none⟩) l1).trans z1)|(refine⟨trivial,?_⟩;gi_at_call 30;refine(CallsIn.inRound l (callsIn_wide.2 (HV _).out)).mono ?_;rintro e w4 ⟨rfl,b4⟩;have B4:=yD B3 b4;have c04:=(B4.cell (p:=⟨w.heap.size,0,none⟩) l0).trans d0;have c14:=(B4.cell (p:=⟨w.heap.size + 1,0,none⟩) l1).trans d1;have f04:=(B4.frozen (p:=⟨w.heap.size,0,none⟩) l0).trans z0;have f14:=(B4.frozen (p:=⟨w.heap.size + 1,0,none⟩) l1).trans z1)|(refine⟨trivial,?_⟩))
      have h:=(HF _ B4).out
      exact⟨h.1,h.2.1,rfl,h.2.2⟩
     | true =>
      have hyes:(pre++[(line,true)]).all hpOk=true:=by rw[HOK.out];rfl
      have HY:=Lib.hid hyes
      clear hyes FAIL HOK
      gi_wp2_with (first|(refine⟨trivial,?_⟩;gi_at_call 27;refine(CallsIn.inRound l (callsIn_wide.2 (HC _ (Below.refl _ _)).out)).mono ?_;rintro e w1 ⟨rfl,b1⟩;have B1:=b1;have c01:=(B1.cell (p:=⟨w.heap.size,0,none⟩) l0).trans d0;have c11:=(B1.cell (p:=⟨w.heap.size + 1,0,none⟩) l1).trans d1;have f01:=(B1.frozen (p:=⟨w.heap.size,0,none⟩) l0).trans z0;have f11:=(B1.frozen (p:=⟨w.heap.size + 1,0,none⟩) l1).trans z1)|(refine⟨trivial,?_⟩;gi_at_call 28;refine(CallsIn.inRound l (callsIn_wide.2 (HT _).out)).mono ?_;rintro e w2 ⟨rfl,b2⟩;have B2:=yD B1 b2;have c02:=(B2.cell (p:=⟨w.heap.size,0,none⟩) l0).trans d0;have c12:=(B2.cell (p:=⟨w.heap.size + 1,0,none⟩) l1).trans d1;have f02:=(B2.frozen (p:=⟨w.heap.size,0,none⟩) l0).trans z0;have f12:=(B2.frozen (p:=⟨w.heap.size + 1,0,none⟩) l1).trans z1)|(refine⟨trivial,?_⟩;gi_at_call 29;refine(CallsIn.inRound l (callsIn_wide.2 (HN _).out)).mono ?_;rintro e w3 ⟨rfl,b3⟩;have B3:=yD B2 b3;have c03:=(B3.cell (p:=⟨w.heap.size,0,none⟩) l0).trans d0;have c13:=(B3.cell (p:=⟨w.heap.size + 1,0,none⟩) l1).trans d1;have f03:=(B3.frozen (p:=⟨w.heap.size,0,none⟩) l0).trans z0;have f13:=(B3.frozen (p:=⟨w.heap.size + 1,0,none⟩) l1).trans z1)|(refine⟨trivial,?_⟩;gi_at_call 30;refine(CallsIn.inRound l (callsIn_wide.2 (HV _).out)).mono ?_;rintro e w4 ⟨rfl,b4⟩;have B4:=yD B3 b4;have c04:=(B4.cell (p:=⟨w.heap.size,0,none⟩) l0).trans d0;have c14:=(B4.cell (p:=⟨w.heap.size + 1,0,none⟩) l1).trans d1;have f04:=(B4.frozen (p:=⟨w.heap.size,0,none⟩) l0).trans z0;have f14:=(B4.frozen (p:=⟨w.heap.size + 1,0,none⟩) l1).trans z1;have hbx:=Boxed.kept HBX.out (grown_below B4) (by simp);have how:=own_below HOW.out B4;have hcx:=hbx.cell;have hfx:=hbx.frozen;have hs4:=B4.size)|(gi_at_builtin;refine wpListIn_append_own _ rfl _ _ 28 rfl w.heap.size 72 i0 _ 2 32 Tryz.underlying28 hi hz0 hz1 hz2 rfl (by decide) _ _ _ rfl (how.alloc _) ⟨w4.heap.size,0,none⟩ 1 1 [.string nm,.string tv] rfl rfl (cell_two_new _ _ _ _) (by intro u hu;simp at hu;rcases hu with rfl|rfl <;> rfl) (by have:=HFL.out;unfold maxLen;omega) (by have:=HFL.out;omega) (by simp;omega) ?_;intro v' w5 hown' hgrow _;obtain⟨g',cap',rfl⟩:=ownsRow_succ hown';obtain⟨hv1,hv2,hr2,hk2,hb2⟩:=hbx.appended (by decide) how (by omega) (by omega) hown' hgrow;have hc5:=hv1.cell;have hf5:=hv1.frozen;have hkk:=Lib.hid hgrow))
      have hb4:=B4.size
      have KK:∀ k,k < W.heap.size→k≠w.heap.size + 2→some k≠vo.ownBlock→(w5.setCell ⟨w.heap.size + 2,0,none⟩ (.slice (some ⟨g',0,none⟩) (L.length + 1) cap')).heap[k]? = W.heap[k]?:=fun k h1 h2 h3=>(yG _ _ _ _ h2).trans ((hkk.out.block k (by simp;omega) h3).trans ((Below.heap_alloc _ _ _ (by omega)).trans (B4.block k h1)))
      have r0:=(KK _ l0 (by omega) (Boxed.not_row (t:=28) HR0.out (by decide) HOW.out)).trans HR0.out
      have r1:=(KK _ l1 (by omega) (Boxed.not_row (t:=4) HR1.out (by decide) HOW.out)).trans HR1.out
      have r3:=(KK _ HB3.out.lt (by omega) (HB3.out.not_row (by decide) HOW.out)).trans HB3.out
      have bz:=(B4.mono hsz).trans hb2
      refine⟨((keeps_below B4).trans hk2).from _,⟨bz.size,fun k hk=>?_⟩,⟨⟨_,hv2,by rw[HL.out,List.length_append,zce];exact hr2,trivial⟩,⟨⟨r0,r1⟩,HBB.out.trans bz⟩,⟨u3,r3⟩,HY.out⟩⟩
      rcases hk with rfl|hk
      ·exact r3.trans HB3.out.symm
      ·exact bz.block k (by omega)
 case done =>
  rintro D ys W hD rfl ⟨⟨v,hb,ho,_⟩,⟨⟨hr0,hr1⟩,hB⟩,_,hall⟩ hK
  obtain⟨q,m,c,rfl⟩:∃ q m c,v=.slice q m c:=by
   rcases ho.2 with ⟨h,_⟩|⟨g,cap,cur,h,_⟩
   ·exact⟨_,_,_,h⟩
   ·exact⟨_,_,_,h⟩
  have hcx:=hb.cell
  have d0:W.cell? ⟨w.heap.size,0,none⟩=some (.slice none 0 0):=Boxed.cell (t:=28) hr0
  have d1:W.cell? ⟨w.heap.size + 1,0,none⟩=some (.bool false):=Boxed.cell (t:=4) hr1
  have z0:W.frozen? ⟨w.heap.size,0,none⟩=false:=Boxed.frozen (t:=28) hr0
  have z1:W.frozen? ⟨w.heap.size + 1,0,none⟩=false:=Boxed.frozen (t:=4) hr1
  have HLL:Hid (zaN s=true∧zaw s=hpL (zaK s)):=by
   have h:zaN s=true:=hall
   exact⟨h,by unfold zaw;rw[if_pos h]⟩
  have R0:=Boxed.set (.slice q m c) (show Boxed W w.heap.size 28 _ from hr0)
  have R1:=Boxed.set (.bool true) (Boxed.other (show Boxed W (w.heap.size + 1) 4 _ from hr1) (by omega:w.heap.size + 1≠w.heap.size) (.slice q m c))
  have R0':=Boxed.other R0 (by omega:w.heap.size≠w.heap.size + 1) (.bool true)
  have hK2:((W.setCell ⟨w.heap.size,0,none⟩ (.slice q m c)).setCell ⟨w.heap.size + 1,0,none⟩ (.bool true)).heap[D]? = some (.deferred (some [])):=(yG _ _ _ _ (by show D≠w.heap.size + 1;omega)).trans ((yG _ _ _ _ (by show D≠w.heap.size;omega)).trans hK)
  have ho2:((W.setCell ⟨w.heap.size,0,none⟩ (.slice q m c)).setCell ⟨w.heap.size + 1,0,none⟩ (.bool true)).ownsRow w.heap.size 72 2 (.slice q m c) (hpL (zaK s)).length (zai (hpL (zaK s))):=by
   have n0:=Boxed.not_row (t:=28) hr0 (by decide) ho
   have n1:=Boxed.not_row (t:=4) hr1 (by decide) ho
   exact(ho.kept (grownBy_setCell' W w.heap.size (.slice q m c)) (.inr (fun e=>n0 e.symm))).kept (grownBy_setCell' _ (w.heap.size + 1) (.bool true)) (.inr (fun e=>n1 e.symm))
  have B2:Below w.heap.size w ((W.setCell ⟨w.heap.size,0,none⟩ (.slice q m c)).setCell ⟨w.heap.size + 1,0,none⟩ (.bool true)):=(hB.setCell (p:=⟨w.heap.size,0,none⟩) (yV _) _).setCell (p:=⟨w.heap.size + 1,0,none⟩) (by simp) _
  have HO2:=Lib.hid ho2
  have HK2:=Lib.hid hK2
  have HR0':=Lib.hid R0'
  have HR1':=Lib.hid R1
  clear ho2 hK2 R0' R1 R0
  go_wp2
  refine⟨by simp,.inl ⟨_,_,rfl,run_takeDeferred HK2.out,?_⟩⟩
  rw[HLL.out.1,HLL.out.2]
  have K0:=(World.putObj_heap_other (r:=D) (o:=.deferred none) (by omega:w.heap.size≠D)).trans HR0'.out
  have K1:=(World.putObj_heap_other (r:=D) (o:=.deferred none) (by omega:w.heap.size + 1≠D)).trans HR1'.out
  exact⟨_,zdb rfl _ _ w.heap.size (w.heap.size + 1) _ _ rfl (zcB K0) rfl (load_bool K1),_,rfl,ownsRow_putObj HO2.out _ HK2.out rfl,B2.trans (belowK_b (w:=w) (yV _) _ D _ _ (by omega) HK2.out rfl rfl)⟩
 case stop =>
  rintro D c pre W hD ⟨post,hpo⟩ ⟨⟨⟨hr0,hr1⟩,hB⟩,rfl,hno⟩ hK
  refine(wpIn_wide (n:=9)).2 ?_
  have HLL:Hid (zaN s=false∧zaw s=[]):=by
   have h:zaN s=false:=by unfold zaN;rw[hpo,List.all_append,hno];rfl
   exact⟨h,by unfold zaw;rw[h];rfl⟩
  go_wp2
  refine⟨by simp,.inl ⟨_,_,rfl,run_takeDeferred hK,?_⟩⟩
  rw[HLL.out.1,HLL.out.2]
  have K0:=(World.putObj_heap_other (r:=D) (o:=.deferred none) (by omega:w.heap.size≠D)).trans hr0
  have K1:=(World.putObj_heap_other (r:=D) (o:=.deferred none) (by omega:w.heap.size + 1≠D)).trans hr1
  exact⟨_,zdb rfl _ _ w.heap.size (w.heap.size + 1) _ _ rfl (zcB K0) rfl (load_bool K1),_,rfl,World.ownsRow_nil _ _ _ _,hB.trans (belowK_b (w:=w) (yV _) _ D _ _ (by omega) hK rfl rfl)⟩
end Go.Proofs.YtdlkjofnnefjfaaGreatDoor
