/- hop.Step. -/
import Derived.Test.YtdlkjofnnefjfaaGreatDoorZShort
import Derived.Test.YtdlkjofnnefjfaaGreatDoorZFolA
set_option linter.all false
namespace Go.Proofs.YtdlkjofnnefjfaaGreatDoor
set_option maxRecDepth 100000
open Go.RowKit
theorem zcK:(Tryz.prog.info? 45).map (·.size)=some 2:=by kernel_rfl
def stepR (q:Req) (st:Int) (raw:ByteArray):Option Req×Int:=if mayR q=false then (none,1) else followR q st raw
def zgO (o:Option Req×Int) (q:Req) (w:World) (e:Ending) (w':World):Prop :=
 Below w.heap.size w w'∧match o.1 with
  | none=>∃ q1 m1 c1 q2 m2 c2,e=.returned (.tuple #[.agg (reqC q (.slice q1 m1 c1) (.slice q2 m2 c2)),.int .i64 o.2,.bool true])
  | some x=>∃ pu' hv',e=.returned (.tuple #[.agg (reqC x pu' hv'),.int .i64 0,.bool false])∧w'.ownsRow w.heap.size 9 1 pu' x.url.path.length (x.url.path.map Value.string)∧FldsN w.heap.size w' hv' x.heads
def zii (v:Value) (e:Int):Prop:=v=.iface 128 (.agg #[.int .i64 e])∨v=.iface 132 (.agg #[.iface 128 (.agg #[.int .i64 e])])
theorem zij (v:Value) (e:Int) (h:zii v e) (t:Nat) (old:Value) (w:World) (G:Glob w) (ht:w.heap[t]? = some (.cells #[old] 128 (0,0))) :
  Calls Tryz.prog 81 #[v,.iface 134 (.pointer (some ⟨t,0,none⟩))] w fun ev w'=>ev=.returned (.bool true)∧Below w.heap.size (w.setCell ⟨t,0,none⟩ (.int .i64 e)) w':=by
 rcases h with rfl|rfl
 ·exact zgS e t old w G ht
 ·exact zfe e t old w G ht
theorem zdy {P:Program} {a:Act} {w:World} {Q:Exit→Act→World→Prop} {c rest:Code} (l:Nat) (J:Act→World→Prop) (hf:findLabel c l=some (Code.skip.seq rest))
  (first:Hid (∀ a w,J a w→rest.wp P (Exit.jump l J Q) a w)→c.wp P (Exit.jump l J Q) a w)
  (pass:∀ a w,J a w→rest.wp P (Exit.jump l (fun _ _=>False) Q) a w):(Code.scope c).wp P Q a w:=by
 refine wp_scope_jumps l J (fun _ _=>0) hf (first (fun a w h=>wp_mono (pass a w h) fun e a' w' h=>?_)) (fun a w h=>wp_seq (wp_skip (wp_mono (pass a w h) fun e a' w' h=>?_)))
 ·cases e with
  | goto l'=>exact⟨h.1,h.2.elim⟩
  | _=>exact h
 ·cases e with
  | goto l'=>exact⟨h.1,h.2.elim⟩
  | _=>exact h
def zis (x:Option Req×Int) (q:Req) (q0 qh:Option Addr) (m0 c0 mh ch:Nat) (st:Int) (raw:ByteArray) (w:World) (a':Act) (w':World):Prop :=
 ∃ (v old:Value) (u10 u11 u12 u13 u14 u15 u16 u17 u18 u19 u20 u21 u22 u23 u24 u25 u26 u27 u28 u29 u30 u31 u32 u33 u34 u35 u36 u37 u38 u39 u40 u41 u42:Value),a'={ tmps:=#[.agg (reqC q (.slice q0 m0 c0) (.slice qh mh ch)),.agg (zbu st raw),.pointer (some ⟨w.heap.size,0,none⟩),.pointer (some ⟨w.heap.size + 1,0,none⟩),.pointer (some ⟨w.heap.size + 2,0,none⟩),.int .i64 0,.bool false,.pointer (some ⟨w.heap.size + 3,0,none⟩),.pointer (some ⟨w.heap.size + 4,0,none⟩),v,u10,u11,u12,u13,u14,u15,u16,u17,u18,u19,u20,u21,u22,u23,u24,u25,u26,u27,u28,u29,u30,u31,u32,u33,u34,u35,u36,u37,u38,u39,u40,u41,u42],defers:=[] }∧x.1=none∧zii v x.2 ∧
  w'.heap[w.heap.size]? = some (.cells (reqC q (.slice q0 m0 c0) (.slice qh mh ch)) 32 (0,0))∧w'.heap[w.heap.size + 2]? = some (.cells (reqC req0 (.slice none 0 0) (.slice none 0 0)) 32 (0,0))∧w'.heap[w.heap.size + 3]? = some (.cells #[old] 128 (0,0))∧Below w.heap.size w w'
theorem zbs {P:Program} {fn:Func} {p u v:Tmp} {ty:TypeId} (h:fn.results=#[.cell p ty,.tmp u,.tmp v]) (tmps:Array Value) (w:World) (g:Nat) (t:TypeId) (cs:Array Value) (fr:Nat×Nat) (d:TypeDesc)
  (hp:tmps.getD p undef=.pointer (some ⟨g,0,none⟩)) (hg:w.heap[g]? = some (.cells cs t fr))
  (hu:P.underlying ty=some d) (hd:(match d with|.struct _|.array _ _=>true|_=>false)=true) (hi:(P.info? ty).map (·.size)=some cs.size) (a b:Value) (ha:tmps.getD u undef=a) (hb:tmps.getD v undef=b) :
  (results fn tmps).run P w=.ok (.tuple #[.agg cs,a,b]) w:=by
 have hp':tmps[p]?.getD undef=.pointer (some ⟨g,0,none⟩):=by simpa using hp
 have ha':tmps[u]?.getD undef=a:=by simpa using ha
 have hb':tmps[v]?.getD undef=b:=by simpa using hb
 simp[results,h,hp',ha',hb',asAddr,run_loadVar_row w g t ty cs fr d hg hu hd hi]
set_option maxHeartbeats 2000000 in
theorem zhr (q:Req) (pu hv:Value) (st:Int) (raw:ByteArray) (w:World) (G:Glob w) (hp:Strs w pu q.url.path) (hh:Flds w hv q.heads) (hf:Follows q raw) :
  Calls Tryz.prog 42 #[.agg (reqC q pu hv),.agg (zbu st raw)] w (zgO (stepR q st raw) q w):=by
 obtain⟨q0,m0,c0,rfl⟩:=hp.slice
 obtain⟨qh,mh,ch,rfl⟩:=hh.slice
 have hz3:(((w.alloc (.cells (reqC q (.slice q0 m0 c0) (.slice qh mh ch)) 32)).alloc (.cells (zbu st raw) 45)).alloc (.cells (reqC req0 (.slice none 0 0) (.slice none 0 0)) 32)).heap.size=w.heap.size + 3:=by simp
 have k5:=bel2 (((w.alloc (.cells (reqC q (.slice q0 m0 c0) (.slice qh mh ch)) 32)).alloc (.cells (zbu st raw) 45)).alloc (.cells (reqC req0 (.slice none 0 0) (.slice none 0 0)) 32)) (.cells #[.int .i64 0] 128) (.cells (reqC req0 (.slice none 0 0) (.slice none 0 0)) 32)
 have R0:=kept k5 (row3a w (.cells (reqC q (.slice q0 m0 c0) (.slice qh mh ch)) 32) (.cells (zbu st raw) 45) (.cells (reqC req0 (.slice none 0 0) (.slice none 0 0)) 32))
 have P0:=kept k5 (row3b w (.cells (reqC q (.slice q0 m0 c0) (.slice qh mh ch)) 32) (.cells (zbu st raw) 45) (.cells (reqC req0 (.slice none 0 0) (.slice none 0 0)) 32))
 have Z0:=kept k5 (row3c w (.cells (reqC q (.slice q0 m0 c0) (.slice qh mh ch)) 32) (.cells (zbu st raw) 45) (.cells (reqC req0 (.slice none 0 0) (.slice none 0 0)) 32))
 have Y0:=row2a (((w.alloc (.cells (reqC q (.slice q0 m0 c0) (.slice qh mh ch)) 32)).alloc (.cells (zbu st raw) 45)).alloc (.cells (reqC req0 (.slice none 0 0) (.slice none 0 0)) 32)) (.cells #[.int .i64 0] 128) (.cells (reqC req0 (.slice none 0 0) (.slice none 0 0)) 32)
 have X0:=row2b (((w.alloc (.cells (reqC q (.slice q0 m0 c0) (.slice qh mh ch)) 32)).alloc (.cells (zbu st raw) 45)).alloc (.cells (reqC req0 (.slice none 0 0) (.slice none 0 0)) 32)) (.cells #[.int .i64 0] 128) (.cells (reqC req0 (.slice none 0 0) (.slice none 0 0)) 32)
 have B0:=yD (bel3 w (.cells (reqC q (.slice q0 m0 c0) (.slice qh mh ch)) 32) (.cells (zbu st raw) 45) (.cells (reqC req0 (.slice none 0 0) (.slice none 0 0)) 32)) k5
 rw[hz3] at Y0 X0
 clear k5 hz3
 have HX:Hid (stepR q st raw=_):=stepR.eq_1 q st raw
 obtain⟨x,hx⟩:∃ x,x=stepR q st raw:=⟨_,rfl⟩
 rw[← hx] at HX ⊢
 clear hx
 have HM:=Lib.hid (zdn q (.slice q0 m0 c0) (.slice qh mh ch) _ (G.below B0) (hp.below B0) (hh.below B0) hf.fit)
 obtain⟨mb,hmb⟩:∃ b,b=mayR q:=⟨_,rfl⟩
 rw[← hmb] at HX HM
 clear hmb
 have HF:=fun w' (b:Below w.heap.size w w')=>Lib.hid (zfm q (.slice q0 m0 c0) (.slice qh mh ch) st raw w' (G.below b) (hp.below b) (hh.below b) hf)
 obtain⟨y,hy⟩:∃ y,y=followR q st raw:=⟨_,rfl⟩
 rw[← hy] at HX
 simp only[← hy] at HF
 clear hy
 go_enter Tryz.func42,Tryz.ntmps42
 go_wp2
 refine zdy 0 (zis x q q0 qh m0 c0 mh ch st raw w) rfl ?_ ?_
 ·intro HR
  go_wp2_with (first|((with_reducible (show wpList _ _ _ (Oper.mk _ (.load 32 (.tmp 2)) _ _ _ _::_) _ _));refine zaa (by rfl) 32 _ rfl w.heap.size 0 rfl (reqC q (.slice q0 m0 c0) (.slice qh mh ch)) _ (zac R0) yA rfl zab ?_))
  refine HM.out.mono ?_
  rintro e w1 ⟨rfl,b1⟩
  have R1:=kept b1 R0
  have P1:=kept b1 P0
  have Z1:=kept b1 Z0
  have Y1:=kept b1 Y0
  have X1:=kept b1 X0
  have B1:=yD B0 b1
  clear HM R0 P0 Z0 Y0 X0 b1 B0
  cases mb with
  | false =>
   have HZ:Hid (x=(none,1)):=by show _=_;rw[HX.out,if_pos rfl]
   go_wp2
   refine wp_goto ?_
   exact⟨rfl,_,_,_,_,_,_,_,_,_,_,_,_,_,_,_,_,_,_,_,_,_,_,_,_,_,_,_,_,_,_,_,_,_,_,_,rfl,by rw[HZ.out],by rw[HZ.out];exact .inl rfl,R1,Z1,Y1,B1⟩
  | true =>
   have HX2:=Lib.hid (HX.out.trans (if_neg (by decide)))
   clear HX
   go_wp2_with (first|((with_reducible (show wpList _ _ _ (Oper.mk _ (.load 32 (.tmp 2)) _ _ _ _::_) _ _));refine zaa (by rfl) 32 _ rfl w.heap.size 0 rfl (reqC q (.slice q0 m0 c0) (.slice qh mh ch)) _ (zac R1) yA rfl zab ?_)|((with_reducible (show wpList _ _ _ (Oper.mk _ (.load 45 _) _ _ _ _::_) _ _));refine zaa (by rfl) 45 _ rfl (w.heap.size + 1) 0 rfl (zbu st raw) _ (zac P1) Tryz.underlying45 rfl zcK ?_))
   refine(HF _ B1).out.mono ?_
   rintro e w2 ⟨b2,he⟩
   have R2:=kept b2 R1
   have Z2:=kept b2 Z1
   have Y2:=kept b2 Y1
   have X2:=kept b2 X1
   have B2:=yD B1 b2
   obtain⟨o,n⟩:=y
   cases o with
   | none =>
    have HZ:Hid (x=(none,n)):=HX2.out
    obtain rfl:e=_:=he
    have Y3:=(yI w2 (w.heap.size + 4) (w.heap.size + 3) (reqC q (.slice q0 m0 c0) (.slice qh mh ch)) (by omega)).trans Y2
    have Z3:=(yI w2 (w.heap.size + 4) (w.heap.size + 2) (reqC q (.slice q0 m0 c0) (.slice qh mh ch)) (by omega)).trans Z2
    have R3:=(yI w2 (w.heap.size + 4) (w.heap.size) (reqC q (.slice q0 m0 c0) (.slice qh mh ch)) (by omega)).trans R2
    have B3:=yM B2 (by omega:w.heap.size≤w.heap.size + 4) (cs:=reqC q (.slice q0 m0 c0) (.slice qh mh ch))
    go_wp2_with (first|((with_reducible (show wpList _ _ _ (Oper.mk none (.store 32 (.tmp 8) _) _ _ _ none::_) _ _));refine yJ rfl 32 _ _ rfl (w.heap.size + 4) _ rfl rfl 32 _ X2 zab rfl (by simp[Value.oneCell']) ?_))
    refine wp_label ?_
    rename_i hK
    exact hK _ _ (HR.out _ _ ⟨_,_,_,_,_,_,_,_,_,_,_,_,_,_,_,_,_,_,_,_,_,_,_,_,_,_,_,_,_,_,_,_,_,_,_,rfl,by rw[HZ.out],by rw[HZ.out];exact .inr rfl,R3,Z3,Y3,B3⟩)
   | some z =>
    have HZ:Hid (x=(some z,n)):=HX2.out
    obtain⟨pu1,hv1,rfl,o2,n2⟩:=he
    obtain⟨q1,m1,c1,rfl⟩:=(Strs.of_own o2).slice
    obtain⟨q2,m2,c2,rfl⟩:=n2.flds.slice
    have X3:=yH _ _ _ (reqC z (.slice q1 m1 c1) (.slice q2 m2 c2)) _ _ X2
    have Z3:=(yI w2 (w.heap.size + 4) (w.heap.size + 2) (reqC z (.slice q1 m1 c1) (.slice q2 m2 c2)) (by omega)).trans Z2
    have B3:=yM B2 (by omega:w.heap.size≤w.heap.size + 4) (cs:=reqC z (.slice q1 m1 c1) (.slice q2 m2 c2))
    have o3:=zaA (own_base o2 B1.size) (zay (cs:=reqC z (.slice q1 m1 c1) (.slice q2 m2 c2)) X2 (by decide))
    have n3:=(n2.base B1.size).other (zay (cs:=reqC z (.slice q1 m1 c1) (.slice q2 m2 c2)) X2 (by decide))
    have HF2:=Lib.hid (And.intro (zaA o3 (zay (cs:=reqC z (.slice q1 m1 c1) (.slice q2 m2 c2)) Z3 (by decide))) (n3.other (zay (cs:=reqC z (.slice q1 m1 c1) (.slice q2 m2 c2)) Z3 (by decide))))
    clear o2 n2 o3 n3
    go_wp2_with (first|((with_reducible (show wpList _ _ _ (Oper.mk none (.store 32 (.tmp 8) _) _ _ _ none::_) _ _));refine yJ rfl 32 _ _ rfl (w.heap.size + 4) _ rfl rfl 32 _ X2 zab rfl (by simp[Value.oneCell']) ?_)|((with_reducible (show wpList _ _ _ (Oper.mk _ (.load 32 (.tmp 8)) _ _ _ _::_) _ _));refine zaa (by rfl) 32 _ rfl (w.heap.size + 4) 0 rfl (reqC z (.slice q1 m1 c1) (.slice q2 m2 c2)) _ (zac X3) yA rfl zab ?_)|((with_reducible (show wpList _ _ _ (Oper.mk none (.store 32 (.tmp 4) _) _ _ _ none::_) _ _));refine yJ rfl 32 _ _ rfl (w.heap.size + 2) _ rfl rfl 32 _ Z3 zab rfl (by simp[Value.oneCell']) ?_))
    refine yO (zbs rfl _ _ (w.heap.size + 2) 32 (reqC z (.slice q1 m1 c1) (.slice q2 m2 c2)) (0,0) _ rfl (yH _ _ _ _ _ _ Z3) yA rfl zab _ _ rfl rfl) rfl ⟨yM B3 (by omega),?_⟩
    rw[HZ.out]
    exact⟨_,_,rfl,HF2.out.1,HF2.out.2⟩
 ·rintro a' w' ⟨v,old,u10,u11,u12,u13,u14,u15,u16,u17,u18,u19,u20,u21,u22,u23,u24,u25,u26,u27,u28,u29,u30,u31,u32,u33,u34,u35,u36,u37,u38,u39,u40,u41,u42,rfl,hx,HE,R1,Z1,Y1,B1⟩
  have HA:=Lib.hid (zij v x.2 HE (w.heap.size + 3) old w' (G.below B1) Y1)
  go_wp2_with fail
  refine HA.out.mono ?_
  rintro ev w1 ⟨rfl,b1⟩
  have Y2:(w'.setCell ⟨w.heap.size + 3,0,none⟩ (.int .i64 x.2)).heap[w.heap.size + 3]? = some (.cells #[.int .i64 x.2] 128 (0,0)):=zap (i:=0) Y1 _ rfl
  have R2:=zam (i:=0) R1 (by omega:w.heap.size≠w.heap.size + 3) (.int .i64 x.2)
  have Z2:=zam (i:=0) Z1 (by omega:w.heap.size + 2≠w.heap.size + 3) (.int .i64 x.2)
  have B2:=B1.setCell (p:=⟨w.heap.size + 3,0,none⟩) (by show w.heap.size≤w.heap.size + 3;omega) (.int .i64 x.2)
  have hs:(w'.setCell ⟨w.heap.size + 3,0,none⟩ (.int .i64 x.2)).heap.size=w'.heap.size:=by simp
  rw[← hs] at b1
  have R3:=kept b1 R2
  have Y3:=kept b1 Y2
  have Z3:=kept b1 Z2
  have B3:=yD B2 b1
  clear HA R1 Y1 Z1 B1 R2 Y2 Z2 B2 hs b1
  go_wp2_with fail
  have R0:w1.drew.heap[w.heap.size]? = _:=R3
  have Y0:w1.drew.heap[w.heap.size + 3]? = _:=Y3
  have Z0:w1.drew.heap[w.heap.size + 2]? = _:=Z3
  have L0:=yD B3 (yR w1)
  clear R3 Y3 Z3 B3
  refine yQ (S:=fun W=>True) (by kernel_rfl) trivial (fun h0=>?_)
  obtain⟨V0,hV0⟩:∃ V,w1.drew=V:=⟨_,rfl⟩
  rw[hV0] at R0 Y0 Z0 L0
  simp only[hV0] at h0 ⊢
  clear hV0
  refine tk (i:=0) (v:=?v1) rfl (Or.inl ⟨by rfl,?y1⟩) h0 ?r1
  case y1 =>
   intro W hW
   go_simp
   try with_reducible rfl
  simp only[Act.put,zA,zB,zC,zD,zE,zF]
  refine tk (i:=3) (v:=?v2) rfl (Or.inl ⟨by rfl,?y2⟩) h0 ?r2
  case y2 =>
   intro W hW
   go_simp
   try with_reducible rfl
  simp only[Act.put,zA,zB,zC,zD,zE,zF]
  refine tk (i:=4) (v:=?v3) rfl (Or.inl ⟨by rfl,?y3⟩) h0 ?r3
  case y3 =>
   intro W hW
   go_simp
   try with_reducible rfl
  simp only[Act.put,zA,zB,zC,zD,zE,zF]
  refine wpAnyH_ready (rs:=[1,5]) (by kernel_rfl) (by simp) ?_
  refine AllReadyH.cons rfl (fun K hK=>?_) (AllReadyH.cons rfl (fun K hK=>?_) AllReadyH.nil)
  ·have c10:=yE R0 22 (.slice qh mh ch) rfl
   try simp only[zA,zB,zC]
   rw[if_pos (by rfl)]
   go_simp
   refine hK.out _ _ trivial (fun h0=>?_)
   clear hK K
   try simp only[Act.put,zA,zB,zC,zD,zE,zF]
   refine wpAnyH_ready (rs:=[2,5]) (by kernel_rfl) (by simp) ?_
   refine AllReadyH.cons rfl (fun K hK=>?_) (AllReadyH.cons rfl (fun K hK=>?_) AllReadyH.nil)
   ·try simp only[zA,zB,zC]
    rw[if_pos (by rfl)]
    go_simp
    go_at_call 24
    refine(zbi (.slice qh mh ch) q.heads V0 (hh.below L0) hf.fit.h).mono ?_
    rintro e V1 ⟨hv9,rfl,hn9,k1⟩
    obtain⟨qa,ma,ca,rfl⟩:=hn9.flds.slice
    clear hn9
    have R1:=kept k1 R0
    have Y1:=kept k1 Y0
    have Z1:=kept k1 Z0
    have L1:=yD L0 k1
    refine hK.out _ _ trivial (fun h0=>?_)
    clear hK K
    try simp only[Act.put,zA,zB,zC,zD,zE,zF]
    refine zrd (i:=5) rfl (fun K hK=>?_)
    ·have c51:=yE R1 15 (.slice q0 m0 c0) rfl
     try simp only[zA,zB,zC]
     rw[if_pos (by rfl)]
     go_simp
     refine hK.out _ _ trivial (fun h0=>?_)
     clear hK K
     try simp only[Act.put,zA,zB,zC,zD,zE,zF]
     refine tk (i:=7) (v:=?v4) rfl (Or.inl ⟨by rfl,?y4⟩) h0 ?r4
     case y4 =>
      intro W hW
      go_simp
      try with_reducible rfl
     simp only[Act.put,zA,zB,zC,zD,zE,zF]
     refine zrd (i:=6) rfl (fun K hK=>?_)
     ·try simp only[zA,zB,zC]
      rw[if_pos (by rfl)]
      go_simp
      go_at_call 82
      refine(zaO (.slice q0 m0 c0) q.url.path V1 (hp.below L1) hf.fit.u.np).mono ?_
      rintro e V2 ⟨pu9,rfl,ho9,k2⟩
      obtain⟨qb,mb,cb,rfl⟩:=(Strs.of_own ho9).slice
      clear ho9
      have R2:=kept k2 R1
      have Y2:=kept k2 Y1
      have Z2:=kept k2 Z1
      have L2:=yD L1 k2
      refine hK.out _ _ trivial (fun h0=>?_)
      clear hK K
      try simp only[Act.put,zA,zB,zC,zD,zE,zF]
      refine zrd (i:=8) rfl (fun K hK=>?_)
      ·have c82:=yE R2 22 (.slice qh mh ch) rfl
       have f82:=yF R2 22
       try simp only[zA,zB,zC]
       rw[if_pos (by rfl)]
       go_simp
       have R3:(V2.setCell ⟨w.heap.size,22,none⟩ (.slice qa ma ca)).heap[w.heap.size]? = some (.cells (reqC q (.slice q0 m0 c0) (.slice qa ma ca)) 32 (0,0)):=zap (i:=22) R2 _ rfl
       have Y3:=zam (i:=22) Y2 (by omega:w.heap.size + 3≠w.heap.size) (.slice qa ma ca)
       have Z3:=zam (i:=22) Z2 (by omega:w.heap.size + 2≠w.heap.size) (.slice qa ma ca)
       have L3:=L2.setCell (p:=⟨w.heap.size,22,none⟩) (yV _) (.slice qa ma ca)
       refine hK.out _ _ trivial (fun h0=>?_)
       clear hK K
       try simp only[Act.put,zA,zB,zC,zD,zE,zF]
       generalize V2.setCell ⟨w.heap.size,22,none⟩ (.slice qa ma ca)=V3 at R3 Y3 Z3 L3 ⊢
       refine tk (i:=9) (v:=?v5) rfl (Or.inl ⟨by rfl,?y5⟩) h0 ?r5
       case y5 =>
        intro W hW
        go_simp
        try with_reducible rfl
       simp only[Act.put,zA,zB,zC,zD,zE,zF]
       refine tk (i:=10) (v:=?v6) rfl (Or.inl ⟨by rfl,?y6⟩) h0 ?r6
       case y6 =>
        intro W hW
        go_simp
        try with_reducible rfl
       simp only[Act.put,zA,zB,zC,zD,zE,zF]
       refine zrd (i:=11) rfl (fun K hK=>?_)
       ·have c113:=yE R3 15 (.slice q0 m0 c0) rfl
        have f113:=yF R3 15
        try simp only[zA,zB,zC]
        rw[if_pos (by rfl)]
        go_simp
        have R4:(V3.setCell ⟨w.heap.size,15,none⟩ (.slice qb mb cb)).heap[w.heap.size]? = some (.cells (reqC q (.slice qb mb cb) (.slice qa ma ca)) 32 (0,0)):=zap (i:=15) R3 _ rfl
        have Y4:=zam (i:=15) Y3 (by omega:w.heap.size + 3≠w.heap.size) (.slice qb mb cb)
        have Z4:=zam (i:=15) Z3 (by omega:w.heap.size + 2≠w.heap.size) (.slice qb mb cb)
        have L4:=L3.setCell (p:=⟨w.heap.size,15,none⟩) (yV _) (.slice qb mb cb)
        refine hK.out _ _ trivial (fun h0=>?_)
        clear hK K
        try simp only[Act.put,zA,zB,zC,zD,zE,zF]
        generalize V3.setCell ⟨w.heap.size,15,none⟩ (.slice qb mb cb)=V4 at R4 Y4 Z4 L4 ⊢
        refine yX (by kernel_rfl) ?_ _
        go_wp2_with fail
        refine yQ (S:=fun W=>W.heap[w.heap.size]? = some (.cells (reqC q (.slice qb mb cb) (.slice qa ma ca)) 32 (0,0))∧W.heap[w.heap.size + 3]? = some (.cells #[.int .i64 x.2] 128 (0,0))) (by kernel_rfl) ⟨R4,Y4⟩ (fun h0=>?_)
        refine tk (i:=0) rfl (zaC w.heap.size q (.slice qb mb cb) (.slice qa ma ca) (by rfl) _ rfl rfl (fun W h=>h.1)) h0 ?_
        simp only[Act.put,zA,zB,zC,zD,zE,zF]
        refine tk (i:=1) (v:=?v7) rfl (Or.inl ⟨by rfl,?y7⟩) h0 ?r7
        case y7 =>
         intro W hW
         go_simp
         try with_reducible rfl
        simp only[Act.put,zA,zB,zC,zD,zE,zF]
        refine tk (i:=2) (v:=?v8) rfl (Or.inl ⟨by rfl,?y8⟩) h0 ?r8
        case y8 =>
         intro W hW
         have c:=yE hW.2 0 (.int .i64 x.2) rfl
         go_simp
         try with_reducible rfl
        simp only[Act.put,zA,zB,zC,zD,zE,zF]
        have RZ:=(yI V4.drew (w.heap.size + 2) (w.heap.size) (reqC q (.slice qb mb cb) (.slice qa ma ca)) (by omega)).trans R4
        have YZ:=(yI V4.drew (w.heap.size + 2) (w.heap.size + 3) (reqC q (.slice qb mb cb) (.slice qa ma ca)) (by omega)).trans Y4
        refine zrd (i:=3) rfl (fun K hK=>?_)
        try simp only[zA,zB,zC]
        rw[if_pos (by rfl)]
        refine wp_store_row 32 _ _ rfl (w.heap.size + 2) _ rfl rfl 32 _ (show V4.drew.heap[w.heap.size + 2]? = _ from Z4) zab rfl (by simp[Value.oneCell']) ?_
        refine hK.out _ _ ⟨RZ,YZ⟩ (fun h0=>?_)
        clear hK K
        try simp only[Act.put,zA,zB,zC,zD,zE,zF]
        refine tk (i:=4) (v:=?v9) rfl (Or.inl ⟨by rfl,?y9⟩) h0 ?r9
        case y9 =>
         intro W hW
         go_simp
         try with_reducible rfl
        simp only[Act.put,zA,zB,zC,zD,zE,zF]
        refine tk (i:=5) (v:=?v10) rfl (Or.inl ⟨by rfl,?y10⟩) h0 ?r10
        case y10 =>
         intro W hW
         go_simp
         try with_reducible rfl
        simp only[Act.put,zA,zB,zC,zD,zE,zF]
        refine yX (by kernel_rfl) ?_ _
        have ZZ:(V4.drew.setRow (w.heap.size + 2) (reqC q (.slice qb mb cb) (.slice qa ma ca))).heap[w.heap.size + 2]? = _:=yH _ _ _ (reqC q (.slice qb mb cb) (.slice qa ma ca)) _ _ (show V4.drew.heap[w.heap.size + 2]? = _ from Z4)
        have BZ:=yM (yD L4 (yR V4)) (by omega:w.heap.size≤w.heap.size + 2) (cs:=(reqC q (.slice qb mb cb) (.slice qa ma ca)))
        go_wp2
        refine yO (zbs rfl _ _ (w.heap.size + 2) 32 (reqC q (.slice qb mb cb) (.slice qa ma ca)) (0,0) _ rfl ZZ yA rfl zab _ _ rfl rfl) rfl ⟨BZ,?_⟩
        rw[hx]
        exact⟨_,_,_,_,_,_,rfl⟩
   ·have c50:=yE R0 15 (.slice q0 m0 c0) rfl
    try simp only[zA,zB,zC]
    rw[if_pos (by rfl)]
    go_simp
    refine hK.out _ _ trivial (fun h0=>?_)
    clear hK K
    try simp only[Act.put,zA,zB,zC,zD,zE,zF]
    refine zrd (i:=2) rfl (fun K hK=>?_)
    ·try simp only[zA,zB,zC]
     rw[if_pos (by rfl)]
     go_simp
     go_at_call 24
     refine(zbi (.slice qh mh ch) q.heads V0 (hh.below L0) hf.fit.h).mono ?_
     rintro e V1 ⟨hv9,rfl,hn9,k1⟩
     obtain⟨qa,ma,ca,rfl⟩:=hn9.flds.slice
     clear hn9
     have R1:=kept k1 R0
     have Y1:=kept k1 Y0
     have Z1:=kept k1 Z0
     have L1:=yD L0 k1
     refine hK.out _ _ trivial (fun h0=>?_)
     clear hK K
     try simp only[Act.put,zA,zB,zC,zD,zE,zF]
     refine tk (i:=7) (v:=?v11) rfl (Or.inl ⟨by rfl,?y11⟩) h0 ?r11
     case y11 =>
      intro W hW
      go_simp
      try with_reducible rfl
     simp only[Act.put,zA,zB,zC,zD,zE,zF]
     refine zrd (i:=6) rfl (fun K hK=>?_)
     ·try simp only[zA,zB,zC]
      rw[if_pos (by rfl)]
      go_simp
      go_at_call 82
      refine(zaO (.slice q0 m0 c0) q.url.path V1 (hp.below L1) hf.fit.u.np).mono ?_
      rintro e V2 ⟨pu9,rfl,ho9,k2⟩
      obtain⟨qb,mb,cb,rfl⟩:=(Strs.of_own ho9).slice
      clear ho9
      have R2:=kept k2 R1
      have Y2:=kept k2 Y1
      have Z2:=kept k2 Z1
      have L2:=yD L1 k2
      refine hK.out _ _ trivial (fun h0=>?_)
      clear hK K
      try simp only[Act.put,zA,zB,zC,zD,zE,zF]
      refine zrd (i:=8) rfl (fun K hK=>?_)
      ·have c82:=yE R2 22 (.slice qh mh ch) rfl
       have f82:=yF R2 22
       try simp only[zA,zB,zC]
       rw[if_pos (by rfl)]
       go_simp
       have R3:(V2.setCell ⟨w.heap.size,22,none⟩ (.slice qa ma ca)).heap[w.heap.size]? = some (.cells (reqC q (.slice q0 m0 c0) (.slice qa ma ca)) 32 (0,0)):=zap (i:=22) R2 _ rfl
       have Y3:=zam (i:=22) Y2 (by omega:w.heap.size + 3≠w.heap.size) (.slice qa ma ca)
       have Z3:=zam (i:=22) Z2 (by omega:w.heap.size + 2≠w.heap.size) (.slice qa ma ca)
       have L3:=L2.setCell (p:=⟨w.heap.size,22,none⟩) (yV _) (.slice qa ma ca)
       refine hK.out _ _ trivial (fun h0=>?_)
       clear hK K
       try simp only[Act.put,zA,zB,zC,zD,zE,zF]
       generalize V2.setCell ⟨w.heap.size,22,none⟩ (.slice qa ma ca)=V3 at R3 Y3 Z3 L3 ⊢
       refine tk (i:=9) (v:=?v12) rfl (Or.inl ⟨by rfl,?y12⟩) h0 ?r12
       case y12 =>
        intro W hW
        go_simp
        try with_reducible rfl
       simp only[Act.put,zA,zB,zC,zD,zE,zF]
       refine tk (i:=10) (v:=?v13) rfl (Or.inl ⟨by rfl,?y13⟩) h0 ?r13
       case y13 =>
        intro W hW
        go_simp
        try with_reducible rfl
       simp only[Act.put,zA,zB,zC,zD,zE,zF]
       refine zrd (i:=11) rfl (fun K hK=>?_)
       ·have c113:=yE R3 15 (.slice q0 m0 c0) rfl
        have f113:=yF R3 15
        try simp only[zA,zB,zC]
        rw[if_pos (by rfl)]
        go_simp
        have R4:(V3.setCell ⟨w.heap.size,15,none⟩ (.slice qb mb cb)).heap[w.heap.size]? = some (.cells (reqC q (.slice qb mb cb) (.slice qa ma ca)) 32 (0,0)):=zap (i:=15) R3 _ rfl
        have Y4:=zam (i:=15) Y3 (by omega:w.heap.size + 3≠w.heap.size) (.slice qb mb cb)
        have Z4:=zam (i:=15) Z3 (by omega:w.heap.size + 2≠w.heap.size) (.slice qb mb cb)
        have L4:=L3.setCell (p:=⟨w.heap.size,15,none⟩) (yV _) (.slice qb mb cb)
        refine hK.out _ _ trivial (fun h0=>?_)
        clear hK K
        try simp only[Act.put,zA,zB,zC,zD,zE,zF]
        generalize V3.setCell ⟨w.heap.size,15,none⟩ (.slice qb mb cb)=V4 at R4 Y4 Z4 L4 ⊢
        refine yX (by kernel_rfl) ?_ _
        go_wp2_with fail
        refine yQ (S:=fun W=>W.heap[w.heap.size]? = some (.cells (reqC q (.slice qb mb cb) (.slice qa ma ca)) 32 (0,0))∧W.heap[w.heap.size + 3]? = some (.cells #[.int .i64 x.2] 128 (0,0))) (by kernel_rfl) ⟨R4,Y4⟩ (fun h0=>?_)
        refine tk (i:=0) rfl (zaC w.heap.size q (.slice qb mb cb) (.slice qa ma ca) (by rfl) _ rfl rfl (fun W h=>h.1)) h0 ?_
        simp only[Act.put,zA,zB,zC,zD,zE,zF]
        refine tk (i:=1) (v:=?v14) rfl (Or.inl ⟨by rfl,?y14⟩) h0 ?r14
        case y14 =>
         intro W hW
         go_simp
         try with_reducible rfl
        simp only[Act.put,zA,zB,zC,zD,zE,zF]
        refine tk (i:=2) (v:=?v15) rfl (Or.inl ⟨by rfl,?y15⟩) h0 ?r15
        case y15 =>
         intro W hW
         have c:=yE hW.2 0 (.int .i64 x.2) rfl
         go_simp
         try with_reducible rfl
        simp only[Act.put,zA,zB,zC,zD,zE,zF]
        have RZ:=(yI V4.drew (w.heap.size + 2) (w.heap.size) (reqC q (.slice qb mb cb) (.slice qa ma ca)) (by omega)).trans R4
        have YZ:=(yI V4.drew (w.heap.size + 2) (w.heap.size + 3) (reqC q (.slice qb mb cb) (.slice qa ma ca)) (by omega)).trans Y4
        refine zrd (i:=3) rfl (fun K hK=>?_)
        try simp only[zA,zB,zC]
        rw[if_pos (by rfl)]
        refine wp_store_row 32 _ _ rfl (w.heap.size + 2) _ rfl rfl 32 _ (show V4.drew.heap[w.heap.size + 2]? = _ from Z4) zab rfl (by simp[Value.oneCell']) ?_
        refine hK.out _ _ ⟨RZ,YZ⟩ (fun h0=>?_)
        clear hK K
        try simp only[Act.put,zA,zB,zC,zD,zE,zF]
        refine tk (i:=4) (v:=?v16) rfl (Or.inl ⟨by rfl,?y16⟩) h0 ?r16
        case y16 =>
         intro W hW
         go_simp
         try with_reducible rfl
        simp only[Act.put,zA,zB,zC,zD,zE,zF]
        refine tk (i:=5) (v:=?v17) rfl (Or.inl ⟨by rfl,?y17⟩) h0 ?r17
        case y17 =>
         intro W hW
         go_simp
         try with_reducible rfl
        simp only[Act.put,zA,zB,zC,zD,zE,zF]
        refine yX (by kernel_rfl) ?_ _
        have ZZ:(V4.drew.setRow (w.heap.size + 2) (reqC q (.slice qb mb cb) (.slice qa ma ca))).heap[w.heap.size + 2]? = _:=yH _ _ _ (reqC q (.slice qb mb cb) (.slice qa ma ca)) _ _ (show V4.drew.heap[w.heap.size + 2]? = _ from Z4)
        have BZ:=yM (yD L4 (yR V4)) (by omega:w.heap.size≤w.heap.size + 2) (cs:=(reqC q (.slice qb mb cb) (.slice qa ma ca)))
        go_wp2
        refine yO (zbs rfl _ _ (w.heap.size + 2) 32 (reqC q (.slice qb mb cb) (.slice qa ma ca)) (0,0) _ rfl ZZ yA rfl zab _ _ rfl rfl) rfl ⟨BZ,?_⟩
        rw[hx]
        exact⟨_,_,_,_,_,_,rfl⟩
  ·have c50:=yE R0 15 (.slice q0 m0 c0) rfl
   try simp only[zA,zB,zC]
   rw[if_pos (by rfl)]
   go_simp
   refine hK.out _ _ trivial (fun h0=>?_)
   clear hK K
   try simp only[Act.put,zA,zB,zC,zD,zE,zF]
   refine zrd (i:=1) rfl (fun K hK=>?_)
   ·have c10:=yE R0 22 (.slice qh mh ch) rfl
    try simp only[zA,zB,zC]
    rw[if_pos (by rfl)]
    go_simp
    refine hK.out _ _ trivial (fun h0=>?_)
    clear hK K
    try simp only[Act.put,zA,zB,zC,zD,zE,zF]
    refine zrd (i:=2) rfl (fun K hK=>?_)
    ·try simp only[zA,zB,zC]
     rw[if_pos (by rfl)]
     go_simp
     go_at_call 24
     refine(zbi (.slice qh mh ch) q.heads V0 (hh.below L0) hf.fit.h).mono ?_
     rintro e V1 ⟨hv9,rfl,hn9,k1⟩
     obtain⟨qa,ma,ca,rfl⟩:=hn9.flds.slice
     clear hn9
     have R1:=kept k1 R0
     have Y1:=kept k1 Y0
     have Z1:=kept k1 Z0
     have L1:=yD L0 k1
     refine hK.out _ _ trivial (fun h0=>?_)
     clear hK K
     try simp only[Act.put,zA,zB,zC,zD,zE,zF]
     refine tk (i:=7) (v:=?v18) rfl (Or.inl ⟨by rfl,?y18⟩) h0 ?r18
     case y18 =>
      intro W hW
      go_simp
      try with_reducible rfl
     simp only[Act.put,zA,zB,zC,zD,zE,zF]
     refine zrd (i:=6) rfl (fun K hK=>?_)
     ·try simp only[zA,zB,zC]
      rw[if_pos (by rfl)]
      go_simp
      go_at_call 82
      refine(zaO (.slice q0 m0 c0) q.url.path V1 (hp.below L1) hf.fit.u.np).mono ?_
      rintro e V2 ⟨pu9,rfl,ho9,k2⟩
      obtain⟨qb,mb,cb,rfl⟩:=(Strs.of_own ho9).slice
      clear ho9
      have R2:=kept k2 R1
      have Y2:=kept k2 Y1
      have Z2:=kept k2 Z1
      have L2:=yD L1 k2
      refine hK.out _ _ trivial (fun h0=>?_)
      clear hK K
      try simp only[Act.put,zA,zB,zC,zD,zE,zF]
      refine zrd (i:=8) rfl (fun K hK=>?_)
      ·have c82:=yE R2 22 (.slice qh mh ch) rfl
       have f82:=yF R2 22
       try simp only[zA,zB,zC]
       rw[if_pos (by rfl)]
       go_simp
       have R3:(V2.setCell ⟨w.heap.size,22,none⟩ (.slice qa ma ca)).heap[w.heap.size]? = some (.cells (reqC q (.slice q0 m0 c0) (.slice qa ma ca)) 32 (0,0)):=zap (i:=22) R2 _ rfl
       have Y3:=zam (i:=22) Y2 (by omega:w.heap.size + 3≠w.heap.size) (.slice qa ma ca)
       have Z3:=zam (i:=22) Z2 (by omega:w.heap.size + 2≠w.heap.size) (.slice qa ma ca)
       have L3:=L2.setCell (p:=⟨w.heap.size,22,none⟩) (yV _) (.slice qa ma ca)
       refine hK.out _ _ trivial (fun h0=>?_)
       clear hK K
       try simp only[Act.put,zA,zB,zC,zD,zE,zF]
       generalize V2.setCell ⟨w.heap.size,22,none⟩ (.slice qa ma ca)=V3 at R3 Y3 Z3 L3 ⊢
       refine tk (i:=9) (v:=?v19) rfl (Or.inl ⟨by rfl,?y19⟩) h0 ?r19
       case y19 =>
        intro W hW
        go_simp
        try with_reducible rfl
       simp only[Act.put,zA,zB,zC,zD,zE,zF]
       refine tk (i:=10) (v:=?v20) rfl (Or.inl ⟨by rfl,?y20⟩) h0 ?r20
       case y20 =>
        intro W hW
        go_simp
        try with_reducible rfl
       simp only[Act.put,zA,zB,zC,zD,zE,zF]
       refine zrd (i:=11) rfl (fun K hK=>?_)
       ·have c113:=yE R3 15 (.slice q0 m0 c0) rfl
        have f113:=yF R3 15
        try simp only[zA,zB,zC]
        rw[if_pos (by rfl)]
        go_simp
        have R4:(V3.setCell ⟨w.heap.size,15,none⟩ (.slice qb mb cb)).heap[w.heap.size]? = some (.cells (reqC q (.slice qb mb cb) (.slice qa ma ca)) 32 (0,0)):=zap (i:=15) R3 _ rfl
        have Y4:=zam (i:=15) Y3 (by omega:w.heap.size + 3≠w.heap.size) (.slice qb mb cb)
        have Z4:=zam (i:=15) Z3 (by omega:w.heap.size + 2≠w.heap.size) (.slice qb mb cb)
        have L4:=L3.setCell (p:=⟨w.heap.size,15,none⟩) (yV _) (.slice qb mb cb)
        refine hK.out _ _ trivial (fun h0=>?_)
        clear hK K
        try simp only[Act.put,zA,zB,zC,zD,zE,zF]
        generalize V3.setCell ⟨w.heap.size,15,none⟩ (.slice qb mb cb)=V4 at R4 Y4 Z4 L4 ⊢
        refine yX (by kernel_rfl) ?_ _
        go_wp2_with fail
        refine yQ (S:=fun W=>W.heap[w.heap.size]? = some (.cells (reqC q (.slice qb mb cb) (.slice qa ma ca)) 32 (0,0))∧W.heap[w.heap.size + 3]? = some (.cells #[.int .i64 x.2] 128 (0,0))) (by kernel_rfl) ⟨R4,Y4⟩ (fun h0=>?_)
        refine tk (i:=0) rfl (zaC w.heap.size q (.slice qb mb cb) (.slice qa ma ca) (by rfl) _ rfl rfl (fun W h=>h.1)) h0 ?_
        simp only[Act.put,zA,zB,zC,zD,zE,zF]
        refine tk (i:=1) (v:=?v21) rfl (Or.inl ⟨by rfl,?y21⟩) h0 ?r21
        case y21 =>
         intro W hW
         go_simp
         try with_reducible rfl
        simp only[Act.put,zA,zB,zC,zD,zE,zF]
        refine tk (i:=2) (v:=?v22) rfl (Or.inl ⟨by rfl,?y22⟩) h0 ?r22
        case y22 =>
         intro W hW
         have c:=yE hW.2 0 (.int .i64 x.2) rfl
         go_simp
         try with_reducible rfl
        simp only[Act.put,zA,zB,zC,zD,zE,zF]
        have RZ:=(yI V4.drew (w.heap.size + 2) (w.heap.size) (reqC q (.slice qb mb cb) (.slice qa ma ca)) (by omega)).trans R4
        have YZ:=(yI V4.drew (w.heap.size + 2) (w.heap.size + 3) (reqC q (.slice qb mb cb) (.slice qa ma ca)) (by omega)).trans Y4
        refine zrd (i:=3) rfl (fun K hK=>?_)
        try simp only[zA,zB,zC]
        rw[if_pos (by rfl)]
        refine wp_store_row 32 _ _ rfl (w.heap.size + 2) _ rfl rfl 32 _ (show V4.drew.heap[w.heap.size + 2]? = _ from Z4) zab rfl (by simp[Value.oneCell']) ?_
        refine hK.out _ _ ⟨RZ,YZ⟩ (fun h0=>?_)
        clear hK K
        try simp only[Act.put,zA,zB,zC,zD,zE,zF]
        refine tk (i:=4) (v:=?v23) rfl (Or.inl ⟨by rfl,?y23⟩) h0 ?r23
        case y23 =>
         intro W hW
         go_simp
         try with_reducible rfl
        simp only[Act.put,zA,zB,zC,zD,zE,zF]
        refine tk (i:=5) (v:=?v24) rfl (Or.inl ⟨by rfl,?y24⟩) h0 ?r24
        case y24 =>
         intro W hW
         go_simp
         try with_reducible rfl
        simp only[Act.put,zA,zB,zC,zD,zE,zF]
        refine yX (by kernel_rfl) ?_ _
        have ZZ:(V4.drew.setRow (w.heap.size + 2) (reqC q (.slice qb mb cb) (.slice qa ma ca))).heap[w.heap.size + 2]? = _:=yH _ _ _ (reqC q (.slice qb mb cb) (.slice qa ma ca)) _ _ (show V4.drew.heap[w.heap.size + 2]? = _ from Z4)
        have BZ:=yM (yD L4 (yR V4)) (by omega:w.heap.size≤w.heap.size + 2) (cs:=(reqC q (.slice qb mb cb) (.slice qa ma ca)))
        go_wp2
        refine yO (zbs rfl _ _ (w.heap.size + 2) 32 (reqC q (.slice qb mb cb) (.slice qa ma ca)) (0,0) _ rfl ZZ yA rfl zab _ _ rfl rfl) rfl ⟨BZ,?_⟩
        rw[hx]
        exact⟨_,_,_,_,_,_,rfl⟩
end Go.Proofs.YtdlkjofnnefjfaaGreatDoor
