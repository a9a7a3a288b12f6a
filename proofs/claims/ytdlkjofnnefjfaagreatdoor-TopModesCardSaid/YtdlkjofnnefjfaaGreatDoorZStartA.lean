/- chain.Start. Structs in blocks, inside a fence: the laws of a load and of a store. -/
import Derived.Test.YtdlkjofnnefjfaaGreatDoorZShort
import Derived.Test.YtdlkjofnnefjfaaGreatDoorZStepA
set_option linter.all false
namespace Go.Proofs.YtdlkjofnnefjfaaGreatDoor
set_option maxRecDepth 100000
section
open Go.RowKit
def zaR (q:Req) (u:Url):Req:={ q with url:=u,tainted:=false,cross:=false,count:=0 }
def startR (raw:ByteArray) (q:Req):Option Req×Int:=match parseR raw with
 | none=>(none,2)
 | some u=>if webU u=false then (none,2) else if mayR (zaR q u)=false then (none,1) else (some (zaR q u),0)
def zfL (o:Option Req×Int) (w:World) (e:Ending) (w':World):Prop :=
 Below w.heap.size w w'∧match o.1 with
  | none=>e=.returned (.tuple #[.agg (reqC req0 (.slice none 0 0) (.slice none 0 0)),.int .i64 o.2])
  | some x=>∃ pu' hv',e=.returned (.tuple #[.agg (reqC x pu' hv'),.int .i64 0])∧w'.ownsRow w.heap.size 9 1 pu' x.url.path.length (x.url.path.map Value.string)∧FldsN w.heap.size w' hv' x.heads
structure Starts (raw:ByteArray) (q:Req):Prop where
 rs:raw.size≤100000
 fit:q.Fits
 uf:∀ u,parseR raw=some u→u.Fits
theorem zcG {w:World} {g o:Nat} {T e:TypeId} {old:Array Value} {vs:List Value} (hX:w.heap[g]? = some (.cells old T (0,0))) (hT:T≠e):∀ (k:Nat) (c:Array Value),w.heap[k]? = some (.cells c e (0,0))→(w.setCells g o vs).heap[k]? = w.heap[k]?:=by
 intro k c hk
 refine zaH _ _ _ _ ?_
 rintro rfl
 rw[hX] at hk
 cases hk
 exact hT rfl
set_option maxHeartbeats 4000000 in
theorem zd6 (raw:ByteArray) (q:Req) (pu hv:Value) (w:World) (G:Glob w) (hh:Flds w hv q.heads) (hpu:∃ a b c,pu=.slice a b c) (hf:Starts raw q) :
  Calls Tryz.prog 8 #[.string raw,.agg (reqC q pu hv)] w (zfL (startR raw q) w):=by
 obtain⟨q0,m0,c0,rfl⟩:=hpu
 obtain⟨qh,mh,ch,rfl⟩:=hh.slice
 have R0:=row2a w (.cells (reqC q (.slice q0 m0 c0) (.slice qh mh ch)) 32) (.cells (reqC req0 (.slice none 0 0) (.slice none 0 0)) 32)
 have Z0:=row2b w (.cells (reqC q (.slice q0 m0 c0) (.slice qh mh ch)) 32) (.cells (reqC req0 (.slice none 0 0) (.slice none 0 0)) 32)
 have B0:=bel2 w (.cells (reqC q (.slice q0 m0 c0) (.slice qh mh ch)) 32) (.cells (reqC req0 (.slice none 0 0) (.slice none 0 0)) 32)
 have HX:Hid (startR raw q=_):=startR.eq_1 raw q
 obtain⟨z,hz⟩:∃ z,z=startR raw q:=⟨_,rfl⟩
 rw[← hz] at HX ⊢
 clear hz
 have HP:=Lib.hid (urlParse_any raw _ (G.below B0) hf.rs)
 obtain⟨po,hpo⟩:∃ po,po=parseR raw:=⟨_,rfl⟩
 rw[← hpo] at HX HP
 go_enter Tryz.func8,Tryz.ntmps8
 go_wp2_with fail
 refine HP.out.mono ?_
 rintro e w1 ⟨b1,he⟩
 have R1:=kept b1 R0
 have Z1:=kept b1 Z0
 have B1:=yD B0 b1
 have hu1:w.heap.size + 1 < w1.heap.size:=yS Z1
 clear HP
 cases po with
 | none =>
  have HZ:Hid (z=(none,2)):=HX.out
  obtain rfl:e=_:=he
  clear HX hpo
  have A1:=row1 w1 (.cells (urlC url0 (.slice none 0 0)) 27)
  have k1:=bel1 w1 (.cells (urlC url0 (.slice none 0 0)) 27)
  have A2:=yH _ _ _ (urlC url0 (.slice none 0 0)) _ _ A1
  have b2:Below w1.heap.size w1 ((w1.alloc (.cells (urlC url0 (.slice none 0 0)) 27)).setRow w1.heap.size (urlC url0 (.slice none 0 0))):=yM k1 (yV _)
  obtain⟨W2,hW2⟩:∃ W2,(w1.alloc (.cells (urlC url0 (.slice none 0 0)) 27)).setRow w1.heap.size (urlC url0 (.slice none 0 0))=W2:=⟨_,rfl⟩
  have HW2:=Lib.hid hW2
  rw[hW2] at A2 b2
  clear hW2
  have R2:=kept b2 R1
  have Z2:=kept b2 Z1
  have B2:=yD B1 b2
  have hu2:w1.heap.size < W2.heap.size:=yS A2
  go_wp2_with (first|((with_reducible (show wpList _ _ _ (Oper.mk none (.store 27 (.tmp 6) _) _ _ _ none::_) _ _));refine zag rfl 27 _ _ rfl w1.heap.size (urlC url0 (.slice none 0 0)) rfl rfl 27 _ A1 yN rfl (by simp[Value.oneCell']) W2 HW2.out ?_)|((with_reducible (show wpList _ _ _ (Oper.mk none (.store 32 (.tmp 4) _) _ _ _ none::_) _ _));refine yJ rfl 32 _ _ rfl (w.heap.size + 1) _ rfl rfl 32 _ Z2 zab rfl (by simp[Value.oneCell']) ?_))
  rw[HZ.out]
  exact yO (results_row_tmp rfl _ _ (w.heap.size + 1) 32 (reqC req0 (.slice none 0 0) (.slice none 0 0)) (0,0) _ rfl (yH _ _ _ _ _ _ Z2) yA rfl zab _ rfl) rfl ⟨yM B2 (by omega),rfl⟩
 | some u =>
  have hu:=hf.uf u hpo.symm
  obtain⟨pn,rfl,o1⟩:=he
  obtain⟨qn,mn,cn,rfl⟩:=(Strs.of_own o1).slice
  have o1:=own_base o1 B0.size
  clear hpo
  have HX2:Hid (z=if webU u=false then (none,2) else if mayR (zaR q u)=false then (none,1) else (some (zaR q u),0)):=HX.out
  clear HX
  have A1:=row1 w1 (.cells (urlC url0 (.slice none 0 0)) 27)
  have k1:=bel1 w1 (.cells (urlC url0 (.slice none 0 0)) 27)
  have A2:=yH _ _ _ (urlC u (.slice qn mn cn)) _ _ A1
  have b2:Below w1.heap.size w1 ((w1.alloc (.cells (urlC url0 (.slice none 0 0)) 27)).setRow w1.heap.size (urlC u (.slice qn mn cn))):=yM k1 (yV _)
  obtain⟨W2,hW2⟩:∃ W2,(w1.alloc (.cells (urlC url0 (.slice none 0 0)) 27)).setRow w1.heap.size (urlC u (.slice qn mn cn))=W2:=⟨_,rfl⟩
  have HW2:=Lib.hid hW2
  rw[hW2] at A2 b2
  clear hW2
  have R2:=kept b2 R1
  have Z2:=kept b2 Z1
  have B2:=yD B1 b2
  have hu2:w1.heap.size < W2.heap.size:=yS A2
  have O2:=zaz o1 b2
  have HW:=Lib.hid (zdx u (.slice qn mn cn) W2 (G.below B2) (Strs.of_own O2) hu)
  go_wp2_with (first|((with_reducible (show wpList _ _ _ (Oper.mk none (.store 27 (.tmp 6) _) _ _ _ none::_) _ _));refine zag rfl 27 _ _ rfl w1.heap.size (urlC u (.slice qn mn cn)) rfl rfl 27 _ A1 yN rfl (by simp[Value.oneCell']) W2 HW2.out ?_)|((with_reducible (show wpList _ _ _ (Oper.mk _ (.load 27 (.tmp 6)) _ _ _ _::_) _ _));refine zaa (by rfl) 27 _ rfl w1.heap.size 0 rfl (urlC u (.slice qn mn cn)) _ (zac A2) yB rfl yN ?_))
  refine HW.out.mono ?_
  rintro e w3 ⟨rfl,b3⟩
  have R3:=kept b3 R2
  have Z3:=kept b3 Z2
  have A3:=kept b3 A2
  have B3:=yD B2 b3
  have O3:=zaz O2 b3
  clear HW
  cases hwe:webU u with
  | false =>
   have HZ:Hid (z=(none,2)):=by show _=_;rw[HX2.out,if_pos hwe]
   clear HX2 hwe O3 O2 o1
   go_wp2_with (first|((with_reducible (show wpList _ _ _ (Oper.mk none (.store 32 (.tmp 4) _) _ _ _ none::_) _ _));refine yJ rfl 32 _ _ rfl (w.heap.size + 1) _ rfl rfl 32 _ Z3 zab rfl (by simp[Value.oneCell']) ?_))
   rw[HZ.out]
   exact yO (results_row_tmp rfl _ _ (w.heap.size + 1) 32 (reqC req0 (.slice none 0 0) (.slice none 0 0)) (0,0) _ rfl (yH _ _ _ _ _ _ Z3) yA rfl zab _ rfl) rfl ⟨yM B3 (by omega),rfl⟩
  | true =>
   have HX3:=Lib.hid (HX2.out.trans (if_neg (by rw[hwe];decide)))
   clear HX2 hwe O2 o1
   go_wp2_with fail
   have R4:w3.drew.heap[w.heap.size]? = _:=R3
   have Z4:w3.drew.heap[w.heap.size + 1]? = _:=Z3
   have L4:=yD B3 (yR w3)
   have A4:w3.drew.heap[w1.heap.size]? = _:=A3
   have O4:w3.drew.ownsRow w.heap.size 9 1 (.slice qn mn cn) u.path.length (u.path.map Value.string):=zaz O3 (yR w3)
   refine yQ (S:=fun W=>W.heap[w1.heap.size]? = some (.cells (urlC u (.slice qn mn cn)) 27 (0,0))) (by kernel_rfl) A3 (fun h0=>?_)
   obtain⟨V4,hV4⟩:∃ V,w3.drew=V:=⟨_,rfl⟩
   rw[hV4] at R4 Z4 L4 A4 O4
   simp only[hV4] at h0 ⊢
   clear hV4
   refine tk (i:=0) rfl (zao w1.heap.size 0 u (.slice qn mn cn) (by rfl) _ rfl rfl (fun W h=>zae h 0 _ rfl)) h0 ?_
   simp only[Act.put,zA,zB,zC,zD,zE,zF]
   refine tk (i:=1) (v:=?v1) rfl (Or.inl ⟨by rfl,?y1⟩) h0 ?r1
   case y1 =>
    intro W hW
    go_simp
    try with_reducible rfl
   simp only[Act.put,zA,zB,zC,zD,zE,zF]
   have c22:=yE R4 22 (.slice qh mh ch) rfl
   refine zrd (i:=2) rfl (fun K hK=>?_)
   try simp only[zA,zB,zC]
   rw[if_pos (by rfl)]
   go_simp
   refine hK.out _ _ A4 (fun h0=>?_)
   clear hK K
   try simp only[Act.put,zA,zB,zC,zD,zE,zF]
   refine tk (i:=4) (v:=?v2) rfl (Or.inl ⟨by rfl,?y2⟩) h0 ?r2
   case y2 =>
    intro W hW
    go_simp
    try with_reducible rfl
   simp only[Act.put,zA,zB,zC,zD,zE,zF]
   refine zrd (i:=3) rfl (fun K hK=>?_)
   try simp only[zA,zB,zC]
   rw[if_pos (by rfl)]
   go_simp
   go_at_call 24
   refine(zbi (.slice qh mh ch) q.heads V4 (hh.below L4) hf.fit.h).mono ?_
   rintro e V5 ⟨hv9,rfl,hn9,k5⟩
   obtain⟨qa,ma,ca,rfl⟩:=hn9.flds.slice
   have A5:=kept k5 A4
   refine hK.out _ _ A5 (fun h0=>?_)
   clear hK K
   try simp only[Act.put,zA,zB,zC,zD,zE,zF]
   have R5:=kept k5 R4
   have Z5:=kept k5 Z4
   have L5:=yD L4 k5
   have O5:=zaz O4 k5
   have N5:=hn9.base (B':=w.heap.size) L4.size
   clear c22 hn9
   have R6:(V5.setCells w.heap.size 0 (urlC u (.slice qn mn cn)).toList).heap[w.heap.size]? = some (.cells (reqC { q with url:=u } (.slice qn mn cn) (.slice qh mh ch)) 32 (0,0)):=by rw[← zcb];exact setCells_row _ _ _ _ _ _ R5
   have A6:=(zaH (urlC u (.slice qn mn cn)).toList w.heap.size 0 V5 (by omega:w1.heap.size≠w.heap.size)).trans A5
   have Z6:=(zaH (urlC u (.slice qn mn cn)).toList w.heap.size 0 V5 (by omega:w.heap.size + 1≠w.heap.size)).trans Z5
   have L6:=setCells_below w.heap.size w.heap.size (yV _) (urlC u (.slice qn mn cn)).toList 0 _ _ L5
   have O6:=zaA O5 (zcG (o:=0) (vs:=(urlC u (.slice qn mn cn)).toList) R5 (by decide))
   have N6:=N5.other (zcG (o:=0) (vs:=(urlC u (.slice qn mn cn)).toList) R5 (by decide))
   refine zrd (i:=5) rfl (fun K hK=>?_)
   try simp only[zA,zB,zC]
   rw[if_pos (by rfl)]
   refine wp_store_mid 27 _ _ rfl w.heap.size 0 (urlC u (.slice qn mn cn)) rfl rfl (there_row R5 (by simp[urlC])) yN (by simp[Value.oneCell']) ?_
   refine hK.out _ _ A6 (fun h0=>?_)
   clear hK K
   try simp only[Act.put,zA,zB,zC,zD,zE,zF]
   generalize V5.setCells w.heap.size 0 (urlC u (.slice qn mn cn)).toList=V6 at R6 A6 Z6 L6 O6 N6 h0 ⊢
   refine tk (i:=6) (v:=?v3) rfl (Or.inl ⟨by rfl,?y3⟩) h0 ?r3
   case y3 =>
    intro W hW
    go_simp
    try with_reducible rfl
   simp only[Act.put,zA,zB,zC,zD,zE,zF]
   have d22:=yE R6 22 (.slice qh mh ch) rfl
   have f22:=yF R6 22
   have R7:(V6.setCell ⟨w.heap.size,22,none⟩ (.slice qa ma ca)).heap[w.heap.size]? = some (.cells (reqC { q with url:=u } (.slice qn mn cn) (.slice qa ma ca)) 32 (0,0)):=zap (i:=22) R6 _ rfl
   have A7:=zam (i:=22) A6 (by omega:w1.heap.size≠w.heap.size) (.slice qa ma ca)
   have Z7:=zam (i:=22) Z6 (by omega:w.heap.size + 1≠w.heap.size) (.slice qa ma ca)
   have L7:=L6.setCell (p:=⟨w.heap.size,22,none⟩) (yV _) (.slice qa ma ca)
   have O7:=zaA O6 (zaG (j:=22) (v:=.slice qa ma ca) R6 (by decide))
   have N7:=N6.other (zaG (j:=22) (v:=.slice qa ma ca) R6 (by decide))
   refine zrd (i:=7) rfl (fun K hK=>?_)
   try simp only[zA,zB,zC]
   rw[if_pos (by rfl)]
   go_simp
   refine hK.out _ _ A7 (fun h0=>?_)
   clear hK K
   try simp only[Act.put,zA,zB,zC,zD,zE,zF]
   generalize V6.setCell ⟨w.heap.size,22,none⟩ (.slice qa ma ca)=V7 at R7 A7 Z7 L7 O7 N7 h0 ⊢
   refine yX (by kernel_rfl) ?_ _
   have d44:=yE R7 44 (.int .i64 q.count) rfl
   have f44:=yF R7 44
   have R8:(V7.setCell ⟨w.heap.size,44,none⟩ (.int .i64 0)).heap[w.heap.size]? = some (.cells (reqC ({ q with url:=u,count:=0 }) (.slice qn mn cn) (.slice qa ma ca)) 32 (0,0)):=zap (i:=44) R7 _ rfl
   have Z8:=zam (i:=44) Z7 (by omega:w.heap.size + 1≠w.heap.size) (.int .i64 0)
   have L8:=L7.setCell (p:=⟨w.heap.size,44,none⟩) (yV _) (.int .i64 0)
   have O8:=zaA O7 (zaG (j:=44) (v:=.int .i64 0) R7 (by decide))
   have N8:=N7.other (zaG (j:=44) (v:=.int .i64 0) R7 (by decide))
   have d42:=yE R8 42 (.bool q.tainted) rfl
   have f42:=yF R8 42
   have R9:((V7.setCell ⟨w.heap.size,44,none⟩ (.int .i64 0)).setCell ⟨w.heap.size,42,none⟩ (.bool false)).heap[w.heap.size]? = some (.cells (reqC ({ q with url:=u,count:=0,tainted:=false }) (.slice qn mn cn) (.slice qa ma ca)) 32 (0,0)):=zap (i:=42) R8 _ rfl
   have Z9:=zam (i:=42) Z8 (by omega:w.heap.size + 1≠w.heap.size) (.bool false)
   have L9:=L8.setCell (p:=⟨w.heap.size,42,none⟩) (yV _) (.bool false)
   have O9:=zaA O8 (zaG (j:=42) (v:=.bool false) R8 (by decide))
   have N9:=N8.other (zaG (j:=42) (v:=.bool false) R8 (by decide))
   have d43:=yE R9 43 (.bool q.cross) rfl
   have f43:=yF R9 43
   have R10:(((V7.setCell ⟨w.heap.size,44,none⟩ (.int .i64 0)).setCell ⟨w.heap.size,42,none⟩ (.bool false)).setCell ⟨w.heap.size,43,none⟩ (.bool false)).heap[w.heap.size]? = some (.cells (reqC (zaR q u) (.slice qn mn cn) (.slice qa ma ca)) 32 (0,0)):=zap (i:=43) R9 _ rfl
   have Z10:=zam (i:=43) Z9 (by omega:w.heap.size + 1≠w.heap.size) (.bool false)
   have L10:=L9.setCell (p:=⟨w.heap.size,43,none⟩) (yV _) (.bool false)
   have O10:=zaA O9 (zaG (j:=43) (v:=.bool false) R9 (by decide))
   have N10:=N9.other (zaG (j:=43) (v:=.bool false) R9 (by decide))
   have hfx:(zaR q u).Fits:=⟨hu,hf.fit.m,hf.fit.h,hf.fit.o,hf.fit.rf⟩
   have HM:=Lib.hid (zdn (zaR q u) (.slice qn mn cn) (.slice qa ma ca) _ (G.below L10) (Strs.of_own O10) N10.flds hfx)
   obtain⟨x,hx⟩:∃ x,x=zaR q u:=⟨_,rfl⟩
   have O10':World.ownsRow (((V7.setCell ⟨w.heap.size,44,none⟩ (.int .i64 0)).setCell ⟨w.heap.size,42,none⟩ (.bool false)).setCell ⟨w.heap.size,43,none⟩ (.bool false)) w.heap.size 9 1 (.slice qn mn cn) x.url.path.length (x.url.path.map Value.string):=by rw[hx];exact O10
   have N10':FldsN w.heap.size (((V7.setCell ⟨w.heap.size,44,none⟩ (.int .i64 0)).setCell ⟨w.heap.size,42,none⟩ (.bool false)).setCell ⟨w.heap.size,43,none⟩ (.bool false)) (.slice qa ma ca) x.heads:=by rw[hx];exact N10
   rw[← hx] at R10 HM HX3
   clear hx O10 N10 O9 N9 O8 N8 O7 N7 O6 N6 O5 N5
   go_wp2_with (first|((with_reducible (show wpList _ _ _ (Oper.mk _ (.load 32 (.tmp 3)) _ _ _ _::_) _ _));refine zaa (by rfl) 32 _ rfl w.heap.size 0 rfl (reqC x (.slice qn mn cn) (.slice qa ma ca)) _ (zac R10) yA rfl zab ?_))
   refine HM.out.mono ?_
   rintro e w11 ⟨rfl,b11⟩
   have R11:=kept b11 R10
   have Z11:=kept b11 Z10
   have B11:=yD L10 b11
   have O11:=zaz O10' b11
   have N11:=N10'.kept b11
   clear HM O10' N10'
   cases hmy:mayR x with
   | false =>
    have HZ:Hid (z=(none,1)):=by show _=_;rw[HX3.out,if_pos hmy]
    clear HX3 hmy O11 N11
    go_wp2_with (first|((with_reducible (show wpList _ _ _ (Oper.mk none (.store 32 (.tmp 4) _) _ _ _ none::_) _ _));refine yJ rfl 32 _ _ rfl (w.heap.size + 1) _ rfl rfl 32 _ Z11 zab rfl (by simp[Value.oneCell']) ?_))
    rw[HZ.out]
    exact yO (results_row_tmp rfl _ _ (w.heap.size + 1) 32 (reqC req0 (.slice none 0 0) (.slice none 0 0)) (0,0) _ rfl (yH _ _ _ _ _ _ Z11) yA rfl zab _ rfl) rfl ⟨yM B11 (by omega),rfl⟩
   | true =>
    have HZ:Hid (z=(some x,0)):=by show _=_;rw[HX3.out,if_neg (by rw[hmy];decide)]
    clear HX3 hmy
    have HF:=Lib.hid (And.intro (zaA O11 (zay (cs:=(reqC x (.slice qn mn cn) (.slice qa ma ca))) Z11 (by decide))) (N11.other (zay (cs:=(reqC x (.slice qn mn cn) (.slice qa ma ca))) Z11 (by decide))))
    clear O11 N11
    go_wp2_with (first|((with_reducible (show wpList _ _ _ (Oper.mk _ (.load 32 (.tmp 3)) _ _ _ _::_) _ _));refine zaa (by rfl) 32 _ rfl w.heap.size 0 rfl (reqC x (.slice qn mn cn) (.slice qa ma ca)) _ (zac R11) yA rfl zab ?_)|((with_reducible (show wpList _ _ _ (Oper.mk none (.store 32 (.tmp 4) _) _ _ _ none::_) _ _));refine yJ rfl 32 _ _ rfl (w.heap.size + 1) _ rfl rfl 32 _ Z11 zab rfl (by simp[Value.oneCell']) ?_))
    rw[HZ.out]
    exact yO (results_row_tmp rfl _ _ (w.heap.size + 1) 32 (reqC x (.slice qn mn cn) (.slice qa ma ca)) (0,0) _ rfl (yH _ _ _ _ _ _ Z11) yA rfl zab _ rfl) rfl ⟨yM B11 (by omega),_,_,rfl,HF.out.1,HF.out.2⟩
end
section
open Go.RowKit Go.Shelf
theorem zar {Fc:Fence} {n:Nat} {ops:Array Oper} {rest:List Oper} {o:Oper} {a:Act} {w:World} {Q:Exit→Act→World→Prop} (hw:Region.wanted o (yielded ops a.tmps)=true) (ty:TypeId) (x:Operand) (ho:o.op=.load ty x)
  (b off:Nat) (hx:a.eval x=.pointer (some ⟨b,off,none⟩)) (cs:Array Value) (d:TypeDesc) (hr:w.rangeAt b off cs.toList)
  (hu:Tryz.prog.underlying ty=some d) (hd:d.isRow=true) (hi:(Tryz.prog.info? ty).map (·.size)=some cs.size)
  (h:wpListIn Fc n Tryz.prog ops Q rest (a.put o.dst (.agg cs)) w):wpListIn Fc n Tryz.prog ops Q (o::rest) a w:=by
 refine BigFrame.wpListIn_want hw fun K hK=>⟨fun f hf=>?_,?_⟩
 ·simp[Oper.about,ho] at hf
 ·rw[Oper.semAt_eq _ _ _ (by simp[ho])]
  unfold execOp
  simp only[ho,hx,Instr.loadAt,Instr.sureAddr,Sem.run_bind,Sem.run_pure,Result.andThen_ok,run_loadVar_mid w b off ty cs.toList d hr hu hd (by rw[hi];simp)]
  exact hK _ _ (by simpa using h)
theorem zah {Fc:Fence} {n:Nat} {ops:Array Oper} {rest:List Oper} {o:Oper} {a:Act} {w:World} {Q:Exit→Act→World→Prop} (hgd:o.guard=none) (ty:TypeId) (x y:Operand) (ho:o.op=.store ty x y)
  (g:Nat) (cells:Array Value) (hx:a.eval x=.pointer (some ⟨g,0,none⟩)) (hy:a.eval y=.agg cells)
  (t:TypeId) (old:Array Value) (hg:w.heap[g]? = some (.cells old t (0,0))) (hi:(Tryz.prog.info? ty).map (·.size)=some cells.size)
  (hold:old.size=cells.size) (h1:cells.all (·.oneCell')=true) (W:World) (hW:w.setRow g cells=W)
  (h:wpListIn Fc n Tryz.prog ops Q rest (a.put o.dst undef) W):wpListIn Fc n Tryz.prog ops Q (o::rest) a w:=by
 subst hW
 refine wpListIn_plain hgd fun K hK=>⟨fun f hf=>?_,?_⟩
 ·simp[Oper.about,ho] at hf
 ·rw[Oper.semAt_eq _ _ _ (by simp[ho])]
  unfold execOp
  simp only[ho,hx,hy,Instr.storeAt,Instr.sureAddr,Sem.run_bind,Sem.run_pure,Result.andThen_ok,run_storeVar_row w g t ty old cells hg hi hold h1]
  exact hK _ _ h
def Resps (w:World) (v:Value) (l:List (Int×ByteArray)):Prop :=
 ∃ q cap,v=.slice q l.length cap∧l.length≤maxLen∧∀ j,j < l.length→∃ b off,q=some ⟨b,off,none⟩∧b < w.heap.size∧w.rangeAt b (off + j * 2) (zbu (l.getD j (0,⟨#[]⟩)).1 (l.getD j (0,⟨#[]⟩)).2).toList
def goR:Req→List (Int×ByteArray)→List Req×Int×Int
 | _,[]=>([],9,0)
 | x,r::l=>match stepR x r.1 r.2 with
  | (none,e)=>([],e,if e=0 then r.1 else 0)
  | (some y,_)=>(y::(goR y l).1,(goR y l).2)
def chainR (raw:ByteArray) (q:Req) (l:List (Int×ByteArray)):List Req×Int×Int:=match startR raw q with
 | (none,e)=>([],e,0)
 | (some x,_)=>(x::(goR x l).1,(goR x l).2)
def zbR:Req→List (Int×ByteArray)→Prop
 | _,[]=>True
 | x,r::l=>Follows x r.2∧∀ y n,stepR x r.1 r.2=(some y,n)→zbR y l
def Has (F:World→Nat→Prop) (W:World) (b:Nat) (o:Obj):Prop:=W.heap[b]? = some o∧¬ F W b
theorem Has.turn {F:World→Nat→Prop} {A B:World} {b:Nat} {o:Obj} (h:Has F A b o) (t:Turns F A B):Has F B b o :=
 ⟨(t.2.1 b (yS h.1) h.2).trans h.1,fun k=>by
  rcases t.2.2 b k with k|k
  ·exact h.2 k
  ·have:=yS h.1;omega⟩
end
end Go.Proofs.YtdlkjofnnefjfaaGreatDoor
