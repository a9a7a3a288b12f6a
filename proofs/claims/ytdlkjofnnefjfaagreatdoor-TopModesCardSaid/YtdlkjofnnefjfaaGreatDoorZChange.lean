/- method.Change: a request behind a status. -/
import Derived.Test.YtdlkjofnnefjfaaGreatDoorZShort
import Derived.Test.YtdlkjofnnefjfaaGreatDoorZHeadA
set_option linter.all false
namespace Go.Proofs.YtdlkjofnnefjfaaGreatDoor
set_option maxRecDepth 100000
open Go.RowKit
theorem zaC {ops:Array Oper} {S:World→Prop} {op:Oper} {a:Act} (b:Nat) (r:Req) (pu hv:Value) (hw:Region.wanted op (yielded ops a.tmps)=true) (x:Operand) (ho:op.op=.load 32 x) (hx:a.eval x=.pointer (some ⟨b,0,none⟩))
  (hS:∀ w,S w→w.heap[b]? = some (.cells (reqC r pu hv) 32 (0,0))):YieldsIf Tryz.prog ops S op (.agg (reqC r pu hv)) a :=
 yieldsIf_load_mid hw 32 x ho b 0 hx (reqC r pu hv).toList _ (fun w h=>zac (hS w h)) yA rfl zab
theorem zek {w:World} (G:Glob w):Strs w (.slice (some ⟨2,0,none⟩) 4 4) bodyNames:=by
 refine .inr ⟨2,0,4,rfl,by decide,by unfold maxLen;decide,by have:=G.lt;omega,fun j hj=>?_⟩
 rw[Nat.zero_add];exact G.bodies j hj
theorem zcv (l:List Fld):zaf [] l=l:=by unfold zaf;rw[List.filter_eq_self];intro f _;rfl
def changeR (r:Req) (n:Int):Req:=if rewr n r.method=true then { r with heads:=zaf bodyNames r.heads,method:=sGET,body:=false } else r
def zdd (x:Req) (w:World) (e:Ending) (w':World):Prop:=∃ pu' hv',e=.returned (.agg (reqC x pu' hv'))∧w'.ownsRow w.heap.size 9 1 pu' x.url.path.length (x.url.path.map Value.string)∧FldsN w.heap.size w' hv' x.heads∧Below w.heap.size w w'
theorem zaz {w w':World} {B n:Nat} {v:Value} {xs:List Value} (h:w.ownsRow B 9 1 v n xs) (b:Below w.heap.size w w'):w'.ownsRow B 9 1 v n xs:=by
 obtain⟨h1,h2⟩:=h
 refine⟨h1,?_⟩
 rcases h2 with h2|⟨g,cap,cur,hv,hg,hh,r⟩
 ·exact .inl h2
 ·exact .inr ⟨g,cap,cur,hv,hg,kept b hh,r⟩
set_option maxHeartbeats 2000000 in
theorem zfh (r:Req) (n:Int) (pu hv:Value) (w:World) (G:Glob w) (hp:Strs w pu r.url.path) (hpl:r.url.path.length≤10000000) (hh:Flds w hv r.heads) (hf:zax r.heads) :
  Calls Tryz.prog 129 #[.agg (reqC r pu hv),.int .i64 n] w (zdd (changeR r n) w):=by
 have HX:Hid (changeR r n=_):=changeR.eq_1 r n
 obtain⟨x,hx⟩:∃ x,x=changeR r n:=⟨_,rfl⟩
 rw[← hx] at HX ⊢
 clear hx
 have R0:=row2a w (.cells (reqC r pu hv) 32) (.cells (reqC req0 (.slice none 0 0) (.slice none 0 0)) 32)
 have S0:=row2b w (.cells (reqC r pu hv) 32) (.cells (reqC req0 (.slice none 0 0) (.slice none 0 0)) 32)
 have B0:=bel2 w (.cells (reqC r pu hv) 32) (.cells (reqC req0 (.slice none 0 0) (.slice none 0 0)) 32)
 have c21:=yE R0 21 (.string r.method) rfl
 have HR:=fun w'=>Lib.hid (rewr_any n r.method w')
 obtain⟨rb,hrb⟩:∃ rb,rb=rewr n r.method:=⟨_,rfl⟩
 rw[← hrb] at HX
 simp only[← hrb] at HR
 clear hrb
 have hz0:((w.alloc (.cells (reqC r pu hv) 32)).alloc (.cells (reqC req0 (.slice none 0 0) (.slice none 0 0)) 32)).heap.size=w.heap.size + 2:=by simp
 cases rb with
 | false =>
  have HZ:Hid (x=r):=HX.out
  have HO:=Lib.hid (zcH r pu hv (.slice none 0 0) [] _ (hp.below B0) hpl (hh.below B0) hf (Strs.nil _) (by simp) (by simp))
  rw[zcv] at HO
  clear HX
  go_enter Tryz.func129,Tryz.ntmps129
  go_wp2_with (first|(go_at_call 186;refine(HR _).out.mono ?_;rintro e w1 ⟨rfl,rfl⟩)|((with_reducible (show wpList _ _ _ (Oper.mk _ (.load 32 _) _ _ _ none::_) _ _));refine yK rfl 32 _ rfl w.heap.size rfl 32 _ (0,0) _ R0 yA rfl zab ?_))
  refine HO.out.mono ?_
  rintro e w2 ⟨pu',hv',rfl,ho,hn,b2⟩
  have S2:=kept b2 S0
  have B2:=yD B0 b2
  obtain⟨q,m,c,rfl⟩:=(Strs.of_own (l:=r.url.path) ho).slice
  obtain⟨qh,mh,ch,rfl⟩:=hn.flds.slice
  rw[hz0] at ho hn
  have hn3:=hn.setRow (h:=w.heap.size + 1) (u:=reqC r (.slice q m c) (.slice qh mh ch)) (by omega)
  have ho3:=own_setRow (g:=w.heap.size + 1) (cs:=reqC r (.slice q m c) (.slice qh mh ch)) ho (by omega)
  have HF:=Lib.hid (And.intro (own_base ho3 (B':=w.heap.size) (by omega)) (hn3.base (B':=w.heap.size) (by omega)))
  clear hn hn3 ho ho3
  go_wp2_with (first|((with_reducible (show wpList _ _ _ (Oper.mk none (.store 32 _ _) _ _ _ none::_) _ _));refine yJ rfl 32 _ _ rfl (w.heap.size + 1) _ rfl rfl 32 _ S2 zab rfl (by simp[Value.oneCell']) ?_))
  refine yO (yT rfl _ _ _ _ _ (0,0) _ rfl (yH _ _ _ _ _ _ S2) yA rfl zab) rfl ?_
  rw[HZ.out]
  exact⟨_,_,rfl,HF.out.1,HF.out.2,yM B2 (by omega)⟩
 | true =>
  have HZ:Hid (x={ r with heads:=zaf bodyNames r.heads,method:=⟨#[71,69,84]⟩,body:=false }):=HX.out
  have HO:=fun W (b:Below w.heap.size w W)=>Lib.hid (zcH r pu hv (.slice (some ⟨2,0,none⟩) 4 4) bodyNames W (hp.below b) hpl (hh.below b) hf (zek (G.below b)) (by decide) (by decide))
  clear HX
  obtain⟨D,hD⟩:∃ D,D=zaf bodyNames r.heads:=⟨_,rfl⟩
  rw[← hD] at HZ
  simp only[← hD] at HO
  clear hD
  go_enter Tryz.func129,Tryz.ntmps129
  go_wp2_with (first|(go_at_call 186;refine(HR _).out.mono ?_;rintro e w1 ⟨rfl,rfl⟩))
  refine yQ (S:=fun W=>W.heap[w.heap.size]? = some (.cells (reqC r pu hv) 32 (0,0))∧W.heap[w.heap.size + 1]? = some (.cells (reqC req0 (.slice none 0 0) (.slice none 0 0)) 32 (0,0))) (by kernel_rfl) ⟨R0,S0⟩ (fun h0=>?_)
  refine tk (i:=0) rfl (zaC w.heap.size r pu hv (by rfl) _ rfl rfl (fun W h=>h.1)) h0 ?_
  simp only[Act.put,zA,zB,zC,zD,zE,zF]
  refine tk (i:=1) (v:=?v1) rfl (Or.inl ⟨by rfl,?y1⟩) h0 ?r1
  case y1 =>
   intro W hW
   go_simp
   try with_reducible rfl
  simp only[Act.put,zA,zB,zC,zD,zE,zF]
  refine wpAnyH_ready (rs:=[2,3]) (by kernel_rfl) (by simp) ?_
  refine AllReadyH.cons rfl (fun K hK=>?_) (AllReadyH.cons rfl (fun K hK=>?_) AllReadyH.nil)
  all_goals try simp only[zA,zB,zC]
  all_goals rw[if_pos (by rfl)]
  ·go_simp
   go_at_call 184
   refine(HO _ B0.drew).out.mono ?_
   rintro e w2 ⟨pu',hv',rfl,ho,hn,b2⟩
   obtain⟨q,m,c,rfl⟩:=(Strs.of_own (l:=r.url.path) ho).slice
   obtain⟨qh,mh,ch,rfl⟩:=hn.flds.slice
   have R2:=kept b2 R0
   have S2:=kept b2 S0
   have B2:=yD B0.drew b2
   have N2:=row1 w2 (.cells (reqC req0 (.slice none 0 0) (.slice none 0 0)) 32)
   have b3:=bel1 w2 (.cells (reqC req0 (.slice none 0 0) (.slice none 0 0)) 32)
   have hlt2:=yS S2
   have hz2:=b2.size
   have hzz:w.heap.size + 2≤w2.heap.size:=by have:=b2.size;simp at this;omega
   refine hK.out _ _ ⟨R2,S2⟩ (fun h0=>?_)
   clear hK K
   try simp only[Act.put,zA,zB,zC,zD,zE,zF]
   refine zrd (i:=3) rfl (fun K hK=>?_)
   try simp only[zA,zB,zC]
   rw[if_pos (by rfl)]
   go_simp
   refine hK.out _ _ ⟨kept b3 R2,kept b3 S2⟩ (fun h0=>?_)
   clear hK K
   try simp only[Act.put,zA,zB,zC,zD,zE,zF]
   refine zrd (i:=4) rfl (fun K hK=>?_)
   try simp only[zA,zB,zC]
   rw[if_pos (by rfl)]
   refine wp_store_row 32 _ _ rfl w2.heap.size _ rfl rfl 32 _ N2 zab rfl (by simp[Value.oneCell']) ?_
   refine hK.out _ _ ⟨(yI _ _ _ _ (by omega)).trans (kept b3 R2),(yI _ _ _ _ (by omega)).trans (kept b3 S2)⟩ (fun h0=>?_)
   clear hK K
   try simp only[Act.put,zA,zB,zC,zD,zE,zF]
   refine yX (by kernel_rfl) ?_ _
   rw[show ((w.alloc (.cells (reqC r pu hv) 32)).alloc (.cells (reqC req0 (.slice none 0 0) (.slice none 0 0)) 32)).drew.heap.size=w.heap.size + 2 by simp] at ho hn
   have bA:Below w2.heap.size w2 (((((w2.alloc (.cells (reqC req0 (.slice none 0 0) (.slice none 0 0)) 32)).setRow w2.heap.size (reqC { r with heads:=D } (.slice q m c) (.slice qh mh ch)))).setCell ⟨w2.heap.size,21,none⟩ (.string ⟨#[71,69,84]⟩)).setCell ⟨w2.heap.size,23,none⟩ (.bool false)):=((yM b3 (yV _)).setCell (p:=⟨w2.heap.size,21,none⟩) (yV w2.heap.size) _).setCell (p:=⟨w2.heap.size,23,none⟩) (yV w2.heap.size) _
   have C0:((w2.alloc (.cells (reqC req0 (.slice none 0 0) (.slice none 0 0)) 32)).setRow w2.heap.size (reqC { r with heads:=D } (.slice q m c) (.slice qh mh ch))).heap[w2.heap.size]? = some (.cells (reqC { r with heads:=D } (.slice q m c) (.slice qh mh ch)) 32 (0,0)):=yH _ _ _ _ _ _ N2
   have S3:((w2.alloc (.cells (reqC req0 (.slice none 0 0) (.slice none 0 0)) 32)).setRow w2.heap.size (reqC { r with heads:=D } (.slice q m c) (.slice qh mh ch))).heap[w.heap.size + 1]? = some (.cells (reqC req0 (.slice none 0 0) (.slice none 0 0)) 32 (0,0)):=(yI _ _ _ _ (by omega)).trans (kept b3 S2)
   have hnC:FldsN (w.heap.size + 2) ((((w2.alloc (.cells (reqC req0 (.slice none 0 0) (.slice none 0 0)) 32)).setRow w2.heap.size (reqC { r with heads:=D } (.slice q m c) (.slice qh mh ch))).setCell ⟨w2.heap.size,21,none⟩ (.string ⟨#[71,69,84]⟩)).setCell ⟨w2.heap.size,23,none⟩ (.bool false)) (.slice qh mh ch) D:=hn.kept bA
   have hoC:((((w2.alloc (.cells (reqC req0 (.slice none 0 0) (.slice none 0 0)) 32)).setRow w2.heap.size (reqC { r with heads:=D } (.slice q m c) (.slice qh mh ch))).setCell ⟨w2.heap.size,21,none⟩ (.string ⟨#[71,69,84]⟩)).setCell ⟨w2.heap.size,23,none⟩ (.bool false)).ownsRow (w.heap.size + 2) 9 1 (.slice q m c) r.url.path.length (r.url.path.map Value.string):=zaz ho bA
   have BC:Below w.heap.size w ((((w2.alloc (.cells (reqC req0 (.slice none 0 0) (.slice none 0 0)) 32)).setRow w2.heap.size (reqC { r with heads:=D } (.slice q m c) (.slice qh mh ch))).setCell ⟨w2.heap.size,21,none⟩ (.string ⟨#[71,69,84]⟩)).setCell ⟨w2.heap.size,23,none⟩ (.bool false)):=yD B2 bA
   change Exit.then _ _ Exit.normal _ ((w2.alloc (.cells (reqC req0 (.slice none 0 0) (.slice none 0 0)) 32)).setRow w2.heap.size (reqC { r with heads:=D } (.slice q m c) (.slice qh mh ch)))
   generalize (w2.alloc (.cells (reqC req0 (.slice none 0 0) (.slice none 0 0)) 32)).setRow w2.heap.size (reqC { r with heads:=D } (.slice q m c) (.slice qh mh ch))=W3 at C0 S3 hnC hoC BC ⊢
   clear hn ho
   obtain⟨C,hC⟩:∃ C,C=w2.heap.size:=⟨_,rfl⟩
   have hCs:w.heap.size + 2≤C:=by omega
   simp only[← hC] at C0 hnC hoC BC ⊢
   clear hC
   have C1:(W3.setCell ⟨C,21,none⟩ (.string ⟨#[71,69,84]⟩)).heap[C]? = some (.cells (reqC { r with heads:=D,method:=⟨#[71,69,84]⟩ } (.slice q m c) (.slice qh mh ch)) 32 (0,0)):=by
    rw[heap_setCell_same _ _ _ _ _ _ C0];simp[reqC]
   have C2:((W3.setCell ⟨C,21,none⟩ (.string ⟨#[71,69,84]⟩)).setCell ⟨C,23,none⟩ (.bool false)).heap[C]? = some (.cells (reqC { r with heads:=D,method:=⟨#[71,69,84]⟩,body:=false } (.slice q m c) (.slice qh mh ch)) 32 (0,0)):=by
    rw[heap_setCell_same _ _ _ _ _ _ C1];simp[reqC]
   have RR:((W3.setCell ⟨C,21,none⟩ (.string ⟨#[71,69,84]⟩)).setCell ⟨C,23,none⟩ (.bool false)).heap[w.heap.size + 1]? = some (.cells (reqC req0 (.slice none 0 0) (.slice none 0 0)) 32 (0,0)):=(yG _ _ _ _ (by simp;omega)).trans ((yG _ _ _ _ (by simp;omega)).trans S3)
   have d1:=yE C0 21 (.string r.method) rfl
   have d2:=yE C1 23 (.bool r.body) rfl
   have g1:=yF C0 21
   have g2:=yF C1 23
   have hn4:=hnC.setRow (h:=w.heap.size + 1) (u:=reqC { r with heads:=D,method:=⟨#[71,69,84]⟩,body:=false } (.slice q m c) (.slice qh mh ch)) (by omega)
   have ho4:=own_setRow (g:=w.heap.size + 1) (cs:=reqC { r with heads:=D,method:=⟨#[71,69,84]⟩,body:=false } (.slice q m c) (.slice qh mh ch)) hoC (by omega)
   have HF:=Lib.hid (And.intro (own_base ho4 (B':=w.heap.size) (by omega)) (And.intro (hn4.base (B':=w.heap.size) (by omega)) (yM (h:=w.heap.size + 1) (cs:=reqC { r with heads:=D,method:=⟨#[71,69,84]⟩,body:=false } (.slice q m c) (.slice qh mh ch)) BC (by omega))))
   clear hn4 ho4 hnC hoC BC
   go_wp2_with (first|((with_reducible (show wpList _ _ _ (Oper.mk _ (.load 32 _) _ _ _ none::_) _ _));refine yK rfl 32 _ rfl C rfl 32 _ (0,0) _ C2 yA rfl zab ?_)|((with_reducible (show wpList _ _ _ (Oper.mk none (.store 32 _ _) _ _ _ none::_) _ _));refine yJ rfl 32 _ _ rfl (w.heap.size + 1) _ rfl rfl 32 _ RR zab rfl (by simp[Value.oneCell']) ?_))
   refine yO (yT rfl _ _ (w.heap.size + 1) 32 (reqC { r with heads:=D,method:=⟨#[71,69,84]⟩,body:=false } (.slice q m c) (.slice qh mh ch)) (0,0) _ rfl (yH _ _ _ _ _ _ RR) yA rfl zab) rfl ?_
   rw[HZ.out]
   exact⟨_,_,rfl,HF.out.1,HF.out.2.1,HF.out.2.2⟩
  ·go_simp
   have N1:=row1 (((w.alloc (.cells (reqC r pu hv) 32)).alloc (.cells (reqC req0 (.slice none 0 0) (.slice none 0 0)) 32)).drew) (.cells (reqC req0 (.slice none 0 0) (.slice none 0 0)) 32)
   have b1:=bel1 (((w.alloc (.cells (reqC r pu hv) 32)).alloc (.cells (reqC req0 (.slice none 0 0) (.slice none 0 0)) 32)).drew) (.cells (reqC req0 (.slice none 0 0) (.slice none 0 0)) 32)
   have B1:=yD B0.drew b1
   have hzd:(((w.alloc (.cells (reqC r pu hv) 32)).alloc (.cells (reqC req0 (.slice none 0 0) (.slice none 0 0)) 32)).drew).heap.size=w.heap.size + 2:=by simp
   refine hK.out _ _ ⟨kept b1 R0,kept b1 S0⟩ (fun h0=>?_)
   clear hK K
   try simp only[Act.put,zA,zB,zC,zD,zE,zF]
   refine zrd (i:=2) rfl (fun K hK=>?_)
   try simp only[zA,zB,zC]
   rw[if_pos (by rfl)]
   go_simp
   go_at_call 184
   refine(HO _ B1).out.mono ?_
   rintro e w2 ⟨pu',hv',rfl,ho,hn,b2⟩
   obtain⟨q,m,c,rfl⟩:=(Strs.of_own (l:=r.url.path) ho).slice
   obtain⟨qh,mh,ch,rfl⟩:=hn.flds.slice
   have R2:=kept b2 (kept b1 R0)
   have S2:=kept b2 (kept b1 S0)
   have N2:=kept b2 N1
   have B2:=yD B1 b2
   have hlt2:=yS S2
   have hz2:w.heap.size + 3≤w2.heap.size:=by have:=b2.size;simp at this;omega
   refine hK.out _ _ ⟨R2,S2⟩ (fun h0=>?_)
   clear hK K
   try simp only[Act.put,zA,zB,zC,zD,zE,zF]
   rw[show ((((w.alloc (.cells (reqC r pu hv) 32)).alloc (.cells (reqC req0 (.slice none 0 0) (.slice none 0 0)) 32)).drew).alloc (.cells (reqC req0 (.slice none 0 0) (.slice none 0 0)) 32)).heap.size=w.heap.size + 3 by simp] at ho hn
   have N2:w2.heap[w.heap.size + 1 + 1]? = some (.cells (reqC req0 (.slice none 0 0) (.slice none 0 0)) 32 (0,0)):=by have h:=N2;rw[hzd] at h;exact h
   refine zrd (i:=4) rfl (fun K hK=>?_)
   try simp only[zA,zB,zC]
   rw[if_pos (by rfl)]
   refine wp_store_row 32 _ _ rfl (w.heap.size + 1 + 1) _ rfl rfl 32 _ N2 zab rfl (by simp[Value.oneCell']) ?_
   refine hK.out _ _ ⟨(yI _ _ _ _ (by omega)).trans R2,(yI _ _ _ _ (by omega)).trans S2⟩ (fun h0=>?_)
   clear hK K
   try simp only[Act.put,zA,zB,zC,zD,zE,zF]
   refine yX (by kernel_rfl) ?_ _
   have C0:(w2.setRow (w.heap.size + 1 + 1) (reqC { r with heads:=D } (.slice q m c) (.slice qh mh ch))).heap[(w.heap.size + 1 + 1)]? = some (.cells (reqC { r with heads:=D } (.slice q m c) (.slice qh mh ch)) 32 (0,0)):=yH _ _ _ _ _ _ N2
   have S3:(w2.setRow (w.heap.size + 1 + 1) (reqC { r with heads:=D } (.slice q m c) (.slice qh mh ch))).heap[w.heap.size + 1]? = some (.cells (reqC req0 (.slice none 0 0) (.slice none 0 0)) 32 (0,0)):=(yI _ _ _ _ (by omega)).trans S2
   have hnC:FldsN (w.heap.size + 2) (((w2.setRow (w.heap.size + 1 + 1) (reqC { r with heads:=D } (.slice q m c) (.slice qh mh ch))).setCell ⟨(w.heap.size + 1 + 1),21,none⟩ (.string ⟨#[71,69,84]⟩)).setCell ⟨(w.heap.size + 1 + 1),23,none⟩ (.bool false)) (.slice qh mh ch) D:=(((hn.setRow (by omega)).setCell (by omega)).setCell (by omega)).base (by omega)
   have hoC:(((w2.setRow (w.heap.size + 1 + 1) (reqC { r with heads:=D } (.slice q m c) (.slice qh mh ch))).setCell ⟨(w.heap.size + 1 + 1),21,none⟩ (.string ⟨#[71,69,84]⟩)).setCell ⟨(w.heap.size + 1 + 1),23,none⟩ (.bool false)).ownsRow (w.heap.size + 2) 9 1 (.slice q m c) r.url.path.length (r.url.path.map Value.string):=own_base (yU (yU (own_setRow ho (by omega)) (a:=⟨w.heap.size + 1 + 1,21,none⟩) (by simp) _) (a:=⟨w.heap.size + 1 + 1,23,none⟩) (by simp) _) (by omega)
   have BC:Below w.heap.size w (((w2.setRow (w.heap.size + 1 + 1) (reqC { r with heads:=D } (.slice q m c) (.slice qh mh ch))).setCell ⟨(w.heap.size + 1 + 1),21,none⟩ (.string ⟨#[71,69,84]⟩)).setCell ⟨(w.heap.size + 1 + 1),23,none⟩ (.bool false)):=((yM B2 (by omega)).setCell (p:=⟨w.heap.size + 1 + 1,21,none⟩) (by simp;omega) _).setCell (p:=⟨w.heap.size + 1 + 1,23,none⟩) (by simp;omega) _
   change Exit.then _ _ Exit.normal _ (w2.setRow (w.heap.size + 1 + 1) (reqC { r with heads:=D } (.slice q m c) (.slice qh mh ch)))
   generalize w2.setRow (w.heap.size + 1 + 1) (reqC { r with heads:=D } (.slice q m c) (.slice qh mh ch))=W3 at C0 S3 hnC hoC BC ⊢
   clear hn ho
   obtain⟨C,hC⟩:∃ C,C=(w.heap.size + 1 + 1):=⟨_,rfl⟩
   have hCs:w.heap.size + 2≤C:=by omega
   simp only[← hC] at C0 hnC hoC BC ⊢
   clear hC
   have C1:(W3.setCell ⟨C,21,none⟩ (.string ⟨#[71,69,84]⟩)).heap[C]? = some (.cells (reqC { r with heads:=D,method:=⟨#[71,69,84]⟩ } (.slice q m c) (.slice qh mh ch)) 32 (0,0)):=by
    rw[heap_setCell_same _ _ _ _ _ _ C0];simp[reqC]
   have C2:((W3.setCell ⟨C,21,none⟩ (.string ⟨#[71,69,84]⟩)).setCell ⟨C,23,none⟩ (.bool false)).heap[C]? = some (.cells (reqC { r with heads:=D,method:=⟨#[71,69,84]⟩,body:=false } (.slice q m c) (.slice qh mh ch)) 32 (0,0)):=by
    rw[heap_setCell_same _ _ _ _ _ _ C1];simp[reqC]
   have RR:((W3.setCell ⟨C,21,none⟩ (.string ⟨#[71,69,84]⟩)).setCell ⟨C,23,none⟩ (.bool false)).heap[w.heap.size + 1]? = some (.cells (reqC req0 (.slice none 0 0) (.slice none 0 0)) 32 (0,0)):=(yG _ _ _ _ (by simp;omega)).trans ((yG _ _ _ _ (by simp;omega)).trans S3)
   have d1:=yE C0 21 (.string r.method) rfl
   have d2:=yE C1 23 (.bool r.body) rfl
   have g1:=yF C0 21
   have g2:=yF C1 23
   have hn4:=hnC.setRow (h:=w.heap.size + 1) (u:=reqC { r with heads:=D,method:=⟨#[71,69,84]⟩,body:=false } (.slice q m c) (.slice qh mh ch)) (by omega)
   have ho4:=own_setRow (g:=w.heap.size + 1) (cs:=reqC { r with heads:=D,method:=⟨#[71,69,84]⟩,body:=false } (.slice q m c) (.slice qh mh ch)) hoC (by omega)
   have HF:=Lib.hid (And.intro (own_base ho4 (B':=w.heap.size) (by omega)) (And.intro (hn4.base (B':=w.heap.size) (by omega)) (yM (h:=w.heap.size + 1) (cs:=reqC { r with heads:=D,method:=⟨#[71,69,84]⟩,body:=false } (.slice q m c) (.slice qh mh ch)) BC (by omega))))
   clear hn4 ho4 hnC hoC BC
   go_wp2_with (first|((with_reducible (show wpList _ _ _ (Oper.mk _ (.load 32 _) _ _ _ none::_) _ _));refine yK rfl 32 _ rfl C rfl 32 _ (0,0) _ C2 yA rfl zab ?_)|((with_reducible (show wpList _ _ _ (Oper.mk none (.store 32 _ _) _ _ _ none::_) _ _));refine yJ rfl 32 _ _ rfl (w.heap.size + 1) _ rfl rfl 32 _ RR zab rfl (by simp[Value.oneCell']) ?_))
   refine yO (yT rfl _ _ (w.heap.size + 1) 32 (reqC { r with heads:=D,method:=⟨#[71,69,84]⟩,body:=false } (.slice q m c) (.slice qh mh ch)) (0,0) _ rfl (yH _ _ _ _ _ _ RR) yA rfl zab) rfl ?_
   rw[HZ.out]
   exact⟨_,_,rfl,HF.out.1,HF.out.2.1,HF.out.2.2⟩
end Go.Proofs.YtdlkjofnnefjfaaGreatDoor
