/- method.Away: a request that goes on. -/
import Derived.Test.YtdlkjofnnefjfaaGreatDoorZShort
import Derived.Test.YtdlkjofnnefjfaaGreatDoorZChange
set_option linter.all false
namespace Go.Proofs.YtdlkjofnnefjfaaGreatDoor
set_option maxRecDepth 100000
open Go.RowKit
def FldsA (B:Nat) (bad:Nat→Prop) (w:World) (v:Value) (l:List Fld):Prop:=(v=.slice none 0 0∧l=[])∨∃ g cap,v=.slice (some ⟨g,0,none⟩) l.length cap∧B≤g∧¬ bad g∧l.length≤cap∧cap≤maxLen∧RowF g l w
theorem FldsA.step {B:Nat} {bad:Nat→Prop} {w w':World} {v:Value} {l:List Fld} (h:FldsA B bad w v l) (hk:∀ k,k < w.heap.size→¬ bad k→w'.heap[k]? = w.heap[k]?):FldsA B bad w' v l:=by
 rcases h with h|⟨g,cap,hv,hg,hb,h1,h2,cs,h3,h4⟩
 ·exact .inl h
 ·exact .inr ⟨g,cap,hv,hg,hb,h1,h2,cs,(hk g (yS h3) hb).trans h3,h4⟩
theorem FldsA.below {B:Nat} {bad:Nat→Prop} {w w':World} {v:Value} {l:List Fld} (h:FldsA B bad w v l) (b:Below w.heap.size w w'):FldsA B bad w' v l:=h.step fun k hk _=>b.block k hk
theorem FldsN.toA {B B':Nat} {bad:Nat→Prop} {w:World} {v:Value} {l:List Fld} (h:FldsN B w v l) (hB:B'≤B) (hb:∀ g,B≤g→g < w.heap.size→¬ bad g):FldsA B' bad w v l:=by
 rcases h with h|⟨g,cap,hv,hg,h1,h2,cs,h3,h4⟩
 ·exact .inl h
 ·exact .inr ⟨g,cap,hv,by omega,hb g hg (yS h3),h1,h2,cs,h3,h4⟩
theorem FldsA.toN {B:Nat} {bad:Nat→Prop} {w:World} {v:Value} {l:List Fld} (h:FldsA B bad w v l):FldsN B w v l:=by
 rcases h with h|⟨g,cap,hv,hg,hb,h1,h2,h3⟩
 ·exact .inl h
 ·exact .inr ⟨g,cap,hv,hg,h1,h2,h3⟩
theorem zcb (r:Req) (n:Url) (pu hv pn:Value):setAll (reqC r pu hv) 0 (urlC n pn).toList=reqC { r with url:=n } pn hv:=by
 simp[setAll,reqC]
def zeJ:ByteArray:=⟨#[65,117,116,104,111,114,105,122,97,116,105,111,110]⟩
def zbI (r:Req) (next:Url):Req:={ r with url:=next,heads:=if bothU r.url next=true then r.heads else zaf [zeJ] r.heads,tainted:=taintR r.tainted r.orig r.url next,cross:=crossedR r,count:=r.count + 1 }
theorem zaH:∀ (vs:List Value) (b o:Nat) (w:World) {k:Nat},k≠b→(w.setCells b o vs).heap[k]? = w.heap[k]?
 | [],b,o,w,k,h=>rfl
 | v::vs,b,o,w,k,h=>by
  show ((w.setCell ⟨b,o,none⟩ v).setCells b (o + 1) vs).heap[k]? = _
  rw[zaH vs b (o + 1) _ h];exact yG _ _ _ _ h
set_option maxHeartbeats 4000000 in
theorem zgV (r:Req) (next:Url) (pu hv pn:Value) (w:World) (G:Glob w) (hp:Strs w pu r.url.path) (hh:Flds w hv r.heads) (hf:zax r.heads) (fu:r.url.Fits) (hn:r.orig.host.name.size≤1000000) (hpn:Strs w pn next.path) (fn:next.Fits) (hc0:0≤r.count) (hc1:r.count≤1000) (hbo:bothU r.url next=true) :
  Calls Tryz.prog 128 #[.agg (reqC r pu hv),.agg (urlC next pn)] w (zdd (zbI r next) w):=by
 have ecnt:wrap64 (r.count + 1)=r.count + 1:=by unfold wrap64;omega
 have HZ:Hid (zbI r next={ r with url:=next,heads:=r.heads,tainted:=taintR r.tainted r.orig r.url next,cross:=crossedR r,count:=r.count + 1 }):=by show _=_;unfold zbI;rw[hbo];rfl
 obtain⟨x,hx⟩:∃ x,x=zbI r next:=⟨_,rfl⟩
 rw[← hx] at HZ ⊢
 clear hx
 have HBo:=fun w' g s t=>Lib.hid (zbU r.url next pu pn w' g s t fu fn)
 have HTa:=fun w' g s t=>Lib.hid (zd7 r.tainted r.orig r.url next pu pn w' g s t fu fn hn)
 obtain⟨tb,htb⟩:∃ tb,tb=taintR r.tainted r.orig r.url next:=⟨_,rfl⟩
 obtain⟨qh0,mh0,ch0,rfl⟩:=hh.slice
 have HCr:=fun w' g s=>Lib.hid (zbp r pu (.slice qh0 mh0 ch0) w' g s fu hn rfl)
 obtain⟨cb,hcb⟩:∃ cb,cb=crossedR r:=⟨_,rfl⟩
 rw[hbo] at HBo
 simp only[← htb,← hcb] at HTa HCr HZ
 clear htb hcb hbo
 have HCl:=fun w' s=>Lib.hid (zaO pn next.path w' s fn.np)
 obtain⟨q0,m0,c0,rfl⟩:=hp.slice
 obtain⟨qn,mn,cn,rfl⟩:=hpn.slice
 have RA:=row3a w (.cells (reqC r (.slice q0 m0 c0) (.slice qh0 mh0 ch0)) 32) (.cells (urlC next (.slice qn mn cn)) 27) (.cells (reqC req0 (.slice none 0 0) (.slice none 0 0)) 32)
 have RU:=row3b w (.cells (reqC r (.slice q0 m0 c0) (.slice qh0 mh0 ch0)) 32) (.cells (urlC next (.slice qn mn cn)) 27) (.cells (reqC req0 (.slice none 0 0) (.slice none 0 0)) 32)
 have RR:=row3c w (.cells (reqC r (.slice q0 m0 c0) (.slice qh0 mh0 ch0)) 32) (.cells (urlC next (.slice qn mn cn)) 27) (.cells (reqC req0 (.slice none 0 0) (.slice none 0 0)) 32)
 have B0:=bel3 w (.cells (reqC r (.slice q0 m0 c0) (.slice qh0 mh0 ch0)) 32) (.cells (urlC next (.slice qn mn cn)) 27) (.cells (reqC req0 (.slice none 0 0) (.slice none 0 0)) 32)
 have hz0:(((w.alloc (.cells (reqC r (.slice q0 m0 c0) (.slice qh0 mh0 ch0)) 32)).alloc (.cells (urlC next (.slice qn mn cn)) 27)).alloc (.cells (reqC req0 (.slice none 0 0) (.slice none 0 0)) 32)).heap.size=w.heap.size + 3:=by simp
 have HO1:=Lib.hid (zcH r (.slice q0 m0 c0) (.slice qh0 mh0 ch0) (.slice none 0 0) [] _ (hp.below B0) fu.np (hh.below B0) hf (Strs.nil _) (by simp) (by simp))
 rw[zcv] at HO1
 go_enter Tryz.func128,Tryz.ntmps128
 go_wp2_with (first|((with_reducible (show wpList _ _ _ (Oper.mk _ (.load 32 _) _ _ _ _::_) _ _));refine zaa (by rfl) 32 _ rfl w.heap.size 0 rfl (reqC r (.slice q0 m0 c0) (.slice qh0 mh0 ch0)) _ (zac RA) yA rfl zab ?_))
 refine HO1.out.mono ?_
 rintro e w1 ⟨pu1,hv1,rfl,_,hn1,b1⟩
 obtain⟨q1,m1,c1,rfl⟩:∃ q m c,pu1=.slice q m c:=(Strs.of_own (l:=r.url.path) (by assumption)).slice
 obtain⟨qh1,mh1,ch1,rfl⟩:=hn1.flds.slice
 rw[hz0] at hn1
 have RA1:=kept b1 RA
 have RU1:=kept b1 RU
 have RR1:w1.heap[w.heap.size + 1 + 1]? = _:=kept b1 RR
 have B1:=yD B0 b1
 have hz1:w.heap.size + 3≤w1.heap.size:=by have:=b1.size;rw[hz0] at this;exact this
 have NX:=row1 w1 (.cells (reqC req0 (.slice none 0 0) (.slice none 0 0)) 32)
 obtain⟨W2,hW2⟩:∃ W2,(w1.alloc (.cells #[.string ⟨#[]⟩,.string ⟨#[]⟩,.string ⟨#[]⟩,.int .i64 0,.string ⟨#[]⟩,.int .i64 0,.int .i64 0,.int .i64 0,.int .i64 0,.int .i64 0,.int .i64 0,.int .i64 0,.int .i64 0,.int .i64 0,.int .i64 0,.slice none 0 0,.string ⟨#[]⟩,.string ⟨#[]⟩,.string ⟨#[]⟩,.bool false,.bool false,.string ⟨#[]⟩,.slice none 0 0,.bool false,.bool false,.string ⟨#[]⟩,.int .i64 0,.string ⟨#[]⟩,.int .i64 0,.int .i64 0,.int .i64 0,.int .i64 0,.int .i64 0,.int .i64 0,.int .i64 0,.int .i64 0,.int .i64 0,.int .i64 0,.int .i64 0,.int .i64 0,.int .i64 0,.string ⟨#[]⟩,.bool false,.bool false,.int .i64 0] 32)).setRow w1.heap.size (reqC r (.slice q1 m1 c1) (.slice qh1 mh1 ch1))=W2:=⟨_,rfl⟩
 have b2:Below w1.heap.size w1 W2:=by rw[← hW2];exact yM (bel1 w1 _) (yV _)
 have RX2:W2.heap[w1.heap.size]? = some (.cells (reqC r (.slice q1 m1 c1) (.slice qh1 mh1 ch1)) 32 (0,0)):=by rw[← hW2];exact yH _ _ _ _ _ _ NX
 have RA2:=kept b2 RA1
 have RU2:=kept b2 RU1
 have RR2:=kept b2 RR1
 have B2:=yD B1 b2
 obtain⟨X,hX⟩:∃ X,X=w1.heap.size:=⟨_,rfl⟩
 have hX3:w.heap.size + 3≤X:=by omega
 have hn2:FldsA w.heap.size (fun k=>k=X∨k=w.heap.size + 1 + 1) W2 (.slice qh1 mh1 ch1) r.heads:=(hn1.toA (B':=w.heap.size) (by omega) (fun g hg hlt=>by rintro(h|h) <;> omega)).below b2
 rw[← hX] at RX2
 clear hn1 b1 b2 RA RU RR RA1 RU1 RR1 HO1 B0 B1
 go_wp2_with (first|((with_reducible (show wpList _ _ _ (Oper.mk none (.store 32 _ _) _ _ _ none::_) _ _));refine yJ rfl 32 _ _ rfl w1.heap.size _ rfl rfl 32 _ NX zab rfl (by simp[Value.oneCell']) ?_)|((with_reducible (show wpList _ _ _ (Oper.mk _ (.load 27 _) _ _ _ _::_) _ _));refine zaa (by rfl) 27 _ rfl w.heap.size 0 rfl (urlC r.url (.slice q0 m0 c0)) _ (zae RA2 0 _ rfl) yB rfl yN ?_)|((with_reducible (show wpList _ _ _ (Oper.mk _ (.load 27 _) _ _ _ _::_) _ _));refine zaa (by rfl) 27 _ rfl (w.heap.size + 1) 0 rfl (urlC next (.slice qn mn cn)) _ (zac RU2) yB rfl yN ?_))
 refine(HBo _ (G.below B2) (hp.below B2) (hpn.below B2)).out.mono ?_
 rintro e w3 ⟨rfl,b3⟩
 have RX3:=kept b3 RX2
 have RA3:=kept b3 RA2
 have RU3:=kept b3 RU2
 have RR3:=kept b3 RR2
 have B3:=yD B2 b3
 have hn3:=hn2.below b3
 clear RX2 RA2 RU2 RR2 B2 hn2 b3 NX
 obtain⟨D,hD⟩:∃ D,D=r.heads:=⟨_,rfl⟩
 rw[← hD] at hn3 HZ
 have RX3:w3.heap[X]? = some (.cells (reqC { r with heads:=D } (.slice q1 m1 c1) (.slice qh1 mh1 ch1)) 32 (0,0)):=RX3
 clear hD
 obtain⟨qx,hqx⟩:∃ qx,qx=q1:=⟨_,rfl⟩
 obtain⟨mx,hmx⟩:∃ mx,mx=m1:=⟨_,rfl⟩
 obtain⟨cx,hcx⟩:∃ cx,cx=c1:=⟨_,rfl⟩
 obtain⟨qd,hqd⟩:∃ qd,qd=qh1:=⟨_,rfl⟩
 obtain⟨md,hmd⟩:∃ md,md=mh1:=⟨_,rfl⟩
 obtain⟨cd,hcd⟩:∃ cd,cd=ch1:=⟨_,rfl⟩
 rw[← hqx,← hmx,← hcx,← hqd,← hmd,← hcd] at RX3
 rw[← hqd,← hmd,← hcd] at hn3
 clear hqx hmx hcx hqd hmd hcd
 simp only[← hX]
 clear hX hW2 hz1
 have e42:=yE RA3 42 (.bool r.tainted) rfl
 go_wp2_with (first|((with_reducible (show wpList _ _ _ (Oper.mk _ (.load 30 _) _ _ _ _::_) _ _));refine zaa (by rfl) 30 _ rfl w.heap.size 24 rfl (origC r.orig) _ (zae RA3 24 _ rfl) Tryz.underlying30 rfl zan ?_)|((with_reducible (show wpList _ _ _ (Oper.mk _ (.load 27 _) _ _ _ _::_) _ _));refine zaa (by rfl) 27 _ rfl w.heap.size 0 rfl (urlC r.url (.slice q0 m0 c0)) _ (zae RA3 0 _ rfl) yB rfl yN ?_)|((with_reducible (show wpList _ _ _ (Oper.mk _ (.load 27 _) _ _ _ _::_) _ _));refine zaa (by rfl) 27 _ rfl (w.heap.size + 1) 0 rfl (urlC next (.slice qn mn cn)) _ (zac RU3) yB rfl yN ?_))
 refine(HTa _ (G.below B3) (hp.below B3) (hpn.below B3)).out.mono ?_
 rintro e w5 ⟨rfl,b5⟩
 have RX5:=kept b5 RX3
 have RA5:=kept b5 RA3
 have RU5:=kept b5 RU3
 have RR5:=kept b5 RR3
 have B5:=yD B3 b5
 have hn5:=hn3.below b5
 clear RX3 RA3 RU3 RR3 B3 hn3 b5
 have d6:=yE RX5 42 _ rfl
 have f6:=yF RX5 42
 obtain⟨W6,hW6⟩:∃ W6,w5.setCell ⟨X,42,none⟩ (.bool tb)=W6:=⟨_,rfl⟩
 have RX6:W6.heap[X]? = some (.cells (reqC { r with heads:=D,tainted:=tb } (.slice qx mx cx) (.slice qd md cd)) 32 (0,0)):=by
  rw[← hW6,heap_setCell_same _ _ _ _ _ _ RX5];simp[reqC]
 have RA6:W6.heap[w.heap.size]? = some (.cells (reqC r (.slice q0 m0 c0) (.slice qh0 mh0 ch0)) 32 (0,0)):=by rw[← hW6];exact(yG _ _ _ _ (by simp;omega)).trans RA5
 have RU6:W6.heap[w.heap.size + 1]? = some (.cells (urlC next (.slice qn mn cn)) 27 (0,0)):=by rw[← hW6];exact(yG _ _ _ _ (by simp;omega)).trans RU5
 have RR6:W6.heap[w.heap.size + 1 + 1]? = some (.cells (reqC req0 (.slice none 0 0) (.slice none 0 0)) 32 (0,0)):=by rw[← hW6];exact(yG _ _ _ _ (by simp;omega)).trans RR5
 have B6:Below w.heap.size w W6:=by rw[← hW6];exact B5.setCell (p:=⟨X,42,none⟩) (by simp;omega) _
 have hn6:FldsA w.heap.size (fun k=>k=X∨k=w.heap.size + 1 + 1) W6 (.slice qd md cd) D:=by rw[← hW6];exact hn5.step fun k _ hk=>yG _ _ _ _ (by simp;intro h;exact hk (.inl h))
 have hcr6:=HCr W6 (G.below B6) (hp.below B6)
 go_wp2_with (first|((with_reducible (show wpList _ _ _ (Oper.mk _ (.load 32 _) _ _ _ _::_) _ _));refine zaa (by rfl) 32 _ rfl w.heap.size 0 rfl (reqC r (.slice q0 m0 c0) (.slice qh0 mh0 ch0)) _ (zac RA6) yA rfl zab ?_))
 clear d6 f6
 refine hcr6.out.mono ?_
 rintro e w7 ⟨rfl,b7⟩
 have RX7:=kept b7 RX6
 have RA7:=kept b7 RA6
 have RU7:=kept b7 RU6
 have RR7:=kept b7 RR6
 have B7:=yD B6 b7
 have hn7:=hn6.below b7
 clear RX6 RA6 RU6 RR6 B6 hn6 b7
 have d8:=yE RX7 43 _ rfl
 have f8:=yF RX7 43
 obtain⟨W8,hW8⟩:∃ W8,w7.setCell ⟨X,43,none⟩ (.bool cb)=W8:=⟨_,rfl⟩
 have RX8:W8.heap[X]? = some (.cells (reqC { r with heads:=D,tainted:=tb,cross:=cb } (.slice qx mx cx) (.slice qd md cd)) 32 (0,0)):=by
  rw[← hW8,heap_setCell_same _ _ _ _ _ _ RX7];simp[reqC]
 have RA8:W8.heap[w.heap.size]? = some (.cells (reqC r (.slice q0 m0 c0) (.slice qh0 mh0 ch0)) 32 (0,0)):=by rw[← hW8];exact(yG _ _ _ _ (by simp;omega)).trans RA7
 have RU8:W8.heap[w.heap.size + 1]? = some (.cells (urlC next (.slice qn mn cn)) 27 (0,0)):=by rw[← hW8];exact(yG _ _ _ _ (by simp;omega)).trans RU7
 have RR8:W8.heap[w.heap.size + 1 + 1]? = some (.cells (reqC req0 (.slice none 0 0) (.slice none 0 0)) 32 (0,0)):=by rw[← hW8];exact(yG _ _ _ _ (by simp;omega)).trans RR7
 have B8:Below w.heap.size w W8:=by rw[← hW8];exact B7.setCell (p:=⟨X,43,none⟩) (by simp;omega) _
 have hn8:FldsA w.heap.size (fun k=>k=X∨k=w.heap.size + 1 + 1) W8 (.slice qd md cd) D:=by rw[← hW8];exact hn7.step fun k _ hk=>yG _ _ _ _ (by simp;intro h;exact hk (.inl h))
 have th8:=there_row (n:=21) RX8 (o:=0) (by simp)
 obtain⟨W9,hW9⟩:∃ W9,W8.setCells X 0 (urlC next (.slice qn mn cn)).toList=W9:=⟨_,rfl⟩
 have RX9:W9.heap[X]? = some (.cells (reqC { r with heads:=D,tainted:=tb,cross:=cb,url:=next } (.slice qn mn cn) (.slice qd md cd)) 32 (0,0)):=by
  rw[← hW9,setCells_row _ _ _ _ _ _ RX8,zcb]
 have b9:Below X W8 W9:=by rw[← hW9];exact setCells_below X X (yV _) _ _ _ _ (Below.refl _ _)
 have RA9:W9.heap[w.heap.size]? = some (.cells (reqC r (.slice q0 m0 c0) (.slice qh0 mh0 ch0)) 32 (0,0)):=(b9.block _ (by omega)).trans RA8
 have RU9:W9.heap[w.heap.size + 1]? = some (.cells (urlC next (.slice qn mn cn)) 27 (0,0)):=(b9.block _ (by omega)).trans RU8
 have RR9:W9.heap[w.heap.size + 1 + 1]? = some (.cells (reqC req0 (.slice none 0 0) (.slice none 0 0)) 32 (0,0)):=(b9.block _ (by omega)).trans RR8
 have B9:Below w.heap.size w W9:=B8.trans (b9.mono (by omega))
 have hn9:FldsA w.heap.size (fun k=>k=X∨k=w.heap.size + 1 + 1) W9 (.slice qd md cd) D:=by rw[← hW9];exact hn8.step fun k _ hk=>zaH _ _ _ _ (fun h=>hk (.inl h))
 have hcl9:=HCl W9 (hpn.below B9)
 have e15:=yE RU9 15 (.slice qn mn cn) rfl
 go_wp2_with (first|((with_reducible (show wpList _ _ _ (Oper.mk _ (.load 27 _) _ _ _ _::_) _ _));refine zaa (by rfl) 27 _ rfl (w.heap.size + 1) 0 rfl (urlC next (.slice qn mn cn)) _ (zac RU8) yB rfl yN ?_)|((with_reducible (show wpList _ _ _ (Oper.mk none (.store 27 _ _) _ _ _ none::_) _ _));refine wpList_store_mid rfl 27 _ _ rfl X 0 _ rfl rfl th8 yN (by simp[Value.oneCell']) ?_;rw[hW9]))
 clear d8 f8
 refine hcl9.out.mono ?_
 rintro e w10 ⟨v10,rfl,ho10,b10⟩
 obtain⟨qp,mp,cp,rfl⟩:=(Strs.of_own ho10).slice
 have hX9:X < W9.heap.size:=yS RX9
 have RX10:=kept b10 RX9
 have RA10:=kept b10 RA9
 have RU10:=kept b10 RU9
 have RR10:=kept b10 RR9
 have B10:=yD B9 b10
 have hn10:=hn9.below b10
 have d11:=yE RX10 15 _ rfl
 have f11:=yF RX10 15
 obtain⟨W11,hW11⟩:∃ W11,w10.setCell ⟨X,15,none⟩ (.slice qp mp cp)=W11:=⟨_,rfl⟩
 have RX11:W11.heap[X]? = some (.cells (reqC { r with heads:=D,tainted:=tb,cross:=cb,url:=next } (.slice qp mp cp) (.slice qd md cd)) 32 (0,0)):=by
  rw[← hW11,heap_setCell_same _ _ _ _ _ _ RX10];simp[reqC]
 have RA11:W11.heap[w.heap.size]? = some (.cells (reqC r (.slice q0 m0 c0) (.slice qh0 mh0 ch0)) 32 (0,0)):=by rw[← hW11];exact(yG _ _ _ _ (by simp;omega)).trans RA10
 have RU11:W11.heap[w.heap.size + 1]? = some (.cells (urlC next (.slice qn mn cn)) 27 (0,0)):=by rw[← hW11];exact(yG _ _ _ _ (by simp;omega)).trans RU10
 have RR11:W11.heap[w.heap.size + 1 + 1]? = some (.cells (reqC req0 (.slice none 0 0) (.slice none 0 0)) 32 (0,0)):=by rw[← hW11];exact(yG _ _ _ _ (by simp;omega)).trans RR10
 have B11:Below w.heap.size w W11:=by rw[← hW11];exact B10.setCell (p:=⟨X,15,none⟩) (by simp;omega) _
 have hn11:FldsA w.heap.size (fun k=>k=X∨k=w.heap.size + 1 + 1) W11 (.slice qd md cd) D:=by rw[← hW11];exact hn10.step fun k _ hk=>yG _ _ _ _ (by simp;intro h;exact hk (.inl h))
 have ho11:W11.ownsRow W9.heap.size 9 1 (.slice qp mp cp) next.path.length (next.path.map Value.string):=by rw[← hW11];exact yU ho10 (by simp;omega) _
 have e44:=yE RX11 44 (.int .i64 r.count) rfl
 have d12:=yE RX11 44 _ rfl
 have f12:=yF RX11 44
 obtain⟨W12,hW12⟩:∃ W12,W11.setCell ⟨X,44,none⟩ (.int .i64 (r.count + 1))=W12:=⟨_,rfl⟩
 have RX12:W12.heap[X]? = some (.cells (reqC { r with heads:=D,tainted:=tb,cross:=cb,url:=next,count:=r.count + 1 } (.slice qp mp cp) (.slice qd md cd)) 32 (0,0)):=by
  rw[← hW12,heap_setCell_same _ _ _ _ _ _ RX11];simp[reqC]
 have RA12:W12.heap[w.heap.size]? = some (.cells (reqC r (.slice q0 m0 c0) (.slice qh0 mh0 ch0)) 32 (0,0)):=by rw[← hW12];exact(yG _ _ _ _ (by simp;omega)).trans RA11
 have RU12:W12.heap[w.heap.size + 1]? = some (.cells (urlC next (.slice qn mn cn)) 27 (0,0)):=by rw[← hW12];exact(yG _ _ _ _ (by simp;omega)).trans RU11
 have RR12:W12.heap[w.heap.size + 1 + 1]? = some (.cells (reqC req0 (.slice none 0 0) (.slice none 0 0)) 32 (0,0)):=by rw[← hW12];exact(yG _ _ _ _ (by simp;omega)).trans RR11
 have B12:Below w.heap.size w W12:=by rw[← hW12];exact B11.setCell (p:=⟨X,44,none⟩) (by simp;omega) _
 have hn12:FldsA w.heap.size (fun k=>k=X∨k=w.heap.size + 1 + 1) W12 (.slice qd md cd) D:=by rw[← hW12];exact hn11.step fun k _ hk=>yG _ _ _ _ (by simp;intro h;exact hk (.inl h))
 have ho12:W12.ownsRow W9.heap.size 9 1 (.slice qp mp cp) next.path.length (next.path.map Value.string):=by rw[← hW12];exact yU ho11 (by simp;omega) _
 have hn13:=(hn12.step (w':=W12.setRow (w.heap.size + 1 + 1) (reqC { r with heads:=D,tainted:=tb,cross:=cb,url:=next,count:=r.count + 1 } (.slice qp mp cp) (.slice qd md cd))) fun k _ hk=>yI _ _ _ _ (fun h=>hk (.inr h.symm))).toN
 have ho13:=own_setRow (g:=w.heap.size + 1 + 1) (cs:=(reqC { r with heads:=D,tainted:=tb,cross:=cb,url:=next,count:=r.count + 1 } (.slice qp mp cp) (.slice qd md cd))) ho12 (by omega)
 have HF:=Lib.hid (And.intro (own_base ho13 (B':=w.heap.size) (by omega)) (And.intro hn13 (yM (h:=w.heap.size + 1 + 1) (cs:=(reqC { r with heads:=D,tainted:=tb,cross:=cb,url:=next,count:=r.count + 1 } (.slice qp mp cp) (.slice qd md cd))) B12 (by omega))))
 clear hn13 ho13 ho12 ho11 ho10 hn12 hn11 hn10 RX9 RA9 RU9 RR9 B9 RA10 RU10 RR10 B10 b10 RA11 RU11 RR11 B11 RA12 RU12 B12
 go_wp2_with (first|((with_reducible (show wpList _ _ _ (Oper.mk _ (.load 32 _) _ _ _ _::_) _ _));refine zaa (by rfl) 32 _ rfl X 0 rfl (reqC { r with heads:=D,tainted:=tb,cross:=cb,url:=next,count:=r.count + 1 } (.slice qp mp cp) (.slice qd md cd)) _ (zac RX12) yA rfl zab ?_)|((with_reducible (show wpList _ _ _ (Oper.mk none (.store 32 _ _) _ _ _ none::_) _ _));refine yJ rfl 32 _ _ rfl (w.heap.size + 1 + 1) _ rfl rfl 32 _ RR12 zab rfl (by simp[Value.oneCell']) ?_))
 refine yO (yT rfl _ _ (w.heap.size + 1 + 1) 32 (reqC { r with heads:=D,tainted:=tb,cross:=cb,url:=next,count:=r.count + 1 } (.slice qp mp cp) (.slice qd md cd)) (0,0) _ rfl (yH _ _ _ _ _ _ RR12) yA rfl zab) rfl ?_
 rw[HZ.out]
 exact⟨_,_,rfl,HF.out.1,HF.out.2.1,HF.out.2.2⟩
set_option maxHeartbeats 4000000 in
theorem zhL (r:Req) (next:Url) (pu hv pn:Value) (w:World) (G:Glob w) (hp:Strs w pu r.url.path) (hh:Flds w hv r.heads) (hf:zax r.heads) (fu:r.url.Fits) (hn:r.orig.host.name.size≤1000000) (hpn:Strs w pn next.path) (fn:next.Fits) (hc0:0≤r.count) (hc1:r.count≤1000) (hbo:bothU r.url next=false) :
  Calls Tryz.prog 128 #[.agg (reqC r pu hv),.agg (urlC next pn)] w (zdd (zbI r next) w):=by
 have ecnt:wrap64 (r.count + 1)=r.count + 1:=by unfold wrap64;omega
 have HZ:Hid (zbI r next={ r with url:=next,heads:=zaf [zeJ] r.heads,tainted:=taintR r.tainted r.orig r.url next,cross:=crossedR r,count:=r.count + 1 }):=by show _=_;unfold zbI;rw[hbo];rfl
 obtain⟨x,hx⟩:∃ x,x=zbI r next:=⟨_,rfl⟩
 rw[← hx] at HZ ⊢
 clear hx
 have HBo:=fun w' g s t=>Lib.hid (zbU r.url next pu pn w' g s t fu fn)
 have HTa:=fun w' g s t=>Lib.hid (zd7 r.tainted r.orig r.url next pu pn w' g s t fu fn hn)
 obtain⟨tb,htb⟩:∃ tb,tb=taintR r.tainted r.orig r.url next:=⟨_,rfl⟩
 obtain⟨qh0,mh0,ch0,rfl⟩:=hh.slice
 have HCr:=fun w' g s=>Lib.hid (zbp r pu (.slice qh0 mh0 ch0) w' g s fu hn rfl)
 obtain⟨cb,hcb⟩:∃ cb,cb=crossedR r:=⟨_,rfl⟩
 rw[hbo] at HBo
 simp only[← htb,← hcb] at HTa HCr HZ
 clear htb hcb hbo
 have HCl:=fun w' s=>Lib.hid (zaO pn next.path w' s fn.np)
 obtain⟨q0,m0,c0,rfl⟩:=hp.slice
 obtain⟨qn,mn,cn,rfl⟩:=hpn.slice
 have RA:=row3a w (.cells (reqC r (.slice q0 m0 c0) (.slice qh0 mh0 ch0)) 32) (.cells (urlC next (.slice qn mn cn)) 27) (.cells (reqC req0 (.slice none 0 0) (.slice none 0 0)) 32)
 have RU:=row3b w (.cells (reqC r (.slice q0 m0 c0) (.slice qh0 mh0 ch0)) 32) (.cells (urlC next (.slice qn mn cn)) 27) (.cells (reqC req0 (.slice none 0 0) (.slice none 0 0)) 32)
 have RR:=row3c w (.cells (reqC r (.slice q0 m0 c0) (.slice qh0 mh0 ch0)) 32) (.cells (urlC next (.slice qn mn cn)) 27) (.cells (reqC req0 (.slice none 0 0) (.slice none 0 0)) 32)
 have B0:=bel3 w (.cells (reqC r (.slice q0 m0 c0) (.slice qh0 mh0 ch0)) 32) (.cells (urlC next (.slice qn mn cn)) 27) (.cells (reqC req0 (.slice none 0 0) (.slice none 0 0)) 32)
 have hz0:(((w.alloc (.cells (reqC r (.slice q0 m0 c0) (.slice qh0 mh0 ch0)) 32)).alloc (.cells (urlC next (.slice qn mn cn)) 27)).alloc (.cells (reqC req0 (.slice none 0 0) (.slice none 0 0)) 32)).heap.size=w.heap.size + 3:=by simp
 have HO1:=Lib.hid (zcH r (.slice q0 m0 c0) (.slice qh0 mh0 ch0) (.slice none 0 0) [] _ (hp.below B0) fu.np (hh.below B0) hf (Strs.nil _) (by simp) (by simp))
 rw[zcv] at HO1
 go_enter Tryz.func128,Tryz.ntmps128
 go_wp2_with (first|((with_reducible (show wpList _ _ _ (Oper.mk _ (.load 32 _) _ _ _ _::_) _ _));refine zaa (by rfl) 32 _ rfl w.heap.size 0 rfl (reqC r (.slice q0 m0 c0) (.slice qh0 mh0 ch0)) _ (zac RA) yA rfl zab ?_))
 refine HO1.out.mono ?_
 rintro e w1 ⟨pu1,hv1,rfl,_,hn1,b1⟩
 obtain⟨q1,m1,c1,rfl⟩:∃ q m c,pu1=.slice q m c:=(Strs.of_own (l:=r.url.path) (by assumption)).slice
 obtain⟨qh1,mh1,ch1,rfl⟩:=hn1.flds.slice
 rw[hz0] at hn1
 have RA1:=kept b1 RA
 have RU1:=kept b1 RU
 have RR1:w1.heap[w.heap.size + 1 + 1]? = _:=kept b1 RR
 have B1:=yD B0 b1
 have hz1:w.heap.size + 3≤w1.heap.size:=by have:=b1.size;rw[hz0] at this;exact this
 have NX:=row1 w1 (.cells (reqC req0 (.slice none 0 0) (.slice none 0 0)) 32)
 obtain⟨W2,hW2⟩:∃ W2,(w1.alloc (.cells #[.string ⟨#[]⟩,.string ⟨#[]⟩,.string ⟨#[]⟩,.int .i64 0,.string ⟨#[]⟩,.int .i64 0,.int .i64 0,.int .i64 0,.int .i64 0,.int .i64 0,.int .i64 0,.int .i64 0,.int .i64 0,.int .i64 0,.int .i64 0,.slice none 0 0,.string ⟨#[]⟩,.string ⟨#[]⟩,.string ⟨#[]⟩,.bool false,.bool false,.string ⟨#[]⟩,.slice none 0 0,.bool false,.bool false,.string ⟨#[]⟩,.int .i64 0,.string ⟨#[]⟩,.int .i64 0,.int .i64 0,.int .i64 0,.int .i64 0,.int .i64 0,.int .i64 0,.int .i64 0,.int .i64 0,.int .i64 0,.int .i64 0,.int .i64 0,.int .i64 0,.int .i64 0,.string ⟨#[]⟩,.bool false,.bool false,.int .i64 0] 32)).setRow w1.heap.size (reqC r (.slice q1 m1 c1) (.slice qh1 mh1 ch1))=W2:=⟨_,rfl⟩
 have b2:Below w1.heap.size w1 W2:=by rw[← hW2];exact yM (bel1 w1 _) (yV _)
 have RX2:W2.heap[w1.heap.size]? = some (.cells (reqC r (.slice q1 m1 c1) (.slice qh1 mh1 ch1)) 32 (0,0)):=by rw[← hW2];exact yH _ _ _ _ _ _ NX
 have RA2:=kept b2 RA1
 have RU2:=kept b2 RU1
 have RR2:=kept b2 RR1
 have B2:=yD B1 b2
 obtain⟨X,hX⟩:∃ X,X=w1.heap.size:=⟨_,rfl⟩
 have hX3:w.heap.size + 3≤X:=by omega
 have hn2:FldsA w.heap.size (fun k=>k=X∨k=w.heap.size + 1 + 1) W2 (.slice qh1 mh1 ch1) r.heads:=(hn1.toA (B':=w.heap.size) (by omega) (fun g hg hlt=>by rintro(h|h) <;> omega)).below b2
 rw[← hX] at RX2
 clear hn1 b1 b2 RA RU RR RA1 RU1 RR1 HO1 B0 B1
 go_wp2_with (first|((with_reducible (show wpList _ _ _ (Oper.mk none (.store 32 _ _) _ _ _ none::_) _ _));refine yJ rfl 32 _ _ rfl w1.heap.size _ rfl rfl 32 _ NX zab rfl (by simp[Value.oneCell']) ?_)|((with_reducible (show wpList _ _ _ (Oper.mk _ (.load 27 _) _ _ _ _::_) _ _));refine zaa (by rfl) 27 _ rfl w.heap.size 0 rfl (urlC r.url (.slice q0 m0 c0)) _ (zae RA2 0 _ rfl) yB rfl yN ?_)|((with_reducible (show wpList _ _ _ (Oper.mk _ (.load 27 _) _ _ _ _::_) _ _));refine zaa (by rfl) 27 _ rfl (w.heap.size + 1) 0 rfl (urlC next (.slice qn mn cn)) _ (zac RU2) yB rfl yN ?_))
 refine(HBo _ (G.below B2) (hp.below B2) (hpn.below B2)).out.mono ?_
 rintro e w3 ⟨rfl,b3⟩
 have RX3:=kept b3 RX2
 have RA3:=kept b3 RA2
 have RU3:=kept b3 RU2
 have RR3:=kept b3 RR2
 have B3:=yD B2 b3
 clear RX2 RA2 RU2 RR2 B2 hn2 b3 NX
 simp only[← hX]
 clear hX hW2 hz1
 have b4:=bel1 w3 (.cells #[.string ⟨#[65,117,116,104,111,114,105,122,97,116,105,111,110]⟩] 9)
 have R4:=row1 w3 (.cells #[.string ⟨#[65,117,116,104,111,114,105,122,97,116,105,111,110]⟩] 9)
 have hz4:(w3.alloc (.cells #[.string ⟨#[65,117,116,104,111,114,105,122,97,116,105,111,110]⟩] 9)).heap.size=w3.heap.size + 1:=by simp
 have hst:Strs (w3.alloc (.cells #[.string ⟨#[65,117,116,104,111,114,105,122,97,116,105,111,110]⟩] 9)) (.slice (some ⟨w3.heap.size,0,none⟩) 1 1) [zeJ]:=by
  refine .inr ⟨w3.heap.size,0,1,rfl,by decide,by unfold maxLen;decide,by simp,fun j hj=>?_⟩
  obtain rfl:j=0:=by simp at hj;omega
  exact yE R4 0 _ rfl
 have B4:=yD B3 b4
 have HO2:=Lib.hid (zcH r (.slice q0 m0 c0) (.slice qh0 mh0 ch0) (.slice (some ⟨w3.heap.size,0,none⟩) 1 1) [zeJ] _ (hp.below B4) fu.np (hh.below B4) hf hst (by decide) (by decide))
 obtain⟨D,hD⟩:∃ D,D=zaf [zeJ] r.heads:=⟨_,rfl⟩
 rw[← hD] at HO2 HZ
 clear hD hst R4
 have RX4:=kept b4 RX3
 have RA4:=kept b4 RA3
 have RU4:=kept b4 RU3
 have RR4:=kept b4 RR3
 have hX4:X < w3.heap.size:=yS RX3
 go_wp2_with (first|((with_reducible (show wpList _ _ _ (Oper.mk _ (.load 32 _) _ _ _ _::_) _ _));refine zaa (by rfl) 32 _ rfl w.heap.size 0 rfl (reqC r (.slice q0 m0 c0) (.slice qh0 mh0 ch0)) _ (zac RA3) yA rfl zab ?_)|((with_reducible (show wpList _ _ _ (Oper.mk _ (.load 32 _) _ _ _ _::_) _ _));refine zaa (by rfl) 32 _ rfl w.heap.size 0 rfl (reqC r (.slice q0 m0 c0) (.slice qh0 mh0 ch0)) _ (zac RA4) yA rfl zab ?_))
 refine HO2.out.mono ?_
 rintro e w39 ⟨pu9,hv9,rfl,ho9,hn9,b39⟩
 obtain⟨qx,mx,cx,rfl⟩:=(Strs.of_own (l:=r.url.path) ho9).slice
 obtain⟨qd,md,cd,rfl⟩:=hn9.flds.slice
 rw[hz4] at hn9
 have RX39:=kept b39 RX4
 have RA39:=kept b39 RA4
 have RU39:=kept b39 RU4
 have RR39:=kept b39 RR4
 have B39:=yD B4 b39
 clear RX4 RA4 RU4 RR4 RX3 RA3 RU3 RR3 b39 b4 HO2
 obtain⟨W40,hW40⟩:∃ W40,w39.setRow X (reqC { r with heads:=D } (.slice qx mx cx) (.slice qd md cd))=W40:=⟨_,rfl⟩
 have RX40:W40.heap[X]? = some (.cells (reqC { r with heads:=D } (.slice qx mx cx) (.slice qd md cd)) 32 (0,0)):=by rw[← hW40];exact yH _ _ _ _ _ _ RX39
 have RA40:W40.heap[w.heap.size]? = some (.cells (reqC r (.slice q0 m0 c0) (.slice qh0 mh0 ch0)) 32 (0,0)):=by rw[← hW40];exact(yI _ _ _ _ (by omega)).trans RA39
 have RU40:W40.heap[w.heap.size + 1]? = some (.cells (urlC next (.slice qn mn cn)) 27 (0,0)):=by rw[← hW40];exact(yI _ _ _ _ (by omega)).trans RU39
 have RR40:W40.heap[w.heap.size + 1 + 1]? = some (.cells (reqC req0 (.slice none 0 0) (.slice none 0 0)) 32 (0,0)):=by rw[← hW40];exact(yI _ _ _ _ (by omega)).trans RR39
 have B40:Below w.heap.size w W40:=by rw[← hW40];exact yM B39 (by omega)
 have hs3:=B3.size
 have hn40:FldsA w.heap.size (fun k=>k=X∨k=w.heap.size + 1 + 1) W40 (.slice qd md cd) D:=by
  rw[← hW40]
  exact(hn9.toA (bad:=fun k=>k=X∨k=w.heap.size + 1 + 1) (B':=w.heap.size) (by omega) (fun g hg hlt=>by rintro(h|h) <;> omega)).step fun k _ hk=>yI _ _ _ _ (fun h=>hk (.inl h.symm))
 clear ho9 hn9 RA39 RU39 RR39 B39
 go_upto_region 4 with (first|((with_reducible (show wpList _ _ _ (Oper.mk none (.store 32 _ _) _ _ _ none::_) _ _));refine yJ rfl 32 _ _ rfl X _ rfl rfl 32 _ RX39 zab rfl (by simp[Value.oneCell']) ?_;rw[hW40]))
 clear RX39 hW40
 have e42:=yE RA40 42 (.bool r.tainted) rfl
 go_wp2_with (first|((with_reducible (show wpList _ _ _ (Oper.mk _ (.load 30 _) _ _ _ _::_) _ _));refine zaa (by rfl) 30 _ rfl w.heap.size 24 rfl (origC r.orig) _ (zae RA40 24 _ rfl) Tryz.underlying30 rfl zan ?_)|((with_reducible (show wpList _ _ _ (Oper.mk _ (.load 27 _) _ _ _ _::_) _ _));refine zaa (by rfl) 27 _ rfl w.heap.size 0 rfl (urlC r.url (.slice q0 m0 c0)) _ (zae RA40 0 _ rfl) yB rfl yN ?_)|((with_reducible (show wpList _ _ _ (Oper.mk _ (.load 27 _) _ _ _ _::_) _ _));refine zaa (by rfl) 27 _ rfl (w.heap.size + 1) 0 rfl (urlC next (.slice qn mn cn)) _ (zac RU40) yB rfl yN ?_))
 refine(HTa _ (G.below B40) (hp.below B40) (hpn.below B40)).out.mono ?_
 rintro e w5 ⟨rfl,b5⟩
 have RX5:=kept b5 RX40
 have RA5:=kept b5 RA40
 have RU5:=kept b5 RU40
 have RR5:=kept b5 RR40
 have B5:=yD B40 b5
 have hn5:=hn40.below b5
 clear RX40 RA40 RU40 RR40 B40 hn40 b5
 have d6:=yE RX5 42 _ rfl
 have f6:=yF RX5 42
 obtain⟨W6,hW6⟩:∃ W6,w5.setCell ⟨X,42,none⟩ (.bool tb)=W6:=⟨_,rfl⟩
 have RX6:W6.heap[X]? = some (.cells (reqC { r with heads:=D,tainted:=tb } (.slice qx mx cx) (.slice qd md cd)) 32 (0,0)):=by
  rw[← hW6,heap_setCell_same _ _ _ _ _ _ RX5];simp[reqC]
 have RA6:W6.heap[w.heap.size]? = some (.cells (reqC r (.slice q0 m0 c0) (.slice qh0 mh0 ch0)) 32 (0,0)):=by rw[← hW6];exact(yG _ _ _ _ (by simp;omega)).trans RA5
 have RU6:W6.heap[w.heap.size + 1]? = some (.cells (urlC next (.slice qn mn cn)) 27 (0,0)):=by rw[← hW6];exact(yG _ _ _ _ (by simp;omega)).trans RU5
 have RR6:W6.heap[w.heap.size + 1 + 1]? = some (.cells (reqC req0 (.slice none 0 0) (.slice none 0 0)) 32 (0,0)):=by rw[← hW6];exact(yG _ _ _ _ (by simp;omega)).trans RR5
 have B6:Below w.heap.size w W6:=by rw[← hW6];exact B5.setCell (p:=⟨X,42,none⟩) (by simp;omega) _
 have hn6:FldsA w.heap.size (fun k=>k=X∨k=w.heap.size + 1 + 1) W6 (.slice qd md cd) D:=by rw[← hW6];exact hn5.step fun k _ hk=>yG _ _ _ _ (by simp;intro h;exact hk (.inl h))
 have hcr6:=HCr W6 (G.below B6) (hp.below B6)
 go_wp2_with (first|((with_reducible (show wpList _ _ _ (Oper.mk _ (.load 32 _) _ _ _ _::_) _ _));refine zaa (by rfl) 32 _ rfl w.heap.size 0 rfl (reqC r (.slice q0 m0 c0) (.slice qh0 mh0 ch0)) _ (zac RA6) yA rfl zab ?_))
 clear d6 f6
 refine hcr6.out.mono ?_
 rintro e w7 ⟨rfl,b7⟩
 have RX7:=kept b7 RX6
 have RA7:=kept b7 RA6
 have RU7:=kept b7 RU6
 have RR7:=kept b7 RR6
 have B7:=yD B6 b7
 have hn7:=hn6.below b7
 clear RX6 RA6 RU6 RR6 B6 hn6 b7
 have d8:=yE RX7 43 _ rfl
 have f8:=yF RX7 43
 obtain⟨W8,hW8⟩:∃ W8,w7.setCell ⟨X,43,none⟩ (.bool cb)=W8:=⟨_,rfl⟩
 have RX8:W8.heap[X]? = some (.cells (reqC { r with heads:=D,tainted:=tb,cross:=cb } (.slice qx mx cx) (.slice qd md cd)) 32 (0,0)):=by
  rw[← hW8,heap_setCell_same _ _ _ _ _ _ RX7];simp[reqC]
 have RA8:W8.heap[w.heap.size]? = some (.cells (reqC r (.slice q0 m0 c0) (.slice qh0 mh0 ch0)) 32 (0,0)):=by rw[← hW8];exact(yG _ _ _ _ (by simp;omega)).trans RA7
 have RU8:W8.heap[w.heap.size + 1]? = some (.cells (urlC next (.slice qn mn cn)) 27 (0,0)):=by rw[← hW8];exact(yG _ _ _ _ (by simp;omega)).trans RU7
 have RR8:W8.heap[w.heap.size + 1 + 1]? = some (.cells (reqC req0 (.slice none 0 0) (.slice none 0 0)) 32 (0,0)):=by rw[← hW8];exact(yG _ _ _ _ (by simp;omega)).trans RR7
 have B8:Below w.heap.size w W8:=by rw[← hW8];exact B7.setCell (p:=⟨X,43,none⟩) (by simp;omega) _
 have hn8:FldsA w.heap.size (fun k=>k=X∨k=w.heap.size + 1 + 1) W8 (.slice qd md cd) D:=by rw[← hW8];exact hn7.step fun k _ hk=>yG _ _ _ _ (by simp;intro h;exact hk (.inl h))
 have th8:=there_row (n:=21) RX8 (o:=0) (by simp)
 obtain⟨W9,hW9⟩:∃ W9,W8.setCells X 0 (urlC next (.slice qn mn cn)).toList=W9:=⟨_,rfl⟩
 have RX9:W9.heap[X]? = some (.cells (reqC { r with heads:=D,tainted:=tb,cross:=cb,url:=next } (.slice qn mn cn) (.slice qd md cd)) 32 (0,0)):=by
  rw[← hW9,setCells_row _ _ _ _ _ _ RX8,zcb]
 have b9:Below X W8 W9:=by rw[← hW9];exact setCells_below X X (yV _) _ _ _ _ (Below.refl _ _)
 have RA9:W9.heap[w.heap.size]? = some (.cells (reqC r (.slice q0 m0 c0) (.slice qh0 mh0 ch0)) 32 (0,0)):=(b9.block _ (by omega)).trans RA8
 have RU9:W9.heap[w.heap.size + 1]? = some (.cells (urlC next (.slice qn mn cn)) 27 (0,0)):=(b9.block _ (by omega)).trans RU8
 have RR9:W9.heap[w.heap.size + 1 + 1]? = some (.cells (reqC req0 (.slice none 0 0) (.slice none 0 0)) 32 (0,0)):=(b9.block _ (by omega)).trans RR8
 have B9:Below w.heap.size w W9:=B8.trans (b9.mono (by omega))
 have hn9:FldsA w.heap.size (fun k=>k=X∨k=w.heap.size + 1 + 1) W9 (.slice qd md cd) D:=by rw[← hW9];exact hn8.step fun k _ hk=>zaH _ _ _ _ (fun h=>hk (.inl h))
 have hcl9:=HCl W9 (hpn.below B9)
 have e15:=yE RU9 15 (.slice qn mn cn) rfl
 go_wp2_with (first|((with_reducible (show wpList _ _ _ (Oper.mk _ (.load 27 _) _ _ _ _::_) _ _));refine zaa (by rfl) 27 _ rfl (w.heap.size + 1) 0 rfl (urlC next (.slice qn mn cn)) _ (zac RU8) yB rfl yN ?_)|((with_reducible (show wpList _ _ _ (Oper.mk none (.store 27 _ _) _ _ _ none::_) _ _));refine wpList_store_mid rfl 27 _ _ rfl X 0 _ rfl rfl th8 yN (by simp[Value.oneCell']) ?_;rw[hW9]))
 clear d8 f8
 refine hcl9.out.mono ?_
 rintro e w10 ⟨v10,rfl,ho10,b10⟩
 obtain⟨qp,mp,cp,rfl⟩:=(Strs.of_own ho10).slice
 have hX9:X < W9.heap.size:=yS RX9
 have RX10:=kept b10 RX9
 have RA10:=kept b10 RA9
 have RU10:=kept b10 RU9
 have RR10:=kept b10 RR9
 have B10:=yD B9 b10
 have hn10:=hn9.below b10
 have d11:=yE RX10 15 _ rfl
 have f11:=yF RX10 15
 obtain⟨W11,hW11⟩:∃ W11,w10.setCell ⟨X,15,none⟩ (.slice qp mp cp)=W11:=⟨_,rfl⟩
 have RX11:W11.heap[X]? = some (.cells (reqC { r with heads:=D,tainted:=tb,cross:=cb,url:=next } (.slice qp mp cp) (.slice qd md cd)) 32 (0,0)):=by
  rw[← hW11,heap_setCell_same _ _ _ _ _ _ RX10];simp[reqC]
 have RA11:W11.heap[w.heap.size]? = some (.cells (reqC r (.slice q0 m0 c0) (.slice qh0 mh0 ch0)) 32 (0,0)):=by rw[← hW11];exact(yG _ _ _ _ (by simp;omega)).trans RA10
 have RU11:W11.heap[w.heap.size + 1]? = some (.cells (urlC next (.slice qn mn cn)) 27 (0,0)):=by rw[← hW11];exact(yG _ _ _ _ (by simp;omega)).trans RU10
 have RR11:W11.heap[w.heap.size + 1 + 1]? = some (.cells (reqC req0 (.slice none 0 0) (.slice none 0 0)) 32 (0,0)):=by rw[← hW11];exact(yG _ _ _ _ (by simp;omega)).trans RR10
 have B11:Below w.heap.size w W11:=by rw[← hW11];exact B10.setCell (p:=⟨X,15,none⟩) (by simp;omega) _
 have hn11:FldsA w.heap.size (fun k=>k=X∨k=w.heap.size + 1 + 1) W11 (.slice qd md cd) D:=by rw[← hW11];exact hn10.step fun k _ hk=>yG _ _ _ _ (by simp;intro h;exact hk (.inl h))
 have ho11:W11.ownsRow W9.heap.size 9 1 (.slice qp mp cp) next.path.length (next.path.map Value.string):=by rw[← hW11];exact yU ho10 (by simp;omega) _
 have e44:=yE RX11 44 (.int .i64 r.count) rfl
 have d12:=yE RX11 44 _ rfl
 have f12:=yF RX11 44
 obtain⟨W12,hW12⟩:∃ W12,W11.setCell ⟨X,44,none⟩ (.int .i64 (r.count + 1))=W12:=⟨_,rfl⟩
 have RX12:W12.heap[X]? = some (.cells (reqC { r with heads:=D,tainted:=tb,cross:=cb,url:=next,count:=r.count + 1 } (.slice qp mp cp) (.slice qd md cd)) 32 (0,0)):=by
  rw[← hW12,heap_setCell_same _ _ _ _ _ _ RX11];simp[reqC]
 have RA12:W12.heap[w.heap.size]? = some (.cells (reqC r (.slice q0 m0 c0) (.slice qh0 mh0 ch0)) 32 (0,0)):=by rw[← hW12];exact(yG _ _ _ _ (by simp;omega)).trans RA11
 have RU12:W12.heap[w.heap.size + 1]? = some (.cells (urlC next (.slice qn mn cn)) 27 (0,0)):=by rw[← hW12];exact(yG _ _ _ _ (by simp;omega)).trans RU11
 have RR12:W12.heap[w.heap.size + 1 + 1]? = some (.cells (reqC req0 (.slice none 0 0) (.slice none 0 0)) 32 (0,0)):=by rw[← hW12];exact(yG _ _ _ _ (by simp;omega)).trans RR11
 have B12:Below w.heap.size w W12:=by rw[← hW12];exact B11.setCell (p:=⟨X,44,none⟩) (by simp;omega) _
 have hn12:FldsA w.heap.size (fun k=>k=X∨k=w.heap.size + 1 + 1) W12 (.slice qd md cd) D:=by rw[← hW12];exact hn11.step fun k _ hk=>yG _ _ _ _ (by simp;intro h;exact hk (.inl h))
 have ho12:W12.ownsRow W9.heap.size 9 1 (.slice qp mp cp) next.path.length (next.path.map Value.string):=by rw[← hW12];exact yU ho11 (by simp;omega) _
 have hn13:=(hn12.step (w':=W12.setRow (w.heap.size + 1 + 1) (reqC { r with heads:=D,tainted:=tb,cross:=cb,url:=next,count:=r.count + 1 } (.slice qp mp cp) (.slice qd md cd))) fun k _ hk=>yI _ _ _ _ (fun h=>hk (.inr h.symm))).toN
 have ho13:=own_setRow (g:=w.heap.size + 1 + 1) (cs:=(reqC { r with heads:=D,tainted:=tb,cross:=cb,url:=next,count:=r.count + 1 } (.slice qp mp cp) (.slice qd md cd))) ho12 (by omega)
 have HF:=Lib.hid (And.intro (own_base ho13 (B':=w.heap.size) (by omega)) (And.intro hn13 (yM (h:=w.heap.size + 1 + 1) (cs:=(reqC { r with heads:=D,tainted:=tb,cross:=cb,url:=next,count:=r.count + 1 } (.slice qp mp cp) (.slice qd md cd))) B12 (by omega))))
 clear hn13 ho13 ho12 ho11 ho10 hn12 hn11 hn10 RX9 RA9 RU9 RR9 B9 RA10 RU10 RR10 B10 b10 RA11 RU11 RR11 B11 RA12 RU12 B12
 go_wp2_with (first|((with_reducible (show wpList _ _ _ (Oper.mk _ (.load 32 _) _ _ _ _::_) _ _));refine zaa (by rfl) 32 _ rfl X 0 rfl (reqC { r with heads:=D,tainted:=tb,cross:=cb,url:=next,count:=r.count + 1 } (.slice qp mp cp) (.slice qd md cd)) _ (zac RX12) yA rfl zab ?_)|((with_reducible (show wpList _ _ _ (Oper.mk none (.store 32 _ _) _ _ _ none::_) _ _));refine yJ rfl 32 _ _ rfl (w.heap.size + 1 + 1) _ rfl rfl 32 _ RR12 zab rfl (by simp[Value.oneCell']) ?_))
 refine yO (yT rfl _ _ (w.heap.size + 1 + 1) 32 (reqC { r with heads:=D,tainted:=tb,cross:=cb,url:=next,count:=r.count + 1 } (.slice qp mp cp) (.slice qd md cd)) (0,0) _ rfl (yH _ _ _ _ _ _ RR12) yA rfl zab) rfl ?_
 rw[HZ.out]
 exact⟨_,_,rfl,HF.out.1,HF.out.2.1,HF.out.2.2⟩
theorem zgU (r:Req) (next:Url) (pu hv pn:Value) (w:World) (G:Glob w) (hp:Strs w pu r.url.path) (hh:Flds w hv r.heads) (hf:zax r.heads) (fu:r.url.Fits) (hn:r.orig.host.name.size≤1000000) (hpn:Strs w pn next.path) (fn:next.Fits) (hc0:0≤r.count) (hc1:r.count≤1000) :
  Calls Tryz.prog 128 #[.agg (reqC r pu hv),.agg (urlC next pn)] w (zdd (zbI r next) w):=by
 cases hb:bothU r.url next with
 | true=>exact zgV r next pu hv pn w G hp hh hf fu hn hpn fn hc0 hc1 hb
 | false=>exact zhL r next pu hv pn w G hp hh hf fu hn hpn fn hc0 hc1 hb
end Go.Proofs.YtdlkjofnnefjfaaGreatDoor
