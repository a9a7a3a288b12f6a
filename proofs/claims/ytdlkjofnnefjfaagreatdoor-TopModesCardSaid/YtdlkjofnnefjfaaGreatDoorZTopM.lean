/- TopModes, walked: for every input it returns true. -/
import Derived.Test.YtdlkjofnnefjfaaGreatDoorZShort
import Derived.Test.YtdlkjofnnefjfaaGreatDoorZFewA
set_option linter.all false
namespace Go.Proofs.YtdlkjofnnefjfaaGreatDoor
set_option maxRecDepth 100000
open Go.RowKit Go.Shelf
theorem zbY {a b:Int} (h:a≠b):(a == b)=false∧(a != b)=true:=by simp[h]
theorem zfz {w:World} {q:Option Addr} {n c:Nat} {r:Int×ByteArray} {l:List (Int×ByteArray)} (h:Resps w (.slice q n c) (r::l)):∃ b off,q=some ⟨b,off,none⟩∧b < w.heap.size∧w.cell? ⟨b,off,none⟩=some (.int .i64 r.1)∧w.cell? ⟨b,off + 1,none⟩=some (.string r.2):=by
 obtain⟨q',cap,hv,h1,h2⟩:=h
 cases hv
 obtain⟨b,off,rfl,hb,hr⟩:=h2 0 (by simp)
 exact⟨b,off,rfl,hb,hr 0 _ rfl,hr 1 _ rfl⟩
set_option maxHeartbeats 4000000 in
theorem zd9 (raw:ByteArray) (q:Req) (pq hq lv:Value) (rs:List (Int×ByteArray)) (w:World) (G:Glob w) (hp:Strs w pq q.url.path) (hh:Flds w hq q.heads) (hr:Resps w lv rs) :
  Calls Tryz.prog 3 #[.string raw,.agg (reqC q pq hq),lv] w fun e w'=>e=.returned (.bool true)∧Below w.heap.size w w':=by
 have hqs:=hh.slice
 obtain⟨qa,ma,ca,hpe⟩:=hp.slice
 obtain⟨qh,mh,ch,hqe⟩:=hqs
 subst hpe
 subst hqe
 have R0:=row1 w (.cells (reqC q (.slice qa ma ca) (.slice qh mh ch)) 32)
 have B0:=bel1 w (.cells (reqC q (.slice qa ma ca) (.slice qh mh ch)) 32)
 have HA:=Lib.hid (zdD _ (G.below B0))
 have HF:=fun w' h=>Lib.hid (zeV raw q (.slice qa ma ca) (.slice qh mh ch) lv rs w' (hp.below h) (hh.below h) (hr.below h))
 have HFB:Hid (fewT raw q rs=true→Begin raw q∧zcc rs∧rs.length≤30):=zdI
 obtain⟨b,hb⟩:∃ b,b=fewT raw q rs:=⟨_,rfl⟩
 rw[← hb] at HFB
 simp only[← hb] at HF
 clear hb
 have HH:=Lib.hid hh
 have HR:=Lib.hid hr
 obtain⟨ql,cl,rfl,hcl⟩:=hr.cells
 have HP:=Lib.hid hr
 clear hp hh hcl hr
 go_enter Tryz.func3,Tryz.ntmps3
 go_wp2_with fail
 refine HA.out.mono ?_
 rintro e w1 ⟨rfl,b1⟩
 have B1:=yD B0 b1
 have R1:=kept b1 R0
 clear HA R0 B0 b1
 go_wp2_with (first|((with_reducible (show wpList _ _ _ (Oper.mk _ (.load 32 (.tmp 4)) _ _ _ _::_) _ _));refine zaa (by rfl) 32 _ rfl w.heap.size 0 rfl (reqC q (.slice qa ma ca) (.slice qh mh ch)) _ (zac R1) yA rfl zab ?_))
 refine(HF _ B1).out.mono ?_
 rintro e w2 ⟨rfl,b2⟩
 have B2:=yD B1 b2
 have R2:=kept b2 R1
 clear HF R1 B1 b2
 cases b with
 | false =>
  go_wp2
  go_ret
  exact⟨rfl,B2⟩
 | true =>
  obtain⟨hbeg,hri,hrl⟩:=HFB.out rfl
  clear HFB
  have HRUN:=Lib.hid (zeI raw q (.slice qa ma ca) (.slice qh mh ch) (.slice ql rs.length cl) rs w2 (G.below B2) (HH.out.below B2) ⟨_,_,_,rfl⟩ (HR.out.below B2) hbeg.starts (hbeg.fits hri) (by have:=zdF hrl (raw:=raw) (q:=q);omega) (fun x hx=>(zcl hbeg hri x hx).small))
  have HST:=fun w' h=>Lib.hid (zd6 raw q (.slice qa ma ca) (.slice qh mh ch) w' (G.below h) (HH.out.below h) ⟨_,_,_,rfl⟩ hbeg.starts)
  obtain⟨t,ht⟩:∃ t,t=chainR raw q rs:=⟨_,rfl⟩
  rw[← ht] at HRUN
  have HT:=Lib.hid ht
  clear ht
  obtain⟨⟨o,n0⟩,ho⟩:∃ o,o=startR raw q:=⟨_,rfl⟩
  simp only[← ho] at HST
  have HO:Hid (startR raw q=(o,n0)):=ho.symm
  have HRI:=Lib.hid hri
  clear ho hbeg hri
  go_wp2_with (first|((with_reducible (show wpList _ _ _ (Oper.mk _ (.load 32 (.tmp 4)) _ _ _ _::_) _ _));refine zaa (by rfl) 32 _ rfl w.heap.size 0 rfl (reqC q (.slice qa ma ca) (.slice qh mh ch)) _ (zac R2) yA rfl zab ?_))
  refine HRUN.out.mono ?_
  rintro e w3 ⟨v,ss,rfl,hss,hown,-,b3⟩
  have B3:=yD B2 b3
  have R3:=kept b3 R2
  have hlen:=hss.len
  obtain⟨qv,cv,rfl⟩:=own_slice hown
  clear HRUN hss hown R2 b3
  go_wp2_with (first|((with_reducible (show wpList _ _ _ (Oper.mk _ (.load 32 (.tmp 4)) _ _ _ _::_) _ _));refine zaa (by rfl) 32 _ rfl w.heap.size 0 rfl (reqC q (.slice qa ma ca) (.slice qh mh ch)) _ (zac R3) yA rfl zab ?_))
  refine(HST _ B3).out.mono ?_
  rintro e w4 ⟨b4,he⟩
  have B4:=yD B3 b4
  have R4:=kept b4 R3
  have A5:=row1 w4 (.cells (reqC req0 (.slice none 0 0) (.slice none 0 0)) 32)
  clear HST R3 b4
  obtain⟨l,e0,n1⟩:=t
  cases o with
  | none =>
   subst he
   obtain⟨hn0,hch⟩:=zb7 HO.out rs
   have hte:=HT.out.trans hch
   cases hte
   obtain rfl:ss=[]:=List.length_eq_zero_iff.1 hlen
   obtain⟨f1,f2⟩:=zbY hn0
   have k5:Below w4.heap.size w4 ((w4.alloc (.cells (reqC req0 (.slice none 0 0) (.slice none 0 0)) 32)).setRow w4.heap.size (reqC req0 (.slice none 0 0) (.slice none 0 0))):=yM (bel1 w4 _) (yV _)
   obtain⟨W5,hW5⟩:∃ V,(w4.alloc (.cells (reqC req0 (.slice none 0 0) (.slice none 0 0)) 32)).setRow w4.heap.size (reqC req0 (.slice none 0 0) (.slice none 0 0))=V:=⟨_,rfl⟩
   have HW5:=Lib.hid hW5
   rw[hW5] at k5
   clear hW5 hch hn0 HT HO hlen
   have B5:=yD B4 k5
   go_wp2_with ((with_reducible (show wpList _ _ _ (Oper.mk none (.store 32 (.tmp 12) _) _ _ _ none::_) _ _));refine zag rfl 32 _ _ rfl w4.heap.size (reqC req0 (.slice none 0 0) (.slice none 0 0)) rfl rfl 32 _ A5 zab rfl (zbP ⟨_,_,_,rfl⟩ ⟨_,_,_,rfl⟩) W5 HW5.out ?_)
   go_ret
   exact⟨rfl,B5⟩
  | some x =>
   obtain⟨pu',hv',rfl,o1,o2⟩:=he
   obtain⟨q1,c1,rfl⟩:=own_slice o1
   obtain⟨q2,m2,c2,rfl⟩:=o2.flds.slice
   have hml:=zdO HO.out rs
   have hml1:l.length=(chainR raw q rs).1.length:=by rw[← HT.out]
   have g0:0 < l.length:=by omega
   have g1:l.length≤21:=by omega
   have k5:Below w4.heap.size w4 ((w4.alloc (.cells (reqC req0 (.slice none 0 0) (.slice none 0 0)) 32)).setRow w4.heap.size (reqC x (.slice q1 x.url.path.length c1) (.slice q2 m2 c2))):=yM (bel1 w4 _) (yV _)
   obtain⟨W5,hW5⟩:∃ V,(w4.alloc (.cells (reqC req0 (.slice none 0 0) (.slice none 0 0)) 32)).setRow w4.heap.size (reqC x (.slice q1 x.url.path.length c1) (.slice q2 m2 c2))=V:=⟨_,rfl⟩
   have HW5:=Lib.hid hW5
   rw[hW5] at k5
   clear hW5
   have B5:=yD B4 k5
   have R5:=kept k5 R4
   have e39:=yE R5 39 (.int .i64 q.redirect) rfl
   by_cases hred:q.redirect=0
   ·have hf:=zdN HO.out rs hred
    rw[← HT.out] at hf
    obtain⟨f7,f7'⟩:=zbY hf.1
    obtain⟨f10,f10'⟩:=zbY hf.2.1
    rw[hred] at e39
    simp only at f7 f7' f10 f10'
    by_cases h6:e0=6
    ·have h21:l.length=21:=hf.2.2 h6
     clear hf hml hml1 HT HO hlen hred o1 o2 R4 R5 g0 g1
     subst h6
     go_wp2_with (first|((with_reducible (show wpList _ _ _ (Oper.mk none (.store 32 (.tmp 12) _) _ _ _ none::_) _ _));refine zag rfl 32 _ _ rfl w4.heap.size (reqC x (.slice q1 x.url.path.length c1) (.slice q2 m2 c2)) rfl rfl 32 _ A5 zab rfl (zbP ⟨_,_,_,rfl⟩ ⟨_,_,_,rfl⟩) W5 HW5.out ?_))
     go_ret
     exact⟨rfl,B5⟩
    ·obtain⟨f6,f6'⟩:=zbY h6
     clear hf hml hml1 HT HO hlen hred o1 o2 R4 R5 h6
     go_wp2_with (first|((with_reducible (show wpList _ _ _ (Oper.mk none (.store 32 (.tmp 12) _) _ _ _ none::_) _ _));refine zag rfl 32 _ _ rfl w4.heap.size (reqC x (.slice q1 x.url.path.length c1) (.slice q2 m2 c2)) rfl rfl 32 _ A5 zab rfl (zbP ⟨_,_,_,rfl⟩ ⟨_,_,_,rfl⟩) W5 HW5.out ?_))
     go_ret
     exact⟨rfl,B5⟩
   ·obtain⟨fr,fr'⟩:=zbY hred
    cases rs with
    | nil =>
     have hte:=HT.out.trans (zeA HO.out)
     cases hte
     clear hml hml1 HT HO hlen o1 o2 R4 R5 g0 g1 hrl HP HR HH hred
     go_wp2_with (first|((with_reducible (show wpList _ _ _ (Oper.mk none (.store 32 (.tmp 12) _) _ _ _ none::_) _ _));refine zag rfl 32 _ _ rfl w4.heap.size (reqC x (.slice q1 x.url.path.length c1) (.slice q2 m2 c2)) rfl rfl 32 _ A5 zab rfl (zbP ⟨_,_,_,rfl⟩ ⟨_,_,_,rfl⟩) W5 HW5.out ?_))
     go_ret
     exact⟨rfl,B5⟩
    | cons r rs =>
     obtain⟨e,m,hch,p1,p2,p3⟩:=zfs HO.out hred r rs
     have hte:=HT.out.trans hch
     cases hte
     have P1:=Lib.hid p1
     have P2:=Lib.hid p2
     have P3:=Lib.hid p3
     obtain⟨b,off,rfl,hbl,c0,c1'⟩:=zfz HR.out
     have h300:r.2.size≤300:=HRI.out r (by simp)
     have HPR:=fun w' g=>Lib.hid (zbW r.2 w' g (by omega))
     have HRD:=fun w'=>Lib.hid (redir_any r.1 w')
     obtain⟨pk,hpk⟩:∃ pk,pk=zaN r.2:=⟨_,rfl⟩
     obtain⟨rd,hrd⟩:∃ rd,rd=redir r.1:=⟨_,rfl⟩
     rw[← hpk] at P1 P2 P3
     rw[← hrd] at P2 P3
     simp only[← hpk] at HPR
     simp only[← hrd] at HRD
     have d1:=(B5.cell (p:=⟨b,off + 1,none⟩) hbl).trans c1'
     clear hml hml1 HT HO hlen o1 o2 R4 g0 g1 hrl HP HR HH hred hch p1 p2 p3 hpk hrd HRI h300
     go_wp2_with (first|((with_reducible (show wpList _ _ _ (Oper.mk none (.store 32 (.tmp 12) _) _ _ _ none::_) _ _));refine zag rfl 32 _ _ rfl w4.heap.size (reqC x (.slice q1 x.url.path.length c1) (.slice q2 m2 c2)) rfl rfl 32 _ A5 zab rfl (zbP ⟨_,_,_,rfl⟩ ⟨_,_,_,rfl⟩) W5 HW5.out ?_))
     refine(HPR _ (G.below B5)).out.mono ?_
     rintro ev w6 ⟨v6,rfl,-,b6⟩
     have B6:=yD B5 b6
     clear e39
     have e39:=yE (kept b6 R5) 39 (.int .i64 q.redirect) rfl
     have d0:=(B6.cell (p:=⟨b,off,none⟩) hbl).trans c0
     clear HPR d1 c0 c1' R5 k5
     cases pk with
     | false =>
      obtain rfl:=P1.out (by trivial)
      clear P1 P2 P3 HRD
      go_wp2
      go_ret
      exact⟨rfl,B6⟩
     | true =>
      go_wp2_with fail
      refine(HRD _).out.mono ?_
      rintro ev w7 ⟨rfl,rfl⟩
      cases rd with
      | false =>
       obtain⟨rfl,rfl⟩:=P2.out (by trivial) (by trivial)
       clear P1 P2 P3 HRD
       go_wp2
       go_ret
       exact⟨rfl,B6⟩
      | true =>
       rcases P3.out (by trivial) (by trivial) with ⟨h1,rfl⟩|⟨h2,rfl⟩
       ·rw[h1] at e39
        clear P1 P2 P3 HRD h1 fr fr'
        go_wp2
        go_ret
        exact⟨rfl,B6⟩
       ·rw[h2] at e39
        clear P1 P2 P3 HRD h2 fr fr'
        go_wp2
        go_ret
        exact⟨rfl,B6⟩
end Go.Proofs.YtdlkjofnnefjfaaGreatDoor
