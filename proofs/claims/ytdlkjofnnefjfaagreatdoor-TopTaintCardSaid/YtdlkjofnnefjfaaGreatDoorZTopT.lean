/- TopTaint: plain facts about what stands at its end. TopTaint, walked: for every input it returns true. -/
import Derived.Test.YtdlkjofnnefjfaaGreatDoorZShort
import Derived.Test.YtdlkjofnnefjfaaGreatDoorZFewA
import Derived.Test.YtdlkjofnnefjfaaGreatDoorZAllN
set_option linter.all false
namespace Go.Proofs.YtdlkjofnnefjfaaGreatDoor
set_option maxRecDepth 100000
section
open Go.RowKit Go.Shelf
theorem zf6 {α β:Type} (f:α→List β) (n:Nat) (hf:∀ x,(f x).length=n):∀ (l:List α) (j:Nat) (x:α) (i:Nat),l[j]? = some x→i < n→(l.flatMap f)[j * n + i]? = (f x)[i]?
 | [],j,x,i,h,_=>by cases h
 | a::l,0,x,i,h,hi=>by
  simp at h;subst h
  rw[List.flatMap_cons,Nat.zero_mul,Nat.zero_add,List.getElem?_append_left (by rw[hf];exact hi)]
 | a::l,j + 1,x,i,h,hi=>by
  have ha:=hf a
  have e:(j + 1) * n=j * n + n:=Nat.succ_mul j n
  rw[List.flatMap_cons,List.getElem?_append_right (by omega),ha,show (j + 1) * n + i - n=j * n + i by omega]
  exact zf6 f n hf l j x i (by simpa using h) hi
theorem zg7 {w:World} {B:Nat} {v:Value} {xs:List Hop} (h:w.ownsRow B 32 45 v xs.length (xs.flatMap hopC)) (hne:0 < xs.length):∃ g cap,v=.slice (some ⟨g,0,none⟩) xs.length cap∧g < w.heap.size∧∀ (j:Nat) x,xs[j]? = some x→w.rangeAt g (j * 45) (hopC x):=by
 rcases h.2 with ⟨_,h0⟩|⟨g,cap,cur,rfl,hg,hh,r⟩
 ·omega
 ·refine⟨g,cap,rfl,yS hh,fun j x hj i u hu=>?_⟩
  have hi:i < 45:=(List.getElem?_eq_some_iff.1 hu).1
  have:=h.cells (g:=g) rfl (j * 45 + i) u ((zf6 hopC 45 (fun _=>rfl) xs j x i hj hi).trans hu)
  rw[WideShapes.add_plain,Nat.zero_add] at this
  exact this
theorem zbr {w w':World} {g o:Nat} {l:List Value} (h:w.rangeAt g o l) (hg:g < w.heap.size) (b:Below w.heap.size w w'):w'.rangeAt g o l:=fun j v hv=>(b.cell (p:=⟨g,o + j,none⟩) hg).trans (h j v hv)
theorem zdU {w:World} {g o:Nat} {x:Hop} (h:w.rangeAt g o (hopC x)):w.rangeAt g o (urlC x.1.url x.2.1).toList:=fun j v hv=>h j v (by
 have e:hopC x=(urlC x.1.url x.2.1).toList++(hopC x).drop 21:=rfl
 rw[e,List.getElem?_append_left (List.getElem?_eq_some_iff.1 hv).1];exact hv)
theorem zfH {j:Nat} (h:j < 1000000):IntKind.i64.wrap ((j:Int) + 1)=((j + 1:Nat):Int):=by
 rw[IntKind.wrap_i64];omega
theorem zfD {r:Req} {hs:List Fld} (h:zcr r hs) (hr:r.In):hs.length≤1000000∧∀ f∈hs,f.1.size≤1000000:=by
 obtain⟨rt,rb,ot,ob,_,_,rfl⟩:=h
 have h0:(zbJ r).length≤60:=yW (ze8 r) hr.hl
 have h1:=zcj rb (zbJ r) (sReferer,rt)
 have h2:=zcj ob (addF rb (zbJ r) (sReferer,rt)) (sOrigin,ot)
 refine⟨by omega,?_⟩
 have m0:∀ f∈zbJ r,f.1.size≤1000000:=fun f hf=>yW (hr.hz f (zdi _ _ f hf)).1 (by decide)
 have ma:∀ (b:Bool) (l:List Fld) (g:Fld),(∀ f∈l,f.1.size≤1000000)→g.1.size≤1000000→∀ f∈addF b l g,f.1.size≤1000000:=by
  intro b l g hl hg f hf
  cases b with
  | false=>exact hl f hf
  | true =>
   rw[zck] at hf
   rcases List.mem_append.1 hf with hf|hf
   ·exact hl f hf
   ·rw[List.mem_singleton.1 hf];exact hg
 exact ma _ _ _ (ma _ _ _ m0 (by show sReferer.size≤_;decide)) (by show sOrigin.size≤_;decide)
theorem zh7 {w:World} {B:Nat} {v:Value} {x:ByteArray} (h:w.ownsRow B 9 1 v 1 [.string x]):∃ g cap,v=.slice (some ⟨g,0,none⟩) 1 cap∧g < w.heap.size∧w.cell? ⟨g,0,none⟩=some (.string x):=by
 rcases h.2 with ⟨_,h0⟩|⟨g,cap,cur,rfl,hg,hh,r⟩
 ·cases h0
 ·have:=h.cells (g:=g) rfl 0 (.string x) rfl
  rw[WideShapes.add_plain,Nat.zero_add] at this
  exact⟨g,cap,rfl,yS hh,this⟩
theorem zf1 {w:World} {t:List Req} {xs:List Hop} {ss:List Snt} {j:Nat} {lv:Bool} (hm:xs.map (·.1)=t) (hss:Sents t ss) (hin:∀ x∈t,x.In) (hta:(t.getD j req0).tainted=lv∧mayR (t.getD j req0)=true)
  (ha1:∀ x∈xs,HopAt w x) (ha2:∀ s∈ss,SntAt w s) (hj:j < xs.length) :
  ∃ x s,xs[j]? = some x∧ss[j]? = some s∧x.1.tainted=lv∧s.hs.length≤1000000∧(∀ f∈s.hs,f.1.size≤1000000)∧x.1.In∧HopAt w x∧Flds w s.hx s.hs ∧
   (quietR x.1=true→allL sOrigin s.hs=[])∧(quietR x.1=false→∃ y,allL sOrigin s.hs=[y]∧(x.1.tainted=true→y=sNull)):=by
 have hl:ss.length=xs.length:=by rw[hss.len,← hm,List.length_map]
 have hx:xs[j]? = some xs[j]:=List.getElem?_eq_getElem hj
 have hs:ss[j]? = some (ss[j]'(by omega)):=List.getElem?_eq_getElem (by omega)
 have tx:t[j]? = some xs[j].1:=by rw[← hm,List.getElem?_map,hx];rfl
 have tg:t.getD j req0=xs[j].1:=by rw[List.getD_eq_getElem?_getD,tx];rfl
 rw[tg] at hta
 have ix:xs[j].1.In:=hin _ (List.mem_of_getElem? tx)
 have so:=(hss.2 j _ _ tx hs).1 hta.2
 obtain⟨n1,n2⟩:=zfD so ix
 obtain⟨o1,o2⟩:=zeK so
 exact⟨_,_,hx,hs,hta.1,n1,n2,ix,ha1 _ (List.mem_of_getElem? hx),(ha2 _ (List.mem_of_getElem? hs)).flds,o1,o2⟩
end
section
open Go.RowKit Go.Shelf
set_option maxHeartbeats 4000000 in
theorem zea (raw:ByteArray) (q:Req) (pq hq lv:Value) (rs:List (Int×ByteArray)) (k:Int) (w:World) (G:Glob w) (hp:Strs w pq q.url.path) (hh:Flds w hq q.heads) (hr:Resps w lv rs) (wk:(Lit.int .i64 k).wf=true) :
  Calls Tryz.prog 4 #[.string raw,.agg (reqC q pq hq),lv,.int .i64 k] w fun e w'=>e=.returned (.bool true)∧Below w.heap.size w w':=by
 have hqs:=hh.slice
 obtain⟨qa,ma,ca,hpe⟩:=hp.slice
 obtain⟨qh,mh,ch,hqe⟩:=hqs
 subst hpe
 subst hqe
 have R0:=row1 w (.cells (reqC q (.slice qa ma ca) (.slice qh mh ch)) 32)
 have B0:=bel1 w (.cells (reqC q (.slice qa ma ca) (.slice qh mh ch)) 32)
 have HA:=Lib.hid (zdD _ (G.below B0))
 have HF:=fun w' h=>Lib.hid (zeV raw q (.slice qa ma ca) (.slice qh mh ch) lv rs w' (hp.below h) (hh.below h) (hr.below h))
 have HFB:Hid (fewT raw q rs=true→Begin raw q∧zcc rs∧rs.length≤30):=zdI
 obtain⟨b,hb⟩:∃ b,b=fewT raw q rs:=⟨_,rfl⟩
 rw[← hb] at HFB
 simp only[← hb] at HF
 clear hb
 have HH:=Lib.hid hh
 have HR:=Lib.hid hr
 have HPQ:=Lib.hid hp
 obtain⟨ql,cl,rfl,hcl⟩:=hr.cells
 clear hp hh hcl hr
 go_enter Tryz.func4,Tryz.ntmps4
 go_wp2_with fail
 refine HA.out.mono ?_
 rintro e w1 ⟨rfl,b1⟩
 have B1:=yD B0 b1
 have R1:=kept b1 R0
 clear HA R0 B0 b1
 go_wp2_with (first|((with_reducible (show wpList _ _ _ (Oper.mk _ (.load 32 (.tmp 5)) _ _ _ _::_) _ _));refine zaa (by rfl) 32 _ rfl w.heap.size 0 rfl (reqC q (.slice qa ma ca) (.slice qh mh ch)) _ (zac R1) yA rfl zab ?_))
 refine(HF _ B1).out.mono ?_
 rintro e w2 ⟨rfl,b2⟩
 have B2:=yD B1 b2
 have R2:=kept b2 R1
 clear HF R1 B1 b2
 cases b with
 | false =>
  go_wp2
  go_ret
  exact⟨rfl,B2⟩
 | true =>
  obtain⟨hbeg,hri,hrl⟩:=HFB.out rfl
  clear HFB
  have hcl:(chainR raw q rs).1.length≤1000:=by have:=zdF hrl (raw:=raw) (q:=q);omega
  have HHOP:=Lib.hid (zev raw q (.slice qa ma ca) (.slice qh mh ch) (.slice ql rs.length cl) rs w2 (G.below B2) (HH.out.below B2) ⟨_,_,_,rfl⟩ (HR.out.below B2) hbeg.starts (hbeg.fits hri) hcl)
  have HRUN:=fun w' h=>Lib.hid (zeI raw q (.slice qa ma ca) (.slice qh mh ch) (.slice ql rs.length cl) rs w' (G.below h) (HH.out.below h) ⟨_,_,_,rfl⟩ (HR.out.below h) hbeg.starts (hbeg.fits hri) hcl (fun x hx=>(zcl hbeg hri x hx).small))
  have HIN:=Lib.hid (zcl hbeg hri)
  have HTA:=fun k hk=>Lib.hid (zhs (raw:=raw) (q:=q) rs k hk)
  have HON:Hid (q.orig.host.name.size≤1000000):=yW hbeg.on (by decide)
  obtain⟨t,ht⟩:∃ t,t=chainR raw q rs:=⟨_,rfl⟩
  simp only[← ht] at HHOP HRUN HIN HTA
  have HXL0:t.1.length≤1000:=by rw[ht];exact hcl
  clear ht hbeg hri hrl hcl
  go_wp2_with (first|((with_reducible (show wpList _ _ _ (Oper.mk _ (.load 32 (.tmp 5)) _ _ _ _::_) _ _));refine zaa (by rfl) 32 _ rfl w.heap.size 0 rfl (reqC q (.slice qa ma ca) (.slice qh mh ch)) _ (zac R2) yA rfl zab ?_))
  refine HHOP.out.mono ?_
  rintro e w3 ⟨v1,xs,rfl,hxm,hown1,hat1,b3⟩
  have B3:=yD B2 b3
  have R3:=kept b3 R2
  have hown1':=hown1
  obtain⟨q1,c1,rfl⟩:=own_slice hown1'
  clear HHOP hown1' R2
  go_wp2_with (first|((with_reducible (show wpList _ _ _ (Oper.mk _ (.load 32 (.tmp 5)) _ _ _ _::_) _ _));refine zaa (by rfl) 32 _ rfl w.heap.size 0 rfl (reqC q (.slice qa ma ca) (.slice qh mh ch)) _ (zac R3) yA rfl zab ?_))
  refine(HRUN _ B3).out.mono ?_
  rintro e w4 ⟨v2,ss,rfl,hss,hown2,hat2,b4⟩
  have B4:=yD B3 b4
  have R4:=kept b4 R3
  have hl1:xs.length=t.1.length:=by rw[← hxm,List.length_map]
  have hl2:ss.length=xs.length:=by rw[hss.len,hl1]
  have hown2':=hown2
  obtain⟨q2,c2,rfl⟩:=own_slice hown2'
  clear HRUN hown2' R3
  rw[hl2]
  have HXL:Hid (xs.length≤1000):=by show _≤_;omega
  clear HXL0
  have HL2:=Lib.hid hl2
  have HL1:=Lib.hid hl1
  have HXM:=Lib.hid hxm
  have HSS:=Lib.hid hss
  have HO1:=Lib.hid (own_below hown1 b4)
  have HO2:=Lib.hid hown2
  have HA1:=Lib.hid (fun x hx=>zbA _ _ x (hat1 x hx) (zbz b4))
  have HA2:=Lib.hid hat2
  clear hl1 hl2 hxm hss hown1 hown2 hat1 hat2 b3 b4
  by_cases hk0:k < 0
  ·go_wp2
   go_ret
   exact⟨rfl,B4⟩
  by_cases hkn:(xs.length:Int)≤k
  ·go_wp2
   go_ret
   exact⟨rfl,B4⟩
  obtain⟨kk,rfl⟩:∃ n:Nat,k=n:=⟨k.toNat,by omega⟩
  have hkx:kk < xs.length:=by omega
  obtain⟨g1,cap1,hv1,hg1,hrow⟩:=zg7 HO1.out (by omega)
  cases hv1
  obtain⟨g2,cap2,hv2,hg2,hsc⟩:=zd4 HO2.out (by rw[HL2.out];omega)
  cases hv2
  have HROW:=Lib.hid hrow
  have HSC:=Lib.hid hsc
  have HKX:=Lib.hid hkx
  clear hk0 hkn hrow hsc
  have e1:decide ((kk:Int) < 0)=false:=decide_eq_false (by omega)
  have e2:decide (xs.length≤kk)=false:=decide_eq_false (by have:=HKX.out;omega)
  go_upto_region 11 with fail
  try simp only[e1,e2,Bool.or_false,Bool.or_self]
  clear e1 e2
  go_loopw [15,16] (fun lv jv wr=>∃ j:Nat,j≤kk∧jv=.int .i64 j∧lv=.bool (zcA q.orig t.1 j)∧Below w4.heap.size w4 wr) (fun _ jv _=>kk - (intOf jv).toNat)
  case atStart=>exact⟨0,by omega,rfl,rfl,Below.refl _ _⟩
  case round =>
   obtain⟨j,hj,rfl,rfl,hB⟩:=hrel
   by_cases hlt:j < kk
   ·have hjx:j < xs.length:=by omega
    have hjy:j + 1 < xs.length:=by omega
    obtain⟨x,hx⟩:∃ x,xs[j]? = some x:=⟨xs[j],List.getElem?_eq_getElem hjx⟩
    obtain⟨y,hy⟩:∃ y,xs[j + 1]? = some y:=⟨xs[j + 1],List.getElem?_eq_getElem hjy⟩
    have tx:t.1.getD j req0=x.1:=by rw[← HXM.out,List.getD_eq_getElem?_getD,List.getElem?_map,hx];rfl
    have ty:t.1.getD (j + 1) req0=y.1:=by rw[← HXM.out,List.getD_eq_getElem?_getD,List.getElem?_map,hy];rfl
    have mx:x∈xs:=List.mem_of_getElem? hx
    have my:y∈xs:=List.mem_of_getElem? hy
    have ix:x.1.In:=HIN.out x.1 (by rw[← HXM.out];exact List.mem_map_of_mem mx)
    have iy:y.1.In:=HIN.out y.1 (by rw[← HXM.out];exact List.mem_map_of_mem my)
    have HJ:Hid (zcA q.orig t.1 (j + 1)=(zcA q.orig t.1 j || (!sameO q.orig (ofO x.1.url) && !bothU x.1.url y.1.url))):=by show _=_;rw[zcA,tx,ty]
    have rx:=zdU (HROW.out j x hx)
    have ry:=zdU (HROW.out (j + 1) y hy)
    have hsum:IntKind.i64.wrap ((j:Int) + 1)=((j + 1:Nat):Int):=zfH (by have:=HXL.out;omega)
    have hs64:wrap64 ((j:Int) + 1)=(j:Int) + 1:=by have:=HXL.out;unfold wrap64;omega
    have hb1:0≤(j:Int) + 1∧(j:Int) + 1 < (xs.length:Int):=by omega
    have hb0:0≤(j:Int)∧(j:Int) < (xs.length:Int):=by omega
    have GW:=fun W' (h:Below w4.heap.size w4 W')=>G.below (yD B4 h)
    have HOF:=fun W' (h:Below w4.heap.size w4 W')=>Lib.hid (zaJ x.1.url x.2.1 W' (GW W' h) ((HA1.out x mx).strs.below h) ix.fits.u)
    have HSA:=fun W' (h:Below w4.heap.size w4 W')=>Lib.hid (zbk q.orig (ofO x.1.url) W' (GW W' h) HON.out)
    have HBO:=fun W' (h:Below w4.heap.size w4 W')=>Lib.hid (zbU x.1.url y.1.url x.2.1 y.2.1 W' (GW W' h) ((HA1.out x mx).strs.below h) ((HA1.out y my).strs.below h) ix.fits.u iy.fits.u)
    have RXW:=fun W' (h:Below w4.heap.size w4 W')=>zbr rx hg1 h
    have RYW:=fun W' (h:Below w4.heap.size w4 W')=>zbr ry hg1 h
    have RQW:=fun W' (h:Below w4.heap.size w4 W')=>zae (kept h R4) 24 (origC q.orig).toList rfl
    clear tx ty mx my ix iy rx ry GW hx hy
    obtain⟨o1,ho1⟩:∃ o,o=ofO x.1.url:=⟨_,rfl⟩
    simp only[← ho1] at HOF HSA HJ
    clear ho1
    obtain⟨b1,hb1⟩:∃ b,b=sameO q.orig o1:=⟨_,rfl⟩
    simp only[← hb1] at HSA HJ
    clear hb1
    obtain⟨b2,hb2⟩:∃ b,b=bothU x.1.url y.1.url:=⟨_,rfl⟩
    simp only[← hb2] at HBO HJ
    clear hb2
    obtain⟨lf,hlf⟩:∃ b,b=zcA q.orig t.1 j:=⟨_,rfl⟩
    simp only[← hlf] at HJ ⊢
    clear hlf
    obtain⟨lf',hlf'⟩:∃ b,b=zcA q.orig t.1 (j + 1):=⟨_,rfl⟩
    rw[← hlf'] at HJ
    have HLF:=Lib.hid hlf'
    clear hlf'
    cases lf with
    | true =>
     obtain rfl:lf'=true:=by rw[HJ.out];rfl
     clear HJ HOF HSA HBO RXW RYW RQW
     go_wp2_with fail
     refine yQ (S:=fun W=>True) (by kernel_rfl) trivial (fun h0=>?_)
     refine tk (i:=0) (v:=?v1) rfl (Or.inl ⟨by rfl,?y1⟩) h0 ?r1
     case y1 =>
      intro W hW
      go_simp
      try with_reducible rfl
     simp only[Act.put,zA,zB,zC,zD,zE,zF]
     refine tk (i:=1) (v:=?v2) rfl (Or.inl ⟨by rfl,?y2⟩) h0 ?r2
     case y2 =>
      intro W hW
      go_simp
      try with_reducible rfl
     simp only[Act.put,zA,zB,zC,zD,zE,zF]
     refine tk (i:=2) rfl (Or.inr ⟨by rfl,rfl⟩) h0 ?_
     simp only[Act.put,zA,zB,zC,zD,zE,zF]
     refine tk (i:=3) rfl (Or.inr ⟨by rfl,rfl⟩) h0 ?_
     simp only[Act.put,zA,zB,zC,zD,zE,zF]
     refine tk (i:=4) rfl (Or.inr ⟨by rfl,rfl⟩) h0 ?_
     simp only[Act.put,zA,zB,zC,zD,zE,zF]
     refine tk (i:=5) rfl (Or.inr ⟨by rfl,rfl⟩) h0 ?_
     simp only[Act.put,zA,zB,zC,zD,zE,zF]
     refine tk (i:=6) rfl (Or.inr ⟨by rfl,rfl⟩) h0 ?_
     simp only[Act.put,zA,zB,zC,zD,zE,zF]
     refine tk (i:=7) rfl (Or.inr ⟨by rfl,rfl⟩) h0 ?_
     simp only[Act.put,zA,zB,zC,zD,zE,zF]
     refine tk (i:=8) rfl (Or.inr ⟨by rfl,rfl⟩) h0 ?_
     simp only[Act.put,zA,zB,zC,zD,zE,zF]
     refine tk (i:=9) rfl (Or.inr ⟨by rfl,rfl⟩) h0 ?_
     simp only[Act.put,zA,zB,zC,zD,zE,zF]
     refine tk (i:=10) rfl (Or.inr ⟨by rfl,rfl⟩) h0 ?_
     simp only[Act.put,zA,zB,zC,zD,zE,zF]
     refine tk (i:=11) rfl (Or.inr ⟨by rfl,rfl⟩) h0 ?_
     simp only[Act.put,zA,zB,zC,zD,zE,zF]
     refine tk (i:=12) rfl (Or.inr ⟨by rfl,rfl⟩) h0 ?_
     simp only[Act.put,zA,zB,zC,zD,zE,zF]
     refine tk (i:=13) rfl (Or.inr ⟨by rfl,rfl⟩) h0 ?_
     simp only[Act.put,zA,zB,zC,zD,zE,zF]
     refine tk (i:=14) rfl (Or.inr ⟨by rfl,rfl⟩) h0 ?_
     simp only[Act.put,zA,zB,zC,zD,zE,zF]
     refine tk (i:=15) rfl (Or.inr ⟨by rfl,rfl⟩) h0 ?_
     simp only[Act.put,zA,zB,zC,zD,zE,zF]
     refine tk (i:=16) rfl (Or.inr ⟨by rfl,rfl⟩) h0 ?_
     simp only[Act.put,zA,zB,zC,zD,zE,zF]
     refine tk (i:=17) rfl (Or.inr ⟨by rfl,rfl⟩) h0 ?_
     simp only[Act.put,zA,zB,zC,zD,zE,zF]
     refine tk (i:=18) rfl (Or.inr ⟨by rfl,rfl⟩) h0 ?_
     simp only[Act.put,zA,zB,zC,zD,zE,zF]
     refine tk (i:=19) rfl (Or.inr ⟨by rfl,rfl⟩) h0 ?_
     simp only[Act.put,zA,zB,zC,zD,zE,zF]
     refine tk (i:=20) rfl (Or.inr ⟨by rfl,rfl⟩) h0 ?_
     simp only[Act.put,zA,zB,zC,zD,zE,zF]
     refine tk (i:=21) rfl (Or.inr ⟨by rfl,rfl⟩) h0 ?_
     simp only[Act.put,zA,zB,zC,zD,zE,zF]
     refine tk (i:=22) rfl (Or.inr ⟨by rfl,rfl⟩) h0 ?_
     simp only[Act.put,zA,zB,zC,zD,zE,zF]
     refine tk (i:=23) rfl (Or.inr ⟨by rfl,rfl⟩) h0 ?_
     simp only[Act.put,zA,zB,zC,zD,zE,zF]
     refine tk (i:=24) rfl (Or.inr ⟨by rfl,rfl⟩) h0 ?_
     simp only[Act.put,zA,zB,zC,zD,zE,zF]
     refine tk (i:=25) rfl (Or.inr ⟨by rfl,rfl⟩) h0 ?_
     simp only[Act.put,zA,zB,zC,zD,zE,zF]
     refine tk (i:=26) rfl (Or.inr ⟨by rfl,rfl⟩) h0 ?_
     simp only[Act.put,zA,zB,zC,zD,zE,zF]
     refine tk (i:=27) (v:=?v3) rfl (Or.inl ⟨by rfl,?y3⟩) h0 ?r3
     case y3 =>
      intro W hW
      go_simp
      try with_reducible rfl
     simp only[Act.put,zA,zB,zC,zD,zE,zF]
     refine tk (i:=28) (v:=?v4) rfl (Or.inl ⟨by rfl,?y4⟩) h0 ?r4
     case y4 =>
      intro W hW
      go_simp
      try with_reducible rfl
     simp only[Act.put,zA,zB,zC,zD,zE,zF]
     refine yX (by kernel_rfl) ?_ _
     go_wp2
     go_roundw
     case rel=>exact⟨j + 1,by omega,by simp[hs64],by rw[HLF.out],hB.trans ((yR _).mono hB.size)⟩
     case measure=>simp[intOf];omega
    | false =>
     go_wp2_with fail
     refine yQ (S:=fun W=>Below w4.heap.size w4 W) (by kernel_rfl) (hB.trans ((yR _).mono hB.size)) (fun h0=>?_)
     refine tk (i:=0) (v:=?v5) rfl (Or.inl ⟨by rfl,?y5⟩) h0 ?r5
     case y5 =>
      intro W hW
      go_simp
      try with_reducible rfl
     simp only[Act.put,zA,zB,zC,zD,zE,zF]
     refine tk (i:=1) (v:=?v6) rfl (Or.inl ⟨by rfl,?y6⟩) h0 ?r6
     case y6 =>
      intro W hW
      go_simp
      try with_reducible rfl
     simp only[Act.put,zA,zB,zC,zD,zE,zF]
     refine tk (i:=2) (v:=?v7) rfl (Or.inl ⟨by rfl,?y7⟩) h0 ?r7
     case y7 =>
      intro W hW
      go_simp
      try with_reducible rfl
     simp only[Act.put,zA,zB,zC,zD,zE,zF]
     refine tk (i:=3) rfl (zaQ w.heap.size _ q.orig (by rfl) _ rfl rfl (fun W h=>RQW W h)) h0 ?_
     simp only[Act.put,zA,zB,zC,zD,zE,zF]
     refine tk (i:=4) (v:=?v8) rfl (Or.inl ⟨by rfl,?y8⟩) h0 ?r8
     case y8 =>
      intro W hW
      go_simp
      try with_reducible rfl
     simp only[Act.put,zA,zB,zC,zD,zE,zF]
     refine tk (i:=5) (v:=?v9) rfl (Or.inl ⟨by rfl,?y9⟩) h0 ?r9
     case y9 =>
      intro W hW
      go_simp
      try with_reducible rfl
     simp only[Act.put,zA,zB,zC,zD,zE,zF]
     refine tk (i:=6) (v:=?v10) rfl (Or.inl ⟨by rfl,?y10⟩) h0 ?r10
     case y10 =>
      intro W hW
      go_simp
      try with_reducible rfl
     simp only[Act.put,zA,zB,zC,zD,zE,zF]
     refine tk (i:=7) (v:=?v11) rfl (Or.inl ⟨by rfl,?y11⟩) h0 ?r11
     case y11 =>
      intro W hW
      go_simp
      try with_reducible rfl
     simp only[Act.put,zA,zB,zC,zD,zE,zF]
     refine tk (i:=8) rfl (zao g1 _ x.1.url x.2.1 (by rfl) _ rfl rfl (fun W h=>RXW W h)) h0 ?_
     simp only[Act.put,zA,zB,zC,zD,zE,zF]
     refine zrd (i:=9) rfl (fun K hK=>?_)
     try simp only[zA,zB,zC]
     rw[if_pos (by rfl)]
     go_simp
     go_at_call 13
     refine(HOF _ h0).out.mono ?_
     rintro e V1 ⟨rfl,k1⟩
     have h1:=yD h0 k1
     refine hK.out _ _ h1 (fun h0=>?_)
     clear hK K
     try simp only[Act.put,zA,zB,zC,zD,zE,zF]
     refine zrd (i:=10) rfl (fun K hK=>?_)
     try simp only[zA,zB,zC]
     rw[if_pos (by rfl)]
     go_simp
     go_at_call 12
     refine(HSA _ h0).out.mono ?_
     rintro e V2 ⟨rfl,k2⟩
     have h2:=yD h0 k2
     refine hK.out _ _ h2 (fun h0=>?_)
     clear hK K
     try simp only[Act.put,zA,zB,zC,zD,zE,zF]
     refine tk (i:=11) (v:=?v12) rfl (Or.inl ⟨by rfl,?y12⟩) h0 ?r12
     case y12 =>
      intro W hW
      go_simp
      try with_reducible rfl
     simp only[Act.put,zA,zB,zC,zD,zE,zF]
     cases b1 with
     | true =>
      obtain rfl:lf'=false:=by rw[HJ.out];rfl
      refine tk (i:=12) (v:=?v13) rfl (Or.inl ⟨by rfl,?y13⟩) h0 ?r13
      case y13 =>
       intro W hW
       go_simp
       try with_reducible rfl
      simp only[Act.put,zA,zB,zC,zD,zE,zF]
      refine tk (i:=13) rfl (Or.inr ⟨by rfl,rfl⟩) h0 ?_
      simp only[Act.put,zA,zB,zC,zD,zE,zF]
      refine tk (i:=14) rfl (Or.inr ⟨by rfl,rfl⟩) h0 ?_
      simp only[Act.put,zA,zB,zC,zD,zE,zF]
      refine tk (i:=15) rfl (Or.inr ⟨by rfl,rfl⟩) h0 ?_
      simp only[Act.put,zA,zB,zC,zD,zE,zF]
      refine tk (i:=16) rfl (Or.inr ⟨by rfl,rfl⟩) h0 ?_
      simp only[Act.put,zA,zB,zC,zD,zE,zF]
      refine tk (i:=17) rfl (Or.inr ⟨by rfl,rfl⟩) h0 ?_
      simp only[Act.put,zA,zB,zC,zD,zE,zF]
      refine tk (i:=18) rfl (Or.inr ⟨by rfl,rfl⟩) h0 ?_
      simp only[Act.put,zA,zB,zC,zD,zE,zF]
      refine tk (i:=19) rfl (Or.inr ⟨by rfl,rfl⟩) h0 ?_
      simp only[Act.put,zA,zB,zC,zD,zE,zF]
      refine tk (i:=20) rfl (Or.inr ⟨by rfl,rfl⟩) h0 ?_
      simp only[Act.put,zA,zB,zC,zD,zE,zF]
      refine tk (i:=21) rfl (Or.inr ⟨by rfl,rfl⟩) h0 ?_
      simp only[Act.put,zA,zB,zC,zD,zE,zF]
      refine tk (i:=22) rfl (Or.inr ⟨by rfl,rfl⟩) h0 ?_
      simp only[Act.put,zA,zB,zC,zD,zE,zF]
      refine tk (i:=23) rfl (Or.inr ⟨by rfl,rfl⟩) h0 ?_
      simp only[Act.put,zA,zB,zC,zD,zE,zF]
      refine tk (i:=24) rfl (Or.inr ⟨by rfl,rfl⟩) h0 ?_
      simp only[Act.put,zA,zB,zC,zD,zE,zF]
      refine tk (i:=25) rfl (Or.inr ⟨by rfl,rfl⟩) h0 ?_
      simp only[Act.put,zA,zB,zC,zD,zE,zF]
      refine tk (i:=26) (v:=?v14) rfl (Or.inl ⟨by rfl,?y14⟩) h0 ?r14
      case y14 =>
       intro W hW
       go_simp
       try with_reducible rfl
      simp only[Act.put,zA,zB,zC,zD,zE,zF]
      refine tk (i:=27) (v:=?v15) rfl (Or.inl ⟨by rfl,?y15⟩) h0 ?r15
      case y15 =>
       intro W hW
       go_simp
       try with_reducible rfl
      simp only[Act.put,zA,zB,zC,zD,zE,zF]
      refine tk (i:=28) (v:=?v16) rfl (Or.inl ⟨by rfl,?y16⟩) h0 ?r16
      case y16 =>
       intro W hW
       go_simp
       try with_reducible rfl
      simp only[Act.put,zA,zB,zC,zD,zE,zF]
      refine yX (by kernel_rfl) ?_ _
      go_wp2
      go_roundw
      case rel=>exact⟨j + 1,by omega,by simp[hs64],by rw[HLF.out],h0⟩
      case measure=>simp[intOf];omega
     | false =>
      obtain rfl:lf'=!b2:=by rw[HJ.out];rfl
      refine tk (i:=12) (v:=?v17) rfl (Or.inl ⟨by rfl,?y17⟩) h0 ?r17
      case y17 =>
       intro W hW
       go_simp
       try with_reducible rfl
      simp only[Act.put,zA,zB,zC,zD,zE,zF]
      refine tk (i:=13) (v:=?v18) rfl (Or.inl ⟨by rfl,?y18⟩) h0 ?r18
      case y18 =>
       intro W hW
       go_simp
       try with_reducible rfl
      simp only[Act.put,zA,zB,zC,zD,zE,zF]
      refine tk (i:=14) (v:=?v19) rfl (Or.inl ⟨by rfl,?y19⟩) h0 ?r19
      case y19 =>
       intro W hW
       go_simp
       try with_reducible rfl
      simp only[Act.put,zA,zB,zC,zD,zE,zF]
      refine tk (i:=15) (v:=?v20) rfl (Or.inl ⟨by rfl,?y20⟩) h0 ?r20
      case y20 =>
       intro W hW
       go_simp
       try with_reducible rfl
      simp only[Act.put,zA,zB,zC,zD,zE,zF]
      refine tk (i:=16) (v:=?v21) rfl (Or.inl ⟨by rfl,?y21⟩) h0 ?r21
      case y21 =>
       intro W hW
       go_simp
       try with_reducible rfl
      simp only[Act.put,zA,zB,zC,zD,zE,zF]
      refine tk (i:=17) rfl (zao g1 _ x.1.url x.2.1 (by rfl) _ rfl rfl (fun W h=>RXW W h)) h0 ?_
      simp only[Act.put,zA,zB,zC,zD,zE,zF]
      refine tk (i:=18) (v:=?v22) rfl (Or.inl ⟨by rfl,?y22⟩) h0 ?r22
      case y22 =>
       intro W hW
       go_simp
       try with_reducible rfl
      simp only[Act.put,zA,zB,zC,zD,zE,zF]
      refine tk (i:=19) (v:=?v23) rfl (Or.inl ⟨by rfl,?y23⟩) h0 ?r23
      case y23 =>
       intro W hW
       go_simp
       try with_reducible rfl
      simp only[Act.put,zA,zB,zC,zD,zE,zF]
      refine tk (i:=20) (v:=?v24) rfl (Or.inl ⟨by rfl,?y24⟩) h0 ?r24
      case y24 =>
       intro W hW
       go_simp
       try with_reducible rfl
      simp only[Act.put,zA,zB,zC,zD,zE,zF]
      refine tk (i:=21) (v:=?v25) rfl (Or.inl ⟨by rfl,?y25⟩) h0 ?r25
      case y25 =>
       intro W hW
       go_simp
       try with_reducible rfl
      simp only[Act.put,zA,zB,zC,zD,zE,zF]
      refine tk (i:=22) (v:=?v26) rfl (Or.inl ⟨by rfl,?y26⟩) h0 ?r26
      case y26 =>
       intro W hW
       go_simp
       try with_reducible rfl
      simp only[Act.put,zA,zB,zC,zD,zE,zF]
      refine tk (i:=23) rfl (zao g1 _ y.1.url y.2.1 (by rfl) _ rfl rfl (fun W h=>RYW W h)) h0 ?_
      simp only[Act.put,zA,zB,zC,zD,zE,zF]
      refine zrd (i:=24) rfl (fun K hK=>?_)
      try simp only[zA,zB,zC]
      rw[if_pos (by rfl)]
      go_simp
      go_at_call 14
      refine(HBO _ h0).out.mono ?_
      rintro e V3 ⟨rfl,k3⟩
      have h3:=yD h0 k3
      refine hK.out _ _ h3 (fun h0=>?_)
      clear hK K
      try simp only[Act.put,zA,zB,zC,zD,zE,zF]
      refine tk (i:=25) (v:=?v27) rfl (Or.inl ⟨by rfl,?y27⟩) h0 ?r27
      case y27 =>
       intro W hW
       go_simp
       try with_reducible rfl
      simp only[Act.put,zA,zB,zC,zD,zE,zF]
      refine tk (i:=26) (v:=?v28) rfl (Or.inl ⟨by rfl,?y28⟩) h0 ?r28
      case y28 =>
       intro W hW
       go_simp
       try with_reducible rfl
      simp only[Act.put,zA,zB,zC,zD,zE,zF]
      refine tk (i:=27) (v:=?v29) rfl (Or.inl ⟨by rfl,?y29⟩) h0 ?r29
      case y29 =>
       intro W hW
       go_simp
       try with_reducible rfl
      simp only[Act.put,zA,zB,zC,zD,zE,zF]
      refine tk (i:=28) (v:=?v30) rfl (Or.inl ⟨by rfl,?y30⟩) h0 ?r30
      case y30 =>
       intro W hW
       go_simp
       try with_reducible rfl
      simp only[Act.put,zA,zB,zC,zD,zE,zF]
      refine yX (by kernel_rfl) ?_ _
      go_wp2
      go_roundw
      case rel=>exact⟨j + 1,by omega,by simp[hs64],by rw[HLF.out],h0⟩
      case measure=>simp[intOf];omega
   ·obtain rfl:j=kk:=by omega
    obtain⟨x,s,hx,hs,htn,hn1,hn2,ix,hat,hfl,so1,so2⟩:=zf1 HXM.out HSS.out HIN.out (HTA j (by rw[← HL1.out];exact HKX.out)).out HA1.out HA2.out HKX.out
    obtain⟨xr,xp,xh⟩:=x
    obtain⟨qx,mx,cx,hxe⟩:=hat.flds.slice
    cases hxe
    have c2:=hB.cell hg2 |>.trans (HSC.out j s hs)
    rw[Nat.zero_add] at c2
    have rx:wr.rangeAt g1 (j * 45) (hopC (xr,xp,.slice qx mx cx)):=zbr (HROW.out j _ hx) hg1 hB
    have HAN:=Lib.hid (zfQ s.hx s.hs sOrigin wr (hfl.below hB) hn1 hn2 (by decide))
    have hb0:0≤(j:Int)∧(j:Int) < (xs.length:Int):=by have:=HKX.out;omega
    have hg1w:g1 < wr.heap.size:=Nat.lt_of_lt_of_le hg1 hB.size
    have Bw:=yD B4 hB
    have Hpt:=Lib.hid (hat.strs.below hB)
    have HFU:=Lib.hid ix.fits
    obtain⟨lv,hlv⟩:∃ b,b=zcA q.orig t.1 j:=⟨_,rfl⟩
    simp only[← hlv] at htn ⊢
    have HS1:Hid (quietR xr=true→allL sOrigin s.hs=[]):=so1
    have HS2:Hid (quietR xr=false→∃ y,allL sOrigin s.hs=[y]∧(lv=true→y=sNull)):=by rw[htn] at so2;exact so2
    clear hlv hat hfl so1 so2 hn1 hn2 ix hx hs HXM HSS HIN HTA HA1 HA2 HROW HSC HO1 HO2
    go_wp2_with fail
    refine HAN.out.mono ?_
    rintro e w5 ⟨v5,rfl,ho5,b5⟩
    have B5:=yD Bw b5
    have rx5:=zbr rx hg1w b5
    have ct:w5.cell? ⟨g1,j * 45 + 42,none⟩=some (.bool lv):=by have:=rx5 42 (.bool xr.tainted) rfl;rw[htn] at this;exact this
    have HQ:=Lib.hid (zdT xr xp (.slice qx mx cx) w5 (G.below B5) (Hpt.out.below b5) HFU.out.u HFU.out.o rfl)
    clear HAN c2 rx Hpt HFU htn
    obtain⟨qb,hqb⟩:∃ b,b=quietR xr:=⟨_,rfl⟩
    simp only[← hqb] at HQ HS1 HS2
    clear hqb
    cases qb with
    | true =>
     rw[HS1.out rfl] at ho5
     obtain⟨q5,c5,rfl⟩:=own_slice ho5
     clear ho5 HS1 HS2
     cases lv with
     | true =>
      go_wp2_with (first|((with_reducible (show wpList _ _ _ (Oper.mk _ (.load 32 _) _ _ _ _::_) _ _));refine zaa (by rfl) 32 _ rfl g1 (j * 45) rfl (reqC xr xp (.slice qx mx cx)) _ rx5 yA rfl zab ?_))
      refine HQ.out.mono ?_
      rintro e w6 ⟨rfl,b6⟩
      go_wp2
      go_ret
      exact⟨rfl,yD B5 b6⟩
     | false =>
      go_wp2_with (first|((with_reducible (show wpList _ _ _ (Oper.mk _ (.load 32 _) _ _ _ _::_) _ _));refine zaa (by rfl) 32 _ rfl g1 (j * 45) rfl (reqC xr xp (.slice qx mx cx)) _ rx5 yA rfl zab ?_))
      refine HQ.out.mono ?_
      rintro e w6 ⟨rfl,b6⟩
      go_wp2
      go_ret
      exact⟨rfl,yD B5 b6⟩
    | false =>
     obtain⟨yy,hy1,hy2⟩:=HS2.out rfl
     rw[hy1] at ho5
     obtain⟨g5,c5,rfl,hg5,hc5⟩:=zh7 ho5
     clear ho5 HS1 HS2 hy1
     cases lv with
     | true =>
      obtain rfl:=hy2 rfl
      have hnl:sNull.toList=[110,117,108,108]:=by rw[toList_data];rfl
      go_wp2_with (first|((with_reducible (show wpList _ _ _ (Oper.mk _ (.load 32 _) _ _ _ _::_) _ _));refine zaa (by rfl) 32 _ rfl g1 (j * 45) rfl (reqC xr xp (.slice qx mx cx)) _ rx5 yA rfl zab ?_))
      refine HQ.out.mono ?_
      rintro e w6 ⟨rfl,b6⟩
      go_wp2
      go_ret
      exact⟨rfl,yD B5 b6⟩
     | false =>
      go_wp2_with (first|((with_reducible (show wpList _ _ _ (Oper.mk _ (.load 32 _) _ _ _ _::_) _ _));refine zaa (by rfl) 32 _ rfl g1 (j * 45) rfl (reqC xr xp (.slice qx mx cx)) _ rx5 yA rfl zab ?_))
      refine HQ.out.mono ?_
      rintro e w6 ⟨rfl,b6⟩
      go_wp2
      go_ret
      exact⟨rfl,yD B5 b6⟩
end
end Go.Proofs.YtdlkjofnnefjfaaGreatDoor
