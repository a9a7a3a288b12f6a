/- hop.Send, up to what is sent without Referer and Origin. -/
import Derived.Test.YtdlkjofnnefjfaaGreatDoorZShort
import Derived.Test.YtdlkjofnnefjfaaGreatDoorZDropO
set_option linter.all false
namespace Go.Proofs.YtdlkjofnnefjfaaGreatDoor
set_option maxRecDepth 100000
open Go.RowKit
def sReferer:ByteArray:=⟨#[82,101,102,101,114,101,114]⟩
def sOrigin:ByteArray:=⟨#[79,114,105,103,105,110]⟩
theorem zaq:(Tryz.prog.info? 54).map (·.size)=some 4:=by kernel_rfl
structure Req.Small (r:Req):Prop where
 fit:r.Fits
 u:r.url.Small
 os:r.orig.scheme.size≤1000000
 rf:r.referrer.size≤100000
 fr:∀ a,zch r.referrer=some a→a.Small
theorem zfg {u:Url} (h:u.Small):(zbv u).Small:=⟨⟨h.fit.np,h.fit.sp,h.fit.q,Nat.zero_le _,h.fit.us,h.fit.pa,h.fit.n,h.fit.o⟩,h.sc,h.np,h.ps⟩
def zbJ (r:Req):List Fld:=zaf [sReferer,sOrigin] r.heads
theorem ze8 (r:Req):(zbJ r).length≤r.heads.length:=List.length_filter_le _ _
def zir (r:Req) (pu hv:Value) (w:World) (B:Nat) (v:Value) (W:World):Prop :=
 ∃ X ut hx,v=.pointer (some ⟨X,0,none⟩)∧W.heap[X]? = some (.cells (zad ut r.method hx r.body) 54 (0,0))∧W.ownsRow B 72 2 hx (zbJ r).length (zai (zbJ r))∧B≤X ∧
  W.heap[w.heap.size]? = some (.cells (reqC r pu hv) 32 (0,0))∧W.heap[w.heap.size + 1]? = some (.cells (zad ⟨#[]⟩ ⟨#[]⟩ (.slice none 0 0) false) 54 (0,0))∧Below w.heap.size w W∧B≤W.heap.size
theorem zak {w:World} {B n g:Nat} {v:Value} {xs:List Value} {cs old:Array Value} {T:TypeId} (h:w.ownsRow B 72 2 v n xs) (hg:w.heap[g]? = some (.cells old T (0,0))) (hT:T≠72):(w.setRow g cs).ownsRow B 72 2 v n xs:=by
 obtain⟨h1,h2⟩:=h
 refine⟨h1,?_⟩
 rcases h2 with h2|⟨k,cap,cur,hv,hk,hh,r⟩
 ·exact .inl h2
 ·refine .inr ⟨k,cap,cur,hv,hk,(yI _ _ _ _ ?_).trans hh,r⟩
  rintro rfl
  rw[hg] at hh
  cases hh
  exact hT rfl
theorem own_slice {w:World} {B n e s:Nat} {v:Value} {xs:List Value} (h:w.ownsRow B e s v n xs):∃ q c,v=.slice q n c:=by
 rcases h.2 with ⟨h,h'⟩|⟨g,cap,cur,h,_⟩
 ·exact⟨none,0,by rw[h,h']⟩
 ·exact⟨_,_,h⟩
def zcr (r:Req) (hs:List Fld):Prop:=∃ rt rb ot ob,zgM r.policy r.referrer r.url rt rb∧zde r ot ob∧hs=addF ob (addF rb (zbJ r) (sReferer,rt)) (sOrigin,ot)
def zdf (r:Req) (w:World) (e:Ending) (w':World):Prop :=
 ∃ ut mt hx bd hs,e=.returned (.agg (zad ut mt hx bd))∧w'.ownsRow w.heap.size 72 2 hx hs.length (zai hs)∧(mayR r=true→zcr r hs)∧(mayR r=false→hs=[])∧hs.length≤r.heads.length + 2∧Below w.heap.size w w'
theorem zcj (is:Bool) (l:List Fld) (f:Fld):(addF is l f).length≤l.length + 1:=by cases is <;> simp[addF]
set_option maxHeartbeats 40000000 in
theorem zhp (r:Req) (pu hv:Value) (w:World) (G:Glob w) (hp:Strs w pu r.url.path) (hh:Flds w hv r.heads) (hf:r.Small) :
  Calls Tryz.prog 21 #[.agg (reqC r pu hv)] w (zdf r w):=by
 have R0:=row2a w (.cells (reqC r pu hv) 32) (.cells (zad ⟨#[]⟩ ⟨#[]⟩ (.slice none 0 0) false) 54)
 have S0:=row2b w (.cells (reqC r pu hv) 32) (.cells (zad ⟨#[]⟩ ⟨#[]⟩ (.slice none 0 0) false) 54)
 have B0:=bel2 w (.cells (reqC r pu hv) 32) (.cells (zad ⟨#[]⟩ ⟨#[]⟩ (.slice none 0 0) false) 54)
 obtain⟨qh,mh,ch,rfl⟩:=hh.slice
 have HM:=Lib.hid (zdn r pu (.slice qh mh ch) _ (G.below B0) (hp.below B0) (hh.below B0) hf.fit)
 have HB:=fun w' h=>Lib.hid (zdg r.url pu w' h hf.fit.u.np)
 have HS:=fun pv w' g h=>Lib.hid (show_any (zbv r.url) pv w' g h (zfg hf.u))
 have HD:=fun g w' h k=>Lib.hid (zfY (.slice qh mh ch) (.slice (some ⟨g,0,none⟩) 2 2) r.heads [sReferer,sOrigin] w' h hf.fit.h k (by decide) (by decide))
 have HRF:=fun w' g h=>Lib.hid (zeE r.policy r.referrer r.url pu w' g hf.rf h hf.fit.u hf.fr)
 have HSN:=fun w' g h k=>Lib.hid (zgz r pu (.slice qh mh ch) w' g h k hf.fit.u hf.fit.o hf.os)
 have HSL:Hid (∀ e w',zdf r w e w'=∃ ut mt hx bd hs,e=.returned (.agg (zad ut mt hx bd))∧w'.ownsRow w.heap.size 72 2 hx hs.length (zai hs)∧(mayR r=true→zcr r hs)∧(mayR r=false→hs=[])∧hs.length≤r.heads.length + 2∧Below w.heap.size w w'):=fun e w'=>rfl
 have HP:=Lib.hid hp
 have HH:=Lib.hid hh
 have hrl:=ze8 r
 have hhl:=hf.fit.h.1
 obtain⟨SL,hSL⟩:∃ s,s=zdf r w:=⟨_,rfl⟩
 obtain⟨mb,hmb⟩:∃ b,b=mayR r:=⟨_,rfl⟩
 simp only[← hSL,← hmb] at HSL HM ⊢
 clear hSL hmb hf hp hh
 go_enter Tryz.func21,Tryz.ntmps21
 go_wp2_with (first|((with_reducible (show wpList _ _ _ (Oper.mk _ (.load 32 _) _ _ _ none::_) _ _));refine yK rfl 32 _ rfl w.heap.size rfl 32 _ (0,0) _ R0 yA rfl zab ?_))
 refine HM.out.mono ?_
 rintro e w1 ⟨rfl,b1⟩
 have R1:=kept b1 R0
 have S1:=kept b1 S0
 have B1:=yD B0 b1
 have hlt1:w.heap.size + 1 < w1.heap.size:=yS S1
 clear HM b1 R0 S0 B0
 cases mb with
 | false =>
  have HZ:Hid (SL (.returned (.agg (zad ⟨#[]⟩ ⟨#[]⟩ (.slice none 0 0) false))) (w1.setRow (w.heap.size + 1) (zad ⟨#[]⟩ ⟨#[]⟩ (.slice none 0 0) false))):=by
   show _
   rw[HSL.out]
   exact⟨_,_,_,_,[],rfl,World.ownsRow_nil _ _ _ _,fun h=>(by cases h),fun _=>rfl,Nat.zero_le _,yM B1 (Nat.le_succ _)⟩
  clear HSL
  go_wp2_with (first|((with_reducible (show wpList _ _ _ (Oper.mk none (.store 54 _ _) _ _ _ none::_) _ _));refine yJ rfl 54 _ _ rfl (w.heap.size + 1) _ rfl rfl 54 _ S1 zaq rfl (by simp[Value.oneCell']) ?_))
  exact yO (yT rfl _ _ (w.heap.size + 1) 54 (zad ⟨#[]⟩ ⟨#[]⟩ (.slice none 0 0) false) (0,0) _ rfl (yH _ _ _ _ _ _ S1) Tryz.underlying54 rfl zaq) rfl HZ.out
 | true =>
  go_upto_region 3 with fail
  go_cut [3] from 11 to 23 (fun v wx=>zir r pu (.slice qh mh ch) w w1.heap.size v wx)
  case first =>
   have R0:w1.drew.heap[w.heap.size]? = some (.cells (reqC r pu (.slice qh mh ch)) 32 (0,0)):=R1
   have S0:w1.drew.heap[w.heap.size + 1]? = some (.cells (zad ⟨#[]⟩ ⟨#[]⟩ (.slice none 0 0) false) 54 (0,0)):=S1
   have L0:=yD B1 (yR w1)
   have Z0:=yR w1
   have hz0:=Z0.size
   go_wp2_with fail
   refine yQ (S:=fun W=>W.heap[w.heap.size]? = some (.cells (reqC r pu (.slice qh mh ch)) 32 (0,0))) (by kernel_rfl) R1 (fun h0=>?_)
   obtain⟨V0,hV0⟩:∃ V,w1.drew=V:=⟨_,rfl⟩
   rw[hV0] at R0 S0 L0 Z0 hz0
   simp only[hV0] at h0 ⊢
   clear hV0
   refine tk (i:=0) (v:=?v1) rfl (Or.inl ⟨by rfl,?y1⟩) h0 ?r1
   case y1 =>
    intro W hW
    go_simp
    try with_reducible rfl
   simp only[Act.put,zA,zB,zC,zD,zE,zF]
   refine tk (i:=1) rfl (zao w.heap.size 0 r.url pu (by rfl) _ rfl rfl (fun W h=>zae h 0 _ rfl)) h0 ?_
   simp only[Act.put,zA,zB,zC,zD,zE,zF]
   refine tk (i:=4) (v:=?v2) rfl (Or.inl ⟨by rfl,?y2⟩) h0 ?r2
   case y2 =>
    intro W hW
    go_simp
    try with_reducible rfl
   simp only[Act.put,zA,zB,zC,zD,zE,zF]
   refine tk (i:=5) (v:=?v3) rfl (Or.inl ⟨by rfl,?y3⟩) h0 ?r3
   case y3 =>
    intro W hW
    have c21:=yE hW 21 (.string r.method) rfl
    go_simp
    try with_reducible rfl
   simp only[Act.put,zA,zB,zC,zD,zE,zF]
   refine tk (i:=6) (v:=?v4) rfl (Or.inl ⟨by rfl,?y4⟩) h0 ?r4
   case y4 =>
    intro W hW
    go_simp
    try with_reducible rfl
   simp only[Act.put,zA,zB,zC,zD,zE,zF]
   refine tk (i:=7) (v:=?v5) rfl (Or.inl ⟨by rfl,?y5⟩) h0 ?r5
   case y5 =>
    intro W hW
    have c23:=yE hW 23 (.bool r.body) rfl
    go_simp
    try with_reducible rfl
   simp only[Act.put,zA,zB,zC,zD,zE,zF]
   refine tk (i:=8) (v:=?v6) rfl (Or.inl ⟨by rfl,?y6⟩) h0 ?r6
   case y6 =>
    intro W hW
    go_simp
    try with_reducible rfl
   simp only[Act.put,zA,zB,zC,zD,zE,zF]
   refine tk (i:=9) (v:=?v7) rfl (Or.inl ⟨by rfl,?y7⟩) h0 ?r7
   case y7 =>
    intro W hW
    have c22:=yE hW 22 (.slice qh mh ch) rfl
    go_simp
    try with_reducible rfl
   simp only[Act.put,zA,zB,zC,zD,zE,zF]
   refine wpAnyH_ready (rs:=[2,10,13]) (by kernel_rfl) (by simp) ?_
   refine AllReadyH.cons rfl (fun K hK=>?_) (AllReadyH.cons rfl (fun K hK=>?_) (AllReadyH.cons rfl (fun K hK=>?_) AllReadyH.nil))
   all_goals try simp only[zA,zB,zC]
   all_goals rw[if_pos (by rfl)]
   all_goals go_simp
   ·go_at_call 44
    refine(HB V0 (HP.out.below L0)).out.mono ?_
    rintro e V1 ⟨pv,rfl,ho,k1⟩
    have Q1:=Strs.of_own ho
    clear ho
    have R1:=kept k1 R0
    have S1:=kept k1 S0
    have L1:=yD L0 k1
    have Z1:=Z0.trans (k1.mono Z0.size)
    have hz1:=Z1.size
    refine hK.out _ _ R1 (fun h0=>?_)
    clear hK K
    try simp only[Act.put,zA,zB,zC,zD,zE,zF]
    refine wpAnyH_ready (rs:=[3,10,13]) (by kernel_rfl) (by simp) ?_
    refine AllReadyH.cons rfl (fun K hK=>?_) (AllReadyH.cons rfl (fun K hK=>?_) (AllReadyH.cons rfl (fun K hK=>?_) AllReadyH.nil))
    all_goals try simp only[zA,zB,zC]
    all_goals rw[if_pos (by rfl)]
    all_goals go_simp
    ·go_at_call 43
     refine(HS pv V1 (G.below L1) Q1).out.mono ?_
     rintro e V2 ⟨⟨ut,rfl,_,_⟩,k2⟩
     have R2:=kept k2 R1
     have S2:=kept k2 S1
     have L2:=yD L1 k2
     have Z2:=Z1.trans (k2.mono Z1.size)
     have hz2:=Z2.size
     refine hK.out _ _ R2 (fun h0=>?_)
     clear hK K
     try simp only[Act.put,zA,zB,zC,zD,zE,zF]
     refine wpAnyH_ready (rs:=[10,13]) (by kernel_rfl) (by simp) ?_
     refine AllReadyH.cons rfl (fun K hK=>?_) (AllReadyH.cons rfl (fun K hK=>?_) AllReadyH.nil)
     all_goals try simp only[zA,zB,zC]
     all_goals rw[if_pos (by rfl)]
     all_goals go_simp
     ·have k3:=bel1 V2 (.cells #[.string ⟨#[82,101,102,101,114,101,114]⟩,.string ⟨#[79,114,105,103,105,110]⟩] 9)
      have R3:=kept k3 R2
      have nV23:(V2.alloc (.cells #[.string ⟨#[82,101,102,101,114,101,114]⟩,.string ⟨#[79,114,105,103,105,110]⟩] 9)).heap[V2.heap.size]? = some (.cells ([sReferer,sOrigin].map Value.string).toArray 9 (0,0)):=row1 _ _
      refine hK.out _ _ R3 (fun h0=>?_)
      clear hK K
      try simp only[Act.put,zA,zB,zC,zD,zE,zF]
      generalize hV3:V2.alloc (.cells #[.string ⟨#[82,101,102,101,114,101,114]⟩,.string ⟨#[79,114,105,103,105,110]⟩] 9)=V3 at k3 nV23 R3 h0 ⊢
      clear hV3
      have S3:=kept k3 S2
      have L3:=yD L2 k3
      have Z3:=Z2.trans (k3.mono Z2.size)
      have hz3:=Z3.size
      refine wpAnyH_ready (rs:=[11,13]) (by kernel_rfl) (by simp) ?_
      refine AllReadyH.cons rfl (fun K hK=>?_) (AllReadyH.cons rfl (fun K hK=>?_) AllReadyH.nil)
      all_goals try simp only[zA,zB,zC]
      all_goals rw[if_pos (by rfl)]
      all_goals go_simp
      ·go_at_call 45
       refine(HD V2.heap.size V3 (HH.out.below L3) (zaD nV23 (by decide))).out.mono ?_
       rintro e V4 ⟨hx,rfl,ho,k4⟩
       have O4:=own_lower ho Z3.size
       clear ho
       obtain⟨qx,cx,rfl⟩:=own_slice O4
       have R4:=kept k4 R3
       have S4:=kept k4 S3
       have L4:=yD L3 k4
       have Z4:=Z3.trans (k4.mono Z3.size)
       have hz4:=Z4.size
       refine hK.out _ _ R4 (fun h0=>?_)
       clear hK K
       try simp only[Act.put,zA,zB,zC,zD,zE,zF]
       refine tk (i:=12) (v:=?v8) rfl (Or.inl ⟨by rfl,?y8⟩) h0 ?r8
       case y8 =>
        intro W hW
        go_simp
        try with_reducible rfl
       simp only[Act.put,zA,zB,zC,zD,zE,zF]
       refine zrd (i:=13) rfl (fun K hK=>?_)
       all_goals try simp only[zA,zB,zC]
       all_goals rw[if_pos (by rfl)]
       all_goals go_simp
       ·have k5:=bel1 V4 (.cells (zad ⟨#[]⟩ ⟨#[]⟩ (.slice none 0 0) false) 54)
        have R5:=kept k5 R4
        have xV45:=row1 V4 (.cells (zad ⟨#[]⟩ ⟨#[]⟩ (.slice none 0 0) false) 54)
        refine hK.out _ _ R5 (fun h0=>?_)
        clear hK K
        try simp only[Act.put,zA,zB,zC,zD,zE,zF]
        generalize hV5:V4.alloc (.cells (zad ⟨#[]⟩ ⟨#[]⟩ (.slice none 0 0) false) 54)=V5 at k5 xV45 R5 h0 ⊢
        clear hV5
        have S5:=kept k5 S4
        have L5:=yD L4 k5
        have Z5:=Z4.trans (k5.mono Z4.size)
        have hz5:=Z5.size
        have O5:=own_below O4 k5
        have P5:=yH _ _ _ (zad ut r.method (.slice qx (zaf [sReferer,sOrigin] r.heads).length cx) r.body) _ _ xV45
        have PR5:(V5.setRow V4.heap.size (zad ut r.method (.slice qx (zaf [sReferer,sOrigin] r.heads).length cx) r.body)).heap[w.heap.size]? = some (.cells (reqC r pu (.slice qh mh ch)) 32 (0,0)):=(yI _ _ _ _ (by omega)).trans R5
        have PS5:(V5.setRow V4.heap.size (zad ut r.method (.slice qx (zaf [sReferer,sOrigin] r.heads).length cx) r.body)).heap[w.heap.size + 1]? = some (.cells (zad ⟨#[]⟩ ⟨#[]⟩ (.slice none 0 0) false) 54 (0,0)):=(yI _ _ _ _ (by omega)).trans S5
        have PO5:=zak (g:=V4.heap.size) (cs:=zad ut r.method (.slice qx (zaf [sReferer,sOrigin] r.heads).length cx) r.body) O5 xV45 (by decide)
        have PB5:=yM L5 (by omega:w.heap.size≤V4.heap.size) (cs:=zad ut r.method (.slice qx (zaf [sReferer,sOrigin] r.heads).length cx) r.body)
        refine zrd (i:=14) rfl (fun K hK=>?_)
        try simp only[zA,zB,zC]
        rw[if_pos (by rfl)]
        refine wp_store_row 54 _ _ rfl V4.heap.size _ rfl rfl 54 _ xV45 zaq rfl (by simp[Value.oneCell']) ?_
        refine hK.out _ _ PR5 (fun h0=>?_)
        clear hK K
        try simp only[Act.put,zA,zB,zC,zD,zE,zF]
        refine yX (by kernel_rfl) ?_ _
        go_wp2_with fail
        go_meet
        case rel=>exact⟨V4.heap.size,ut,.slice qx (zaf [sReferer,sOrigin] r.heads).length cx,rfl,P5,PO5,by omega,PR5,PS5,PB5,by show w1.heap.size≤(V5.setRow V4.heap.size (zad ut r.method (.slice qx (zaf [sReferer,sOrigin] r.heads).length cx) r.body)).heap.size;simp[World.setRow];exact Z5.size⟩
      ·have k4:=bel1 V3 (.cells (zad ⟨#[]⟩ ⟨#[]⟩ (.slice none 0 0) false) 54)
       have R4:=kept k4 R3
       have xV34:=row1 V3 (.cells (zad ⟨#[]⟩ ⟨#[]⟩ (.slice none 0 0) false) 54)
       refine hK.out _ _ R4 (fun h0=>?_)
       clear hK K
       try simp only[Act.put,zA,zB,zC,zD,zE,zF]
       generalize hV4:V3.alloc (.cells (zad ⟨#[]⟩ ⟨#[]⟩ (.slice none 0 0) false) 54)=V4 at k4 xV34 R4 h0 ⊢
       clear hV4
       have S4:=kept k4 S3
       have L4:=yD L3 k4
       have Z4:=Z3.trans (k4.mono Z3.size)
       have hz4:=Z4.size
       have nV24:=kept k4 nV23
       refine zrd (i:=11) rfl (fun K hK=>?_)
       all_goals try simp only[zA,zB,zC]
       all_goals rw[if_pos (by rfl)]
       all_goals go_simp
       ·go_at_call 45
        refine(HD V2.heap.size V4 (HH.out.below L4) (zaD nV24 (by decide))).out.mono ?_
        rintro e V5 ⟨hx,rfl,ho,k5⟩
        have O5:=own_lower ho Z4.size
        clear ho
        obtain⟨qx,cx,rfl⟩:=own_slice O5
        have R5:=kept k5 R4
        have S5:=kept k5 S4
        have L5:=yD L4 k5
        have Z5:=Z4.trans (k5.mono Z4.size)
        have hz5:=Z5.size
        have xV35:=kept k5 xV34
        refine hK.out _ _ R5 (fun h0=>?_)
        clear hK K
        try simp only[Act.put,zA,zB,zC,zD,zE,zF]
        refine tk (i:=12) (v:=?v9) rfl (Or.inl ⟨by rfl,?y9⟩) h0 ?r9
        case y9 =>
         intro W hW
         go_simp
         try with_reducible rfl
        simp only[Act.put,zA,zB,zC,zD,zE,zF]
        have P5:=yH _ _ _ (zad ut r.method (.slice qx (zaf [sReferer,sOrigin] r.heads).length cx) r.body) _ _ xV35
        have PR5:(V5.setRow V3.heap.size (zad ut r.method (.slice qx (zaf [sReferer,sOrigin] r.heads).length cx) r.body)).heap[w.heap.size]? = some (.cells (reqC r pu (.slice qh mh ch)) 32 (0,0)):=(yI _ _ _ _ (by omega)).trans R5
        have PS5:(V5.setRow V3.heap.size (zad ut r.method (.slice qx (zaf [sReferer,sOrigin] r.heads).length cx) r.body)).heap[w.heap.size + 1]? = some (.cells (zad ⟨#[]⟩ ⟨#[]⟩ (.slice none 0 0) false) 54 (0,0)):=(yI _ _ _ _ (by omega)).trans S5
        have PO5:=zak (g:=V3.heap.size) (cs:=zad ut r.method (.slice qx (zaf [sReferer,sOrigin] r.heads).length cx) r.body) O5 xV35 (by decide)
        have PB5:=yM L5 (by omega:w.heap.size≤V3.heap.size) (cs:=zad ut r.method (.slice qx (zaf [sReferer,sOrigin] r.heads).length cx) r.body)
        refine zrd (i:=14) rfl (fun K hK=>?_)
        try simp only[zA,zB,zC]
        rw[if_pos (by rfl)]
        refine wp_store_row 54 _ _ rfl V3.heap.size _ rfl rfl 54 _ xV35 zaq rfl (by simp[Value.oneCell']) ?_
        refine hK.out _ _ PR5 (fun h0=>?_)
        clear hK K
        try simp only[Act.put,zA,zB,zC,zD,zE,zF]
        refine yX (by kernel_rfl) ?_ _
        go_wp2_with fail
        go_meet
        case rel=>exact⟨V3.heap.size,ut,.slice qx (zaf [sReferer,sOrigin] r.heads).length cx,rfl,P5,PO5,by omega,PR5,PS5,PB5,by show w1.heap.size≤(V5.setRow V3.heap.size (zad ut r.method (.slice qx (zaf [sReferer,sOrigin] r.heads).length cx) r.body)).heap.size;simp[World.setRow];exact Z5.size⟩
     ·have k3:=bel1 V2 (.cells (zad ⟨#[]⟩ ⟨#[]⟩ (.slice none 0 0) false) 54)
      have R3:=kept k3 R2
      have xV23:=row1 V2 (.cells (zad ⟨#[]⟩ ⟨#[]⟩ (.slice none 0 0) false) 54)
      refine hK.out _ _ R3 (fun h0=>?_)
      clear hK K
      try simp only[Act.put,zA,zB,zC,zD,zE,zF]
      generalize hV3:V2.alloc (.cells (zad ⟨#[]⟩ ⟨#[]⟩ (.slice none 0 0) false) 54)=V3 at k3 xV23 R3 h0 ⊢
      clear hV3
      have S3:=kept k3 S2
      have L3:=yD L2 k3
      have Z3:=Z2.trans (k3.mono Z2.size)
      have hz3:=Z3.size
      refine zrd (i:=10) rfl (fun K hK=>?_)
      all_goals try simp only[zA,zB,zC]
      all_goals rw[if_pos (by rfl)]
      all_goals go_simp
      ·have k4:=bel1 V3 (.cells #[.string ⟨#[82,101,102,101,114,101,114]⟩,.string ⟨#[79,114,105,103,105,110]⟩] 9)
       have R4:=kept k4 R3
       have nV34:(V3.alloc (.cells #[.string ⟨#[82,101,102,101,114,101,114]⟩,.string ⟨#[79,114,105,103,105,110]⟩] 9)).heap[V3.heap.size]? = some (.cells ([sReferer,sOrigin].map Value.string).toArray 9 (0,0)):=row1 _ _
       refine hK.out _ _ R4 (fun h0=>?_)
       clear hK K
       try simp only[Act.put,zA,zB,zC,zD,zE,zF]
       generalize hV4:V3.alloc (.cells #[.string ⟨#[82,101,102,101,114,101,114]⟩,.string ⟨#[79,114,105,103,105,110]⟩] 9)=V4 at k4 nV34 R4 h0 ⊢
       clear hV4
       have S4:=kept k4 S3
       have L4:=yD L3 k4
       have Z4:=Z3.trans (k4.mono Z3.size)
       have hz4:=Z4.size
       have xV24:=kept k4 xV23
       refine zrd (i:=11) rfl (fun K hK=>?_)
       all_goals try simp only[zA,zB,zC]
       all_goals rw[if_pos (by rfl)]
       all_goals go_simp
       ·go_at_call 45
        refine(HD V3.heap.size V4 (HH.out.below L4) (zaD nV34 (by decide))).out.mono ?_
        rintro e V5 ⟨hx,rfl,ho,k5⟩
        have O5:=own_lower ho Z4.size
        clear ho
        obtain⟨qx,cx,rfl⟩:=own_slice O5
        have R5:=kept k5 R4
        have S5:=kept k5 S4
        have L5:=yD L4 k5
        have Z5:=Z4.trans (k5.mono Z4.size)
        have hz5:=Z5.size
        have xV25:=kept k5 xV24
        refine hK.out _ _ R5 (fun h0=>?_)
        clear hK K
        try simp only[Act.put,zA,zB,zC,zD,zE,zF]
        refine tk (i:=12) (v:=?v10) rfl (Or.inl ⟨by rfl,?y10⟩) h0 ?r10
        case y10 =>
         intro W hW
         go_simp
         try with_reducible rfl
        simp only[Act.put,zA,zB,zC,zD,zE,zF]
        have P5:=yH _ _ _ (zad ut r.method (.slice qx (zaf [sReferer,sOrigin] r.heads).length cx) r.body) _ _ xV25
        have PR5:(V5.setRow V2.heap.size (zad ut r.method (.slice qx (zaf [sReferer,sOrigin] r.heads).length cx) r.body)).heap[w.heap.size]? = some (.cells (reqC r pu (.slice qh mh ch)) 32 (0,0)):=(yI _ _ _ _ (by omega)).trans R5
        have PS5:(V5.setRow V2.heap.size (zad ut r.method (.slice qx (zaf [sReferer,sOrigin] r.heads).length cx) r.body)).heap[w.heap.size + 1]? = some (.cells (zad ⟨#[]⟩ ⟨#[]⟩ (.slice none 0 0) false) 54 (0,0)):=(yI _ _ _ _ (by omega)).trans S5
        have PO5:=zak (g:=V2.heap.size) (cs:=zad ut r.method (.slice qx (zaf [sReferer,sOrigin] r.heads).length cx) r.body) O5 xV25 (by decide)
        have PB5:=yM L5 (by omega:w.heap.size≤V2.heap.size) (cs:=zad ut r.method (.slice qx (zaf [sReferer,sOrigin] r.heads).length cx) r.body)
        refine zrd (i:=14) rfl (fun K hK=>?_)
        try simp only[zA,zB,zC]
        rw[if_pos (by rfl)]
        refine wp_store_row 54 _ _ rfl V2.heap.size _ rfl rfl 54 _ xV25 zaq rfl (by simp[Value.oneCell']) ?_
        refine hK.out _ _ PR5 (fun h0=>?_)
        clear hK K
        try simp only[Act.put,zA,zB,zC,zD,zE,zF]
        refine yX (by kernel_rfl) ?_ _
        go_wp2_with fail
        go_meet
        case rel=>exact⟨V2.heap.size,ut,.slice qx (zaf [sReferer,sOrigin] r.heads).length cx,rfl,P5,PO5,by omega,PR5,PS5,PB5,by show w1.heap.size≤(V5.setRow V2.heap.size (zad ut r.method (.slice qx (zaf [sReferer,sOrigin] r.heads).length cx) r.body)).heap.size;simp[World.setRow];exact Z5.size⟩
    ·have k2:=bel1 V1 (.cells #[.string ⟨#[82,101,102,101,114,101,114]⟩,.string ⟨#[79,114,105,103,105,110]⟩] 9)
     have R2:=kept k2 R1
     have nV12:(V1.alloc (.cells #[.string ⟨#[82,101,102,101,114,101,114]⟩,.string ⟨#[79,114,105,103,105,110]⟩] 9)).heap[V1.heap.size]? = some (.cells ([sReferer,sOrigin].map Value.string).toArray 9 (0,0)):=row1 _ _
     refine hK.out _ _ R2 (fun h0=>?_)
     clear hK K
     try simp only[Act.put,zA,zB,zC,zD,zE,zF]
     generalize hV2:V1.alloc (.cells #[.string ⟨#[82,101,102,101,114,101,114]⟩,.string ⟨#[79,114,105,103,105,110]⟩] 9)=V2 at k2 nV12 R2 h0 ⊢
     clear hV2
     have S2:=kept k2 S1
     have L2:=yD L1 k2
     have Z2:=Z1.trans (k2.mono Z1.size)
     have hz2:=Z2.size
     have Q2:=Q1.below k2
     refine wpAnyH_ready (rs:=[3,13]) (by kernel_rfl) (by simp) ?_
     refine AllReadyH.cons rfl (fun K hK=>?_) (AllReadyH.cons rfl (fun K hK=>?_) AllReadyH.nil)
     all_goals try simp only[zA,zB,zC]
     all_goals rw[if_pos (by rfl)]
     all_goals go_simp
     ·go_at_call 43
      refine(HS pv V2 (G.below L2) Q2).out.mono ?_
      rintro e V3 ⟨⟨ut,rfl,_,_⟩,k3⟩
      have R3:=kept k3 R2
      have S3:=kept k3 S2
      have L3:=yD L2 k3
      have Z3:=Z2.trans (k3.mono Z2.size)
      have hz3:=Z3.size
      have nV13:=kept k3 nV12
      refine hK.out _ _ R3 (fun h0=>?_)
      clear hK K
      try simp only[Act.put,zA,zB,zC,zD,zE,zF]
      refine wpAnyH_ready (rs:=[11,13]) (by kernel_rfl) (by simp) ?_
      refine AllReadyH.cons rfl (fun K hK=>?_) (AllReadyH.cons rfl (fun K hK=>?_) AllReadyH.nil)
      all_goals try simp only[zA,zB,zC]
      all_goals rw[if_pos (by rfl)]
      all_goals go_simp
      ·go_at_call 45
       refine(HD V1.heap.size V3 (HH.out.below L3) (zaD nV13 (by decide))).out.mono ?_
       rintro e V4 ⟨hx,rfl,ho,k4⟩
       have O4:=own_lower ho Z3.size
       clear ho
       obtain⟨qx,cx,rfl⟩:=own_slice O4
       have R4:=kept k4 R3
       have S4:=kept k4 S3
       have L4:=yD L3 k4
       have Z4:=Z3.trans (k4.mono Z3.size)
       have hz4:=Z4.size
       refine hK.out _ _ R4 (fun h0=>?_)
       clear hK K
       try simp only[Act.put,zA,zB,zC,zD,zE,zF]
       refine tk (i:=12) (v:=?v11) rfl (Or.inl ⟨by rfl,?y11⟩) h0 ?r11
       case y11 =>
        intro W hW
        go_simp
        try with_reducible rfl
       simp only[Act.put,zA,zB,zC,zD,zE,zF]
       refine zrd (i:=13) rfl (fun K hK=>?_)
       all_goals try simp only[zA,zB,zC]
       all_goals rw[if_pos (by rfl)]
       all_goals go_simp
       ·have k5:=bel1 V4 (.cells (zad ⟨#[]⟩ ⟨#[]⟩ (.slice none 0 0) false) 54)
        have R5:=kept k5 R4
        have xV45:=row1 V4 (.cells (zad ⟨#[]⟩ ⟨#[]⟩ (.slice none 0 0) false) 54)
        refine hK.out _ _ R5 (fun h0=>?_)
        clear hK K
        try simp only[Act.put,zA,zB,zC,zD,zE,zF]
        generalize hV5:V4.alloc (.cells (zad ⟨#[]⟩ ⟨#[]⟩ (.slice none 0 0) false) 54)=V5 at k5 xV45 R5 h0 ⊢
        clear hV5
        have S5:=kept k5 S4
        have L5:=yD L4 k5
        have Z5:=Z4.trans (k5.mono Z4.size)
        have hz5:=Z5.size
        have O5:=own_below O4 k5
        have P5:=yH _ _ _ (zad ut r.method (.slice qx (zaf [sReferer,sOrigin] r.heads).length cx) r.body) _ _ xV45
        have PR5:(V5.setRow V4.heap.size (zad ut r.method (.slice qx (zaf [sReferer,sOrigin] r.heads).length cx) r.body)).heap[w.heap.size]? = some (.cells (reqC r pu (.slice qh mh ch)) 32 (0,0)):=(yI _ _ _ _ (by omega)).trans R5
        have PS5:(V5.setRow V4.heap.size (zad ut r.method (.slice qx (zaf [sReferer,sOrigin] r.heads).length cx) r.body)).heap[w.heap.size + 1]? = some (.cells (zad ⟨#[]⟩ ⟨#[]⟩ (.slice none 0 0) false) 54 (0,0)):=(yI _ _ _ _ (by omega)).trans S5
        have PO5:=zak (g:=V4.heap.size) (cs:=zad ut r.method (.slice qx (zaf [sReferer,sOrigin] r.heads).length cx) r.body) O5 xV45 (by decide)
        have PB5:=yM L5 (by omega:w.heap.size≤V4.heap.size) (cs:=zad ut r.method (.slice qx (zaf [sReferer,sOrigin] r.heads).length cx) r.body)
        refine zrd (i:=14) rfl (fun K hK=>?_)
        try simp only[zA,zB,zC]
        rw[if_pos (by rfl)]
        refine wp_store_row 54 _ _ rfl V4.heap.size _ rfl rfl 54 _ xV45 zaq rfl (by simp[Value.oneCell']) ?_
        refine hK.out _ _ PR5 (fun h0=>?_)
        clear hK K
        try simp only[Act.put,zA,zB,zC,zD,zE,zF]
        refine yX (by kernel_rfl) ?_ _
        go_wp2_with fail
        go_meet
        case rel=>exact⟨V4.heap.size,ut,.slice qx (zaf [sReferer,sOrigin] r.heads).length cx,rfl,P5,PO5,by omega,PR5,PS5,PB5,by show w1.heap.size≤(V5.setRow V4.heap.size (zad ut r.method (.slice qx (zaf [sReferer,sOrigin] r.heads).length cx) r.body)).heap.size;simp[World.setRow];exact Z5.size⟩
      ·have k4:=bel1 V3 (.cells (zad ⟨#[]⟩ ⟨#[]⟩ (.slice none 0 0) false) 54)
       have R4:=kept k4 R3
       have xV34:=row1 V3 (.cells (zad ⟨#[]⟩ ⟨#[]⟩ (.slice none 0 0) false) 54)
       refine hK.out _ _ R4 (fun h0=>?_)
       clear hK K
       try simp only[Act.put,zA,zB,zC,zD,zE,zF]
       generalize hV4:V3.alloc (.cells (zad ⟨#[]⟩ ⟨#[]⟩ (.slice none 0 0) false) 54)=V4 at k4 xV34 R4 h0 ⊢
       clear hV4
       have S4:=kept k4 S3
       have L4:=yD L3 k4
       have Z4:=Z3.trans (k4.mono Z3.size)
       have hz4:=Z4.size
       have nV14:=kept k4 nV13
       refine zrd (i:=11) rfl (fun K hK=>?_)
       all_goals try simp only[zA,zB,zC]
       all_goals rw[if_pos (by rfl)]
       all_goals go_simp
       ·go_at_call 45
        refine(HD V1.heap.size V4 (HH.out.below L4) (zaD nV14 (by decide))).out.mono ?_
        rintro e V5 ⟨hx,rfl,ho,k5⟩
        have O5:=own_lower ho Z4.size
        clear ho
        obtain⟨qx,cx,rfl⟩:=own_slice O5
        have R5:=kept k5 R4
        have S5:=kept k5 S4
        have L5:=yD L4 k5
        have Z5:=Z4.trans (k5.mono Z4.size)
        have hz5:=Z5.size
        have xV35:=kept k5 xV34
        refine hK.out _ _ R5 (fun h0=>?_)
        clear hK K
        try simp only[Act.put,zA,zB,zC,zD,zE,zF]
        refine tk (i:=12) (v:=?v12) rfl (Or.inl ⟨by rfl,?y12⟩) h0 ?r12
        case y12 =>
         intro W hW
         go_simp
         try with_reducible rfl
        simp only[Act.put,zA,zB,zC,zD,zE,zF]
        have P5:=yH _ _ _ (zad ut r.method (.slice qx (zaf [sReferer,sOrigin] r.heads).length cx) r.body) _ _ xV35
        have PR5:(V5.setRow V3.heap.size (zad ut r.method (.slice qx (zaf [sReferer,sOrigin] r.heads).length cx) r.body)).heap[w.heap.size]? = some (.cells (reqC r pu (.slice qh mh ch)) 32 (0,0)):=(yI _ _ _ _ (by omega)).trans R5
        have PS5:(V5.setRow V3.heap.size (zad ut r.method (.slice qx (zaf [sReferer,sOrigin] r.heads).length cx) r.body)).heap[w.heap.size + 1]? = some (.cells (zad ⟨#[]⟩ ⟨#[]⟩ (.slice none 0 0) false) 54 (0,0)):=(yI _ _ _ _ (by omega)).trans S5
        have PO5:=zak (g:=V3.heap.size) (cs:=zad ut r.method (.slice qx (zaf [sReferer,sOrigin] r.heads).length cx) r.body) O5 xV35 (by decide)
        have PB5:=yM L5 (by omega:w.heap.size≤V3.heap.size) (cs:=zad ut r.method (.slice qx (zaf [sReferer,sOrigin] r.heads).length cx) r.body)
        refine zrd (i:=14) rfl (fun K hK=>?_)
        try simp only[zA,zB,zC]
        rw[if_pos (by rfl)]
        refine wp_store_row 54 _ _ rfl V3.heap.size _ rfl rfl 54 _ xV35 zaq rfl (by simp[Value.oneCell']) ?_
        refine hK.out _ _ PR5 (fun h0=>?_)
        clear hK K
        try simp only[Act.put,zA,zB,zC,zD,zE,zF]
        refine yX (by kernel_rfl) ?_ _
        go_wp2_with fail
        go_meet
        case rel=>exact⟨V3.heap.size,ut,.slice qx (zaf [sReferer,sOrigin] r.heads).length cx,rfl,P5,PO5,by omega,PR5,PS5,PB5,by show w1.heap.size≤(V5.setRow V3.heap.size (zad ut r.method (.slice qx (zaf [sReferer,sOrigin] r.heads).length cx) r.body)).heap.size;simp[World.setRow];exact Z5.size⟩
     ·have k3:=bel1 V2 (.cells (zad ⟨#[]⟩ ⟨#[]⟩ (.slice none 0 0) false) 54)
      have R3:=kept k3 R2
      have xV23:=row1 V2 (.cells (zad ⟨#[]⟩ ⟨#[]⟩ (.slice none 0 0) false) 54)
      refine hK.out _ _ R3 (fun h0=>?_)
      clear hK K
      try simp only[Act.put,zA,zB,zC,zD,zE,zF]
      generalize hV3:V2.alloc (.cells (zad ⟨#[]⟩ ⟨#[]⟩ (.slice none 0 0) false) 54)=V3 at k3 xV23 R3 h0 ⊢
      clear hV3
      have S3:=kept k3 S2
      have L3:=yD L2 k3
      have Z3:=Z2.trans (k3.mono Z2.size)
      have hz3:=Z3.size
      have Q3:=Q2.below k3
      have nV13:=kept k3 nV12
      refine zrd (i:=3) rfl (fun K hK=>?_)
      all_goals try simp only[zA,zB,zC]
      all_goals rw[if_pos (by rfl)]
      all_goals go_simp
      ·go_at_call 43
       refine(HS pv V3 (G.below L3) Q3).out.mono ?_
       rintro e V4 ⟨⟨ut,rfl,_,_⟩,k4⟩
       have R4:=kept k4 R3
       have S4:=kept k4 S3
       have L4:=yD L3 k4
       have Z4:=Z3.trans (k4.mono Z3.size)
       have hz4:=Z4.size
       have nV14:=kept k4 nV13
       have xV24:=kept k4 xV23
       refine hK.out _ _ R4 (fun h0=>?_)
       clear hK K
       try simp only[Act.put,zA,zB,zC,zD,zE,zF]
       refine zrd (i:=11) rfl (fun K hK=>?_)
       all_goals try simp only[zA,zB,zC]
       all_goals rw[if_pos (by rfl)]
       all_goals go_simp
       ·go_at_call 45
        refine(HD V1.heap.size V4 (HH.out.below L4) (zaD nV14 (by decide))).out.mono ?_
        rintro e V5 ⟨hx,rfl,ho,k5⟩
        have O5:=own_lower ho Z4.size
        clear ho
        obtain⟨qx,cx,rfl⟩:=own_slice O5
        have R5:=kept k5 R4
        have S5:=kept k5 S4
        have L5:=yD L4 k5
        have Z5:=Z4.trans (k5.mono Z4.size)
        have hz5:=Z5.size
        have xV25:=kept k5 xV24
        refine hK.out _ _ R5 (fun h0=>?_)
        clear hK K
        try simp only[Act.put,zA,zB,zC,zD,zE,zF]
        refine tk (i:=12) (v:=?v13) rfl (Or.inl ⟨by rfl,?y13⟩) h0 ?r13
        case y13 =>
         intro W hW
         go_simp
         try with_reducible rfl
        simp only[Act.put,zA,zB,zC,zD,zE,zF]
        have P5:=yH _ _ _ (zad ut r.method (.slice qx (zaf [sReferer,sOrigin] r.heads).length cx) r.body) _ _ xV25
        have PR5:(V5.setRow V2.heap.size (zad ut r.method (.slice qx (zaf [sReferer,sOrigin] r.heads).length cx) r.body)).heap[w.heap.size]? = some (.cells (reqC r pu (.slice qh mh ch)) 32 (0,0)):=(yI _ _ _ _ (by omega)).trans R5
        have PS5:(V5.setRow V2.heap.size (zad ut r.method (.slice qx (zaf [sReferer,sOrigin] r.heads).length cx) r.body)).heap[w.heap.size + 1]? = some (.cells (zad ⟨#[]⟩ ⟨#[]⟩ (.slice none 0 0) false) 54 (0,0)):=(yI _ _ _ _ (by omega)).trans S5
        have PO5:=zak (g:=V2.heap.size) (cs:=zad ut r.method (.slice qx (zaf [sReferer,sOrigin] r.heads).length cx) r.body) O5 xV25 (by decide)
        have PB5:=yM L5 (by omega:w.heap.size≤V2.heap.size) (cs:=zad ut r.method (.slice qx (zaf [sReferer,sOrigin] r.heads).length cx) r.body)
        refine zrd (i:=14) rfl (fun K hK=>?_)
        try simp only[zA,zB,zC]
        rw[if_pos (by rfl)]
        refine wp_store_row 54 _ _ rfl V2.heap.size _ rfl rfl 54 _ xV25 zaq rfl (by simp[Value.oneCell']) ?_
        refine hK.out _ _ PR5 (fun h0=>?_)
        clear hK K
        try simp only[Act.put,zA,zB,zC,zD,zE,zF]
        refine yX (by kernel_rfl) ?_ _
        go_wp2_with fail
        go_meet
        case rel=>exact⟨V2.heap.size,ut,.slice qx (zaf [sReferer,sOrigin] r.heads).length cx,rfl,P5,PO5,by omega,PR5,PS5,PB5,by show w1.heap.size≤(V5.setRow V2.heap.size (zad ut r.method (.slice qx (zaf [sReferer,sOrigin] r.heads).length cx) r.body)).heap.size;simp[World.setRow];exact Z5.size⟩
    ·have k2:=bel1 V1 (.cells (zad ⟨#[]⟩ ⟨#[]⟩ (.slice none 0 0) false) 54)
     have R2:=kept k2 R1
     have xV12:=row1 V1 (.cells (zad ⟨#[]⟩ ⟨#[]⟩ (.slice none 0 0) false) 54)
     refine hK.out _ _ R2 (fun h0=>?_)
     clear hK K
     try simp only[Act.put,zA,zB,zC,zD,zE,zF]
     generalize hV2:V1.alloc (.cells (zad ⟨#[]⟩ ⟨#[]⟩ (.slice none 0 0) false) 54)=V2 at k2 xV12 R2 h0 ⊢
     clear hV2
     have S2:=kept k2 S1
     have L2:=yD L1 k2
     have Z2:=Z1.trans (k2.mono Z1.size)
     have hz2:=Z2.size
     have Q2:=Q1.below k2
     refine wpAnyH_ready (rs:=[3,10]) (by kernel_rfl) (by simp) ?_
     refine AllReadyH.cons rfl (fun K hK=>?_) (AllReadyH.cons rfl (fun K hK=>?_) AllReadyH.nil)
     all_goals try simp only[zA,zB,zC]
     all_goals rw[if_pos (by rfl)]
     all_goals go_simp
     ·go_at_call 43
      refine(HS pv V2 (G.below L2) Q2).out.mono ?_
      rintro e V3 ⟨⟨ut,rfl,_,_⟩,k3⟩
      have R3:=kept k3 R2
      have S3:=kept k3 S2
      have L3:=yD L2 k3
      have Z3:=Z2.trans (k3.mono Z2.size)
      have hz3:=Z3.size
      have xV13:=kept k3 xV12
      refine hK.out _ _ R3 (fun h0=>?_)
      clear hK K
      try simp only[Act.put,zA,zB,zC,zD,zE,zF]
      refine zrd (i:=10) rfl (fun K hK=>?_)
      all_goals try simp only[zA,zB,zC]
      all_goals rw[if_pos (by rfl)]
      all_goals go_simp
      ·have k4:=bel1 V3 (.cells #[.string ⟨#[82,101,102,101,114,101,114]⟩,.string ⟨#[79,114,105,103,105,110]⟩] 9)
       have R4:=kept k4 R3
       have nV34:(V3.alloc (.cells #[.string ⟨#[82,101,102,101,114,101,114]⟩,.string ⟨#[79,114,105,103,105,110]⟩] 9)).heap[V3.heap.size]? = some (.cells ([sReferer,sOrigin].map Value.string).toArray 9 (0,0)):=row1 _ _
       refine hK.out _ _ R4 (fun h0=>?_)
       clear hK K
       try simp only[Act.put,zA,zB,zC,zD,zE,zF]
       generalize hV4:V3.alloc (.cells #[.string ⟨#[82,101,102,101,114,101,114]⟩,.string ⟨#[79,114,105,103,105,110]⟩] 9)=V4 at k4 nV34 R4 h0 ⊢
       clear hV4
       have S4:=kept k4 S3
       have L4:=yD L3 k4
       have Z4:=Z3.trans (k4.mono Z3.size)
       have hz4:=Z4.size
       have xV14:=kept k4 xV13
       refine zrd (i:=11) rfl (fun K hK=>?_)
       all_goals try simp only[zA,zB,zC]
       all_goals rw[if_pos (by rfl)]
       all_goals go_simp
       ·go_at_call 45
        refine(HD V3.heap.size V4 (HH.out.below L4) (zaD nV34 (by decide))).out.mono ?_
        rintro e V5 ⟨hx,rfl,ho,k5⟩
        have O5:=own_lower ho Z4.size
        clear ho
        obtain⟨qx,cx,rfl⟩:=own_slice O5
        have R5:=kept k5 R4
        have S5:=kept k5 S4
        have L5:=yD L4 k5
        have Z5:=Z4.trans (k5.mono Z4.size)
        have hz5:=Z5.size
        have xV15:=kept k5 xV14
        refine hK.out _ _ R5 (fun h0=>?_)
        clear hK K
        try simp only[Act.put,zA,zB,zC,zD,zE,zF]
        refine tk (i:=12) (v:=?v14) rfl (Or.inl ⟨by rfl,?y14⟩) h0 ?r14
        case y14 =>
         intro W hW
         go_simp
         try with_reducible rfl
        simp only[Act.put,zA,zB,zC,zD,zE,zF]
        have P5:=yH _ _ _ (zad ut r.method (.slice qx (zaf [sReferer,sOrigin] r.heads).length cx) r.body) _ _ xV15
        have PR5:(V5.setRow V1.heap.size (zad ut r.method (.slice qx (zaf [sReferer,sOrigin] r.heads).length cx) r.body)).heap[w.heap.size]? = some (.cells (reqC r pu (.slice qh mh ch)) 32 (0,0)):=(yI _ _ _ _ (by omega)).trans R5
        have PS5:(V5.setRow V1.heap.size (zad ut r.method (.slice qx (zaf [sReferer,sOrigin] r.heads).length cx) r.body)).heap[w.heap.size + 1]? = some (.cells (zad ⟨#[]⟩ ⟨#[]⟩ (.slice none 0 0) false) 54 (0,0)):=(yI _ _ _ _ (by omega)).trans S5
        have PO5:=zak (g:=V1.heap.size) (cs:=zad ut r.method (.slice qx (zaf [sReferer,sOrigin] r.heads).length cx) r.body) O5 xV15 (by decide)
        have PB5:=yM L5 (by omega:w.heap.size≤V1.heap.size) (cs:=zad ut r.method (.slice qx (zaf [sReferer,sOrigin] r.heads).length cx) r.body)
        refine zrd (i:=14) rfl (fun K hK=>?_)
        try simp only[zA,zB,zC]
        rw[if_pos (by rfl)]
        refine wp_store_row 54 _ _ rfl V1.heap.size _ rfl rfl 54 _ xV15 zaq rfl (by simp[Value.oneCell']) ?_
        refine hK.out _ _ PR5 (fun h0=>?_)
        clear hK K
        try simp only[Act.put,zA,zB,zC,zD,zE,zF]
        refine yX (by kernel_rfl) ?_ _
        go_wp2_with fail
        go_meet
        case rel=>exact⟨V1.heap.size,ut,.slice qx (zaf [sReferer,sOrigin] r.heads).length cx,rfl,P5,PO5,by omega,PR5,PS5,PB5,by show w1.heap.size≤(V5.setRow V1.heap.size (zad ut r.method (.slice qx (zaf [sReferer,sOrigin] r.heads).length cx) r.body)).heap.size;simp[World.setRow];exact Z5.size⟩
     ·have k3:=bel1 V2 (.cells #[.string ⟨#[82,101,102,101,114,101,114]⟩,.string ⟨#[79,114,105,103,105,110]⟩] 9)
      have R3:=kept k3 R2
      have nV23:(V2.alloc (.cells #[.string ⟨#[82,101,102,101,114,101,114]⟩,.string ⟨#[79,114,105,103,105,110]⟩] 9)).heap[V2.heap.size]? = some (.cells ([sReferer,sOrigin].map Value.string).toArray 9 (0,0)):=row1 _ _
      refine hK.out _ _ R3 (fun h0=>?_)
      clear hK K
      try simp only[Act.put,zA,zB,zC,zD,zE,zF]
      generalize hV3:V2.alloc (.cells #[.string ⟨#[82,101,102,101,114,101,114]⟩,.string ⟨#[79,114,105,103,105,110]⟩] 9)=V3 at k3 nV23 R3 h0 ⊢
      clear hV3
      have S3:=kept k3 S2
      have L3:=yD L2 k3
      have Z3:=Z2.trans (k3.mono Z2.size)
      have hz3:=Z3.size
      have Q3:=Q2.below k3
      have xV13:=kept k3 xV12
      refine zrd (i:=3) rfl (fun K hK=>?_)
      all_goals try simp only[zA,zB,zC]
      all_goals rw[if_pos (by rfl)]
      all_goals go_simp
      ·go_at_call 43
       refine(HS pv V3 (G.below L3) Q3).out.mono ?_
       rintro e V4 ⟨⟨ut,rfl,_,_⟩,k4⟩
       have R4:=kept k4 R3
       have S4:=kept k4 S3
       have L4:=yD L3 k4
       have Z4:=Z3.trans (k4.mono Z3.size)
       have hz4:=Z4.size
       have nV24:=kept k4 nV23
       have xV14:=kept k4 xV13
       refine hK.out _ _ R4 (fun h0=>?_)
       clear hK K
       try simp only[Act.put,zA,zB,zC,zD,zE,zF]
       refine zrd (i:=11) rfl (fun K hK=>?_)
       all_goals try simp only[zA,zB,zC]
       all_goals rw[if_pos (by rfl)]
       all_goals go_simp
       ·go_at_call 45
        refine(HD V2.heap.size V4 (HH.out.below L4) (zaD nV24 (by decide))).out.mono ?_
        rintro e V5 ⟨hx,rfl,ho,k5⟩
        have O5:=own_lower ho Z4.size
        clear ho
        obtain⟨qx,cx,rfl⟩:=own_slice O5
        have R5:=kept k5 R4
        have S5:=kept k5 S4
        have L5:=yD L4 k5
        have Z5:=Z4.trans (k5.mono Z4.size)
        have hz5:=Z5.size
        have xV15:=kept k5 xV14
        refine hK.out _ _ R5 (fun h0=>?_)
        clear hK K
        try simp only[Act.put,zA,zB,zC,zD,zE,zF]
        refine tk (i:=12) (v:=?v15) rfl (Or.inl ⟨by rfl,?y15⟩) h0 ?r15
        case y15 =>
         intro W hW
         go_simp
         try with_reducible rfl
        simp only[Act.put,zA,zB,zC,zD,zE,zF]
        have P5:=yH _ _ _ (zad ut r.method (.slice qx (zaf [sReferer,sOrigin] r.heads).length cx) r.body) _ _ xV15
        have PR5:(V5.setRow V1.heap.size (zad ut r.method (.slice qx (zaf [sReferer,sOrigin] r.heads).length cx) r.body)).heap[w.heap.size]? = some (.cells (reqC r pu (.slice qh mh ch)) 32 (0,0)):=(yI _ _ _ _ (by omega)).trans R5
        have PS5:(V5.setRow V1.heap.size (zad ut r.method (.slice qx (zaf [sReferer,sOrigin] r.heads).length cx) r.body)).heap[w.heap.size + 1]? = some (.cells (zad ⟨#[]⟩ ⟨#[]⟩ (.slice none 0 0) false) 54 (0,0)):=(yI _ _ _ _ (by omega)).trans S5
        have PO5:=zak (g:=V1.heap.size) (cs:=zad ut r.method (.slice qx (zaf [sReferer,sOrigin] r.heads).length cx) r.body) O5 xV15 (by decide)
        have PB5:=yM L5 (by omega:w.heap.size≤V1.heap.size) (cs:=zad ut r.method (.slice qx (zaf [sReferer,sOrigin] r.heads).length cx) r.body)
        refine zrd (i:=14) rfl (fun K hK=>?_)
        try simp only[zA,zB,zC]
        rw[if_pos (by rfl)]
        refine wp_store_row 54 _ _ rfl V1.heap.size _ rfl rfl 54 _ xV15 zaq rfl (by simp[Value.oneCell']) ?_
        refine hK.out _ _ PR5 (fun h0=>?_)
        clear hK K
        try simp only[Act.put,zA,zB,zC,zD,zE,zF]
        refine yX (by kernel_rfl) ?_ _
        go_wp2_with fail
        go_meet
        case rel=>exact⟨V1.heap.size,ut,.slice qx (zaf [sReferer,sOrigin] r.heads).length cx,rfl,P5,PO5,by omega,PR5,PS5,PB5,by show w1.heap.size≤(V5.setRow V1.heap.size (zad ut r.method (.slice qx (zaf [sReferer,sOrigin] r.heads).length cx) r.body)).heap.size;simp[World.setRow];exact Z5.size⟩
   ·have k1:=bel1 V0 (.cells #[.string ⟨#[82,101,102,101,114,101,114]⟩,.string ⟨#[79,114,105,103,105,110]⟩] 9)
    have R1:=kept k1 R0
    have nV01:(V0.alloc (.cells #[.string ⟨#[82,101,102,101,114,101,114]⟩,.string ⟨#[79,114,105,103,105,110]⟩] 9)).heap[V0.heap.size]? = some (.cells ([sReferer,sOrigin].map Value.string).toArray 9 (0,0)):=row1 _ _
    refine hK.out _ _ R1 (fun h0=>?_)
    clear hK K
    try simp only[Act.put,zA,zB,zC,zD,zE,zF]
    generalize hV1:V0.alloc (.cells #[.string ⟨#[82,101,102,101,114,101,114]⟩,.string ⟨#[79,114,105,103,105,110]⟩] 9)=V1 at k1 nV01 R1 h0 ⊢
    clear hV1
    have S1:=kept k1 S0
    have L1:=yD L0 k1
    have Z1:=Z0.trans (k1.mono Z0.size)
    have hz1:=Z1.size
    refine wpAnyH_ready (rs:=[2,13]) (by kernel_rfl) (by simp) ?_
    refine AllReadyH.cons rfl (fun K hK=>?_) (AllReadyH.cons rfl (fun K hK=>?_) AllReadyH.nil)
    all_goals try simp only[zA,zB,zC]
    all_goals rw[if_pos (by rfl)]
    all_goals go_simp
    ·go_at_call 44
     refine(HB V1 (HP.out.below L1)).out.mono ?_
     rintro e V2 ⟨pv,rfl,ho,k2⟩
     have Q2:=Strs.of_own ho
     clear ho
     have R2:=kept k2 R1
     have S2:=kept k2 S1
     have L2:=yD L1 k2
     have Z2:=Z1.trans (k2.mono Z1.size)
     have hz2:=Z2.size
     have nV02:=kept k2 nV01
     refine hK.out _ _ R2 (fun h0=>?_)
     clear hK K
     try simp only[Act.put,zA,zB,zC,zD,zE,zF]
     refine wpAnyH_ready (rs:=[3,13]) (by kernel_rfl) (by simp) ?_
     refine AllReadyH.cons rfl (fun K hK=>?_) (AllReadyH.cons rfl (fun K hK=>?_) AllReadyH.nil)
     all_goals try simp only[zA,zB,zC]
     all_goals rw[if_pos (by rfl)]
     all_goals go_simp
     ·go_at_call 43
      refine(HS pv V2 (G.below L2) Q2).out.mono ?_
      rintro e V3 ⟨⟨ut,rfl,_,_⟩,k3⟩
      have R3:=kept k3 R2
      have S3:=kept k3 S2
      have L3:=yD L2 k3
      have Z3:=Z2.trans (k3.mono Z2.size)
      have hz3:=Z3.size
      have nV03:=kept k3 nV02
      refine hK.out _ _ R3 (fun h0=>?_)
      clear hK K
      try simp only[Act.put,zA,zB,zC,zD,zE,zF]
      refine wpAnyH_ready (rs:=[11,13]) (by kernel_rfl) (by simp) ?_
      refine AllReadyH.cons rfl (fun K hK=>?_) (AllReadyH.cons rfl (fun K hK=>?_) AllReadyH.nil)
      all_goals try simp only[zA,zB,zC]
      all_goals rw[if_pos (by rfl)]
      all_goals go_simp
      ·go_at_call 45
       refine(HD V0.heap.size V3 (HH.out.below L3) (zaD nV03 (by decide))).out.mono ?_
       rintro e V4 ⟨hx,rfl,ho,k4⟩
       have O4:=own_lower ho Z3.size
       clear ho
       obtain⟨qx,cx,rfl⟩:=own_slice O4
       have R4:=kept k4 R3
       have S4:=kept k4 S3
       have L4:=yD L3 k4
       have Z4:=Z3.trans (k4.mono Z3.size)
       have hz4:=Z4.size
       refine hK.out _ _ R4 (fun h0=>?_)
       clear hK K
       try simp only[Act.put,zA,zB,zC,zD,zE,zF]
       refine tk (i:=12) (v:=?v16) rfl (Or.inl ⟨by rfl,?y16⟩) h0 ?r16
       case y16 =>
        intro W hW
        go_simp
        try with_reducible rfl
       simp only[Act.put,zA,zB,zC,zD,zE,zF]
       refine zrd (i:=13) rfl (fun K hK=>?_)
       all_goals try simp only[zA,zB,zC]
       all_goals rw[if_pos (by rfl)]
       all_goals go_simp
       ·have k5:=bel1 V4 (.cells (zad ⟨#[]⟩ ⟨#[]⟩ (.slice none 0 0) false) 54)
        have R5:=kept k5 R4
        have xV45:=row1 V4 (.cells (zad ⟨#[]⟩ ⟨#[]⟩ (.slice none 0 0) false) 54)
        refine hK.out _ _ R5 (fun h0=>?_)
        clear hK K
        try simp only[Act.put,zA,zB,zC,zD,zE,zF]
        generalize hV5:V4.alloc (.cells (zad ⟨#[]⟩ ⟨#[]⟩ (.slice none 0 0) false) 54)=V5 at k5 xV45 R5 h0 ⊢
        clear hV5
        have S5:=kept k5 S4
        have L5:=yD L4 k5
        have Z5:=Z4.trans (k5.mono Z4.size)
        have hz5:=Z5.size
        have O5:=own_below O4 k5
        have P5:=yH _ _ _ (zad ut r.method (.slice qx (zaf [sReferer,sOrigin] r.heads).length cx) r.body) _ _ xV45
        have PR5:(V5.setRow V4.heap.size (zad ut r.method (.slice qx (zaf [sReferer,sOrigin] r.heads).length cx) r.body)).heap[w.heap.size]? = some (.cells (reqC r pu (.slice qh mh ch)) 32 (0,0)):=(yI _ _ _ _ (by omega)).trans R5
        have PS5:(V5.setRow V4.heap.size (zad ut r.method (.slice qx (zaf [sReferer,sOrigin] r.heads).length cx) r.body)).heap[w.heap.size + 1]? = some (.cells (zad ⟨#[]⟩ ⟨#[]⟩ (.slice none 0 0) false) 54 (0,0)):=(yI _ _ _ _ (by omega)).trans S5
        have PO5:=zak (g:=V4.heap.size) (cs:=zad ut r.method (.slice qx (zaf [sReferer,sOrigin] r.heads).length cx) r.body) O5 xV45 (by decide)
        have PB5:=yM L5 (by omega:w.heap.size≤V4.heap.size) (cs:=zad ut r.method (.slice qx (zaf [sReferer,sOrigin] r.heads).length cx) r.body)
        refine zrd (i:=14) rfl (fun K hK=>?_)
        try simp only[zA,zB,zC]
        rw[if_pos (by rfl)]
        refine wp_store_row 54 _ _ rfl V4.heap.size _ rfl rfl 54 _ xV45 zaq rfl (by simp[Value.oneCell']) ?_
        refine hK.out _ _ PR5 (fun h0=>?_)
        clear hK K
        try simp only[Act.put,zA,zB,zC,zD,zE,zF]
        refine yX (by kernel_rfl) ?_ _
        go_wp2_with fail
        go_meet
        case rel=>exact⟨V4.heap.size,ut,.slice qx (zaf [sReferer,sOrigin] r.heads).length cx,rfl,P5,PO5,by omega,PR5,PS5,PB5,by show w1.heap.size≤(V5.setRow V4.heap.size (zad ut r.method (.slice qx (zaf [sReferer,sOrigin] r.heads).length cx) r.body)).heap.size;simp[World.setRow];exact Z5.size⟩
      ·have k4:=bel1 V3 (.cells (zad ⟨#[]⟩ ⟨#[]⟩ (.slice none 0 0) false) 54)
       have R4:=kept k4 R3
       have xV34:=row1 V3 (.cells (zad ⟨#[]⟩ ⟨#[]⟩ (.slice none 0 0) false) 54)
       refine hK.out _ _ R4 (fun h0=>?_)
       clear hK K
       try simp only[Act.put,zA,zB,zC,zD,zE,zF]
       generalize hV4:V3.alloc (.cells (zad ⟨#[]⟩ ⟨#[]⟩ (.slice none 0 0) false) 54)=V4 at k4 xV34 R4 h0 ⊢
       clear hV4
       have S4:=kept k4 S3
       have L4:=yD L3 k4
       have Z4:=Z3.trans (k4.mono Z3.size)
       have hz4:=Z4.size
       have nV04:=kept k4 nV03
       refine zrd (i:=11) rfl (fun K hK=>?_)
       all_goals try simp only[zA,zB,zC]
       all_goals rw[if_pos (by rfl)]
       all_goals go_simp
       ·go_at_call 45
        refine(HD V0.heap.size V4 (HH.out.below L4) (zaD nV04 (by decide))).out.mono ?_
        rintro e V5 ⟨hx,rfl,ho,k5⟩
        have O5:=own_lower ho Z4.size
        clear ho
        obtain⟨qx,cx,rfl⟩:=own_slice O5
        have R5:=kept k5 R4
        have S5:=kept k5 S4
        have L5:=yD L4 k5
        have Z5:=Z4.trans (k5.mono Z4.size)
        have hz5:=Z5.size
        have xV35:=kept k5 xV34
        refine hK.out _ _ R5 (fun h0=>?_)
        clear hK K
        try simp only[Act.put,zA,zB,zC,zD,zE,zF]
        refine tk (i:=12) (v:=?v17) rfl (Or.inl ⟨by rfl,?y17⟩) h0 ?r17
        case y17 =>
         intro W hW
         go_simp
         try with_reducible rfl
        simp only[Act.put,zA,zB,zC,zD,zE,zF]
        have P5:=yH _ _ _ (zad ut r.method (.slice qx (zaf [sReferer,sOrigin] r.heads).length cx) r.body) _ _ xV35
        have PR5:(V5.setRow V3.heap.size (zad ut r.method (.slice qx (zaf [sReferer,sOrigin] r.heads).length cx) r.body)).heap[w.heap.size]? = some (.cells (reqC r pu (.slice qh mh ch)) 32 (0,0)):=(yI _ _ _ _ (by omega)).trans R5
        have PS5:(V5.setRow V3.heap.size (zad ut r.method (.slice qx (zaf [sReferer,sOrigin] r.heads).length cx) r.body)).heap[w.heap.size + 1]? = some (.cells (zad ⟨#[]⟩ ⟨#[]⟩ (.slice none 0 0) false) 54 (0,0)):=(yI _ _ _ _ (by omega)).trans S5
        have PO5:=zak (g:=V3.heap.size) (cs:=zad ut r.method (.slice qx (zaf [sReferer,sOrigin] r.heads).length cx) r.body) O5 xV35 (by decide)
        have PB5:=yM L5 (by omega:w.heap.size≤V3.heap.size) (cs:=zad ut r.method (.slice qx (zaf [sReferer,sOrigin] r.heads).length cx) r.body)
        refine zrd (i:=14) rfl (fun K hK=>?_)
        try simp only[zA,zB,zC]
        rw[if_pos (by rfl)]
        refine wp_store_row 54 _ _ rfl V3.heap.size _ rfl rfl 54 _ xV35 zaq rfl (by simp[Value.oneCell']) ?_
        refine hK.out _ _ PR5 (fun h0=>?_)
        clear hK K
        try simp only[Act.put,zA,zB,zC,zD,zE,zF]
        refine yX (by kernel_rfl) ?_ _
        go_wp2_with fail
        go_meet
        case rel=>exact⟨V3.heap.size,ut,.slice qx (zaf [sReferer,sOrigin] r.heads).length cx,rfl,P5,PO5,by omega,PR5,PS5,PB5,by show w1.heap.size≤(V5.setRow V3.heap.size (zad ut r.method (.slice qx (zaf [sReferer,sOrigin] r.heads).length cx) r.body)).heap.size;simp[World.setRow];exact Z5.size⟩
     ·have k3:=bel1 V2 (.cells (zad ⟨#[]⟩ ⟨#[]⟩ (.slice none 0 0) false) 54)
      have R3:=kept k3 R2
      have xV23:=row1 V2 (.cells (zad ⟨#[]⟩ ⟨#[]⟩ (.slice none 0 0) false) 54)
      refine hK.out _ _ R3 (fun h0=>?_)
      clear hK K
      try simp only[Act.put,zA,zB,zC,zD,zE,zF]
      generalize hV3:V2.alloc (.cells (zad ⟨#[]⟩ ⟨#[]⟩ (.slice none 0 0) false) 54)=V3 at k3 xV23 R3 h0 ⊢
      clear hV3
      have S3:=kept k3 S2
      have L3:=yD L2 k3
      have Z3:=Z2.trans (k3.mono Z2.size)
      have hz3:=Z3.size
      have Q3:=Q2.below k3
      have nV03:=kept k3 nV02
      refine zrd (i:=3) rfl (fun K hK=>?_)
      all_goals try simp only[zA,zB,zC]
      all_goals rw[if_pos (by rfl)]
      all_goals go_simp
      ·go_at_call 43
       refine(HS pv V3 (G.below L3) Q3).out.mono ?_
       rintro e V4 ⟨⟨ut,rfl,_,_⟩,k4⟩
       have R4:=kept k4 R3
       have S4:=kept k4 S3
       have L4:=yD L3 k4
       have Z4:=Z3.trans (k4.mono Z3.size)
       have hz4:=Z4.size
       have nV04:=kept k4 nV03
       have xV24:=kept k4 xV23
       refine hK.out _ _ R4 (fun h0=>?_)
       clear hK K
       try simp only[Act.put,zA,zB,zC,zD,zE,zF]
       refine zrd (i:=11) rfl (fun K hK=>?_)
       all_goals try simp only[zA,zB,zC]
       all_goals rw[if_pos (by rfl)]
       all_goals go_simp
       ·go_at_call 45
        refine(HD V0.heap.size V4 (HH.out.below L4) (zaD nV04 (by decide))).out.mono ?_
        rintro e V5 ⟨hx,rfl,ho,k5⟩
        have O5:=own_lower ho Z4.size
        clear ho
        obtain⟨qx,cx,rfl⟩:=own_slice O5
        have R5:=kept k5 R4
        have S5:=kept k5 S4
        have L5:=yD L4 k5
        have Z5:=Z4.trans (k5.mono Z4.size)
        have hz5:=Z5.size
        have xV25:=kept k5 xV24
        refine hK.out _ _ R5 (fun h0=>?_)
        clear hK K
        try simp only[Act.put,zA,zB,zC,zD,zE,zF]
        refine tk (i:=12) (v:=?v18) rfl (Or.inl ⟨by rfl,?y18⟩) h0 ?r18
        case y18 =>
         intro W hW
         go_simp
         try with_reducible rfl
        simp only[Act.put,zA,zB,zC,zD,zE,zF]
        have P5:=yH _ _ _ (zad ut r.method (.slice qx (zaf [sReferer,sOrigin] r.heads).length cx) r.body) _ _ xV25
        have PR5:(V5.setRow V2.heap.size (zad ut r.method (.slice qx (zaf [sReferer,sOrigin] r.heads).length cx) r.body)).heap[w.heap.size]? = some (.cells (reqC r pu (.slice qh mh ch)) 32 (0,0)):=(yI _ _ _ _ (by omega)).trans R5
        have PS5:(V5.setRow V2.heap.size (zad ut r.method (.slice qx (zaf [sReferer,sOrigin] r.heads).length cx) r.body)).heap[w.heap.size + 1]? = some (.cells (zad ⟨#[]⟩ ⟨#[]⟩ (.slice none 0 0) false) 54 (0,0)):=(yI _ _ _ _ (by omega)).trans S5
        have PO5:=zak (g:=V2.heap.size) (cs:=zad ut r.method (.slice qx (zaf [sReferer,sOrigin] r.heads).length cx) r.body) O5 xV25 (by decide)
        have PB5:=yM L5 (by omega:w.heap.size≤V2.heap.size) (cs:=zad ut r.method (.slice qx (zaf [sReferer,sOrigin] r.heads).length cx) r.body)
        refine zrd (i:=14) rfl (fun K hK=>?_)
        try simp only[zA,zB,zC]
        rw[if_pos (by rfl)]
        refine wp_store_row 54 _ _ rfl V2.heap.size _ rfl rfl 54 _ xV25 zaq rfl (by simp[Value.oneCell']) ?_
        refine hK.out _ _ PR5 (fun h0=>?_)
        clear hK K
        try simp only[Act.put,zA,zB,zC,zD,zE,zF]
        refine yX (by kernel_rfl) ?_ _
        go_wp2_with fail
        go_meet
        case rel=>exact⟨V2.heap.size,ut,.slice qx (zaf [sReferer,sOrigin] r.heads).length cx,rfl,P5,PO5,by omega,PR5,PS5,PB5,by show w1.heap.size≤(V5.setRow V2.heap.size (zad ut r.method (.slice qx (zaf [sReferer,sOrigin] r.heads).length cx) r.body)).heap.size;simp[World.setRow];exact Z5.size⟩
    ·have k2:=bel1 V1 (.cells (zad ⟨#[]⟩ ⟨#[]⟩ (.slice none 0 0) false) 54)
     have R2:=kept k2 R1
     have xV12:=row1 V1 (.cells (zad ⟨#[]⟩ ⟨#[]⟩ (.slice none 0 0) false) 54)
     refine hK.out _ _ R2 (fun h0=>?_)
     clear hK K
     try simp only[Act.put,zA,zB,zC,zD,zE,zF]
     generalize hV2:V1.alloc (.cells (zad ⟨#[]⟩ ⟨#[]⟩ (.slice none 0 0) false) 54)=V2 at k2 xV12 R2 h0 ⊢
     clear hV2
     have S2:=kept k2 S1
     have L2:=yD L1 k2
     have Z2:=Z1.trans (k2.mono Z1.size)
     have hz2:=Z2.size
     have nV02:=kept k2 nV01
     refine zrd (i:=2) rfl (fun K hK=>?_)
     all_goals try simp only[zA,zB,zC]
     all_goals rw[if_pos (by rfl)]
     all_goals go_simp
     ·go_at_call 44
      refine(HB V2 (HP.out.below L2)).out.mono ?_
      rintro e V3 ⟨pv,rfl,ho,k3⟩
      have Q3:=Strs.of_own ho
      clear ho
      have R3:=kept k3 R2
      have S3:=kept k3 S2
      have L3:=yD L2 k3
      have Z3:=Z2.trans (k3.mono Z2.size)
      have hz3:=Z3.size
      have nV03:=kept k3 nV02
      have xV13:=kept k3 xV12
      refine hK.out _ _ R3 (fun h0=>?_)
      clear hK K
      try simp only[Act.put,zA,zB,zC,zD,zE,zF]
      refine zrd (i:=3) rfl (fun K hK=>?_)
      all_goals try simp only[zA,zB,zC]
      all_goals rw[if_pos (by rfl)]
      all_goals go_simp
      ·go_at_call 43
       refine(HS pv V3 (G.below L3) Q3).out.mono ?_
       rintro e V4 ⟨⟨ut,rfl,_,_⟩,k4⟩
       have R4:=kept k4 R3
       have S4:=kept k4 S3
       have L4:=yD L3 k4
       have Z4:=Z3.trans (k4.mono Z3.size)
       have hz4:=Z4.size
       have nV04:=kept k4 nV03
       have xV14:=kept k4 xV13
       refine hK.out _ _ R4 (fun h0=>?_)
       clear hK K
       try simp only[Act.put,zA,zB,zC,zD,zE,zF]
       refine zrd (i:=11) rfl (fun K hK=>?_)
       all_goals try simp only[zA,zB,zC]
       all_goals rw[if_pos (by rfl)]
       all_goals go_simp
       ·go_at_call 45
        refine(HD V0.heap.size V4 (HH.out.below L4) (zaD nV04 (by decide))).out.mono ?_
        rintro e V5 ⟨hx,rfl,ho,k5⟩
        have O5:=own_lower ho Z4.size
        clear ho
        obtain⟨qx,cx,rfl⟩:=own_slice O5
        have R5:=kept k5 R4
        have S5:=kept k5 S4
        have L5:=yD L4 k5
        have Z5:=Z4.trans (k5.mono Z4.size)
        have hz5:=Z5.size
        have xV15:=kept k5 xV14
        refine hK.out _ _ R5 (fun h0=>?_)
        clear hK K
        try simp only[Act.put,zA,zB,zC,zD,zE,zF]
        refine tk (i:=12) (v:=?v19) rfl (Or.inl ⟨by rfl,?y19⟩) h0 ?r19
        case y19 =>
         intro W hW
         go_simp
         try with_reducible rfl
        simp only[Act.put,zA,zB,zC,zD,zE,zF]
        have P5:=yH _ _ _ (zad ut r.method (.slice qx (zaf [sReferer,sOrigin] r.heads).length cx) r.body) _ _ xV15
        have PR5:(V5.setRow V1.heap.size (zad ut r.method (.slice qx (zaf [sReferer,sOrigin] r.heads).length cx) r.body)).heap[w.heap.size]? = some (.cells (reqC r pu (.slice qh mh ch)) 32 (0,0)):=(yI _ _ _ _ (by omega)).trans R5
        have PS5:(V5.setRow V1.heap.size (zad ut r.method (.slice qx (zaf [sReferer,sOrigin] r.heads).length cx) r.body)).heap[w.heap.size + 1]? = some (.cells (zad ⟨#[]⟩ ⟨#[]⟩ (.slice none 0 0) false) 54 (0,0)):=(yI _ _ _ _ (by omega)).trans S5
        have PO5:=zak (g:=V1.heap.size) (cs:=zad ut r.method (.slice qx (zaf [sReferer,sOrigin] r.heads).length cx) r.body) O5 xV15 (by decide)
        have PB5:=yM L5 (by omega:w.heap.size≤V1.heap.size) (cs:=zad ut r.method (.slice qx (zaf [sReferer,sOrigin] r.heads).length cx) r.body)
        refine zrd (i:=14) rfl (fun K hK=>?_)
        try simp only[zA,zB,zC]
        rw[if_pos (by rfl)]
        refine wp_store_row 54 _ _ rfl V1.heap.size _ rfl rfl 54 _ xV15 zaq rfl (by simp[Value.oneCell']) ?_
        refine hK.out _ _ PR5 (fun h0=>?_)
        clear hK K
        try simp only[Act.put,zA,zB,zC,zD,zE,zF]
        refine yX (by kernel_rfl) ?_ _
        go_wp2_with fail
        go_meet
        case rel=>exact⟨V1.heap.size,ut,.slice qx (zaf [sReferer,sOrigin] r.heads).length cx,rfl,P5,PO5,by omega,PR5,PS5,PB5,by show w1.heap.size≤(V5.setRow V1.heap.size (zad ut r.method (.slice qx (zaf [sReferer,sOrigin] r.heads).length cx) r.body)).heap.size;simp[World.setRow];exact Z5.size⟩
   ·have k1:=bel1 V0 (.cells (zad ⟨#[]⟩ ⟨#[]⟩ (.slice none 0 0) false) 54)
    have R1:=kept k1 R0
    have xV01:=row1 V0 (.cells (zad ⟨#[]⟩ ⟨#[]⟩ (.slice none 0 0) false) 54)
    refine hK.out _ _ R1 (fun h0=>?_)
    clear hK K
    try simp only[Act.put,zA,zB,zC,zD,zE,zF]
    generalize hV1:V0.alloc (.cells (zad ⟨#[]⟩ ⟨#[]⟩ (.slice none 0 0) false) 54)=V1 at k1 xV01 R1 h0 ⊢
    clear hV1
    have S1:=kept k1 S0
    have L1:=yD L0 k1
    have Z1:=Z0.trans (k1.mono Z0.size)
    have hz1:=Z1.size
    refine wpAnyH_ready (rs:=[2,10]) (by kernel_rfl) (by simp) ?_
    refine AllReadyH.cons rfl (fun K hK=>?_) (AllReadyH.cons rfl (fun K hK=>?_) AllReadyH.nil)
    all_goals try simp only[zA,zB,zC]
    all_goals rw[if_pos (by rfl)]
    all_goals go_simp
    ·go_at_call 44
     refine(HB V1 (HP.out.below L1)).out.mono ?_
     rintro e V2 ⟨pv,rfl,ho,k2⟩
     have Q2:=Strs.of_own ho
     clear ho
     have R2:=kept k2 R1
     have S2:=kept k2 S1
     have L2:=yD L1 k2
     have Z2:=Z1.trans (k2.mono Z1.size)
     have hz2:=Z2.size
     have xV02:=kept k2 xV01
     refine hK.out _ _ R2 (fun h0=>?_)
     clear hK K
     try simp only[Act.put,zA,zB,zC,zD,zE,zF]
     refine wpAnyH_ready (rs:=[3,10]) (by kernel_rfl) (by simp) ?_
     refine AllReadyH.cons rfl (fun K hK=>?_) (AllReadyH.cons rfl (fun K hK=>?_) AllReadyH.nil)
     all_goals try simp only[zA,zB,zC]
     all_goals rw[if_pos (by rfl)]
     all_goals go_simp
     ·go_at_call 43
      refine(HS pv V2 (G.below L2) Q2).out.mono ?_
      rintro e V3 ⟨⟨ut,rfl,_,_⟩,k3⟩
      have R3:=kept k3 R2
      have S3:=kept k3 S2
      have L3:=yD L2 k3
      have Z3:=Z2.trans (k3.mono Z2.size)
      have hz3:=Z3.size
      have xV03:=kept k3 xV02
      refine hK.out _ _ R3 (fun h0=>?_)
      clear hK K
      try simp only[Act.put,zA,zB,zC,zD,zE,zF]
      refine zrd (i:=10) rfl (fun K hK=>?_)
      all_goals try simp only[zA,zB,zC]
      all_goals rw[if_pos (by rfl)]
      all_goals go_simp
      ·have k4:=bel1 V3 (.cells #[.string ⟨#[82,101,102,101,114,101,114]⟩,.string ⟨#[79,114,105,103,105,110]⟩] 9)
       have R4:=kept k4 R3
       have nV34:(V3.alloc (.cells #[.string ⟨#[82,101,102,101,114,101,114]⟩,.string ⟨#[79,114,105,103,105,110]⟩] 9)).heap[V3.heap.size]? = some (.cells ([sReferer,sOrigin].map Value.string).toArray 9 (0,0)):=row1 _ _
       refine hK.out _ _ R4 (fun h0=>?_)
       clear hK K
       try simp only[Act.put,zA,zB,zC,zD,zE,zF]
       generalize hV4:V3.alloc (.cells #[.string ⟨#[82,101,102,101,114,101,114]⟩,.string ⟨#[79,114,105,103,105,110]⟩] 9)=V4 at k4 nV34 R4 h0 ⊢
       clear hV4
       have S4:=kept k4 S3
       have L4:=yD L3 k4
       have Z4:=Z3.trans (k4.mono Z3.size)
       have hz4:=Z4.size
       have xV04:=kept k4 xV03
       refine zrd (i:=11) rfl (fun K hK=>?_)
       all_goals try simp only[zA,zB,zC]
       all_goals rw[if_pos (by rfl)]
       all_goals go_simp
       ·go_at_call 45
        refine(HD V3.heap.size V4 (HH.out.below L4) (zaD nV34 (by decide))).out.mono ?_
        rintro e V5 ⟨hx,rfl,ho,k5⟩
        have O5:=own_lower ho Z4.size
        clear ho
        obtain⟨qx,cx,rfl⟩:=own_slice O5
        have R5:=kept k5 R4
        have S5:=kept k5 S4
        have L5:=yD L4 k5
        have Z5:=Z4.trans (k5.mono Z4.size)
        have hz5:=Z5.size
        have xV05:=kept k5 xV04
        refine hK.out _ _ R5 (fun h0=>?_)
        clear hK K
        try simp only[Act.put,zA,zB,zC,zD,zE,zF]
        refine tk (i:=12) (v:=?v20) rfl (Or.inl ⟨by rfl,?y20⟩) h0 ?r20
        case y20 =>
         intro W hW
         go_simp
         try with_reducible rfl
        simp only[Act.put,zA,zB,zC,zD,zE,zF]
        have P5:=yH _ _ _ (zad ut r.method (.slice qx (zaf [sReferer,sOrigin] r.heads).length cx) r.body) _ _ xV05
        have PR5:(V5.setRow V0.heap.size (zad ut r.method (.slice qx (zaf [sReferer,sOrigin] r.heads).length cx) r.body)).heap[w.heap.size]? = some (.cells (reqC r pu (.slice qh mh ch)) 32 (0,0)):=(yI _ _ _ _ (by omega)).trans R5
        have PS5:(V5.setRow V0.heap.size (zad ut r.method (.slice qx (zaf [sReferer,sOrigin] r.heads).length cx) r.body)).heap[w.heap.size + 1]? = some (.cells (zad ⟨#[]⟩ ⟨#[]⟩ (.slice none 0 0) false) 54 (0,0)):=(yI _ _ _ _ (by omega)).trans S5
        have PO5:=zak (g:=V0.heap.size) (cs:=zad ut r.method (.slice qx (zaf [sReferer,sOrigin] r.heads).length cx) r.body) O5 xV05 (by decide)
        have PB5:=yM L5 (by omega:w.heap.size≤V0.heap.size) (cs:=zad ut r.method (.slice qx (zaf [sReferer,sOrigin] r.heads).length cx) r.body)
        refine zrd (i:=14) rfl (fun K hK=>?_)
        try simp only[zA,zB,zC]
        rw[if_pos (by rfl)]
        refine wp_store_row 54 _ _ rfl V0.heap.size _ rfl rfl 54 _ xV05 zaq rfl (by simp[Value.oneCell']) ?_
        refine hK.out _ _ PR5 (fun h0=>?_)
        clear hK K
        try simp only[Act.put,zA,zB,zC,zD,zE,zF]
        refine yX (by kernel_rfl) ?_ _
        go_wp2_with fail
        go_meet
        case rel=>exact⟨V0.heap.size,ut,.slice qx (zaf [sReferer,sOrigin] r.heads).length cx,rfl,P5,PO5,by omega,PR5,PS5,PB5,by show w1.heap.size≤(V5.setRow V0.heap.size (zad ut r.method (.slice qx (zaf [sReferer,sOrigin] r.heads).length cx) r.body)).heap.size;simp[World.setRow];exact Z5.size⟩
     ·have k3:=bel1 V2 (.cells #[.string ⟨#[82,101,102,101,114,101,114]⟩,.string ⟨#[79,114,105,103,105,110]⟩] 9)
      have R3:=kept k3 R2
      have nV23:(V2.alloc (.cells #[.string ⟨#[82,101,102,101,114,101,114]⟩,.string ⟨#[79,114,105,103,105,110]⟩] 9)).heap[V2.heap.size]? = some (.cells ([sReferer,sOrigin].map Value.string).toArray 9 (0,0)):=row1 _ _
      refine hK.out _ _ R3 (fun h0=>?_)
      clear hK K
      try simp only[Act.put,zA,zB,zC,zD,zE,zF]
      generalize hV3:V2.alloc (.cells #[.string ⟨#[82,101,102,101,114,101,114]⟩,.string ⟨#[79,114,105,103,105,110]⟩] 9)=V3 at k3 nV23 R3 h0 ⊢
      clear hV3
      have S3:=kept k3 S2
      have L3:=yD L2 k3
      have Z3:=Z2.trans (k3.mono Z2.size)
      have hz3:=Z3.size
      have Q3:=Q2.below k3
      have xV03:=kept k3 xV02
      refine zrd (i:=3) rfl (fun K hK=>?_)
      all_goals try simp only[zA,zB,zC]
      all_goals rw[if_pos (by rfl)]
      all_goals go_simp
      ·go_at_call 43
       refine(HS pv V3 (G.below L3) Q3).out.mono ?_
       rintro e V4 ⟨⟨ut,rfl,_,_⟩,k4⟩
       have R4:=kept k4 R3
       have S4:=kept k4 S3
       have L4:=yD L3 k4
       have Z4:=Z3.trans (k4.mono Z3.size)
       have hz4:=Z4.size
       have nV24:=kept k4 nV23
       have xV04:=kept k4 xV03
       refine hK.out _ _ R4 (fun h0=>?_)
       clear hK K
       try simp only[Act.put,zA,zB,zC,zD,zE,zF]
       refine zrd (i:=11) rfl (fun K hK=>?_)
       all_goals try simp only[zA,zB,zC]
       all_goals rw[if_pos (by rfl)]
       all_goals go_simp
       ·go_at_call 45
        refine(HD V2.heap.size V4 (HH.out.below L4) (zaD nV24 (by decide))).out.mono ?_
        rintro e V5 ⟨hx,rfl,ho,k5⟩
        have O5:=own_lower ho Z4.size
        clear ho
        obtain⟨qx,cx,rfl⟩:=own_slice O5
        have R5:=kept k5 R4
        have S5:=kept k5 S4
        have L5:=yD L4 k5
        have Z5:=Z4.trans (k5.mono Z4.size)
        have hz5:=Z5.size
        have xV05:=kept k5 xV04
        refine hK.out _ _ R5 (fun h0=>?_)
        clear hK K
        try simp only[Act.put,zA,zB,zC,zD,zE,zF]
        refine tk (i:=12) (v:=?v21) rfl (Or.inl ⟨by rfl,?y21⟩) h0 ?r21
        case y21 =>
         intro W hW
         go_simp
         try with_reducible rfl
        simp only[Act.put,zA,zB,zC,zD,zE,zF]
        have P5:=yH _ _ _ (zad ut r.method (.slice qx (zaf [sReferer,sOrigin] r.heads).length cx) r.body) _ _ xV05
        have PR5:(V5.setRow V0.heap.size (zad ut r.method (.slice qx (zaf [sReferer,sOrigin] r.heads).length cx) r.body)).heap[w.heap.size]? = some (.cells (reqC r pu (.slice qh mh ch)) 32 (0,0)):=(yI _ _ _ _ (by omega)).trans R5
        have PS5:(V5.setRow V0.heap.size (zad ut r.method (.slice qx (zaf [sReferer,sOrigin] r.heads).length cx) r.body)).heap[w.heap.size + 1]? = some (.cells (zad ⟨#[]⟩ ⟨#[]⟩ (.slice none 0 0) false) 54 (0,0)):=(yI _ _ _ _ (by omega)).trans S5
        have PO5:=zak (g:=V0.heap.size) (cs:=zad ut r.method (.slice qx (zaf [sReferer,sOrigin] r.heads).length cx) r.body) O5 xV05 (by decide)
        have PB5:=yM L5 (by omega:w.heap.size≤V0.heap.size) (cs:=zad ut r.method (.slice qx (zaf [sReferer,sOrigin] r.heads).length cx) r.body)
        refine zrd (i:=14) rfl (fun K hK=>?_)
        try simp only[zA,zB,zC]
        rw[if_pos (by rfl)]
        refine wp_store_row 54 _ _ rfl V0.heap.size _ rfl rfl 54 _ xV05 zaq rfl (by simp[Value.oneCell']) ?_
        refine hK.out _ _ PR5 (fun h0=>?_)
        clear hK K
        try simp only[Act.put,zA,zB,zC,zD,zE,zF]
        refine yX (by kernel_rfl) ?_ _
        go_wp2_with fail
        go_meet
        case rel=>exact⟨V0.heap.size,ut,.slice qx (zaf [sReferer,sOrigin] r.heads).length cx,rfl,P5,PO5,by omega,PR5,PS5,PB5,by show w1.heap.size≤(V5.setRow V0.heap.size (zad ut r.method (.slice qx (zaf [sReferer,sOrigin] r.heads).length cx) r.body)).heap.size;simp[World.setRow];exact Z5.size⟩
    ·have k2:=bel1 V1 (.cells #[.string ⟨#[82,101,102,101,114,101,114]⟩,.string ⟨#[79,114,105,103,105,110]⟩] 9)
     have R2:=kept k2 R1
     have nV12:(V1.alloc (.cells #[.string ⟨#[82,101,102,101,114,101,114]⟩,.string ⟨#[79,114,105,103,105,110]⟩] 9)).heap[V1.heap.size]? = some (.cells ([sReferer,sOrigin].map Value.string).toArray 9 (0,0)):=row1 _ _
     refine hK.out _ _ R2 (fun h0=>?_)
     clear hK K
     try simp only[Act.put,zA,zB,zC,zD,zE,zF]
     generalize hV2:V1.alloc (.cells #[.string ⟨#[82,101,102,101,114,101,114]⟩,.string ⟨#[79,114,105,103,105,110]⟩] 9)=V2 at k2 nV12 R2 h0 ⊢
     clear hV2
     have S2:=kept k2 S1
     have L2:=yD L1 k2
     have Z2:=Z1.trans (k2.mono Z1.size)
     have hz2:=Z2.size
     have xV02:=kept k2 xV01
     refine zrd (i:=2) rfl (fun K hK=>?_)
     all_goals try simp only[zA,zB,zC]
     all_goals rw[if_pos (by rfl)]
     all_goals go_simp
     ·go_at_call 44
      refine(HB V2 (HP.out.below L2)).out.mono ?_
      rintro e V3 ⟨pv,rfl,ho,k3⟩
      have Q3:=Strs.of_own ho
      clear ho
      have R3:=kept k3 R2
      have S3:=kept k3 S2
      have L3:=yD L2 k3
      have Z3:=Z2.trans (k3.mono Z2.size)
      have hz3:=Z3.size
      have nV13:=kept k3 nV12
      have xV03:=kept k3 xV02
      refine hK.out _ _ R3 (fun h0=>?_)
      clear hK K
      try simp only[Act.put,zA,zB,zC,zD,zE,zF]
      refine zrd (i:=3) rfl (fun K hK=>?_)
      all_goals try simp only[zA,zB,zC]
      all_goals rw[if_pos (by rfl)]
      all_goals go_simp
      ·go_at_call 43
       refine(HS pv V3 (G.below L3) Q3).out.mono ?_
       rintro e V4 ⟨⟨ut,rfl,_,_⟩,k4⟩
       have R4:=kept k4 R3
       have S4:=kept k4 S3
       have L4:=yD L3 k4
       have Z4:=Z3.trans (k4.mono Z3.size)
       have hz4:=Z4.size
       have nV14:=kept k4 nV13
       have xV04:=kept k4 xV03
       refine hK.out _ _ R4 (fun h0=>?_)
       clear hK K
       try simp only[Act.put,zA,zB,zC,zD,zE,zF]
       refine zrd (i:=11) rfl (fun K hK=>?_)
       all_goals try simp only[zA,zB,zC]
       all_goals rw[if_pos (by rfl)]
       all_goals go_simp
       ·go_at_call 45
        refine(HD V1.heap.size V4 (HH.out.below L4) (zaD nV14 (by decide))).out.mono ?_
        rintro e V5 ⟨hx,rfl,ho,k5⟩
        have O5:=own_lower ho Z4.size
        clear ho
        obtain⟨qx,cx,rfl⟩:=own_slice O5
        have R5:=kept k5 R4
        have S5:=kept k5 S4
        have L5:=yD L4 k5
        have Z5:=Z4.trans (k5.mono Z4.size)
        have hz5:=Z5.size
        have xV05:=kept k5 xV04
        refine hK.out _ _ R5 (fun h0=>?_)
        clear hK K
        try simp only[Act.put,zA,zB,zC,zD,zE,zF]
        refine tk (i:=12) (v:=?v22) rfl (Or.inl ⟨by rfl,?y22⟩) h0 ?r22
        case y22 =>
         intro W hW
         go_simp
         try with_reducible rfl
        simp only[Act.put,zA,zB,zC,zD,zE,zF]
        have P5:=yH _ _ _ (zad ut r.method (.slice qx (zaf [sReferer,sOrigin] r.heads).length cx) r.body) _ _ xV05
        have PR5:(V5.setRow V0.heap.size (zad ut r.method (.slice qx (zaf [sReferer,sOrigin] r.heads).length cx) r.body)).heap[w.heap.size]? = some (.cells (reqC r pu (.slice qh mh ch)) 32 (0,0)):=(yI _ _ _ _ (by omega)).trans R5
        have PS5:(V5.setRow V0.heap.size (zad ut r.method (.slice qx (zaf [sReferer,sOrigin] r.heads).length cx) r.body)).heap[w.heap.size + 1]? = some (.cells (zad ⟨#[]⟩ ⟨#[]⟩ (.slice none 0 0) false) 54 (0,0)):=(yI _ _ _ _ (by omega)).trans S5
        have PO5:=zak (g:=V0.heap.size) (cs:=zad ut r.method (.slice qx (zaf [sReferer,sOrigin] r.heads).length cx) r.body) O5 xV05 (by decide)
        have PB5:=yM L5 (by omega:w.heap.size≤V0.heap.size) (cs:=zad ut r.method (.slice qx (zaf [sReferer,sOrigin] r.heads).length cx) r.body)
        refine zrd (i:=14) rfl (fun K hK=>?_)
        try simp only[zA,zB,zC]
        rw[if_pos (by rfl)]
        refine wp_store_row 54 _ _ rfl V0.heap.size _ rfl rfl 54 _ xV05 zaq rfl (by simp[Value.oneCell']) ?_
        refine hK.out _ _ PR5 (fun h0=>?_)
        clear hK K
        try simp only[Act.put,zA,zB,zC,zD,zE,zF]
        refine yX (by kernel_rfl) ?_ _
        go_wp2_with fail
        go_meet
        case rel=>exact⟨V0.heap.size,ut,.slice qx (zaf [sReferer,sOrigin] r.heads).length cx,rfl,P5,PO5,by omega,PR5,PS5,PB5,by show w1.heap.size≤(V5.setRow V0.heap.size (zad ut r.method (.slice qx (zaf [sReferer,sOrigin] r.heads).length cx) r.body)).heap.size;simp[World.setRow];exact Z5.size⟩
  case rest =>
   obtain⟨X,ut,hx,rfl,XR,XO,hX,CR,CS,CL,hBz⟩:=hcut
   have c40:=yE CR 40 (.int .i64 r.policy) rfl
   have c41:=yE CR 41 (.string r.referrer) rfl
   have hmf:∀ (fn:Fn) (first cap:Array Value) (w:World),(Instr.makeFunc fn first cap).run Tryz.prog w=.ok (.func fn first cap) w:=fun _ _ _ _=>rfl
   go_wp2_with (first|((with_reducible (show wpList _ _ _ (Oper.mk _ (.load 27 _) _ _ _ none::_) _ _));refine zaa (by rfl) 27 _ rfl w.heap.size 0 rfl (urlC r.url pu) _ (zae CR 0 _ rfl) yB rfl yN ?_))
   refine(HRF _ (G.below CL) (HP.out.below CL)).out.mono ?_
   rintro e w3 ⟨⟨rt,rb,rfl,hr1,_⟩,k3⟩
   have HR1:=Lib.hid hr1
   have L3:=yD CL k3
   have X3:=kept k3 XR
   have O3:=own_below XO k3
   have CR3:=kept k3 CR
   have CS3:=kept k3 CS
   have z3:=k3.size
   have H4:=Lib.hid (zfb X w1.heap.size ut r.method hx r.body (zbJ r) sReferer rt rb w3 X3 O3 (by omega) (by omega) hX)
   clear hr1 XR XO CL CR CS c40 c41
   unfold sReferer at H4
   go_wp2_with fail
   refine H4.out.mono ?_
   rintro e w4 ⟨rfl,h4,X4,O4,k4⟩
   have L4:=L3.trans (k4.mono (by omega))
   have CR4:w4.heap[w.heap.size]? = _:=(k4.block _ (by omega)).trans CR3
   have CS4:w4.heap[w.heap.size + 1]? = _:=(k4.block _ (by omega)).trans CS3
   have z4:=k4.size
   obtain⟨l4,hl4⟩:∃ l,l=addF rb (zbJ r) (sReferer,rt):=⟨_,rfl⟩
   have n4:=zcj rb (zbJ r) (sReferer,rt)
   rw[← hl4] at n4
   have O4:w4.ownsRow w1.heap.size 72 2 h4 l4.length (zai l4):=by rw[hl4];exact O4
   have HL4:=Lib.hid hl4
   clear X3 O3 CR3 CS3 hl4
   go_wp2_with (first|((with_reducible (show wpList _ _ _ (Oper.mk _ (.load 32 _) _ _ _ none::_) _ _));refine yK rfl 32 _ rfl w.heap.size rfl 32 _ (0,0) _ CR4 yA rfl zab ?_))
   refine(HSN _ (G.below L4) (HP.out.below L4) (HH.out.below L4)).out.mono ?_
   rintro e w5 ⟨⟨ot,ob,rfl,ho1,_⟩,k5⟩
   have HO1:=Lib.hid ho1
   have L5:=yD L4 k5
   have X5:=kept k5 X4
   have O5:=own_below O4 k5
   have CS5:=kept k5 CS4
   have z5:=k5.size
   have H6:=Lib.hid (zfb X w1.heap.size ut r.method h4 r.body l4 sOrigin ot ob w5 X5 O5 (by omega) (by omega) hX)
   clear ho1 X4 O4 CR4 CS4
   unfold sOrigin at H6
   go_wp2_with fail
   refine H6.out.mono ?_
   rintro e w6 ⟨rfl,h6,X6,O6,k6⟩
   have L6:=L5.trans (k6.mono (by omega))
   have CS6:w6.heap[w.heap.size + 1]? = some (.cells (zad ⟨#[]⟩ ⟨#[]⟩ (.slice none 0 0) false) 54 (0,0)):=(k6.block _ (by omega)).trans CS5
   obtain⟨l6,hl6⟩:∃ l,l=addF ob l4 (sOrigin,ot):=⟨_,rfl⟩
   have n6:=zcj ob l4 (sOrigin,ot)
   rw[← hl6] at n6
   have O6:w6.ownsRow w1.heap.size 72 2 h6 l6.length (zai l6):=by rw[hl6];exact O6
   have O7:=own_lower (zak (g:=w.heap.size + 1) (cs:=zad ut r.method h6 r.body) O6 CS6 (by decide)) (B':=w.heap.size) (by omega)
   have HZ:Hid (SL (.returned (.agg (zad ut r.method h6 r.body))) (w6.setRow (w.heap.size + 1) (zad ut r.method h6 r.body))):=by
    show _
    rw[HSL.out]
    exact⟨_,_,_,_,l6,rfl,O7,fun _=>⟨rt,rb,ot,ob,HR1.out,HO1.out,by rw[hl6,HL4.out]⟩,fun h=>(by cases h),by omega,yM L6 (Nat.le_succ _)⟩
   obtain⟨q6,c6,rfl⟩:=own_slice O6
   clear HSL hl6 O6 O7 X5 O5 CS5
   go_wp2_with (first|((with_reducible (show wpList _ _ _ (Oper.mk _ (.load 54 _) _ _ _ none::_) _ _));refine yK rfl 54 _ rfl X rfl 54 _ (0,0) _ X6 Tryz.underlying54 rfl zaq ?_)|((with_reducible (show wpList _ _ _ (Oper.mk none (.store 54 _ _) _ _ _ none::_) _ _));refine yJ rfl 54 _ _ rfl (w.heap.size + 1) _ rfl rfl 54 _ CS6 zaq rfl (by simp[Value.oneCell']) ?_))
   exact yO (yT rfl _ _ (w.heap.size + 1) 54 (zad ut r.method (.slice q6 l6.length c6) r.body) (0,0) _ rfl (yH _ _ _ _ _ _ CS6) Tryz.underlying54 rfl zaq) rfl HZ.out
end Go.Proofs.YtdlkjofnnefjfaaGreatDoor
