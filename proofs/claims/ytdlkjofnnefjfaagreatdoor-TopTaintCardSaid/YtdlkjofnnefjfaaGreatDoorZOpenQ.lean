/- A request, and responses, as the form reads them. -/
import Derived.Test.YtdlkjofnnefjfaaGreatDoorZShort
import Derived.Test.YtdlkjofnnefjfaaGreatDoorZStartA
import Derived.Deep.SlicePairs
set_option linter.all false
namespace Go.Proofs.YtdlkjofnnefjfaaGreatDoor
set_option maxRecDepth 100000
open Go.RowKit Go.Shelf Go.Deep Go.ChangeShapes Go.WideShapes
section
variable {H:Type} {enc:TypeId×Value→H} {W:World} {base:Nat} {sp:Nat→Bool} {held:Bool} {u:TypeId} {v:Value}
theorem zbx (hu:Tryz.prog.underlying u=some .string) (h:Cell.okWide Tryz.prog W .any base u v):∃ s,v=.string s:=by
 cases v with
 | string s=>exact⟨s,rfl⟩
 | _=>simp[Cell.okWide,Cell.ok,hu] at h
theorem zb8 (hu:Tryz.prog.underlying u=some .bool) (h:Cell.okWide Tryz.prog W .any base u v):∃ s,v=.bool s:=by
 cases v with
 | bool s=>exact⟨s,rfl⟩
 | _=>simp[Cell.okWide,Cell.ok,hu] at h
theorem zaE {k:IntKind} (hu:Tryz.prog.underlying u=some (.int k)) (h:Cell.okWide Tryz.prog W .any base u v):∃ s,v=.int k s:=by
 cases v with
 | int k' s=>simp[Cell.okWide,Cell.ok,hu] at h;exact⟨s,by rw[h.1]⟩
 | _=>simp[Cell.okWide,Cell.ok,hu] at h
def zhH (W:World) (q:Option Addr):Prop:=∀ a,q=some a→a.spot=none∧a.block < W.heap.size
theorem zdq {e:TypeId} (hu:Tryz.prog.underlying u=some (.slice e)) (h:Cell.okWide Tryz.prog W .any base u v):∃ q m c,v=.slice q m c∧zhH W q:=by
 cases v with
 | slice q m c =>
  refine⟨q,m,c,rfl,fun a ha=>?_⟩
  subst ha
  simp[Cell.okWide,Cell.ok,hu] at h
  obtain⟨_,h1,row,cells,h2,_⟩:=h.2.2
  refine⟨h1,?_⟩
  unfold World.shape? at h2
  cases hb:W.heap[a.block]? with
  | none=>simp[hb] at h2
  | some o=>exact yS hb
 | _=>simp[Cell.okWide,Cell.ok,hu] at h
theorem zeS:Tryz.prog.cellsOf 9=1:=by kernel_rfl
theorem zin:Tryz.prog.cellsOf 3=1:=by kernel_rfl
theorem zhN:Tryz.prog.cellsOf 25=1:=by kernel_rfl
theorem zhO:Tryz.prog.cellsOf 27=21:=by kernel_rfl
theorem zhP:Tryz.prog.cellsOf 28=1:=by kernel_rfl
theorem zhQ:Tryz.prog.cellsOf 32=45:=by kernel_rfl
theorem zhS:Tryz.prog.cellsOf 72=2:=by kernel_rfl
theorem zhR:Tryz.prog.cellsOf 45=2:=by kernel_rfl
theorem zb9 {α:Type} (f:Nat→α) (n j:Nat) (d:α) (h:j < n):((List.range n).map f).getD j d=f j:=by
 simp[List.getD,h]
theorem zib {q:Option Addr} {m c fuel:Nat} {x:DataW H×List MemPlace} (hq:zhH W q) (h:DataW.trod enc Tryz.prog W 0 sp held fuel 25 [.slice q m c]=some x):∃ l,Strs W (.slice q m c) l:=by
 rcases open_strs Tryz.underlying25 Tryz.underlying9 zeS h with ⟨h0,_⟩|⟨a,len,cap,k,Sx,h0,_,hl,hm,hk,_,hc⟩
 ·simp only[List.cons.injEq,and_true] at h0
  exact⟨[],.inl ⟨h0,rfl⟩⟩
 ·simp only[List.cons.injEq,and_true,Value.slice.injEq] at h0
  obtain⟨rfl,rfl,rfl⟩:=h0
  obtain⟨hs,hlt⟩:=hq a rfl
  obtain⟨b,off,spot⟩:=a
  have hs':spot=none:=hs
  subst hs'
  have hmk:m≤k:=by rw[hk];split <;> omega
  refine⟨(List.range m).map Sx,.inr ⟨b,off,c,by rw[List.length_map,List.length_range],by rw[List.length_map,List.length_range];exact hl,hm,hlt,fun j hj=>?_⟩⟩
  rw[List.length_map,List.length_range] at hj
  rw[zb9 Sx m j _ hj]
  have:=(hc j (by omega)).1
  rwa [add_plain] at this
theorem zhU {q:Option Addr} {m c fuel:Nat} {x:DataW H×List MemPlace} (hq:zhH W q) (h:DataW.trod enc Tryz.prog W 0 sp held fuel 28 [.slice q m c]=some x):∃ l,Flds W (.slice q m c) l:=by
 rcases open_slice_pairs Tryz.underlying28 Tryz.underlying72 zhS rfl rfl zeS zeS h with ⟨h0,_⟩|⟨a,len,cap,k,n,V0,V1,D0,D1,P0,P1,h0,_,hl,hm,hk,_,hc⟩
 ·simp only[List.cons.injEq,and_true] at h0
  exact⟨[],.inl ⟨h0,rfl⟩⟩
 ·simp only[List.cons.injEq,and_true,Value.slice.injEq] at h0
  obtain⟨rfl,rfl,rfl⟩:=h0
  obtain⟨hs,hlt⟩:=hq a rfl
  obtain⟨b,off,spot⟩:=a
  have hs':spot=none:=hs
  subst hs'
  have hmk:m≤k:=by rw[hk];split <;> omega
  have each:∀ i,i < k→∃ f:Fld,W.cell? ⟨b,off + i * 2,none⟩=some (.string f.1)∧W.cell? ⟨b,off + i * 2 + 1,none⟩=some (.string f.2):=fun i hi=>by
   obtain⟨h1,h2,h3,h4⟩:=hc i hi
   obtain⟨s,hs1,_⟩:=DataW.trod_string Tryz.underlying9 h3
   obtain⟨t,ht1,_⟩:=DataW.trod_string Tryz.underlying9 h4
   simp only[List.cons.injEq,and_true] at hs1 ht1
   rw[hs1] at h1
   rw[ht1] at h2
   rw[add_plain] at h1 h2
   exact⟨(s,t),h1,by rw[Nat.add_assoc];exact h2⟩
  obtain⟨f,hf⟩:=choose_lt each
  refine⟨(List.range m).map f,.inr ⟨b,off,c,by rw[List.length_map,List.length_range],by rw[List.length_map,List.length_range];exact hl,hm,hlt,fun j hj=>?_⟩⟩
  rw[List.length_map,List.length_range] at hj
  rw[zb9 f m j _ hj]
  exact hf j (by omega)
theorem ze7 {v:Value} {d:DataW H} {ps:List MemPlace} (hv:Value.okWide Tryz.prog W .any base 33 v) (h:DataW.Trod enc Tryz.prog W 0 sp held 33 v d ps):∃ l,Resps W v l:=by
 have hv':Cell.okWide Tryz.prog W .any base 33 v:=by
  unfold Value.okWide at hv
  rw[Tryz.underlying33] at hv
  exact hv
 obtain⟨q,m,c,rfl,hq⟩:=zdq Tryz.underlying33 hv'
 obtain⟨fuel,h⟩:=h
 rcases open_slice_pairs Tryz.underlying33 Tryz.underlying45 zhR rfl rfl zin zeS h with ⟨h0,_⟩|⟨a,len,cap,k,n,V0,V1,D0,D1,P0,P1,h0,_,hl,hm,hk,_,hc⟩
 ·have h0':Value.slice q m c=.slice none 0 0:=by simpa [Value.cells] using h0
  cases h0'
  exact⟨[],none,0,rfl,Nat.zero_le _,fun j hj=>absurd hj (Nat.not_lt_zero _)⟩
 ·have h0':Value.slice q m c=.slice (some a) len cap:=by simpa [Value.cells] using h0
  cases h0'
  obtain⟨hs,hlt⟩:=hq a rfl
  obtain⟨b,off,spot⟩:=a
  have hs':spot=none:=hs
  subst hs'
  have hmk:m≤k:=by rw[hk];split <;> omega
  have each:∀ i,i < k→∃ f:Int×ByteArray,W.cell? ⟨b,off + i * 2,none⟩=some (.int .i64 f.1)∧W.cell? ⟨b,off + i * 2 + 1,none⟩=some (.string f.2):=fun i hi=>by
   obtain⟨h1,h2,h3,h4⟩:=hc i hi
   obtain⟨s,hs1,_⟩:=DataW.trod_int yC h3
   obtain⟨t,ht1,_⟩:=DataW.trod_string Tryz.underlying9 h4
   simp only[List.cons.injEq,and_true] at hs1 ht1
   rw[hs1] at h1
   rw[ht1] at h2
   rw[add_plain] at h1 h2
   exact⟨(s,t),h1,by rw[Nat.add_assoc];exact h2⟩
  obtain⟨f,hf⟩:=choose_lt each
  refine⟨(List.range m).map f,some ⟨b,off,none⟩,c,by rw[List.length_map,List.length_range],by rw[List.length_map,List.length_range];omega,fun j hj=>⟨b,off,rfl,hlt,?_⟩⟩
  rw[List.length_map,List.length_range] at hj
  rw[zb9 f m j _ hj]
  intro i w hi
  match i,hi with
  | 0,hi=>cases hi;exact(hf j (by omega)).1
  | 1,hi=>cases hi;exact(hf j (by omega)).2
  | i + 2,hi=>simp at hi
theorem zif:Tryz.prog.cellTypes Tryz.prog.depth 32=some [9,9,9,3,9,3,3,3,3,3,3,3,3,3,3,25,9,9,9,4,4,9,28,4,4,9,3,9,3,3,3,3,3,3,3,3,3,3,3,3,3,9,4,4,3]:=by kernel_rfl
set_option maxHeartbeats 8000000 in
theorem zhE {v:Value} {d:DataW H} {ps:List MemPlace} (hv:Value.okWide Tryz.prog W .any base 32 v) (h:DataW.Trod enc Tryz.prog W 0 sp held 32 v d ps):∃ q pv hv,v=.agg (reqC q pv hv)∧Strs W pv q.url.path∧Flds W hv q.heads:=by
 have hv':∃ cs,v=.agg cs∧cs.size=Tryz.prog.cellsOf 32∧Row.okWide Tryz.prog W .any base 32 cs:=by
  unfold Value.okWide at hv
  rw[yA] at hv
  exact hv
 obtain⟨cs,rfl,hsz,ts,hts,-,hrow⟩:=hv'
 rw[zif] at hts
 cases hts
 rw[zhQ] at hsz
 obtain⟨l⟩:=cs
 simp only[List.size_toArray] at hsz
 obtain⟨c0,l0,rfl⟩:=yP (n:=44) hsz
 have h0:l0.length=44:=by have:=hsz;rw[List.length_cons] at this;omega
 obtain⟨c1,l1,rfl⟩:=yP (n:=43) h0
 have h1:l1.length=43:=by have:=h0;rw[List.length_cons] at this;omega
 obtain⟨c2,l2,rfl⟩:=yP (n:=42) h1
 have h2:l2.length=42:=by have:=h1;rw[List.length_cons] at this;omega
 obtain⟨c3,l3,rfl⟩:=yP (n:=41) h2
 have h3:l3.length=41:=by have:=h2;rw[List.length_cons] at this;omega
 obtain⟨c4,l4,rfl⟩:=yP (n:=40) h3
 have h4:l4.length=40:=by have:=h3;rw[List.length_cons] at this;omega
 obtain⟨c5,l5,rfl⟩:=yP (n:=39) h4
 have h5:l5.length=39:=by have:=h4;rw[List.length_cons] at this;omega
 obtain⟨c6,l6,rfl⟩:=yP (n:=38) h5
 have h6:l6.length=38:=by have:=h5;rw[List.length_cons] at this;omega
 obtain⟨c7,l7,rfl⟩:=yP (n:=37) h6
 have h7:l7.length=37:=by have:=h6;rw[List.length_cons] at this;omega
 obtain⟨c8,l8,rfl⟩:=yP (n:=36) h7
 have h8:l8.length=36:=by have:=h7;rw[List.length_cons] at this;omega
 obtain⟨c9,l9,rfl⟩:=yP (n:=35) h8
 have h9:l9.length=35:=by have:=h8;rw[List.length_cons] at this;omega
 obtain⟨c10,l10,rfl⟩:=yP (n:=34) h9
 have h10:l10.length=34:=by have:=h9;rw[List.length_cons] at this;omega
 obtain⟨c11,l11,rfl⟩:=yP (n:=33) h10
 have h11:l11.length=33:=by have:=h10;rw[List.length_cons] at this;omega
 obtain⟨c12,l12,rfl⟩:=yP (n:=32) h11
 have h12:l12.length=32:=by have:=h11;rw[List.length_cons] at this;omega
 obtain⟨c13,l13,rfl⟩:=yP (n:=31) h12
 have h13:l13.length=31:=by have:=h12;rw[List.length_cons] at this;omega
 obtain⟨c14,l14,rfl⟩:=yP (n:=30) h13
 have h14:l14.length=30:=by have:=h13;rw[List.length_cons] at this;omega
 obtain⟨c15,l15,rfl⟩:=yP (n:=29) h14
 have h15:l15.length=29:=by have:=h14;rw[List.length_cons] at this;omega
 obtain⟨c16,l16,rfl⟩:=yP (n:=28) h15
 have h16:l16.length=28:=by have:=h15;rw[List.length_cons] at this;omega
 obtain⟨c17,l17,rfl⟩:=yP (n:=27) h16
 have h17:l17.length=27:=by have:=h16;rw[List.length_cons] at this;omega
 obtain⟨c18,l18,rfl⟩:=yP (n:=26) h17
 have h18:l18.length=26:=by have:=h17;rw[List.length_cons] at this;omega
 obtain⟨c19,l19,rfl⟩:=yP (n:=25) h18
 have h19:l19.length=25:=by have:=h18;rw[List.length_cons] at this;omega
 obtain⟨c20,l20,rfl⟩:=yP (n:=24) h19
 have h20:l20.length=24:=by have:=h19;rw[List.length_cons] at this;omega
 obtain⟨c21,l21,rfl⟩:=yP (n:=23) h20
 have h21:l21.length=23:=by have:=h20;rw[List.length_cons] at this;omega
 obtain⟨c22,l22,rfl⟩:=yP (n:=22) h21
 have h22:l22.length=22:=by have:=h21;rw[List.length_cons] at this;omega
 obtain⟨c23,l23,rfl⟩:=yP (n:=21) h22
 have h23:l23.length=21:=by have:=h22;rw[List.length_cons] at this;omega
 obtain⟨c24,l24,rfl⟩:=yP (n:=20) h23
 have h24:l24.length=20:=by have:=h23;rw[List.length_cons] at this;omega
 obtain⟨c25,l25,rfl⟩:=yP (n:=19) h24
 have h25:l25.length=19:=by have:=h24;rw[List.length_cons] at this;omega
 obtain⟨c26,l26,rfl⟩:=yP (n:=18) h25
 have h26:l26.length=18:=by have:=h25;rw[List.length_cons] at this;omega
 obtain⟨c27,l27,rfl⟩:=yP (n:=17) h26
 have h27:l27.length=17:=by have:=h26;rw[List.length_cons] at this;omega
 obtain⟨c28,l28,rfl⟩:=yP (n:=16) h27
 have h28:l28.length=16:=by have:=h27;rw[List.length_cons] at this;omega
 obtain⟨c29,l29,rfl⟩:=yP (n:=15) h28
 have h29:l29.length=15:=by have:=h28;rw[List.length_cons] at this;omega
 obtain⟨c30,l30,rfl⟩:=yP (n:=14) h29
 have h30:l30.length=14:=by have:=h29;rw[List.length_cons] at this;omega
 obtain⟨c31,l31,rfl⟩:=yP (n:=13) h30
 have h31:l31.length=13:=by have:=h30;rw[List.length_cons] at this;omega
 obtain⟨c32,l32,rfl⟩:=yP (n:=12) h31
 have h32:l32.length=12:=by have:=h31;rw[List.length_cons] at this;omega
 obtain⟨c33,l33,rfl⟩:=yP (n:=11) h32
 have h33:l33.length=11:=by have:=h32;rw[List.length_cons] at this;omega
 obtain⟨c34,l34,rfl⟩:=yP (n:=10) h33
 have h34:l34.length=10:=by have:=h33;rw[List.length_cons] at this;omega
 obtain⟨c35,l35,rfl⟩:=yP (n:=9) h34
 have h35:l35.length=9:=by have:=h34;rw[List.length_cons] at this;omega
 obtain⟨c36,l36,rfl⟩:=yP (n:=8) h35
 have h36:l36.length=8:=by have:=h35;rw[List.length_cons] at this;omega
 obtain⟨c37,l37,rfl⟩:=yP (n:=7) h36
 have h37:l37.length=7:=by have:=h36;rw[List.length_cons] at this;omega
 obtain⟨c38,l38,rfl⟩:=yP (n:=6) h37
 have h38:l38.length=6:=by have:=h37;rw[List.length_cons] at this;omega
 obtain⟨c39,l39,rfl⟩:=yP (n:=5) h38
 have h39:l39.length=5:=by have:=h38;rw[List.length_cons] at this;omega
 obtain⟨c40,l40,rfl⟩:=yP (n:=4) h39
 have h40:l40.length=4:=by have:=h39;rw[List.length_cons] at this;omega
 obtain⟨c41,l41,rfl⟩:=yP (n:=3) h40
 have h41:l41.length=3:=by have:=h40;rw[List.length_cons] at this;omega
 obtain⟨c42,l42,rfl⟩:=yP (n:=2) h41
 have h42:l42.length=2:=by have:=h41;rw[List.length_cons] at this;omega
 obtain⟨c43,l43,rfl⟩:=yP (n:=1) h42
 have h43:l43.length=1:=by have:=h42;rw[List.length_cons] at this;omega
 obtain⟨c44,l44,rfl⟩:=yP (n:=0) h43
 have h44:l44.length=0:=by have:=h43;rw[List.length_cons] at this;omega
 obtain rfl:=List.length_eq_zero_iff.1 h44
 clear h0 h1 h2 h3 h4 h5 h6 h7 h8 h9 h10 h11 h12 h13 h14 h15 h16 h17 h18 h19 h20 h21 h22 h23 h24 h25 h26 h27 h28 h29 h30 h31 h32 h33 h34 h35 h36 h37 h38 h39 h40 h41 h42 h43 h44 hsz
 obtain⟨u0,e0,k0⟩:=hrow 0 c0 rfl
 cases e0
 obtain⟨v0,rfl⟩:=zbx Tryz.underlying9 k0
 clear k0
 obtain⟨u1,e1,k1⟩:=hrow 1 c1 rfl
 cases e1
 obtain⟨v1,rfl⟩:=zbx Tryz.underlying9 k1
 clear k1
 obtain⟨u2,e2,k2⟩:=hrow 2 c2 rfl
 cases e2
 obtain⟨v2,rfl⟩:=zbx Tryz.underlying9 k2
 clear k2
 obtain⟨u3,e3,k3⟩:=hrow 3 c3 rfl
 cases e3
 obtain⟨v3,rfl⟩:=zaE yC k3
 clear k3
 obtain⟨u4,e4,k4⟩:=hrow 4 c4 rfl
 cases e4
 obtain⟨v4,rfl⟩:=zbx Tryz.underlying9 k4
 clear k4
 obtain⟨u5,e5,k5⟩:=hrow 5 c5 rfl
 cases e5
 obtain⟨v5,rfl⟩:=zaE yC k5
 clear k5
 obtain⟨u6,e6,k6⟩:=hrow 6 c6 rfl
 cases e6
 obtain⟨v6,rfl⟩:=zaE yC k6
 clear k6
 obtain⟨u7,e7,k7⟩:=hrow 7 c7 rfl
 cases e7
 obtain⟨v7,rfl⟩:=zaE yC k7
 clear k7
 obtain⟨u8,e8,k8⟩:=hrow 8 c8 rfl
 cases e8
 obtain⟨v8,rfl⟩:=zaE yC k8
 clear k8
 obtain⟨u9,e9,k9⟩:=hrow 9 c9 rfl
 cases e9
 obtain⟨v9,rfl⟩:=zaE yC k9
 clear k9
 obtain⟨u10,e10,k10⟩:=hrow 10 c10 rfl
 cases e10
 obtain⟨v10,rfl⟩:=zaE yC k10
 clear k10
 obtain⟨u11,e11,k11⟩:=hrow 11 c11 rfl
 cases e11
 obtain⟨v11,rfl⟩:=zaE yC k11
 clear k11
 obtain⟨u12,e12,k12⟩:=hrow 12 c12 rfl
 cases e12
 obtain⟨v12,rfl⟩:=zaE yC k12
 clear k12
 obtain⟨u13,e13,k13⟩:=hrow 13 c13 rfl
 cases e13
 obtain⟨v13,rfl⟩:=zaE yC k13
 clear k13
 obtain⟨u14,e14,k14⟩:=hrow 14 c14 rfl
 cases e14
 obtain⟨v14,rfl⟩:=zaE yC k14
 clear k14
 obtain⟨u15,e15,k15⟩:=hrow 15 c15 rfl
 cases e15
 obtain⟨q15,m15,d15,rfl,s15⟩:=zdq Tryz.underlying25 k15
 clear k15
 obtain⟨u16,e16,k16⟩:=hrow 16 c16 rfl
 cases e16
 obtain⟨v16,rfl⟩:=zbx Tryz.underlying9 k16
 clear k16
 obtain⟨u17,e17,k17⟩:=hrow 17 c17 rfl
 cases e17
 obtain⟨v17,rfl⟩:=zbx Tryz.underlying9 k17
 clear k17
 obtain⟨u18,e18,k18⟩:=hrow 18 c18 rfl
 cases e18
 obtain⟨v18,rfl⟩:=zbx Tryz.underlying9 k18
 clear k18
 obtain⟨u19,e19,k19⟩:=hrow 19 c19 rfl
 cases e19
 obtain⟨v19,rfl⟩:=zb8 Tryz.underlying4 k19
 clear k19
 obtain⟨u20,e20,k20⟩:=hrow 20 c20 rfl
 cases e20
 obtain⟨v20,rfl⟩:=zb8 Tryz.underlying4 k20
 clear k20
 obtain⟨u21,e21,k21⟩:=hrow 21 c21 rfl
 cases e21
 obtain⟨v21,rfl⟩:=zbx Tryz.underlying9 k21
 clear k21
 obtain⟨u22,e22,k22⟩:=hrow 22 c22 rfl
 cases e22
 obtain⟨q22,m22,d22,rfl,s22⟩:=zdq Tryz.underlying28 k22
 clear k22
 obtain⟨u23,e23,k23⟩:=hrow 23 c23 rfl
 cases e23
 obtain⟨v23,rfl⟩:=zb8 Tryz.underlying4 k23
 clear k23
 obtain⟨u24,e24,k24⟩:=hrow 24 c24 rfl
 cases e24
 obtain⟨v24,rfl⟩:=zb8 Tryz.underlying4 k24
 clear k24
 obtain⟨u25,e25,k25⟩:=hrow 25 c25 rfl
 cases e25
 obtain⟨v25,rfl⟩:=zbx Tryz.underlying9 k25
 clear k25
 obtain⟨u26,e26,k26⟩:=hrow 26 c26 rfl
 cases e26
 obtain⟨v26,rfl⟩:=zaE yC k26
 clear k26
 obtain⟨u27,e27,k27⟩:=hrow 27 c27 rfl
 cases e27
 obtain⟨v27,rfl⟩:=zbx Tryz.underlying9 k27
 clear k27
 obtain⟨u28,e28,k28⟩:=hrow 28 c28 rfl
 cases e28
 obtain⟨v28,rfl⟩:=zaE yC k28
 clear k28
 obtain⟨u29,e29,k29⟩:=hrow 29 c29 rfl
 cases e29
 obtain⟨v29,rfl⟩:=zaE yC k29
 clear k29
 obtain⟨u30,e30,k30⟩:=hrow 30 c30 rfl
 cases e30
 obtain⟨v30,rfl⟩:=zaE yC k30
 clear k30
 obtain⟨u31,e31,k31⟩:=hrow 31 c31 rfl
 cases e31
 obtain⟨v31,rfl⟩:=zaE yC k31
 clear k31
 obtain⟨u32,e32,k32⟩:=hrow 32 c32 rfl
 cases e32
 obtain⟨v32,rfl⟩:=zaE yC k32
 clear k32
 obtain⟨u33,e33,k33⟩:=hrow 33 c33 rfl
 cases e33
 obtain⟨v33,rfl⟩:=zaE yC k33
 clear k33
 obtain⟨u34,e34,k34⟩:=hrow 34 c34 rfl
 cases e34
 obtain⟨v34,rfl⟩:=zaE yC k34
 clear k34
 obtain⟨u35,e35,k35⟩:=hrow 35 c35 rfl
 cases e35
 obtain⟨v35,rfl⟩:=zaE yC k35
 clear k35
 obtain⟨u36,e36,k36⟩:=hrow 36 c36 rfl
 cases e36
 obtain⟨v36,rfl⟩:=zaE yC k36
 clear k36
 obtain⟨u37,e37,k37⟩:=hrow 37 c37 rfl
 cases e37
 obtain⟨v37,rfl⟩:=zaE yC k37
 clear k37
 obtain⟨u38,e38,k38⟩:=hrow 38 c38 rfl
 cases e38
 obtain⟨v38,rfl⟩:=zaE yC k38
 clear k38
 obtain⟨u39,e39,k39⟩:=hrow 39 c39 rfl
 cases e39
 obtain⟨v39,rfl⟩:=zaE yC k39
 clear k39
 obtain⟨u40,e40,k40⟩:=hrow 40 c40 rfl
 cases e40
 obtain⟨v40,rfl⟩:=zaE yC k40
 clear k40
 obtain⟨u41,e41,k41⟩:=hrow 41 c41 rfl
 cases e41
 obtain⟨v41,rfl⟩:=zbx Tryz.underlying9 k41
 clear k41
 obtain⟨u42,e42,k42⟩:=hrow 42 c42 rfl
 cases e42
 obtain⟨v42,rfl⟩:=zb8 Tryz.underlying4 k42
 clear k42
 obtain⟨u43,e43,k43⟩:=hrow 43 c43 rfl
 cases e43
 obtain⟨v43,rfl⟩:=zb8 Tryz.underlying4 k43
 clear k43
 obtain⟨u44,e44,k44⟩:=hrow 44 c44 rfl
 cases e44
 obtain⟨v44,rfl⟩:=zaE yC k44
 clear k44
 clear hrow
 obtain⟨fuel,ht⟩:=h
 obtain⟨xs,n,-,-,-,hxl,hf⟩:=DataW.trod_struct yA ht
 have g0:DataW.trod enc Tryz.prog W 0 sp held n 27 (List.take (Tryz.prog.cellsOf 27) (List.drop 0 _))=xs[0]?:=hf 0 _ rfl
 have g2:DataW.trod enc Tryz.prog W 0 sp held n 28 (List.take (Tryz.prog.cellsOf 28) (List.drop 22 _))=xs[2]?:=hf 2 _ rfl
 rw[zhO] at g0
 rw[zhP] at g2
 rw[List.getElem?_eq_getElem (by rw[hxl];decide)] at g0 g2
 obtain⟨ys,n2,-,-,-,hyl,hg⟩:=DataW.trod_struct yB g0
 have g5:DataW.trod enc Tryz.prog W 0 sp held n2 25 (List.take (Tryz.prog.cellsOf 25) (List.drop 15 _))=ys[5]?:=hg 5 _ rfl
 rw[zhN] at g5
 rw[List.getElem?_eq_getElem (by rw[hyl];decide)] at g5
 obtain⟨pl,hp⟩:=zib s15 g5
 obtain⟨hl,hh⟩:=zhU s22 g2
 exact⟨⟨⟨v0,v1,v2,⟨v3,v4,v5,⟨v6,v7,v8,v9,v10,v11,v12,v13⟩⟩,v14,pl,v16,v17,v18,v19,v20⟩,v21,hl,v23,⟨v24,v25,⟨v26,v27,v28,⟨v29,v30,v31,v32,v33,v34,v35,v36⟩⟩,v37⟩,v38,v39,v40,v41,v42,v43,v44⟩,_,_,rfl,hp,hh⟩
end
end Go.Proofs.YtdlkjofnnefjfaaGreatDoor
