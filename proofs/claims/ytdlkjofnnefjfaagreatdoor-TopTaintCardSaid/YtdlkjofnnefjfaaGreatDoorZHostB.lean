/- The walks of layer 7's hosts: what a host is behind its interface. The walks of layer 7's hosts: May, Parse. -/
import Derived.Test.YtdlkjofnnefjfaaGreatDoorZSixA
set_option linter.all false
namespace Go.Proofs.YtdlkjofnnefjfaaGreatDoor
set_option maxRecDepth 100000
section
open Go.RowKit
inductive HX where
 | dom (s:ByteArray)
 | num (n:Int)
 | pcs (p:Six)
 deriving DecidableEq
def HX.val:HX→Value
 | .dom s=>.iface 235 (.string s)
 | .num n=>.iface 236 (.int .i64 n)
 | .pcs p=>.iface 238 (.agg (sixC p))
def HX.host:HX→Host
 | .dom s=>⟨1,s,0,six0⟩
 | .num n=>⟨2,⟨#[]⟩,n,six0⟩
 | .pcs p=>⟨3,⟨#[]⟩,0,p⟩
@[go_sem] theorem as235_235 (s:ByteArray) (w:World):(Instr.typeAssert (.iface 235 (.string s)) 167 235 true).run Tryz.prog w=.ok (.tuple #[.string s,.bool true]) w:=by kernel_rfl
@[go_sem] theorem as235_236 (s:ByteArray) (w:World):(Instr.typeAssert (.iface 235 (.string s)) 167 236 true).run Tryz.prog w=.ok (.tuple #[.int .i64 0,.bool false]) w:=by kernel_rfl
@[go_sem] theorem as235_238 (s:ByteArray) (w:World):(Instr.typeAssert (.iface 235 (.string s)) 167 238 true).run Tryz.prog w=.ok (.tuple #[.agg (sixC six0),.bool false]) w:=by kernel_rfl
@[go_sem] theorem as236_235 (n:Int) (w:World):(Instr.typeAssert (.iface 236 (.int .i64 n)) 167 235 true).run Tryz.prog w=.ok (.tuple #[.string ⟨#[]⟩,.bool false]) w:=by kernel_rfl
@[go_sem] theorem as236_236 (n:Int) (w:World):(Instr.typeAssert (.iface 236 (.int .i64 n)) 167 236 true).run Tryz.prog w=.ok (.tuple #[.int .i64 n,.bool true]) w:=by kernel_rfl
@[go_sem] theorem as236_238 (n:Int) (w:World):(Instr.typeAssert (.iface 236 (.int .i64 n)) 167 238 true).run Tryz.prog w=.ok (.tuple #[.agg (sixC six0),.bool false]) w:=by kernel_rfl
@[go_sem] theorem as238_235 (cs:Array Value) (w:World):(Instr.typeAssert (.iface 238 (.agg cs)) 167 235 true).run Tryz.prog w=.ok (.tuple #[.string ⟨#[]⟩,.bool false]) w:=by kernel_rfl
@[go_sem] theorem as238_236 (cs:Array Value) (w:World):(Instr.typeAssert (.iface 238 (.agg cs)) 167 236 true).run Tryz.prog w=.ok (.tuple #[.int .i64 0,.bool false]) w:=by kernel_rfl
@[go_sem] theorem as238_238 (cs:Array Value) (w:World):(Instr.typeAssert (.iface 238 (.agg cs)) 167 238 true).run Tryz.prog w=.ok (.tuple #[.agg cs,.bool true]) w:=by kernel_rfl
@[go_sem] theorem asnil_235 (w:World):(Instr.typeAssert .nilIface 167 235 true).run Tryz.prog w=.ok (.tuple #[.string ⟨#[]⟩,.bool false]) w:=by kernel_rfl
@[go_sem] theorem asnil_236 (w:World):(Instr.typeAssert .nilIface 167 236 true).run Tryz.prog w=.ok (.tuple #[.int .i64 0,.bool false]) w:=by kernel_rfl
@[go_sem] theorem asnil_238 (w:World):(Instr.typeAssert .nilIface 167 238 true).run Tryz.prog w=.ok (.tuple #[.agg (sixC six0),.bool false]) w:=by kernel_rfl
set_option maxHeartbeats 1000000 in
theorem host_dom (s:ByteArray) (w:World) :
  Calls Tryz.prog 176 #[.iface 235 (.string s)] w fun e w'=>e=.returned (.agg (hostC (HX.host (.dom s))))∧Below w.heap.size w w':=by
 go_enter Tryz.func176,Tryz.ntmps176
 go_wp2
 exact bodyPost_ret (results_cell_row rfl _ _ _ _ _ (0,0) _ rfl (by first|exact row1 _ _|exact row2a _ _ _) Tryz.underlying24 rfl (by kernel_rfl)) rfl ⟨rfl,by first|exact bel1 _ _|exact bel2 _ _ _|exact Below.refl _ _⟩
set_option maxHeartbeats 1000000 in
theorem host_num (n:Int) (w:World) :
  Calls Tryz.prog 176 #[.iface 236 (.int .i64 n)] w fun e w'=>e=.returned (.agg (hostC (HX.host (.num n))))∧Below w.heap.size w w':=by
 go_enter Tryz.func176,Tryz.ntmps176
 go_wp2
 exact bodyPost_ret (results_cell_row rfl _ _ _ _ _ (0,0) _ rfl (by first|exact row1 _ _|exact row2a _ _ _) Tryz.underlying24 rfl (by kernel_rfl)) rfl ⟨rfl,by first|exact bel1 _ _|exact bel2 _ _ _|exact Below.refl _ _⟩
set_option maxHeartbeats 1000000 in
theorem host_pcs (p:Six) (w:World) :
  Calls Tryz.prog 176 #[.iface 238 (.agg (sixC p))] w fun e w'=>e=.returned (.agg (hostC (HX.host (.pcs p))))∧Below w.heap.size w w':=by
 obtain⟨p0,p1,p2,p3,p4,p5,p6,p7⟩:=p
 go_enter Tryz.func176,Tryz.ntmps176
 go_wp2
 exact bodyPost_ret (results_cell_row rfl _ _ _ _ _ (0,0) _ rfl (by first|exact row1 _ _|exact row2a _ _ _) Tryz.underlying24 rfl (by kernel_rfl)) rfl ⟨rfl,by first|exact bel1 _ _|exact bel2 _ _ _|exact Below.refl _ _⟩
def ofH (h:Host):Option HX :=
 if h.kind=1 then (if fitsB h.name=true∧(HX.dom h.name).host=h then some (.dom h.name) else none)
 else if h.kind=2 then (if inFour h.num=true∧(HX.num h.num).host=h then some (.num h.num) else none)
 else if h.kind=3 then (if sixMay h.six=true∧(HX.pcs h.six).host=h then some (.pcs h.six) else none)
 else none
def valX:Option HX→Value
 | none=>.nilIface
 | some x=>x.val
theorem fourShow_outB (n:Int) (w:World) (h:inFour n=false) :
  Calls Tryz.prog 174 #[.int .i64 n] w fun e w'=>e=.returned (.string ⟨#[]⟩)∧Below w.heap.size w w' :=
 (fourShow_out n w h).mono fun e w' ⟨he,hw⟩=>⟨he,hw ▸ Below.refl _ _⟩
set_option maxHeartbeats 1000000 in
theorem of_dom (h:Host) (w:World) (G:Glob w) (hs:h.name.size≤1000000) (hk:h.kind=1) :
  Calls Tryz.prog 117 #[.agg (hostC h)] w fun e w'=>e=.returned (valX (ofH h))∧Below w.heap.size w w':=by
 have HE:Hid (ofH h=if fitsB h.name=true∧(HX.dom h.name).host=h then some (.dom h.name) else none):=by show _=_;unfold ofH;simp only[hk];rfl
 obtain⟨o,ho⟩:∃ o,o=ofH h:=⟨_,rfl⟩
 rw[← ho] at HE ⊢
 clear ho
 obtain⟨k,n,m,⟨p0,p1,p2,p3,p4,p5,p6,p7⟩⟩:=h
 subst hk
 have HF:=fun w'=>Lib.hid (fun (G':Glob w')=>fits_any n w' G' hs)
 obtain⟨b,hb⟩:∃ b,b=fitsB n:=⟨_,rfl⟩
 rw[← hb] at HE HF
 clear hb
 cases b with
 | false =>
  have HN:Hid (o=none):=by show _=_;rw[HE.out];simp
  clear HE
  go_enter Tryz.func117,Tryz.ntmps117
  go_wp2_with fail
  refine((HF _).out (G.below (by first|exact bel1 _ _|exact bel2 _ _ _|exact Below.refl _ _))).mono ?_
  rintro e w1 ⟨rfl,b1⟩
  have hq:=((b1.block w.heap.size (by simp)).trans (heap_alloc_new _ _))
  have hz:w.heap.size < w1.heap.size:=by have:=b1.size;simp at this;omega
  have hB:Below w.heap.size w w1:=Below.trans (b:=w.alloc (.cells (hostC ⟨1,n,m,⟨p0,p1,p2,p3,p4,p5,p6,p7⟩⟩) 24 (0,0))) (by first|exact bel1 _ _|exact bel2 _ _ _|exact Below.refl _ _) (b1.mono (by simp))
  clear b1
  obtain⟨c0,c1,c2,c3,c4,c5,c6,c7,c8,c9,c10⟩:=host_cells hq
  go_wp2
  go_quiet (fail)
  all_goals
   go_wp2
   go_ret
   exact⟨by rw[HN.out];rfl,by first|exact hB|exact hB.trans ((below_drewN _ _).mono (Nat.le_of_lt hz))⟩
 | true =>
  have HR:∀ w',Hid (Calls Tryz.prog 176 #[.iface 235 (.string n)] w' fun e w''=>e=.returned (.agg #[.int .i64 1,.string n,.int .i64 0,.int .i64 0,.int .i64 0,.int .i64 0,.int .i64 0,.int .i64 0,.int .i64 0,.int .i64 0,.int .i64 0])∧Below w'.heap.size w' w''):=fun w'=>host_dom _ w'
  obtain⟨c,hc⟩:∃ c,c=decide ((⟨1,n,0,⟨0,0,0,0,0,0,0,0⟩⟩:Host)=⟨1,n,m,⟨p0,p1,p2,p3,p4,p5,p6,p7⟩⟩):=⟨_,rfl⟩
  have hE:=fun w'=>eqH w' 1 1 0 m n n 0 0 0 0 0 0 0 0 p0 p1 p2 p3 p4 p5 p6 p7
  rw[← hc] at hE
  have HO:Hid (o=if c=true then some (.dom n) else none):=by
   show _=_;rw[HE.out,hc];simp only[HX.host,six0,decide_eq_true_eq,true_and]
  clear hc HE
  go_enter Tryz.func117,Tryz.ntmps117
  go_wp2_with fail
  refine((HF _).out (G.below (by first|exact bel1 _ _|exact bel2 _ _ _|exact Below.refl _ _))).mono ?_
  rintro e w1 ⟨rfl,b1⟩
  have hq:=((b1.block w.heap.size (by simp)).trans (heap_alloc_new _ _))
  have hz:w.heap.size < w1.heap.size:=by have:=b1.size;simp at this;omega
  have hB:Below w.heap.size w w1:=Below.trans (b:=w.alloc (.cells (hostC ⟨1,n,m,⟨p0,p1,p2,p3,p4,p5,p6,p7⟩⟩) 24 (0,0))) (by first|exact bel1 _ _|exact bel2 _ _ _|exact Below.refl _ _) (b1.mono (by simp))
  clear b1
  obtain⟨c0,c1,c2,c3,c4,c5,c6,c7,c8,c9,c10⟩:=host_cells hq
  go_wp2
  go_region_with (go_at_call 176;refine((HR _).out).mono ?_;rintro e w2 ⟨rfl,b2⟩;obtain⟨d0,d1,d2,d3,d4,d5,d6,d7,d8,d9,d10⟩:=host_cells ((b2.block w.heap.size hz).trans hq))
  all_goals
   cases c with
   | false =>
    go_wp2
    go_ret
    exact⟨by rw[HO.out];rfl,hB.trans ((Below.refl _ _).drew.trans (b2.mono (Nat.le_of_lt hz)))⟩
   | true =>
    go_wp2
    go_ret
    exact⟨by rw[HO.out];rfl,hB.trans ((Below.refl _ _).drew.trans (b2.mono (Nat.le_of_lt hz)))⟩
set_option maxHeartbeats 1000000 in
theorem of_num (h:Host) (w:World) (G:Glob w) (hk:h.kind=2) :
  Calls Tryz.prog 117 #[.agg (hostC h)] w fun e w'=>e=.returned (valX (ofH h))∧Below w.heap.size w w':=by
 have HE:Hid (ofH h=if inFour h.num=true∧(HX.num h.num).host=h then some (.num h.num) else none):=by show _=_;unfold ofH;simp only[hk];rfl
 obtain⟨o,ho⟩:∃ o,o=ofH h:=⟨_,rfl⟩
 rw[← ho] at HE ⊢
 clear ho
 obtain⟨k,n,m,⟨p0,p1,p2,p3,p4,p5,p6,p7⟩⟩:=h
 subst hk
 obtain⟨b,hb⟩:∃ b,b=inFour m:=⟨_,rfl⟩
 have HE:Hid (o=if b=true∧(HX.num m).host=⟨2,n,m,⟨p0,p1,p2,p3,p4,p5,p6,p7⟩⟩ then some (.num m) else none):=by show _=_;rw[HE.out,hb]
 replace hb:=Lib.hid hb
 cases b with
 | false =>
  have HN:Hid (o=none):=by show _=_;rw[HE.out];simp
  clear HE
  go_enter Tryz.func117,Tryz.ntmps117
  go_wp2_with fail
  refine(fourShow_outB m _ hb.out.symm).mono ?_
  rintro e w1 ⟨rfl,b1⟩
  have hq:=((b1.block w.heap.size (by simp)).trans (heap_alloc_new _ _))
  have hz:w.heap.size < w1.heap.size:=by have:=b1.size;simp at this;omega
  have hB:Below w.heap.size w w1:=Below.trans (b:=w.alloc (.cells (hostC ⟨2,n,m,⟨p0,p1,p2,p3,p4,p5,p6,p7⟩⟩) 24 (0,0))) (by first|exact bel1 _ _|exact bel2 _ _ _|exact Below.refl _ _) (b1.mono (by simp))
  clear b1
  obtain⟨c0,c1,c2,c3,c4,c5,c6,c7,c8,c9,c10⟩:=host_cells hq
  go_wp2
  go_quiet (fail)
  all_goals
   go_wp2
   go_ret
   exact⟨by rw[HN.out];rfl,by first|exact hB|exact hB.trans ((below_drewN _ _).mono (Nat.le_of_lt hz))⟩
 | true =>
  have HR:∀ w',Hid (Calls Tryz.prog 176 #[.iface 236 (.int .i64 m)] w' fun e w''=>e=.returned (.agg #[.int .i64 2,.string ⟨#[]⟩,.int .i64 m,.int .i64 0,.int .i64 0,.int .i64 0,.int .i64 0,.int .i64 0,.int .i64 0,.int .i64 0,.int .i64 0])∧Below w'.heap.size w' w''):=fun w'=>host_num _ w'
  obtain⟨c,hc⟩:∃ c,c=decide ((⟨2,⟨#[]⟩,m,⟨0,0,0,0,0,0,0,0⟩⟩:Host)=⟨2,n,m,⟨p0,p1,p2,p3,p4,p5,p6,p7⟩⟩):=⟨_,rfl⟩
  have hE:=fun w'=>eqH w' 2 2 m m ⟨#[]⟩ n 0 0 0 0 0 0 0 0 p0 p1 p2 p3 p4 p5 p6 p7
  rw[← hc] at hE
  have HO:Hid (o=if c=true then some (.num m) else none):=by
   show _=_;rw[HE.out,hc];simp only[HX.host,six0,decide_eq_true_eq,true_and]
  clear hc HE
  go_enter Tryz.func117,Tryz.ntmps117
  go_wp2_with fail
  have h0:0≤m:=by have hb:=hb.out;unfold inFour at hb;simp at hb;omega
  have h1:m≤4294967295:=by have hb:=hb.out;unfold inFour at hb;simp at hb;omega
  refine(fourShow_in m _ h0 h1).mono ?_
  rintro e w1 ⟨⟨t,rfl,t1,t2⟩,b1⟩
  have he:t.toList.isEmpty=false:=empty_no (by omega)
  have h0':=Lib.hid h0
  clear h0 h1 t1 t2
  have hq:=((b1.block w.heap.size (by simp)).trans (heap_alloc_new _ _))
  have hz:w.heap.size < w1.heap.size:=by have:=b1.size;simp at this;omega
  have hB:Below w.heap.size w w1:=Below.trans (b:=w.alloc (.cells (hostC ⟨2,n,m,⟨p0,p1,p2,p3,p4,p5,p6,p7⟩⟩) 24 (0,0))) (by first|exact bel1 _ _|exact bel2 _ _ _|exact Below.refl _ _) (b1.mono (by simp))
  clear b1
  obtain⟨c0,c1,c2,c3,c4,c5,c6,c7,c8,c9,c10⟩:=host_cells hq
  go_wp2
  go_region_with (go_at_call 176;refine((HR _).out).mono ?_;rintro e w2 ⟨rfl,b2⟩;obtain⟨d0,d1,d2,d3,d4,d5,d6,d7,d8,d9,d10⟩:=host_cells ((b2.block w.heap.size hz).trans hq))
  all_goals
   cases c with
   | false =>
    go_wp2
    go_ret
    exact⟨by rw[HO.out];rfl,hB.trans ((Below.refl _ _).drew.trans (b2.mono (Nat.le_of_lt hz)))⟩
   | true =>
    go_wp2
    go_ret
    exact⟨by rw[HO.out];rfl,hB.trans ((Below.refl _ _).drew.trans (b2.mono (Nat.le_of_lt hz)))⟩
set_option maxHeartbeats 1000000 in
theorem of_pcs (h:Host) (w:World) (G:Glob w) (hk:h.kind=3) :
  Calls Tryz.prog 117 #[.agg (hostC h)] w fun e w'=>e=.returned (valX (ofH h))∧Below w.heap.size w w':=by
 have HE:Hid (ofH h=if sixMay h.six=true∧(HX.pcs h.six).host=h then some (.pcs h.six) else none):=by show _=_;unfold ofH;simp only[hk];rfl
 obtain⟨o,ho⟩:∃ o,o=ofH h:=⟨_,rfl⟩
 rw[← ho] at HE ⊢
 clear ho
 obtain⟨k,n,m,⟨p0,p1,p2,p3,p4,p5,p6,p7⟩⟩:=h
 subst hk
 have HF:∀ w',Hid (Calls Tryz.prog 175 #[.agg #[.int .i64 p0,.int .i64 p1,.int .i64 p2,.int .i64 p3,.int .i64 p4,.int .i64 p5,.int .i64 p6,.int .i64 p7]] w' fun e w''=>e=.returned (.bool (sixMay ⟨p0,p1,p2,p3,p4,p5,p6,p7⟩))∧Below w'.heap.size w' w''):=fun w'=>sixMay_any ⟨p0,p1,p2,p3,p4,p5,p6,p7⟩ w'
 obtain⟨b,hb⟩:∃ b,b=sixMay ⟨p0,p1,p2,p3,p4,p5,p6,p7⟩:=⟨_,rfl⟩
 have HE:Hid (o=if b=true∧(HX.pcs ⟨p0,p1,p2,p3,p4,p5,p6,p7⟩).host=⟨3,n,m,⟨p0,p1,p2,p3,p4,p5,p6,p7⟩⟩ then some (.pcs ⟨p0,p1,p2,p3,p4,p5,p6,p7⟩) else none):=by show _=_;rw[HE.out,hb]
 rw[← hb] at HF
 clear hb
 cases b with
 | false =>
  have HN:Hid (o=none):=by show _=_;rw[HE.out];simp
  clear HE
  go_enter Tryz.func117,Tryz.ntmps117
  go_wp2_with fail
  refine((HF _).out).mono ?_
  rintro e w1 ⟨rfl,b1⟩
  have hq:=((b1.block w.heap.size (by simp)).trans (heap_alloc_new _ _))
  have hz:w.heap.size < w1.heap.size:=by have:=b1.size;simp at this;omega
  have hB:Below w.heap.size w w1:=Below.trans (b:=w.alloc (.cells (hostC ⟨3,n,m,⟨p0,p1,p2,p3,p4,p5,p6,p7⟩⟩) 24 (0,0))) (by first|exact bel1 _ _|exact bel2 _ _ _|exact Below.refl _ _) (b1.mono (by simp))
  clear b1
  obtain⟨c0,c1,c2,c3,c4,c5,c6,c7,c8,c9,c10⟩:=host_cells hq
  go_wp2
  go_quiet (fail)
  all_goals
   go_wp2
   go_ret
   exact⟨by rw[HN.out];rfl,by first|exact hB|exact hB.trans ((below_drewN _ _).mono (Nat.le_of_lt hz))⟩
 | true =>
  have HR:∀ w',Hid (Calls Tryz.prog 176 #[.iface 238 (.agg #[.int .i64 p0,.int .i64 p1,.int .i64 p2,.int .i64 p3,.int .i64 p4,.int .i64 p5,.int .i64 p6,.int .i64 p7])] w' fun e w''=>e=.returned (.agg #[.int .i64 3,.string ⟨#[]⟩,.int .i64 0,.int .i64 p0,.int .i64 p1,.int .i64 p2,.int .i64 p3,.int .i64 p4,.int .i64 p5,.int .i64 p6,.int .i64 p7])∧Below w'.heap.size w' w''):=fun w'=>host_pcs ⟨p0,p1,p2,p3,p4,p5,p6,p7⟩ w'
  obtain⟨c,hc⟩:∃ c,c=decide ((⟨3,⟨#[]⟩,0,⟨p0,p1,p2,p3,p4,p5,p6,p7⟩⟩:Host)=⟨3,n,m,⟨p0,p1,p2,p3,p4,p5,p6,p7⟩⟩):=⟨_,rfl⟩
  have hE:=fun w'=>eqH w' 3 3 0 m ⟨#[]⟩ n p0 p1 p2 p3 p4 p5 p6 p7 p0 p1 p2 p3 p4 p5 p6 p7
  rw[← hc] at hE
  have HO:Hid (o=if c=true then some (.pcs ⟨p0,p1,p2,p3,p4,p5,p6,p7⟩) else none):=by
   show _=_;rw[HE.out,hc];simp only[HX.host,six0,decide_eq_true_eq,true_and]
  clear hc HE
  go_enter Tryz.func117,Tryz.ntmps117
  go_wp2_with fail
  refine((HF _).out).mono ?_
  rintro e w1 ⟨rfl,b1⟩
  have hq:=((b1.block w.heap.size (by simp)).trans (heap_alloc_new _ _))
  have hz:w.heap.size < w1.heap.size:=by have:=b1.size;simp at this;omega
  have hB:Below w.heap.size w w1:=Below.trans (b:=w.alloc (.cells (hostC ⟨3,n,m,⟨p0,p1,p2,p3,p4,p5,p6,p7⟩⟩) 24 (0,0))) (by first|exact bel1 _ _|exact bel2 _ _ _|exact Below.refl _ _) (b1.mono (by simp))
  clear b1
  obtain⟨c0,c1,c2,c3,c4,c5,c6,c7,c8,c9,c10⟩:=host_cells hq
  go_wp2
  go_region_with (go_at_call 176;refine((HR _).out).mono ?_;rintro e w2 ⟨rfl,b2⟩;obtain⟨d0,d1,d2,d3,d4,d5,d6,d7,d8,d9,d10⟩:=host_cells ((b2.block w.heap.size hz).trans hq))
  all_goals
   cases c with
   | false =>
    go_wp2
    go_ret
    exact⟨by rw[HO.out];rfl,hB.trans ((Below.refl _ _).drew.trans (b2.mono (Nat.le_of_lt hz)))⟩
   | true =>
    go_wp2
    go_ret
    exact⟨by rw[HO.out];rfl,hB.trans ((Below.refl _ _).drew.trans (b2.mono (Nat.le_of_lt hz)))⟩
set_option maxHeartbeats 1000000 in
theorem of_none (h:Host) (w:World) (h1:h.kind≠1) (h2:h.kind≠2) (h3:h.kind≠3) :
  Calls Tryz.prog 117 #[.agg (hostC h)] w fun e w'=>e=.returned .nilIface∧Below w.heap.size w w':=by
 obtain⟨k,n,m,⟨p0,p1,p2,p3,p4,p5,p6,p7⟩⟩:=h
 have e1:((k:Int) == 1)=false:=by rw[beq_eq_false_iff_ne];exact h1
 have e2:((k:Int) == 2)=false:=by rw[beq_eq_false_iff_ne];exact h2
 have e3:((k:Int) == 3)=false:=by rw[beq_eq_false_iff_ne];exact h3
 clear h1 h2 h3
 go_enter Tryz.func117,Tryz.ntmps117
 go_wp2
 go_quiet (fail)
 all_goals
  go_wp2
  go_ret
  exact⟨rfl,Below.trans (b:=w.alloc (.cells (hostC ⟨k,n,m,⟨p0,p1,p2,p3,p4,p5,p6,p7⟩⟩) 24 (0,0))) (by first|exact bel1 _ _|exact bel2 _ _ _|exact Below.refl _ _) ((below_drewN _ _).mono (by simp))⟩
theorem of_any (h:Host) (w:World) (G:Glob w) (hs:h.name.size≤1000000) :
  Calls Tryz.prog 117 #[.agg (hostC h)] w fun e w'=>e=.returned (valX (ofH h))∧Below w.heap.size w w':=by
 by_cases h1:h.kind=1
 ·exact of_dom h w G hs h1
 ·by_cases h2:h.kind=2
  ·exact of_num h w G h2
  ·by_cases h3:h.kind=3
   ·exact of_pcs h w G h3
   ·have HE:ofH h=none:=by unfold ofH;rw[if_neg h1,if_neg h2,if_neg h3]
    rw[HE]
    exact of_none h w h1 h2 h3
end
section
open Go.RowKit
def mayH (h:Host):Bool:=(ofH h).isSome
theorem hmay_any (h:Host) (w:World) (G:Glob w) (hs:h.name.size≤1000000) :
  Calls Tryz.prog 73 #[.agg (hostC h)] w fun e w'=>e=.returned (.bool (mayH h))∧Below w.heap.size w w':=by
 have HF:=fun w'=>Lib.hid (fun (G':Glob w')=>of_any h w' G' hs)
 have HE:Hid (mayH h=(ofH h).isSome):=rfl
 obtain⟨o,ho⟩:∃ o,o=ofH h:=⟨_,rfl⟩
 obtain⟨b,hb⟩:∃ b,b=mayH h:=⟨_,rfl⟩
 rw[← ho] at HF HE
 rw[← hb] at HE ⊢
 clear ho hb
 obtain⟨k,n,m,⟨p0,p1,p2,p3,p4,p5,p6,p7⟩⟩:=h
 have HB:=fun w1=>Lib.hid (fun (b1:Below (w.alloc (.cells (hostC ⟨k,n,m,⟨p0,p1,p2,p3,p4,p5,p6,p7⟩⟩) 24 (0,0))).heap.size (w.alloc (.cells (hostC ⟨k,n,m,⟨p0,p1,p2,p3,p4,p5,p6,p7⟩⟩) 24 (0,0))) w1)=>(Below.trans (b:=w.alloc (.cells (hostC ⟨k,n,m,⟨p0,p1,p2,p3,p4,p5,p6,p7⟩⟩) 24 (0,0))) (by first|exact bel1 _ _|exact bel2 _ _ _|exact Below.refl _ _) (b1.mono (by simp)):Below w.heap.size w w1))
 cases o with
 | none =>
  go_enter Tryz.func73,Tryz.ntmps73
  go_wp2_with fail
  refine((HF _).out (G.below (by first|exact bel1 _ _|exact bel2 _ _ _|exact Below.refl _ _))).mono ?_
  rintro e w1 ⟨rfl,b1⟩
  simp only[valX]
  go_wp2
  go_ret
  exact⟨ret_bool (by rw[HE.out];rfl),(HB _).out b1⟩
 | some x =>
  cases x <;>
  ·go_enter Tryz.func73,Tryz.ntmps73
   go_wp2_with fail
   refine((HF _).out (G.below (by first|exact bel1 _ _|exact bel2 _ _ _|exact Below.refl _ _))).mono ?_
   rintro e w1 ⟨rfl,b1⟩
   simp only[valX,HX.val]
   go_wp2
   go_ret
   exact⟨ret_bool (by rw[HE.out];rfl),(HB _).out b1⟩
end
end Go.Proofs.YtdlkjofnnefjfaaGreatDoor
