/- The walk of layer 9's door: a host and a port into an address, or a panic: for every text of at most 300000 bytes. -/
import Derived.Test.YtdlkjofnnefjfaaGreatDoorZPathA
set_option linter.all false
namespace Go.Proofs.YtdlkjofnnefjfaaGreatDoor
set_option maxRecDepth 100000
open Go.RowKit
def dFrom (s:ByteArray):Nat:=if Lib.hasPrefix s.data.toList [91]=true then (Lib.indexByte s.data.toList 93).toNat else 0
def dIdx (s:ByteArray):Int:=Lib.indexByte (s.extract (dFrom s) s.size).data.toList 58
def dName (s:ByteArray):ByteArray:=if 0≤dIdx s then s.extract 0 (dFrom s + (dIdx s).toNat) else s
def dPort (s:ByteArray):ByteArray:=if 0≤dIdx s then s.extract (dFrom s + (dIdx s).toNat + 1) s.size else ⟨#[]⟩
def doorX (sc s:ByteArray):Option (Host×Option Int) :=
 match hostX (dName s) with
 | none=>none
 | some x=>if (dPort s).size=0 then some (x.host,none) else if Deci.readOK (dPort s).data.toList 65535=true then some (x.host,if Deci.readN (dPort s).data.toList 65535=webP sc then none else some (Deci.readN (dPort s).data.toList 65535)) else none
theorem indexByte_le:∀ (l:List UInt8) (c:UInt8),-1≤Lib.indexByte l c∧Lib.indexByte l c < l.length
 | [],c=>by simp[Lib.indexByte]
 | b::l,c=>by
  have:=indexByte_le l c
  unfold Lib.indexByte
  split
  ·simp
  ·split
   ·simp;omega
   ·simp;omega
def setAll (cur:Array Value) (o:Nat):List Value→Array Value
 | []=>cur
 | v::vs=>setAll (cur.setIfInBounds o v) (o + 1) vs
theorem setCells_row (b:Nat) (t:TypeId):∀ (vs:List Value) (o:Nat) (w:World) (cur:Array Value),w.heap[b]? = some (.cells cur t (0,0))→(w.setCells b o vs).heap[b]? = some (.cells (setAll cur o vs) t (0,0))
 | [],o,w,cur,h=>h
 | v::vs,o,w,cur,h=>setCells_row b t vs (o + 1) _ _ (heap_setCell_same w b o cur t v h)
theorem setCells_below (B b:Nat) (hB:B≤b):∀ (vs:List Value) (o:Nat) (w0 w:World),Below B w0 w→Below B w0 (w.setCells b o vs)
 | [],o,w0,w,h=>h
 | v::vs,o,w0,w,h=>setCells_below B b hB vs (o + 1) _ _ (h.setCell (p:=⟨b,o,none⟩) hB v)
theorem there_row {w:World} {b o n:Nat} {t:TypeId} {cur:Array Value} (h:w.heap[b]? = some (.cells cur t (0,0))) (hn:o + n≤cur.size):w.there b o n:=by
 intro j hj
 have hk:o + j < cur.size:=by omega
 refine⟨?_,Lib.frozen_of_heap h _⟩
 rw[Lib.cell_of_heap h]
 simp[hk]
theorem setAll_host (u:Url) (pv:Value) (hk hm p0 p1 p2 p3 p4 p5 p6 p7:Int) (hn:ByteArray) :
  setAll (urlC u pv) 3 [.int .i64 hk,.string hn,.int .i64 hm,.int .i64 p0,.int .i64 p1,.int .i64 p2,.int .i64 p3,.int .i64 p4,.int .i64 p5,.int .i64 p6,.int .i64 p7]=urlC { u with host:=⟨hk,hn,hm,⟨p0,p1,p2,p3,p4,p5,p6,p7⟩⟩ } pv:=by
 simp[setAll,urlC]
theorem set_port (u:Url) (pv:Value) (n:Int):(urlC u pv).setIfInBounds 14 (.int .i64 n)=urlC { u with port:=n } pv:=by simp[urlC]
def setDoor (u:Url) (d:Host×Option Int):Url:={ u with host:=d.1,port:=d.2.getD u.port }
def DoorLeft (ub:Nat) (u:Url) (pv:Value) (d:Option (Host×Option Int)) (w:World) (e:Ending) (w':World):Prop :=
 Below ub w w'∧match d with
  | none=>e=.panicked wrongE
  | some d=>e=.returned (.tuple #[])∧w'.heap[ub]? = some (.cells (urlC (setDoor u d) pv) 27 (0,0))
set_option maxHeartbeats 4000000 in
theorem door_yy (ub:Nat) (u:Url) (pv:Value) (s:ByteArray) (w:World) (G:Glob w) (hu:w.heap[ub]? = some (.cells (urlC u pv) 27 (0,0))) (hs:s.size≤300000) (h6:6≤ub) (hc1:Lib.hasPrefix s.data.toList [91]=true) (hc2:0≤dIdx s) :
  Calls Tryz.prog 102 #[.pointer (some ⟨ub,0,none⟩),.string s] w (DoorLeft ub u pv (doorX u.scheme s) w):=by
 have HB:∀ w',Hid (Calls Tryz.prog 155 #[.string s,.string ⟨#[91]⟩] w' fun e w''=>e=.returned (.bool (Lib.hasPrefix s.data.toList [91]))∧w'=w''):=fun w'=>hasPrefix_any s ⟨#[91]⟩ w'
 have H93:∀ w',Hid (Calls Tryz.prog 100 #[.string s,.int .u8 93] w' fun e w''=>e=.returned (.int .i64 (Lib.indexByte s.data.toList 93))∧w'=w''):=fun w'=>indexByte_any s 93 w'
 have hle:=indexByte_le s.data.toList 93
 rw[size_len] at hle
 have hfr:dFrom s≤s.size:=by unfold dFrom;split <;> omega
 have H58:∀ w',Hid (Calls Tryz.prog 100 #[.string (s.extract (dFrom s) s.size),.int .u8 58] w' fun e w''=>e=.returned (.int .i64 (dIdx s))∧w'=w''):=fun w'=>indexByte_any (s.extract (dFrom s) s.size) 58 w'
 have hle2:-1≤dIdx s∧dIdx s < (s.size:Int) - dFrom s:=by
  have:=indexByte_le (s.extract (dFrom s) s.size).data.toList 58
  rw[size_len,ByteArray.size_extract] at this
  unfold dIdx
  refine⟨this.1,?_⟩
  have h2:=this.2
  omega
 have HF:Hid (dFrom s=_):=dFrom.eq_1 s
 have HNM:Hid (dName s=_):=dName.eq_1 s
 have HPT:Hid (dPort s=_):=dPort.eq_1 s
 obtain⟨fr,hfr'⟩:∃ fr,fr=dFrom s:=⟨_,rfl⟩
 obtain⟨ix,hix⟩:∃ ix,ix=dIdx s:=⟨_,rfl⟩
 obtain⟨i9,hi9⟩:∃ i9,i9=Lib.indexByte s.data.toList 93:=⟨_,rfl⟩
 obtain⟨pb,hpb⟩:∃ pb,pb=Lib.hasPrefix s.data.toList [91]:=⟨_,rfl⟩
 simp only[← hfr',← hix,← hi9,← hpb] at HB H93 hle hfr H58 hle2 HF HNM HPT
 have HDX:Hid (doorX u.scheme s=_):=doorX.eq_1 u.scheme s
 obtain⟨d,hd⟩:∃ d,d=doorX u.scheme s:=⟨_,rfl⟩
 rw[← hd] at HDX ⊢
 clear hd
 have h0:0≤ix:=by rw[hix];exact hc2
 rw[hc1] at hpb
 subst hpb
 clear hfr' hix hi9 hc1 hc2
 have hf0:fr=i9.toNat:=HF.out
 have hmx:max (0:Int) i9=(fr:Int):=by omega
 have hfs:(fr:Int)≤(s.size:Int):=by omega
 clear hf0
 obtain⟨k,rfl⟩:∃ k:Nat,ix=(k:Int):=⟨ix.toNat,by omega⟩
 obtain⟨q,hq⟩:∃ q,q=fr + k:=⟨_,rfl⟩
 obtain⟨q1,hq1⟩:∃ q1,q1=q + 1:=⟨_,rfl⟩
 have e0:(fr:Int) + (k:Int)=(q:Int):=by omega
 have e5:(q:Int) + 1=(q1:Int):=by omega
 have e1:IntKind.i64.wrap ((fr:Int) + (k:Int))=(q:Int):=by rw[IntKind.wrap_i64];omega
 have e2:IntKind.i64.wrap ((q:Int) + 1)=(q1:Int):=by rw[IntKind.wrap_i64];omega
 have e6:IntKind.i64.wrap (q:Int)=(q:Int):=by rw[IntKind.wrap_i64];omega
 have e7:IntKind.i64.wrap (q1:Int)=(q1:Int):=by rw[IntKind.wrap_i64];omega
 have e3:(q:Int)≤(s.size:Int):=by omega
 have e4:(q1:Int)≤(s.size:Int):=by omega
 have HT:Hid (dName s=s.extract 0 q):=by show _=_;rw[HNM.out,if_pos h0,hq];rfl
 have HR:Hid (dPort s=s.extract q1 s.size):=by show _=_;rw[HPT.out,if_pos h0,hq1,hq];rfl
 rw[HT.out,HR.out] at HDX
 have hts:(s.extract 0 q).size≤300000:=by rw[ByteArray.size_extract];omega
 have hrs:(s.extract q1 s.size).size≤300000:=by rw[ByteArray.size_extract];omega
 clear HF hle hle2 HT HR HNM HPT hq hq1
 go_enter Tryz.func102,Tryz.ntmps102
 go_wp2_with fail
 refine(HB _).out.mono ?_
 rintro e w1 ⟨rfl,rfl⟩
 go_wp2_with fail
 refine(H93 _).out.mono ?_
 rintro e w1 ⟨rfl,rfl⟩
 go_wp2_with fail
 refine(H58 _).out.mono ?_
 rintro e w1 ⟨rfl,rfl⟩
 go_wp2_with fail
 go_quiet (fail)
 go_wp2_with fail
 have HH:=Lib.hid (hostParse_any (s.extract 0 q) (w.drewN nq) (G.below (below_drewN w nq)) (by omega))
 obtain⟨x,hx⟩:∃ x,x=hostX (s.extract 0 q):=⟨_,rfl⟩
 rw[← hx] at HH HDX
 clear hx
 cases x with
 | none =>
  have HZ:Hid (d=none):=HDX.out
  clear HDX
  have HH:Hid (Calls Tryz.prog 156 #[.string (s.extract 0 q)] (w.drewN nq) fun e w'=>e=.returned (.tuple #[.agg #[.int .i64 0,.string ⟨#[]⟩,.int .i64 0,.int .i64 0,.int .i64 0,.int .i64 0,.int .i64 0,.int .i64 0,.int .i64 0,.int .i64 0,.int .i64 0],.bool false])∧Below ((w.drewN nq)).heap.size (w.drewN nq) w'):=HH
  refine HH.out.mono ?_
  rintro e w1 ⟨rfl,b1⟩
  go_wp2_with fail
  refine(must_no _).mono ?_
  rintro e w2 ⟨rfl,rfl⟩
  show bodyPost Tryz.prog Tryz.f102 _ (Exit.panic wrongE) _ _
  refine⟨rfl,?_⟩
  rw[HZ.out]
  exact⟨(((below_drewN w nq).trans (b1.mono (below_drewN w nq).size)).alloc (by have:=(below_drewN w nq).size;have:=b1.size;omega) _).mono (by have:=heap_lt hu;omega),rfl⟩
 | some x =>
  have HD2:Hid (d=if (s.extract q1 s.size).size=0 then some (x.host,none) else if Deci.readOK (s.extract q1 s.size).data.toList 65535=true then some (x.host,if Deci.readN (s.extract q1 s.size).data.toList 65535=webP u.scheme then none else some (Deci.readN (s.extract q1 s.size).data.toList 65535)) else none):=HDX.out
  clear HDX
  have HH:Hid (Calls Tryz.prog 156 #[.string (s.extract 0 q)] (w.drewN nq) fun e w'=>e=.returned (.tuple #[.agg (hostC x.host),.bool true])∧Below ((w.drewN nq)).heap.size (w.drewN nq) w'):=HH
  obtain⟨⟨hk,hn,hm,⟨p0,p1,p2,p3,p4,p5,p6,p7⟩⟩,hxx⟩:∃ h,h=x.host:=⟨_,rfl⟩
  rw[← hxx] at HH HD2
  clear hxx
  refine HH.out.mono ?_
  rintro e w1 ⟨rfl,b1⟩
  have B1:=(below_drewN w nq).trans (b1.mono (below_drewN w nq).size)
  have hu1:=kept B1 hu
  have ul:ub < w.heap.size:=heap_lt hu
  have ul1:ub < w1.heap.size:=heap_lt hu1
  have hu2:(w1.alloc (.cells #[.int .i64 hk,.string hn,.int .i64 hm,.int .i64 p0,.int .i64 p1,.int .i64 p2,.int .i64 p3,.int .i64 p4,.int .i64 p5,.int .i64 p6,.int .i64 p7] 24)).heap[ub]? = some (.cells (urlC u pv) 27 (0,0)):=(Below.heap_alloc _ _ _ ul1).trans hu1
  clear b1
  go_wp2_with fail
  refine(must_yes _).mono ?_
  rintro e w2 ⟨rfl,rfl⟩
  have SET:∀ W2:World,(w1.alloc (.cells #[.int .i64 hk,.string hn,.int .i64 hm,.int .i64 p0,.int .i64 p1,.int .i64 p2,.int .i64 p3,.int .i64 p4,.int .i64 p5,.int .i64 p6,.int .i64 p7] 24)).setCells ub 3 [.int .i64 hk,.string hn,.int .i64 hm,.int .i64 p0,.int .i64 p1,.int .i64 p2,.int .i64 p3,.int .i64 p4,.int .i64 p5,.int .i64 p6,.int .i64 p7]=W2→W2.heap[ub]? = some (.cells (urlC { u with host:=⟨hk,hn,hm,⟨p0,p1,p2,p3,p4,p5,p6,p7⟩⟩ } pv) 27 (0,0)):=by
   intro W2 h;rw[← h,setCells_row ub 27 _ 3 _ _ hu2,setAll_host]
  have SETB:∀ W2:World,(w1.alloc (.cells #[.int .i64 hk,.string hn,.int .i64 hm,.int .i64 p0,.int .i64 p1,.int .i64 p2,.int .i64 p3,.int .i64 p4,.int .i64 p5,.int .i64 p6,.int .i64 p7] 24)).setCells ub 3 [.int .i64 hk,.string hn,.int .i64 hm,.int .i64 p0,.int .i64 p1,.int .i64 p2,.int .i64 p3,.int .i64 p4,.int .i64 p5,.int .i64 p6,.int .i64 p7]=W2→Below ub w W2:=by
   intro W2 h;rw[← h];exact setCells_below ub ub (Nat.le_refl _) _ 3 _ _ ((B1.mono (Nat.le_of_lt ul)).alloc (Nat.le_of_lt ul1) _)
  replace SET:=Lib.hid SET
  replace SETB:=Lib.hid SETB
  by_cases hr0:(s.extract q1 s.size).size=0
  ·have he:(s.extract q1 s.size).toList.isEmpty=true:=(empty_iff _).2 hr0
   have he2:(s.extract q1 s.size).data.toList=[]:=List.length_eq_zero_iff.1 (by rw[size_len];exact hr0)
   have HZ:Hid (d=some (⟨hk,hn,hm,⟨p0,p1,p2,p3,p4,p5,p6,p7⟩⟩,none)):=by show _=_;rw[HD2.out,if_pos hr0]
   clear HD2 hr0
   go_wp2_with (((with_reducible (show wpList _ _ _ (Oper.mk none (.store 24 _ _) _ _ _ none::_) _ _));refine wpList_store_mid rfl 24 _ _ rfl ub 3 #[.int .i64 hk,.string hn,.int .i64 hm,.int .i64 p0,.int .i64 p1,.int .i64 p2,.int .i64 p3,.int .i64 p4,.int .i64 p5,.int .i64 p6,.int .i64 p7] rfl rfl (there_row hu2 (by simp[urlC])) host_info (by simp[Value.oneCell']) ?_;obtain⟨W2,hW2⟩:∃ W2,(w1.alloc (.cells #[.int .i64 hk,.string hn,.int .i64 hm,.int .i64 p0,.int .i64 p1,.int .i64 p2,.int .i64 p3,.int .i64 p4,.int .i64 p5,.int .i64 p6,.int .i64 p7] 24)).setCells ub 3 [.int .i64 hk,.string hn,.int .i64 hm,.int .i64 p0,.int .i64 p1,.int .i64 p2,.int .i64 p3,.int .i64 p4,.int .i64 p5,.int .i64 p6,.int .i64 p7]=W2:=⟨_,rfl⟩;have hu3:=SET.out W2 hW2;have B2:=SETB.out W2 hW2;(with_reducible rw[hW2]);clear hW2;have c0:=cell_in hu3 0 _ rfl;have f14:W2.frozen? ⟨ub,14,none⟩=false:=Lib.frozen_of_heap hu3 14;have c14:=cell_in hu3 14 _ rfl))
   go_end0
   exact⟨B2,by rw[HZ.out];exact⟨rfl,hu3⟩⟩
  ·have he:(s.extract q1 s.size).toList.isEmpty=false:=empty_no hr0
   have HRD:=fun w'=>Lib.hid (Deci.read_any (s.extract q1 s.size) 65535 w' (by omega) (by omega) (by omega))
   have HWB:=fun w'=>Lib.hid (web_any u.scheme w')
   unfold Deci.RdPost at HRD
   have HZ:Hid (d=if Deci.readOK (s.extract q1 s.size).data.toList 65535=true then some (⟨hk,hn,hm,⟨p0,p1,p2,p3,p4,p5,p6,p7⟩⟩,if Deci.readN (s.extract q1 s.size).data.toList 65535=webP u.scheme then none else some (Deci.readN (s.extract q1 s.size).data.toList 65535)) else none):=by show _=_;rw[HD2.out,if_neg hr0]
   obtain⟨n,hn'⟩:∃ n,n=Deci.readN (s.extract q1 s.size).data.toList 65535:=⟨_,rfl⟩
   obtain⟨ok,hok⟩:∃ ok,ok=Deci.readOK (s.extract q1 s.size).data.toList 65535:=⟨_,rfl⟩
   obtain⟨wp,hwp⟩:∃ wp,wp=webP u.scheme:=⟨_,rfl⟩
   simp only[← hn',← hok] at HRD HZ
   simp only[← hwp] at HWB HZ
   clear hn' hok hwp HD2 hr0
   cases ok with
   | false =>
    have HZ':Hid (d=none):=HZ.out
    clear HZ
    go_wp2_with (first|((with_reducible (show wpList _ _ _ (Oper.mk none (.store 24 _ _) _ _ _ none::_) _ _));refine wpList_store_mid rfl 24 _ _ rfl ub 3 #[.int .i64 hk,.string hn,.int .i64 hm,.int .i64 p0,.int .i64 p1,.int .i64 p2,.int .i64 p3,.int .i64 p4,.int .i64 p5,.int .i64 p6,.int .i64 p7] rfl rfl (there_row hu2 (by simp[urlC])) host_info (by simp[Value.oneCell']) ?_;obtain⟨W2,hW2⟩:∃ W2,(w1.alloc (.cells #[.int .i64 hk,.string hn,.int .i64 hm,.int .i64 p0,.int .i64 p1,.int .i64 p2,.int .i64 p3,.int .i64 p4,.int .i64 p5,.int .i64 p6,.int .i64 p7] 24)).setCells ub 3 [.int .i64 hk,.string hn,.int .i64 hm,.int .i64 p0,.int .i64 p1,.int .i64 p2,.int .i64 p3,.int .i64 p4,.int .i64 p5,.int .i64 p6,.int .i64 p7]=W2:=⟨_,rfl⟩;have hu3:=SET.out W2 hW2;have B2:=SETB.out W2 hW2;(with_reducible rw[hW2]);clear hW2;have c0:=cell_in hu3 0 _ rfl;have f14:W2.frozen? ⟨ub,14,none⟩=false:=Lib.frozen_of_heap hu3 14;have c14:=cell_in hu3 14 _ rfl)|(go_at_call 157;refine(HRD _).out.mono ?_;rintro e w5 ⟨rfl,rfl⟩)|(go_at_call 96;refine(must_no _).mono ?_;rintro e w5 ⟨rfl,rfl⟩))
    show bodyPost Tryz.prog Tryz.f102 _ (Exit.panic wrongE) _ _
    refine⟨rfl,?_⟩
    rw[HZ'.out]
    exact⟨B2,rfl⟩
   | true =>
    have HZ':Hid (d=some (⟨hk,hn,hm,⟨p0,p1,p2,p3,p4,p5,p6,p7⟩⟩,if n=wp then none else some n)):=HZ.out
    clear HZ
    by_cases hnw:n=wp
    ·subst hnw
     have HZ2:Hid (d=some (⟨hk,hn,hm,⟨p0,p1,p2,p3,p4,p5,p6,p7⟩⟩,none)):=by show _=_;rw[HZ'.out,if_pos rfl]
     clear HZ'
     go_wp2_with (first|((with_reducible (show wpList _ _ _ (Oper.mk none (.store 24 _ _) _ _ _ none::_) _ _));refine wpList_store_mid rfl 24 _ _ rfl ub 3 #[.int .i64 hk,.string hn,.int .i64 hm,.int .i64 p0,.int .i64 p1,.int .i64 p2,.int .i64 p3,.int .i64 p4,.int .i64 p5,.int .i64 p6,.int .i64 p7] rfl rfl (there_row hu2 (by simp[urlC])) host_info (by simp[Value.oneCell']) ?_;obtain⟨W2,hW2⟩:∃ W2,(w1.alloc (.cells #[.int .i64 hk,.string hn,.int .i64 hm,.int .i64 p0,.int .i64 p1,.int .i64 p2,.int .i64 p3,.int .i64 p4,.int .i64 p5,.int .i64 p6,.int .i64 p7] 24)).setCells ub 3 [.int .i64 hk,.string hn,.int .i64 hm,.int .i64 p0,.int .i64 p1,.int .i64 p2,.int .i64 p3,.int .i64 p4,.int .i64 p5,.int .i64 p6,.int .i64 p7]=W2:=⟨_,rfl⟩;have hu3:=SET.out W2 hW2;have B2:=SETB.out W2 hW2;(with_reducible rw[hW2]);clear hW2;have c0:=cell_in hu3 0 _ rfl;have f14:W2.frozen? ⟨ub,14,none⟩=false:=Lib.frozen_of_heap hu3 14;have c14:=cell_in hu3 14 _ rfl)|(go_at_call 157;refine(HRD _).out.mono ?_;rintro e w5 ⟨rfl,rfl⟩)|(go_at_call 96;refine(must_yes _).mono ?_;rintro e w5 ⟨rfl,rfl⟩)|(go_at_call 33;refine(HWB _).out.mono ?_;rintro e w5 ⟨rfl,rfl⟩))
     go_end0
     exact⟨B2,by rw[HZ2.out];exact⟨rfl,hu3⟩⟩
    ·have hne:(n != wp)=true:=by rw[bne_iff_ne];exact hnw
     have HZ2:Hid (d=some (⟨hk,hn,hm,⟨p0,p1,p2,p3,p4,p5,p6,p7⟩⟩,some n)):=by show _=_;rw[HZ'.out,if_neg hnw]
     clear HZ'
     go_wp2_with (first|((with_reducible (show wpList _ _ _ (Oper.mk none (.store 24 _ _) _ _ _ none::_) _ _));refine wpList_store_mid rfl 24 _ _ rfl ub 3 #[.int .i64 hk,.string hn,.int .i64 hm,.int .i64 p0,.int .i64 p1,.int .i64 p2,.int .i64 p3,.int .i64 p4,.int .i64 p5,.int .i64 p6,.int .i64 p7] rfl rfl (there_row hu2 (by simp[urlC])) host_info (by simp[Value.oneCell']) ?_;obtain⟨W2,hW2⟩:∃ W2,(w1.alloc (.cells #[.int .i64 hk,.string hn,.int .i64 hm,.int .i64 p0,.int .i64 p1,.int .i64 p2,.int .i64 p3,.int .i64 p4,.int .i64 p5,.int .i64 p6,.int .i64 p7] 24)).setCells ub 3 [.int .i64 hk,.string hn,.int .i64 hm,.int .i64 p0,.int .i64 p1,.int .i64 p2,.int .i64 p3,.int .i64 p4,.int .i64 p5,.int .i64 p6,.int .i64 p7]=W2:=⟨_,rfl⟩;have hu3:=SET.out W2 hW2;have B2:=SETB.out W2 hW2;(with_reducible rw[hW2]);clear hW2;have c0:=cell_in hu3 0 _ rfl;have f14:W2.frozen? ⟨ub,14,none⟩=false:=Lib.frozen_of_heap hu3 14;have c14:=cell_in hu3 14 _ rfl)|(go_at_call 157;refine(HRD _).out.mono ?_;rintro e w5 ⟨rfl,rfl⟩)|(go_at_call 96;refine(must_yes _).mono ?_;rintro e w5 ⟨rfl,rfl⟩)|(go_at_call 33;refine(HWB _).out.mono ?_;rintro e w5 ⟨rfl,rfl⟩))
     go_end0
     exact⟨B2.setCell (p:=⟨ub,14,none⟩) (Nat.le_refl _) _,by rw[HZ2.out];exact⟨rfl,(heap_setCell_same _ ub 14 _ 27 (.int .i64 n) hu3).trans (by rw[set_port];rfl)⟩⟩
set_option maxHeartbeats 4000000 in
theorem door_yn (ub:Nat) (u:Url) (pv:Value) (s:ByteArray) (w:World) (G:Glob w) (hu:w.heap[ub]? = some (.cells (urlC u pv) 27 (0,0))) (hs:s.size≤300000) (h6:6≤ub) (hc1:Lib.hasPrefix s.data.toList [91]=true) (hc2:¬ 0≤dIdx s) :
  Calls Tryz.prog 102 #[.pointer (some ⟨ub,0,none⟩),.string s] w (DoorLeft ub u pv (doorX u.scheme s) w):=by
 have HB:∀ w',Hid (Calls Tryz.prog 155 #[.string s,.string ⟨#[91]⟩] w' fun e w''=>e=.returned (.bool (Lib.hasPrefix s.data.toList [91]))∧w'=w''):=fun w'=>hasPrefix_any s ⟨#[91]⟩ w'
 have H93:∀ w',Hid (Calls Tryz.prog 100 #[.string s,.int .u8 93] w' fun e w''=>e=.returned (.int .i64 (Lib.indexByte s.data.toList 93))∧w'=w''):=fun w'=>indexByte_any s 93 w'
 have hle:=indexByte_le s.data.toList 93
 rw[size_len] at hle
 have hfr:dFrom s≤s.size:=by unfold dFrom;split <;> omega
 have H58:∀ w',Hid (Calls Tryz.prog 100 #[.string (s.extract (dFrom s) s.size),.int .u8 58] w' fun e w''=>e=.returned (.int .i64 (dIdx s))∧w'=w''):=fun w'=>indexByte_any (s.extract (dFrom s) s.size) 58 w'
 have hle2:-1≤dIdx s∧dIdx s < (s.size:Int) - dFrom s:=by
  have:=indexByte_le (s.extract (dFrom s) s.size).data.toList 58
  rw[size_len,ByteArray.size_extract] at this
  unfold dIdx
  refine⟨this.1,?_⟩
  have h2:=this.2
  omega
 have HF:Hid (dFrom s=_):=dFrom.eq_1 s
 have HNM:Hid (dName s=_):=dName.eq_1 s
 have HPT:Hid (dPort s=_):=dPort.eq_1 s
 obtain⟨fr,hfr'⟩:∃ fr,fr=dFrom s:=⟨_,rfl⟩
 obtain⟨ix,hix⟩:∃ ix,ix=dIdx s:=⟨_,rfl⟩
 obtain⟨i9,hi9⟩:∃ i9,i9=Lib.indexByte s.data.toList 93:=⟨_,rfl⟩
 obtain⟨pb,hpb⟩:∃ pb,pb=Lib.hasPrefix s.data.toList [91]:=⟨_,rfl⟩
 simp only[← hfr',← hix,← hi9,← hpb] at HB H93 hle hfr H58 hle2 HF HNM HPT
 have HDX:Hid (doorX u.scheme s=_):=doorX.eq_1 u.scheme s
 obtain⟨d,hd⟩:∃ d,d=doorX u.scheme s:=⟨_,rfl⟩
 rw[← hd] at HDX ⊢
 clear hd
 have h0:¬ 0≤ix:=by rw[hix];exact hc2
 rw[hc1] at hpb
 subst hpb
 clear hfr' hix hi9 hc1 hc2
 have hf0:fr=i9.toNat:=HF.out
 have hmx:max (0:Int) i9=(fr:Int):=by omega
 have hfs:(fr:Int)≤(s.size:Int):=by omega
 clear hf0
 have h0':¬ (0≤ix):=h0
 have HT:Hid (dName s=s):=by show _=_;rw[HNM.out,if_neg h0]
 have HR:Hid (dPort s=⟨#[]⟩):=by show _=_;rw[HPT.out,if_neg h0]
 rw[HT.out,HR.out] at HDX
 have hts:s.size≤300000:=hs
 have hrs:(⟨#[]⟩:ByteArray).size≤300000:=by decide
 clear HF hle hle2 HT HR HNM HPT
 go_enter Tryz.func102,Tryz.ntmps102
 go_wp2_with fail
 refine(HB _).out.mono ?_
 rintro e w1 ⟨rfl,rfl⟩
 go_wp2_with fail
 refine(H93 _).out.mono ?_
 rintro e w1 ⟨rfl,rfl⟩
 go_wp2_with fail
 refine(H58 _).out.mono ?_
 rintro e w1 ⟨rfl,rfl⟩
 go_wp2_with fail
 have HH:=Lib.hid (hostParse_any (s) w (G.below (Below.refl w.heap.size w)) (by omega))
 obtain⟨x,hx⟩:∃ x,x=hostX (s):=⟨_,rfl⟩
 rw[← hx] at HH HDX
 clear hx
 cases x with
 | none =>
  have HZ:Hid (d=none):=HDX.out
  clear HDX
  have HH:Hid (Calls Tryz.prog 156 #[.string (s)] w fun e w'=>e=.returned (.tuple #[.agg #[.int .i64 0,.string ⟨#[]⟩,.int .i64 0,.int .i64 0,.int .i64 0,.int .i64 0,.int .i64 0,.int .i64 0,.int .i64 0,.int .i64 0,.int .i64 0],.bool false])∧Below (w).heap.size w w'):=HH
  refine HH.out.mono ?_
  rintro e w1 ⟨rfl,b1⟩
  go_wp2_with fail
  refine(must_no _).mono ?_
  rintro e w2 ⟨rfl,rfl⟩
  show bodyPost Tryz.prog Tryz.f102 _ (Exit.panic wrongE) _ _
  refine⟨rfl,?_⟩
  rw[HZ.out]
  exact⟨(((Below.refl w.heap.size w).trans (b1.mono (Below.refl w.heap.size w).size)).alloc (by have:=(Below.refl w.heap.size w).size;have:=b1.size;omega) _).mono (by have:=heap_lt hu;omega),rfl⟩
 | some x =>
  have HD2:Hid (d=if (⟨#[]⟩:ByteArray).size=0 then some (x.host,none) else if Deci.readOK (⟨#[]⟩:ByteArray).data.toList 65535=true then some (x.host,if Deci.readN (⟨#[]⟩:ByteArray).data.toList 65535=webP u.scheme then none else some (Deci.readN (⟨#[]⟩:ByteArray).data.toList 65535)) else none):=HDX.out
  clear HDX
  have HH:Hid (Calls Tryz.prog 156 #[.string (s)] w fun e w'=>e=.returned (.tuple #[.agg (hostC x.host),.bool true])∧Below (w).heap.size w w'):=HH
  obtain⟨⟨hk,hn,hm,⟨p0,p1,p2,p3,p4,p5,p6,p7⟩⟩,hxx⟩:∃ h,h=x.host:=⟨_,rfl⟩
  rw[← hxx] at HH HD2
  clear hxx
  refine HH.out.mono ?_
  rintro e w1 ⟨rfl,b1⟩
  have B1:=(Below.refl w.heap.size w).trans (b1.mono (Below.refl w.heap.size w).size)
  have hu1:=kept B1 hu
  have ul:ub < w.heap.size:=heap_lt hu
  have ul1:ub < w1.heap.size:=heap_lt hu1
  have hu2:(w1.alloc (.cells #[.int .i64 hk,.string hn,.int .i64 hm,.int .i64 p0,.int .i64 p1,.int .i64 p2,.int .i64 p3,.int .i64 p4,.int .i64 p5,.int .i64 p6,.int .i64 p7] 24)).heap[ub]? = some (.cells (urlC u pv) 27 (0,0)):=(Below.heap_alloc _ _ _ ul1).trans hu1
  clear b1
  go_wp2_with fail
  refine(must_yes _).mono ?_
  rintro e w2 ⟨rfl,rfl⟩
  have SET:∀ W2:World,(w1.alloc (.cells #[.int .i64 hk,.string hn,.int .i64 hm,.int .i64 p0,.int .i64 p1,.int .i64 p2,.int .i64 p3,.int .i64 p4,.int .i64 p5,.int .i64 p6,.int .i64 p7] 24)).setCells ub 3 [.int .i64 hk,.string hn,.int .i64 hm,.int .i64 p0,.int .i64 p1,.int .i64 p2,.int .i64 p3,.int .i64 p4,.int .i64 p5,.int .i64 p6,.int .i64 p7]=W2→W2.heap[ub]? = some (.cells (urlC { u with host:=⟨hk,hn,hm,⟨p0,p1,p2,p3,p4,p5,p6,p7⟩⟩ } pv) 27 (0,0)):=by
   intro W2 h;rw[← h,setCells_row ub 27 _ 3 _ _ hu2,setAll_host]
  have SETB:∀ W2:World,(w1.alloc (.cells #[.int .i64 hk,.string hn,.int .i64 hm,.int .i64 p0,.int .i64 p1,.int .i64 p2,.int .i64 p3,.int .i64 p4,.int .i64 p5,.int .i64 p6,.int .i64 p7] 24)).setCells ub 3 [.int .i64 hk,.string hn,.int .i64 hm,.int .i64 p0,.int .i64 p1,.int .i64 p2,.int .i64 p3,.int .i64 p4,.int .i64 p5,.int .i64 p6,.int .i64 p7]=W2→Below ub w W2:=by
   intro W2 h;rw[← h];exact setCells_below ub ub (Nat.le_refl _) _ 3 _ _ ((B1.mono (Nat.le_of_lt ul)).alloc (Nat.le_of_lt ul1) _)
  replace SET:=Lib.hid SET
  replace SETB:=Lib.hid SETB
  by_cases hr0:(⟨#[]⟩:ByteArray).size=0
  ·have he:True:=trivial
   have HZ:Hid (d=some (⟨hk,hn,hm,⟨p0,p1,p2,p3,p4,p5,p6,p7⟩⟩,none)):=by show _=_;rw[HD2.out,if_pos hr0]
   clear HD2 hr0
   go_wp2_with (((with_reducible (show wpList _ _ _ (Oper.mk none (.store 24 _ _) _ _ _ none::_) _ _));refine wpList_store_mid rfl 24 _ _ rfl ub 3 #[.int .i64 hk,.string hn,.int .i64 hm,.int .i64 p0,.int .i64 p1,.int .i64 p2,.int .i64 p3,.int .i64 p4,.int .i64 p5,.int .i64 p6,.int .i64 p7] rfl rfl (there_row hu2 (by simp[urlC])) host_info (by simp[Value.oneCell']) ?_;obtain⟨W2,hW2⟩:∃ W2,(w1.alloc (.cells #[.int .i64 hk,.string hn,.int .i64 hm,.int .i64 p0,.int .i64 p1,.int .i64 p2,.int .i64 p3,.int .i64 p4,.int .i64 p5,.int .i64 p6,.int .i64 p7] 24)).setCells ub 3 [.int .i64 hk,.string hn,.int .i64 hm,.int .i64 p0,.int .i64 p1,.int .i64 p2,.int .i64 p3,.int .i64 p4,.int .i64 p5,.int .i64 p6,.int .i64 p7]=W2:=⟨_,rfl⟩;have hu3:=SET.out W2 hW2;have B2:=SETB.out W2 hW2;(with_reducible rw[hW2]);clear hW2;have c0:=cell_in hu3 0 _ rfl;have f14:W2.frozen? ⟨ub,14,none⟩=false:=Lib.frozen_of_heap hu3 14;have c14:=cell_in hu3 14 _ rfl))
   go_end0
   exact⟨B2,by rw[HZ.out];exact⟨rfl,hu3⟩⟩
  ·exact absurd rfl hr0
set_option maxHeartbeats 4000000 in
theorem door_ny (ub:Nat) (u:Url) (pv:Value) (s:ByteArray) (w:World) (G:Glob w) (hu:w.heap[ub]? = some (.cells (urlC u pv) 27 (0,0))) (hs:s.size≤300000) (h6:6≤ub) (hc1:Lib.hasPrefix s.data.toList [91]=false) (hc2:0≤dIdx s) :
  Calls Tryz.prog 102 #[.pointer (some ⟨ub,0,none⟩),.string s] w (DoorLeft ub u pv (doorX u.scheme s) w):=by
 have HB:∀ w',Hid (Calls Tryz.prog 155 #[.string s,.string ⟨#[91]⟩] w' fun e w''=>e=.returned (.bool (Lib.hasPrefix s.data.toList [91]))∧w'=w''):=fun w'=>hasPrefix_any s ⟨#[91]⟩ w'
 have H93:∀ w',Hid (Calls Tryz.prog 100 #[.string s,.int .u8 93] w' fun e w''=>e=.returned (.int .i64 (Lib.indexByte s.data.toList 93))∧w'=w''):=fun w'=>indexByte_any s 93 w'
 have hle:=indexByte_le s.data.toList 93
 rw[size_len] at hle
 have hfr:dFrom s≤s.size:=by unfold dFrom;split <;> omega
 have H58:∀ w',Hid (Calls Tryz.prog 100 #[.string (s.extract (dFrom s) s.size),.int .u8 58] w' fun e w''=>e=.returned (.int .i64 (dIdx s))∧w'=w''):=fun w'=>indexByte_any (s.extract (dFrom s) s.size) 58 w'
 have hle2:-1≤dIdx s∧dIdx s < (s.size:Int) - dFrom s:=by
  have:=indexByte_le (s.extract (dFrom s) s.size).data.toList 58
  rw[size_len,ByteArray.size_extract] at this
  unfold dIdx
  refine⟨this.1,?_⟩
  have h2:=this.2
  omega
 have HF:Hid (dFrom s=_):=dFrom.eq_1 s
 have HNM:Hid (dName s=_):=dName.eq_1 s
 have HPT:Hid (dPort s=_):=dPort.eq_1 s
 obtain⟨fr,hfr'⟩:∃ fr,fr=dFrom s:=⟨_,rfl⟩
 obtain⟨ix,hix⟩:∃ ix,ix=dIdx s:=⟨_,rfl⟩
 obtain⟨i9,hi9⟩:∃ i9,i9=Lib.indexByte s.data.toList 93:=⟨_,rfl⟩
 obtain⟨pb,hpb⟩:∃ pb,pb=Lib.hasPrefix s.data.toList [91]:=⟨_,rfl⟩
 simp only[← hfr',← hix,← hi9,← hpb] at HB H93 hle hfr H58 hle2 HF HNM HPT
 have HDX:Hid (doorX u.scheme s=_):=doorX.eq_1 u.scheme s
 obtain⟨d,hd⟩:∃ d,d=doorX u.scheme s:=⟨_,rfl⟩
 rw[← hd] at HDX ⊢
 clear hd
 have h0:0≤ix:=by rw[hix];exact hc2
 rw[hc1] at hpb
 subst hpb
 clear hfr' hix hi9 hc1 hc2
 have hf0:fr=0:=HF.out
 subst hf0
 have hfs:((0:Nat):Int)≤(s.size:Int):=by omega
 have hE:s.extract 0 s.size=s:=by simp
 rw[hE] at H58
 clear hE
 obtain⟨k,rfl⟩:∃ k:Nat,ix=(k:Int):=⟨ix.toNat,by omega⟩
 obtain⟨q,hq⟩:∃ q,q=k:=⟨_,rfl⟩
 obtain⟨q1,hq1⟩:∃ q1,q1=q + 1:=⟨_,rfl⟩
 have e0:(k:Int)=(q:Int):=by omega
 have e5:(q:Int) + 1=(q1:Int):=by omega
 have e1:IntKind.i64.wrap ((k:Int))=(q:Int):=by rw[IntKind.wrap_i64];omega
 have e2:IntKind.i64.wrap ((q:Int) + 1)=(q1:Int):=by rw[IntKind.wrap_i64];omega
 have e6:IntKind.i64.wrap (q:Int)=(q:Int):=by rw[IntKind.wrap_i64];omega
 have e7:IntKind.i64.wrap (q1:Int)=(q1:Int):=by rw[IntKind.wrap_i64];omega
 have e3:(q:Int)≤(s.size:Int):=by omega
 have e4:(q1:Int)≤(s.size:Int):=by omega
 have HT:Hid (dName s=s.extract 0 q):=by show _=_;rw[HNM.out,if_pos h0,hq];simp
 have HR:Hid (dPort s=s.extract q1 s.size):=by show _=_;rw[HPT.out,if_pos h0,hq1,hq];simp
 rw[HT.out,HR.out] at HDX
 have hts:(s.extract 0 q).size≤300000:=by rw[ByteArray.size_extract];omega
 have hrs:(s.extract q1 s.size).size≤300000:=by rw[ByteArray.size_extract];omega
 clear HF hle hle2 HT HR HNM HPT hq hq1
 go_enter Tryz.func102,Tryz.ntmps102
 go_wp2_with fail
 refine(HB _).out.mono ?_
 rintro e w1 ⟨rfl,rfl⟩
 go_wp2_with fail
 refine(H58 _).out.mono ?_
 rintro e w1 ⟨rfl,rfl⟩
 go_wp2_with fail
 go_quiet (fail)
 go_wp2_with fail
 have HH:=Lib.hid (hostParse_any (s.extract 0 q) (w.drewN nq) (G.below (below_drewN w nq)) (by omega))
 obtain⟨x,hx⟩:∃ x,x=hostX (s.extract 0 q):=⟨_,rfl⟩
 rw[← hx] at HH HDX
 clear hx
 cases x with
 | none =>
  have HZ:Hid (d=none):=HDX.out
  clear HDX
  have HH:Hid (Calls Tryz.prog 156 #[.string (s.extract 0 q)] (w.drewN nq) fun e w'=>e=.returned (.tuple #[.agg #[.int .i64 0,.string ⟨#[]⟩,.int .i64 0,.int .i64 0,.int .i64 0,.int .i64 0,.int .i64 0,.int .i64 0,.int .i64 0,.int .i64 0,.int .i64 0],.bool false])∧Below ((w.drewN nq)).heap.size (w.drewN nq) w'):=HH
  refine HH.out.mono ?_
  rintro e w1 ⟨rfl,b1⟩
  go_wp2_with fail
  refine(must_no _).mono ?_
  rintro e w2 ⟨rfl,rfl⟩
  show bodyPost Tryz.prog Tryz.f102 _ (Exit.panic wrongE) _ _
  refine⟨rfl,?_⟩
  rw[HZ.out]
  exact⟨(((below_drewN w nq).trans (b1.mono (below_drewN w nq).size)).alloc (by have:=(below_drewN w nq).size;have:=b1.size;omega) _).mono (by have:=heap_lt hu;omega),rfl⟩
 | some x =>
  have HD2:Hid (d=if (s.extract q1 s.size).size=0 then some (x.host,none) else if Deci.readOK (s.extract q1 s.size).data.toList 65535=true then some (x.host,if Deci.readN (s.extract q1 s.size).data.toList 65535=webP u.scheme then none else some (Deci.readN (s.extract q1 s.size).data.toList 65535)) else none):=HDX.out
  clear HDX
  have HH:Hid (Calls Tryz.prog 156 #[.string (s.extract 0 q)] (w.drewN nq) fun e w'=>e=.returned (.tuple #[.agg (hostC x.host),.bool true])∧Below ((w.drewN nq)).heap.size (w.drewN nq) w'):=HH
  obtain⟨⟨hk,hn,hm,⟨p0,p1,p2,p3,p4,p5,p6,p7⟩⟩,hxx⟩:∃ h,h=x.host:=⟨_,rfl⟩
  rw[← hxx] at HH HD2
  clear hxx
  refine HH.out.mono ?_
  rintro e w1 ⟨rfl,b1⟩
  have B1:=(below_drewN w nq).trans (b1.mono (below_drewN w nq).size)
  have hu1:=kept B1 hu
  have ul:ub < w.heap.size:=heap_lt hu
  have ul1:ub < w1.heap.size:=heap_lt hu1
  have hu2:(w1.alloc (.cells #[.int .i64 hk,.string hn,.int .i64 hm,.int .i64 p0,.int .i64 p1,.int .i64 p2,.int .i64 p3,.int .i64 p4,.int .i64 p5,.int .i64 p6,.int .i64 p7] 24)).heap[ub]? = some (.cells (urlC u pv) 27 (0,0)):=(Below.heap_alloc _ _ _ ul1).trans hu1
  clear b1
  go_wp2_with fail
  refine(must_yes _).mono ?_
  rintro e w2 ⟨rfl,rfl⟩
  have SET:∀ W2:World,(w1.alloc (.cells #[.int .i64 hk,.string hn,.int .i64 hm,.int .i64 p0,.int .i64 p1,.int .i64 p2,.int .i64 p3,.int .i64 p4,.int .i64 p5,.int .i64 p6,.int .i64 p7] 24)).setCells ub 3 [.int .i64 hk,.string hn,.int .i64 hm,.int .i64 p0,.int .i64 p1,.int .i64 p2,.int .i64 p3,.int .i64 p4,.int .i64 p5,.int .i64 p6,.int .i64 p7]=W2→W2.heap[ub]? = some (.cells (urlC { u with host:=⟨hk,hn,hm,⟨p0,p1,p2,p3,p4,p5,p6,p7⟩⟩ } pv) 27 (0,0)):=by
   intro W2 h;rw[← h,setCells_row ub 27 _ 3 _ _ hu2,setAll_host]
  have SETB:∀ W2:World,(w1.alloc (.cells #[.int .i64 hk,.string hn,.int .i64 hm,.int .i64 p0,.int .i64 p1,.int .i64 p2,.int .i64 p3,.int .i64 p4,.int .i64 p5,.int .i64 p6,.int .i64 p7] 24)).setCells ub 3 [.int .i64 hk,.string hn,.int .i64 hm,.int .i64 p0,.int .i64 p1,.int .i64 p2,.int .i64 p3,.int .i64 p4,.int .i64 p5,.int .i64 p6,.int .i64 p7]=W2→Below ub w W2:=by
   intro W2 h;rw[← h];exact setCells_below ub ub (Nat.le_refl _) _ 3 _ _ ((B1.mono (Nat.le_of_lt ul)).alloc (Nat.le_of_lt ul1) _)
  replace SET:=Lib.hid SET
  replace SETB:=Lib.hid SETB
  by_cases hr0:(s.extract q1 s.size).size=0
  ·have he:(s.extract q1 s.size).toList.isEmpty=true:=(empty_iff _).2 hr0
   have he2:(s.extract q1 s.size).data.toList=[]:=List.length_eq_zero_iff.1 (by rw[size_len];exact hr0)
   have HZ:Hid (d=some (⟨hk,hn,hm,⟨p0,p1,p2,p3,p4,p5,p6,p7⟩⟩,none)):=by show _=_;rw[HD2.out,if_pos hr0]
   clear HD2 hr0
   go_wp2_with (((with_reducible (show wpList _ _ _ (Oper.mk none (.store 24 _ _) _ _ _ none::_) _ _));refine wpList_store_mid rfl 24 _ _ rfl ub 3 #[.int .i64 hk,.string hn,.int .i64 hm,.int .i64 p0,.int .i64 p1,.int .i64 p2,.int .i64 p3,.int .i64 p4,.int .i64 p5,.int .i64 p6,.int .i64 p7] rfl rfl (there_row hu2 (by simp[urlC])) host_info (by simp[Value.oneCell']) ?_;obtain⟨W2,hW2⟩:∃ W2,(w1.alloc (.cells #[.int .i64 hk,.string hn,.int .i64 hm,.int .i64 p0,.int .i64 p1,.int .i64 p2,.int .i64 p3,.int .i64 p4,.int .i64 p5,.int .i64 p6,.int .i64 p7] 24)).setCells ub 3 [.int .i64 hk,.string hn,.int .i64 hm,.int .i64 p0,.int .i64 p1,.int .i64 p2,.int .i64 p3,.int .i64 p4,.int .i64 p5,.int .i64 p6,.int .i64 p7]=W2:=⟨_,rfl⟩;have hu3:=SET.out W2 hW2;have B2:=SETB.out W2 hW2;(with_reducible rw[hW2]);clear hW2;have c0:=cell_in hu3 0 _ rfl;have f14:W2.frozen? ⟨ub,14,none⟩=false:=Lib.frozen_of_heap hu3 14;have c14:=cell_in hu3 14 _ rfl))
   go_end0
   exact⟨B2,by rw[HZ.out];exact⟨rfl,hu3⟩⟩
  ·have he:(s.extract q1 s.size).toList.isEmpty=false:=empty_no hr0
   have HRD:=fun w'=>Lib.hid (Deci.read_any (s.extract q1 s.size) 65535 w' (by omega) (by omega) (by omega))
   have HWB:=fun w'=>Lib.hid (web_any u.scheme w')
   unfold Deci.RdPost at HRD
   have HZ:Hid (d=if Deci.readOK (s.extract q1 s.size).data.toList 65535=true then some (⟨hk,hn,hm,⟨p0,p1,p2,p3,p4,p5,p6,p7⟩⟩,if Deci.readN (s.extract q1 s.size).data.toList 65535=webP u.scheme then none else some (Deci.readN (s.extract q1 s.size).data.toList 65535)) else none):=by show _=_;rw[HD2.out,if_neg hr0]
   obtain⟨n,hn'⟩:∃ n,n=Deci.readN (s.extract q1 s.size).data.toList 65535:=⟨_,rfl⟩
   obtain⟨ok,hok⟩:∃ ok,ok=Deci.readOK (s.extract q1 s.size).data.toList 65535:=⟨_,rfl⟩
   obtain⟨wp,hwp⟩:∃ wp,wp=webP u.scheme:=⟨_,rfl⟩
   simp only[← hn',← hok] at HRD HZ
   simp only[← hwp] at HWB HZ
   clear hn' hok hwp HD2 hr0
   cases ok with
   | false =>
    have HZ':Hid (d=none):=HZ.out
    clear HZ
    go_wp2_with (first|((with_reducible (show wpList _ _ _ (Oper.mk none (.store 24 _ _) _ _ _ none::_) _ _));refine wpList_store_mid rfl 24 _ _ rfl ub 3 #[.int .i64 hk,.string hn,.int .i64 hm,.int .i64 p0,.int .i64 p1,.int .i64 p2,.int .i64 p3,.int .i64 p4,.int .i64 p5,.int .i64 p6,.int .i64 p7] rfl rfl (there_row hu2 (by simp[urlC])) host_info (by simp[Value.oneCell']) ?_;obtain⟨W2,hW2⟩:∃ W2,(w1.alloc (.cells #[.int .i64 hk,.string hn,.int .i64 hm,.int .i64 p0,.int .i64 p1,.int .i64 p2,.int .i64 p3,.int .i64 p4,.int .i64 p5,.int .i64 p6,.int .i64 p7] 24)).setCells ub 3 [.int .i64 hk,.string hn,.int .i64 hm,.int .i64 p0,.int .i64 p1,.int .i64 p2,.int .i64 p3,.int .i64 p4,.int .i64 p5,.int .i64 p6,.int .i64 p7]=W2:=⟨_,rfl⟩;have hu3:=SET.out W2 hW2;have B2:=SETB.out W2 hW2;(with_reducible rw[hW2]);clear hW2;have c0:=cell_in hu3 0 _ rfl;have f14:W2.frozen? ⟨ub,14,none⟩=false:=Lib.frozen_of_heap hu3 14;have c14:=cell_in hu3 14 _ rfl)|(go_at_call 157;refine(HRD _).out.mono ?_;rintro e w5 ⟨rfl,rfl⟩)|(go_at_call 96;refine(must_no _).mono ?_;rintro e w5 ⟨rfl,rfl⟩))
    show bodyPost Tryz.prog Tryz.f102 _ (Exit.panic wrongE) _ _
    refine⟨rfl,?_⟩
    rw[HZ'.out]
    exact⟨B2,rfl⟩
   | true =>
    have HZ':Hid (d=some (⟨hk,hn,hm,⟨p0,p1,p2,p3,p4,p5,p6,p7⟩⟩,if n=wp then none else some n)):=HZ.out
    clear HZ
    by_cases hnw:n=wp
    ·subst hnw
     have HZ2:Hid (d=some (⟨hk,hn,hm,⟨p0,p1,p2,p3,p4,p5,p6,p7⟩⟩,none)):=by show _=_;rw[HZ'.out,if_pos rfl]
     clear HZ'
     go_wp2_with (first|((with_reducible (show wpList _ _ _ (Oper.mk none (.store 24 _ _) _ _ _ none::_) _ _));refine wpList_store_mid rfl 24 _ _ rfl ub 3 #[.int .i64 hk,.string hn,.int .i64 hm,.int .i64 p0,.int .i64 p1,.int .i64 p2,.int .i64 p3,.int .i64 p4,.int .i64 p5,.int .i64 p6,.int .i64 p7] rfl rfl (there_row hu2 (by simp[urlC])) host_info (by simp[Value.oneCell']) ?_;obtain⟨W2,hW2⟩:∃ W2,(w1.alloc (.cells #[.int .i64 hk,.string hn,.int .i64 hm,.int .i64 p0,.int .i64 p1,.int .i64 p2,.int .i64 p3,.int .i64 p4,.int .i64 p5,.int .i64 p6,.int .i64 p7] 24)).setCells ub 3 [.int .i64 hk,.string hn,.int .i64 hm,.int .i64 p0,.int .i64 p1,.int .i64 p2,.int .i64 p3,.int .i64 p4,.int .i64 p5,.int .i64 p6,.int .i64 p7]=W2:=⟨_,rfl⟩;have hu3:=SET.out W2 hW2;have B2:=SETB.out W2 hW2;(with_reducible rw[hW2]);clear hW2;have c0:=cell_in hu3 0 _ rfl;have f14:W2.frozen? ⟨ub,14,none⟩=false:=Lib.frozen_of_heap hu3 14;have c14:=cell_in hu3 14 _ rfl)|(go_at_call 157;refine(HRD _).out.mono ?_;rintro e w5 ⟨rfl,rfl⟩)|(go_at_call 96;refine(must_yes _).mono ?_;rintro e w5 ⟨rfl,rfl⟩)|(go_at_call 33;refine(HWB _).out.mono ?_;rintro e w5 ⟨rfl,rfl⟩))
     go_end0
     exact⟨B2,by rw[HZ2.out];exact⟨rfl,hu3⟩⟩
    ·have hne:(n != wp)=true:=by rw[bne_iff_ne];exact hnw
     have HZ2:Hid (d=some (⟨hk,hn,hm,⟨p0,p1,p2,p3,p4,p5,p6,p7⟩⟩,some n)):=by show _=_;rw[HZ'.out,if_neg hnw]
     clear HZ'
     go_wp2_with (first|((with_reducible (show wpList _ _ _ (Oper.mk none (.store 24 _ _) _ _ _ none::_) _ _));refine wpList_store_mid rfl 24 _ _ rfl ub 3 #[.int .i64 hk,.string hn,.int .i64 hm,.int .i64 p0,.int .i64 p1,.int .i64 p2,.int .i64 p3,.int .i64 p4,.int .i64 p5,.int .i64 p6,.int .i64 p7] rfl rfl (there_row hu2 (by simp[urlC])) host_info (by simp[Value.oneCell']) ?_;obtain⟨W2,hW2⟩:∃ W2,(w1.alloc (.cells #[.int .i64 hk,.string hn,.int .i64 hm,.int .i64 p0,.int .i64 p1,.int .i64 p2,.int .i64 p3,.int .i64 p4,.int .i64 p5,.int .i64 p6,.int .i64 p7] 24)).setCells ub 3 [.int .i64 hk,.string hn,.int .i64 hm,.int .i64 p0,.int .i64 p1,.int .i64 p2,.int .i64 p3,.int .i64 p4,.int .i64 p5,.int .i64 p6,.int .i64 p7]=W2:=⟨_,rfl⟩;have hu3:=SET.out W2 hW2;have B2:=SETB.out W2 hW2;(with_reducible rw[hW2]);clear hW2;have c0:=cell_in hu3 0 _ rfl;have f14:W2.frozen? ⟨ub,14,none⟩=false:=Lib.frozen_of_heap hu3 14;have c14:=cell_in hu3 14 _ rfl)|(go_at_call 157;refine(HRD _).out.mono ?_;rintro e w5 ⟨rfl,rfl⟩)|(go_at_call 96;refine(must_yes _).mono ?_;rintro e w5 ⟨rfl,rfl⟩)|(go_at_call 33;refine(HWB _).out.mono ?_;rintro e w5 ⟨rfl,rfl⟩))
     go_end0
     exact⟨B2.setCell (p:=⟨ub,14,none⟩) (Nat.le_refl _) _,by rw[HZ2.out];exact⟨rfl,(heap_setCell_same _ ub 14 _ 27 (.int .i64 n) hu3).trans (by rw[set_port];rfl)⟩⟩
set_option maxHeartbeats 4000000 in
theorem door_nn (ub:Nat) (u:Url) (pv:Value) (s:ByteArray) (w:World) (G:Glob w) (hu:w.heap[ub]? = some (.cells (urlC u pv) 27 (0,0))) (hs:s.size≤300000) (h6:6≤ub) (hc1:Lib.hasPrefix s.data.toList [91]=false) (hc2:¬ 0≤dIdx s) :
  Calls Tryz.prog 102 #[.pointer (some ⟨ub,0,none⟩),.string s] w (DoorLeft ub u pv (doorX u.scheme s) w):=by
 have HB:∀ w',Hid (Calls Tryz.prog 155 #[.string s,.string ⟨#[91]⟩] w' fun e w''=>e=.returned (.bool (Lib.hasPrefix s.data.toList [91]))∧w'=w''):=fun w'=>hasPrefix_any s ⟨#[91]⟩ w'
 have H93:∀ w',Hid (Calls Tryz.prog 100 #[.string s,.int .u8 93] w' fun e w''=>e=.returned (.int .i64 (Lib.indexByte s.data.toList 93))∧w'=w''):=fun w'=>indexByte_any s 93 w'
 have hle:=indexByte_le s.data.toList 93
 rw[size_len] at hle
 have hfr:dFrom s≤s.size:=by unfold dFrom;split <;> omega
 have H58:∀ w',Hid (Calls Tryz.prog 100 #[.string (s.extract (dFrom s) s.size),.int .u8 58] w' fun e w''=>e=.returned (.int .i64 (dIdx s))∧w'=w''):=fun w'=>indexByte_any (s.extract (dFrom s) s.size) 58 w'
 have hle2:-1≤dIdx s∧dIdx s < (s.size:Int) - dFrom s:=by
  have:=indexByte_le (s.extract (dFrom s) s.size).data.toList 58
  rw[size_len,ByteArray.size_extract] at this
  unfold dIdx
  refine⟨this.1,?_⟩
  have h2:=this.2
  omega
 have HF:Hid (dFrom s=_):=dFrom.eq_1 s
 have HNM:Hid (dName s=_):=dName.eq_1 s
 have HPT:Hid (dPort s=_):=dPort.eq_1 s
 obtain⟨fr,hfr'⟩:∃ fr,fr=dFrom s:=⟨_,rfl⟩
 obtain⟨ix,hix⟩:∃ ix,ix=dIdx s:=⟨_,rfl⟩
 obtain⟨i9,hi9⟩:∃ i9,i9=Lib.indexByte s.data.toList 93:=⟨_,rfl⟩
 obtain⟨pb,hpb⟩:∃ pb,pb=Lib.hasPrefix s.data.toList [91]:=⟨_,rfl⟩
 simp only[← hfr',← hix,← hi9,← hpb] at HB H93 hle hfr H58 hle2 HF HNM HPT
 have HDX:Hid (doorX u.scheme s=_):=doorX.eq_1 u.scheme s
 obtain⟨d,hd⟩:∃ d,d=doorX u.scheme s:=⟨_,rfl⟩
 rw[← hd] at HDX ⊢
 clear hd
 have h0:¬ 0≤ix:=by rw[hix];exact hc2
 rw[hc1] at hpb
 subst hpb
 clear hfr' hix hi9 hc1 hc2
 have hf0:fr=0:=HF.out
 subst hf0
 have hfs:((0:Nat):Int)≤(s.size:Int):=by omega
 have hE:s.extract 0 s.size=s:=by simp
 rw[hE] at H58
 clear hE
 have h0':¬ (0≤ix):=h0
 have HT:Hid (dName s=s):=by show _=_;rw[HNM.out,if_neg h0]
 have HR:Hid (dPort s=⟨#[]⟩):=by show _=_;rw[HPT.out,if_neg h0]
 rw[HT.out,HR.out] at HDX
 have hts:s.size≤300000:=hs
 have hrs:(⟨#[]⟩:ByteArray).size≤300000:=by decide
 clear HF hle hle2 HT HR HNM HPT
 go_enter Tryz.func102,Tryz.ntmps102
 go_wp2_with fail
 refine(HB _).out.mono ?_
 rintro e w1 ⟨rfl,rfl⟩
 go_wp2_with fail
 refine(H58 _).out.mono ?_
 rintro e w1 ⟨rfl,rfl⟩
 go_wp2_with fail
 have HH:=Lib.hid (hostParse_any (s) w (G.below (Below.refl w.heap.size w)) (by omega))
 obtain⟨x,hx⟩:∃ x,x=hostX (s):=⟨_,rfl⟩
 rw[← hx] at HH HDX
 clear hx
 cases x with
 | none =>
  have HZ:Hid (d=none):=HDX.out
  clear HDX
  have HH:Hid (Calls Tryz.prog 156 #[.string (s)] w fun e w'=>e=.returned (.tuple #[.agg #[.int .i64 0,.string ⟨#[]⟩,.int .i64 0,.int .i64 0,.int .i64 0,.int .i64 0,.int .i64 0,.int .i64 0,.int .i64 0,.int .i64 0,.int .i64 0],.bool false])∧Below (w).heap.size w w'):=HH
  refine HH.out.mono ?_
  rintro e w1 ⟨rfl,b1⟩
  go_wp2_with fail
  refine(must_no _).mono ?_
  rintro e w2 ⟨rfl,rfl⟩
  show bodyPost Tryz.prog Tryz.f102 _ (Exit.panic wrongE) _ _
  refine⟨rfl,?_⟩
  rw[HZ.out]
  exact⟨(((Below.refl w.heap.size w).trans (b1.mono (Below.refl w.heap.size w).size)).alloc (by have:=(Below.refl w.heap.size w).size;have:=b1.size;omega) _).mono (by have:=heap_lt hu;omega),rfl⟩
 | some x =>
  have HD2:Hid (d=if (⟨#[]⟩:ByteArray).size=0 then some (x.host,none) else if Deci.readOK (⟨#[]⟩:ByteArray).data.toList 65535=true then some (x.host,if Deci.readN (⟨#[]⟩:ByteArray).data.toList 65535=webP u.scheme then none else some (Deci.readN (⟨#[]⟩:ByteArray).data.toList 65535)) else none):=HDX.out
  clear HDX
  have HH:Hid (Calls Tryz.prog 156 #[.string (s)] w fun e w'=>e=.returned (.tuple #[.agg (hostC x.host),.bool true])∧Below (w).heap.size w w'):=HH
  obtain⟨⟨hk,hn,hm,⟨p0,p1,p2,p3,p4,p5,p6,p7⟩⟩,hxx⟩:∃ h,h=x.host:=⟨_,rfl⟩
  rw[← hxx] at HH HD2
  clear hxx
  refine HH.out.mono ?_
  rintro e w1 ⟨rfl,b1⟩
  have B1:=(Below.refl w.heap.size w).trans (b1.mono (Below.refl w.heap.size w).size)
  have hu1:=kept B1 hu
  have ul:ub < w.heap.size:=heap_lt hu
  have ul1:ub < w1.heap.size:=heap_lt hu1
  have hu2:(w1.alloc (.cells #[.int .i64 hk,.string hn,.int .i64 hm,.int .i64 p0,.int .i64 p1,.int .i64 p2,.int .i64 p3,.int .i64 p4,.int .i64 p5,.int .i64 p6,.int .i64 p7] 24)).heap[ub]? = some (.cells (urlC u pv) 27 (0,0)):=(Below.heap_alloc _ _ _ ul1).trans hu1
  clear b1
  go_wp2_with fail
  refine(must_yes _).mono ?_
  rintro e w2 ⟨rfl,rfl⟩
  have SET:∀ W2:World,(w1.alloc (.cells #[.int .i64 hk,.string hn,.int .i64 hm,.int .i64 p0,.int .i64 p1,.int .i64 p2,.int .i64 p3,.int .i64 p4,.int .i64 p5,.int .i64 p6,.int .i64 p7] 24)).setCells ub 3 [.int .i64 hk,.string hn,.int .i64 hm,.int .i64 p0,.int .i64 p1,.int .i64 p2,.int .i64 p3,.int .i64 p4,.int .i64 p5,.int .i64 p6,.int .i64 p7]=W2→W2.heap[ub]? = some (.cells (urlC { u with host:=⟨hk,hn,hm,⟨p0,p1,p2,p3,p4,p5,p6,p7⟩⟩ } pv) 27 (0,0)):=by
   intro W2 h;rw[← h,setCells_row ub 27 _ 3 _ _ hu2,setAll_host]
  have SETB:∀ W2:World,(w1.alloc (.cells #[.int .i64 hk,.string hn,.int .i64 hm,.int .i64 p0,.int .i64 p1,.int .i64 p2,.int .i64 p3,.int .i64 p4,.int .i64 p5,.int .i64 p6,.int .i64 p7] 24)).setCells ub 3 [.int .i64 hk,.string hn,.int .i64 hm,.int .i64 p0,.int .i64 p1,.int .i64 p2,.int .i64 p3,.int .i64 p4,.int .i64 p5,.int .i64 p6,.int .i64 p7]=W2→Below ub w W2:=by
   intro W2 h;rw[← h];exact setCells_below ub ub (Nat.le_refl _) _ 3 _ _ ((B1.mono (Nat.le_of_lt ul)).alloc (Nat.le_of_lt ul1) _)
  replace SET:=Lib.hid SET
  replace SETB:=Lib.hid SETB
  by_cases hr0:(⟨#[]⟩:ByteArray).size=0
  ·have he:True:=trivial
   have HZ:Hid (d=some (⟨hk,hn,hm,⟨p0,p1,p2,p3,p4,p5,p6,p7⟩⟩,none)):=by show _=_;rw[HD2.out,if_pos hr0]
   clear HD2 hr0
   go_wp2_with (((with_reducible (show wpList _ _ _ (Oper.mk none (.store 24 _ _) _ _ _ none::_) _ _));refine wpList_store_mid rfl 24 _ _ rfl ub 3 #[.int .i64 hk,.string hn,.int .i64 hm,.int .i64 p0,.int .i64 p1,.int .i64 p2,.int .i64 p3,.int .i64 p4,.int .i64 p5,.int .i64 p6,.int .i64 p7] rfl rfl (there_row hu2 (by simp[urlC])) host_info (by simp[Value.oneCell']) ?_;obtain⟨W2,hW2⟩:∃ W2,(w1.alloc (.cells #[.int .i64 hk,.string hn,.int .i64 hm,.int .i64 p0,.int .i64 p1,.int .i64 p2,.int .i64 p3,.int .i64 p4,.int .i64 p5,.int .i64 p6,.int .i64 p7] 24)).setCells ub 3 [.int .i64 hk,.string hn,.int .i64 hm,.int .i64 p0,.int .i64 p1,.int .i64 p2,.int .i64 p3,.int .i64 p4,.int .i64 p5,.int .i64 p6,.int .i64 p7]=W2:=⟨_,rfl⟩;have hu3:=SET.out W2 hW2;have B2:=SETB.out W2 hW2;(with_reducible rw[hW2]);clear hW2;have c0:=cell_in hu3 0 _ rfl;have f14:W2.frozen? ⟨ub,14,none⟩=false:=Lib.frozen_of_heap hu3 14;have c14:=cell_in hu3 14 _ rfl))
   go_end0
   exact⟨B2,by rw[HZ.out];exact⟨rfl,hu3⟩⟩
  ·exact absurd rfl hr0
theorem door_any (ub:Nat) (u:Url) (pv:Value) (s:ByteArray) (w:World) (G:Glob w) (hu:w.heap[ub]? = some (.cells (urlC u pv) 27 (0,0))) (hs:s.size≤300000) (h6:6≤ub) :
  Calls Tryz.prog 102 #[.pointer (some ⟨ub,0,none⟩),.string s] w (DoorLeft ub u pv (doorX u.scheme s) w):=by
 by_cases h1:Lib.hasPrefix s.data.toList [91]=true
 ·by_cases h2:0≤dIdx s
  ·exact door_yy ub u pv s w G hu hs h6 h1 h2
  ·exact door_yn ub u pv s w G hu hs h6 h1 h2
 ·by_cases h2:0≤dIdx s
  ·exact door_ny ub u pv s w G hu hs h6 (by simpa using h1) h2
  ·exact door_nn ub u pv s w G hu hs h6 (by simpa using h1) h2
end Go.Proofs.YtdlkjofnnefjfaaGreatDoor
