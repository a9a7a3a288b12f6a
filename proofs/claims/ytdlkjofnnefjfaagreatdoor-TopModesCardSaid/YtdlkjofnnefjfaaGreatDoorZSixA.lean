/- The walk of layer 6's May: for all eight numbers. The walk of layer 6's split: the pieces of a text with colons between: for every text of at most 1000000 bytes. The walks of layer 7's domains, and of a host behind its interface: for every text of at most 1000000 bytes. Rows of cells: hosts, eight numbers, addresses as they lie in a block; results that come out of a block. -/
import Derived.Test.YtdlkjofnnefjfaaGreatDoorZLib
import Derived.LoopN
import Derived.Test.YtdlkjofnnefjfaaGreatDoorZFour
import Derived.Deep.AppendLies
import Derived.Lib.ReplaceLaws
import Derived.Test.YtdlkjofnnefjfaaGreatDoorZUrlA
import Derived.Laws.ResultCell
import Derived.Lib.SmallJoins
set_option linter.all false
namespace Go.Proofs.YtdlkjofnnefjfaaGreatDoor
set_option maxRecDepth 100000
section
open Go.RowKit
def mask (n:Int):Int:=bits .and .i64 n 65535
def maskS (p:Six):Six:=⟨mask p.p0,mask p.p1,mask p.p2,mask p.p3,mask p.p4,mask p.p5,mask p.p6,mask p.p7⟩
def sixMay (p:Six):Bool:=decide (maskS p=p)
theorem six_i0 (a0 a1 a2 a3 a4 a5 a6 a7:Int) (w:World):(Instr.index 22 (.agg #[.int .i64 a0,.int .i64 a1,.int .i64 a2,.int .i64 a3,.int .i64 a4,.int .i64 a5,.int .i64 a6,.int .i64 a7]) (.int .i64 0)).run Tryz.prog w=.ok (.int .i64 a0) w:=by kernel_rfl
theorem six_i1 (a0 a1 a2 a3 a4 a5 a6 a7:Int) (w:World):(Instr.index 22 (.agg #[.int .i64 a0,.int .i64 a1,.int .i64 a2,.int .i64 a3,.int .i64 a4,.int .i64 a5,.int .i64 a6,.int .i64 a7]) (.int .i64 1)).run Tryz.prog w=.ok (.int .i64 a1) w:=by kernel_rfl
theorem six_i2 (a0 a1 a2 a3 a4 a5 a6 a7:Int) (w:World):(Instr.index 22 (.agg #[.int .i64 a0,.int .i64 a1,.int .i64 a2,.int .i64 a3,.int .i64 a4,.int .i64 a5,.int .i64 a6,.int .i64 a7]) (.int .i64 2)).run Tryz.prog w=.ok (.int .i64 a2) w:=by kernel_rfl
theorem six_i3 (a0 a1 a2 a3 a4 a5 a6 a7:Int) (w:World):(Instr.index 22 (.agg #[.int .i64 a0,.int .i64 a1,.int .i64 a2,.int .i64 a3,.int .i64 a4,.int .i64 a5,.int .i64 a6,.int .i64 a7]) (.int .i64 3)).run Tryz.prog w=.ok (.int .i64 a3) w:=by kernel_rfl
theorem six_i4 (a0 a1 a2 a3 a4 a5 a6 a7:Int) (w:World):(Instr.index 22 (.agg #[.int .i64 a0,.int .i64 a1,.int .i64 a2,.int .i64 a3,.int .i64 a4,.int .i64 a5,.int .i64 a6,.int .i64 a7]) (.int .i64 4)).run Tryz.prog w=.ok (.int .i64 a4) w:=by kernel_rfl
theorem six_i5 (a0 a1 a2 a3 a4 a5 a6 a7:Int) (w:World):(Instr.index 22 (.agg #[.int .i64 a0,.int .i64 a1,.int .i64 a2,.int .i64 a3,.int .i64 a4,.int .i64 a5,.int .i64 a6,.int .i64 a7]) (.int .i64 5)).run Tryz.prog w=.ok (.int .i64 a5) w:=by kernel_rfl
theorem six_i6 (a0 a1 a2 a3 a4 a5 a6 a7:Int) (w:World):(Instr.index 22 (.agg #[.int .i64 a0,.int .i64 a1,.int .i64 a2,.int .i64 a3,.int .i64 a4,.int .i64 a5,.int .i64 a6,.int .i64 a7]) (.int .i64 6)).run Tryz.prog w=.ok (.int .i64 a6) w:=by kernel_rfl
theorem six_i7 (a0 a1 a2 a3 a4 a5 a6 a7:Int) (w:World):(Instr.index 22 (.agg #[.int .i64 a0,.int .i64 a1,.int .i64 a2,.int .i64 a3,.int .i64 a4,.int .i64 a5,.int .i64 a6,.int .i64 a7]) (.int .i64 7)).run Tryz.prog w=.ok (.int .i64 a7) w:=by kernel_rfl
set_option maxHeartbeats 2000000 in
theorem sixMay_any (p:Six) (w:World) :
  Calls Tryz.prog 175 #[.agg (sixC p)] w fun e w'=>e=.returned (.bool (sixMay p))∧Below w.heap.size w w':=by
 have i0:=six_i0 p.p0 p.p1 p.p2 p.p3 p.p4 p.p5 p.p6 p.p7
 have i1:=six_i1 p.p0 p.p1 p.p2 p.p3 p.p4 p.p5 p.p6 p.p7
 have i2:=six_i2 p.p0 p.p1 p.p2 p.p3 p.p4 p.p5 p.p6 p.p7
 have i3:=six_i3 p.p0 p.p1 p.p2 p.p3 p.p4 p.p5 p.p6 p.p7
 have i4:=six_i4 p.p0 p.p1 p.p2 p.p3 p.p4 p.p5 p.p6 p.p7
 have i5:=six_i5 p.p0 p.p1 p.p2 p.p3 p.p4 p.p5 p.p6 p.p7
 have i6:=six_i6 p.p0 p.p1 p.p2 p.p3 p.p4 p.p5 p.p6 p.p7
 have i7:=six_i7 p.p0 p.p1 p.p2 p.p3 p.p4 p.p5 p.p6 p.p7
 have hm:∀ n,bits .and .i64 n 65535=mask n:=fun _=>rfl
 have HE:=eqS
 have HP:Hid (sixMay p=decide (maskS p=p)):=rfl
 obtain⟨b,hb⟩:∃ b,b=sixMay p:=⟨_,rfl⟩
 rw[← hb] at HP ⊢
 clear hb
 go_enter Tryz.func175,Tryz.ntmps175
 go_wp2
 refine wp_loop_rounds 9 ?_
 iterate 9 (rw[rounds_succ];go_wp2)
 go_ret
 exact⟨ret_bool (by rw[HP.out];clear i0 i1 i2 i3 i4 i5 i6 i7 HP;cases p;simp[maskS]),((Below.refl _ _).alloc (Nat.le_refl _) _).alloc (by simp) _⟩
end
section
open Go.RowKit
def pieceGo:List UInt8→Int→Option Int
 | [],n=>some n
 | c::l,n=>if hexN c.toNat < 0 then none else if 65535 < n * 16 + hexN c.toNat then none else pieceGo l (n * 16 + hexN c.toNat)
def pieceOf (s:ByteArray):Option Int:=if s.size=0∨4 < s.size then none else pieceGo s.data.toList 0
def pieceOK (s:ByteArray):Bool:=(pieceOf s).isSome
def pieceN (s:ByteArray):Int:=(pieceOf s).getD 0
def colParts (s:ByteArray):List ByteArray:=parts ⟨#[58]⟩ s
def splitOK (s:ByteArray):Bool:=if s.size=0 then true else (colParts s).all pieceOK
def splitN (s:ByteArray):List Int:=if s.size=0 then [] else if (colParts s).all pieceOK=true then (colParts s).map pieceN else []
theorem hexN_le (n:Nat):-1≤hexN n∧hexN n≤15:=by
 unfold hexN
 split
 ·omega
 ·split
  ·omega
  ·split <;> omega
theorem drop_cons (s:ByteArray) (k:Nat) (h:k < s.size):s.data.toList.drop k=s[k]::s.data.toList.drop (k + 1):=by
 rw[List.drop_eq_getElem_cons (by rw[size_len];exact h)];rfl
theorem Tryz.info3:(Tryz.prog.info? 3).map (fun i=>(i.zero,i.size,i.bytes))=some (some (.int .i64 0),1,8):=by kernel_rfl
theorem own_lower {w:World} {B B' e size n:Nat} {v:Value} {xs:List Value} (h:w.ownsRow B e size v n xs) (hb:B'≤B):w.ownsRow B' e size v n xs:=by
 obtain⟨h1,h2⟩:=h
 refine⟨h1,?_⟩
 rcases h2 with h2|⟨g,cap,cur,hv,hg,r⟩
 ·exact Or.inl h2
 ·exact Or.inr ⟨g,cap,cur,hv,Nat.le_trans hb hg,r⟩
def SplitLeft (s:ByteArray) (w:World) (e:Ending) (w':World):Prop:=∃ v,e=.returned (.tuple #[v,.bool (splitOK s)])∧w'.ownsRow w.heap.size 3 1 v (splitN s).length ((splitN s).map (Value.int .i64))∧Below w.heap.size w w'
theorem split_no {s:ByteArray} {w w':World} (h:splitOK s=false) (hb:Below w.heap.size w w'):SplitLeft s w (.returned (.tuple #[.slice none 0 0,.bool false])) w':=by
 refine⟨.slice none 0 0,by rw[h],?_,hb⟩
 have e:splitN s=[]:=by
  unfold splitOK at h
  unfold splitN
  split at h
  ·cases h
  ·rw[if_neg (by assumption),h];rfl
 rw[e];exact World.ownsRow_nil _ _ _ _
set_option maxHeartbeats 2000000 in
theorem sixSplit_any (s:ByteArray) (w:World) (G:Glob w) (hs:s.size≤1000000) :
  Calls Tryz.prog 235 #[.string s] w (SplitLeft s w):=by
 obtain⟨i0,hi,hz0,hz1,hz2⟩:=info_parts Tryz.info3
 by_cases h0:s.size=0
 ·have he:s.toList.isEmpty=true:=(empty_iff s).2 h0
  have HE:Hid (SplitLeft s w (.returned (.tuple #[.slice none 0 0,.bool true])) w):=⟨_,by unfold splitOK;rw[if_pos h0],by unfold splitN;rw[if_pos h0];exact World.ownsRow_nil _ _ _ _,Below.refl _ _⟩
  have he2:s.data.toList=[]:=List.length_eq_zero_iff.1 (by rw[size_len];exact h0)
  clear h0
  go_enter Tryz.func235,Tryz.ntmps235
  go_wp2
  go_ret2
  exact HE.out
 ·have he:s.toList.isEmpty=false:=empty_no h0
  have HSP:=Lib.hid (split_any s ⟨#[58]⟩ w G (by omega) (by decide))
  have hsz:∀ p∈colParts s,p.size≤1000000:=fun p hp=>Nat.le_trans (parts_size _ _ s p hp) hs
  have hlen:(colParts s).length≤3000001:=by
   unfold colParts;rw[parts_len _ (by decide) s.size s (Nat.le_refl _)]
   have:=Lib.countB_mul_le ⟨#[58]⟩ (by decide) s.size s (Nat.le_refl _)
   have e1:(⟨#[58]⟩:ByteArray).size=1:=rfl
   rw[e1,Nat.mul_one] at this;omega
  obtain⟨l,hl⟩:∃ l,l=colParts s:=⟨_,rfl⟩
  have HOK:Hid (splitOK s=l.all pieceOK):=by show _=_;unfold splitOK;rw[if_neg h0,hl]
  have HN:Hid (l.all pieceOK=true→splitN s=l.map pieceN):=by intro h;unfold splitN;rw[if_neg h0,← hl,if_pos h]
  have HSP':Hid (Calls Tryz.prog 214 #[.string s,.string ⟨#[58]⟩] w fun e w'=>e=.returned (.slice (some ⟨w.heap.size,0,none⟩) l.length l.length)∧w.alloc (.cells (l.map Value.string).toArray 9)=w'):=by
   rw[hl];exact HSP.out
  rw[← hl] at hsz hlen
  clear HSP hl h0
  have HC:Hid (∀ j,j < l.length→(w.alloc (.cells (l.map Value.string).toArray 9)).cell? ⟨w.heap.size,j,none⟩=some (.string (l.getD j ByteArray.empty))):=by
   intro j hj
   rw[World.cell?_alloc_at _ _ _ _ rfl];simp[hj]
  have HX:Hid (∀ e w',SplitLeft s w e w'→SplitLeft s w e w'):=fun _ _ h=>h
  go_enter Tryz.func235,Tryz.ntmps235
  go_wp2_with fail
  refine HSP'.out.mono ?_
  rintro e w' ⟨rfl,rfl⟩
  go_wp2_with fail
  go_loopw [4,6,7,8,9,15] (fun v _ _ _ _ i wr=>∃ k:Nat,k≤l.length∧i=.int .i64 k∧wr.ownsRow (w.heap.size + 1) 3 1 v k (((l.take k).map pieceN).map (Value.int .i64))∧(l.take k).all pieceOK=true∧Below (w.heap.size + 1) (w.alloc (.cells (l.map Value.string).toArray 9)) wr) (fun _ _ _ _ _ i _=>l.length - (intOf i).toNat)
  case atStart=>exact⟨0,Nat.zero_le _,rfl,World.ownsRow_nil _ _ _ _,by simp,Below.refl _ _⟩
  case round =>
   obtain⟨k,hk,rfl,hown,hall,hB⟩:=hrel
   by_cases hlt:k < l.length
   ·have hcell:wr.cell? ⟨w.heap.size,k,none⟩=some (.string (l.getD k ByteArray.empty)):=(hB.cell (p:=⟨w.heap.size,k,none⟩) (by simp)).trans (HC.out k hlt)
    obtain⟨pt,hpt⟩:∃ pt,pt=l.getD k ByteArray.empty:=⟨_,rfl⟩
    have hps:pt.size≤1000000:=by
     rw[hpt];refine hsz _ ?_
     simp[List.getD,hlt]
    have hB2:Below w.heap.size w wr:=((Below.refl _ _).alloc (Nat.le_refl _) _).trans (hB.mono (by omega))
    have HNO:Hid (pieceOf pt=none→SplitLeft s w (.returned (.tuple #[.slice none 0 0,.bool false])) wr):=fun h=>split_no (by
     rw[HOK.out];exact all_no pieceOK l k ByteArray.empty hlt (by rw[← hpt];unfold pieceOK;rw[h];rfl)) hB2
    have HTS:Hid (l.take (k + 1)=l.take k++[pt]):=by show _=_;rw[hpt];exact take_snocL l k _ hlt
    rw[← hpt] at hcell
    have HALL:=Lib.hid hall
    clear hpt hall
    go_wp2_with fail
    go_loop [7,8,9,21] (fun n _ _ j=>∃ (m:Nat) (x:Int),m≤pt.size∧j=.int .i64 m∧n=.int .i64 x∧0≤x∧x≤65535∧Hid (pieceGo (pt.data.toList.drop m) x=pieceGo pt.data.toList 0)) (fun _ _ _ j=>pt.size - (intOf j).toNat)
    case atStart=>exact⟨0,0,Nat.zero_le _,rfl,rfl,by omega,by omega,rfl⟩
    case round =>
     obtain⟨m,x,hm,rfl,rfl,x0,x1,hg⟩:=hrel
     by_cases hlt2:m < pt.size
     ·have HD:=Lib.hid (drop_cons pt m hlt2)
      have HH:=Lib.hid (hex_any (pt[m]'hlt2) wr)
      obtain⟨d,hd⟩:∃ d,d=hexN (pt[m]'hlt2).toNat:=⟨_,rfl⟩
      have hh:=hexN_le (pt[m]'hlt2).toNat
      have HG:Hid (pieceGo pt.data.toList 0=if d < 0 then none else if 65535 < x * 16 + d then none else pieceGo (pt.data.toList.drop (m + 1)) (x * 16 + d)):=by
       show _=_
       rw[← hg.out,HD.out,pieceGo,hd]
      rw[← hd] at HH hh
      obtain⟨hh1,hh2⟩:=hh
      have HNN:Hid (pieceGo pt.data.toList 0=none→pieceOf pt=none):=fun h=>by unfold pieceOf;split;(· rfl);(· exact h)
      clear hd
      by_cases hd0:d < 0
      ·have HF:=Lib.hid (HNO.out (HNN.out (by rw[HG.out,if_pos hd0])))
       go_wp2_with fail
       refine HH.out.mono ?_
       rintro e w' ⟨rfl,rfl⟩
       go_wp2
       go_ret2
       exact HF.out
      ·by_cases hd1:65535 < x * 16 + d
       ·have HF:=Lib.hid (HNO.out (HNN.out (by rw[HG.out,if_neg hd0,if_pos hd1])))
        go_wp2_with fail
        refine HH.out.mono ?_
        rintro e w' ⟨rfl,rfl⟩
        go_wp2
        go_ret2
        exact HF.out
       ·have HS:Hid (pieceGo (pt.data.toList.drop (m + 1)) (x * 16 + d)=pieceGo pt.data.toList 0):=by
         show _=_;rw[HG.out,if_neg hd0,if_neg hd1]
        go_wp2_with fail
        refine HH.out.mono ?_
        rintro e w' ⟨rfl,rfl⟩
        go_wp2_with fail
        go_round
        case rel=>exact⟨m + 1,x * 16 + d,by omega,by go_num,rfl,by omega,by omega,HS⟩
        case measure=>simp[intOf];omega
     ·have HE:Hid (pieceGo pt.data.toList 0=some x):=by
       show _=_
       rw[← hg.out,List.drop_eq_nil_of_le (by rw[size_len];omega)];rfl
      by_cases hz:pt.size=0
      ·have HF:=Lib.hid (HNO.out (by unfold pieceOf;rw[if_pos (Or.inl hz)]))
       have hpe:pt.toList.isEmpty=true:=(empty_iff pt).2 hz
       have hpe2:pt.data.toList=[]:=List.length_eq_zero_iff.1 (by rw[size_len];exact hz)
       clear hz
       go_wp2
       go_ret2
       exact HF.out
      ·have hpe:pt.toList.isEmpty=false:=empty_no hz
       by_cases h4:4 < pt.size
       ·have HF:=Lib.hid (HNO.out (by unfold pieceOf;rw[if_pos (Or.inr h4)]))
        clear hz
        go_wp2
        go_ret2
        exact HF.out
       ·have HV:Hid (pieceOf pt=some x):=by show _=_;unfold pieceOf;rw[if_neg (by omega)];exact HE.out
        have hs2:=hB.size
        simp at hs2
        clear hz
        go_wp2_with (at_builtin;refine wpList_append_own _ rfl _ _ 290 rfl (w.heap.size + 1) 3 i0 (.int .i64 0) 1 8 Tryz.underlying290 hi hz0 hz1 hz2 rfl (by decide) _ _ _ rfl (hown.alloc _) ⟨wr.heap.size,0,none⟩ 1 1 [.int .i64 x] rfl rfl ?c1 ?c2 ?c3 ?c4 ?c5 ?_)
        case c2=>rfl
        case c3=>unfold maxLen;omega
        case c4=>omega
        case c5=>omega
        intro v' w3 hown' hgrow _
        have hR3:w3.ownsRow (w.heap.size + 1) 3 1 v' (k + 1) (((l.take (k + 1)).map pieceN).map (Value.int .i64)):=by
         rw[HTS.out,List.map_append,List.map_append]
         have:pieceN pt=x:=by unfold pieceN;rw[HV.out];rfl
         simpa [this] using hown'
        have hA3:Hid ((l.take (k + 1)).all pieceOK=true):=by
         show _=_
         rw[HTS.out];exact all_snoc _ _ _ HALL.out (by unfold pieceOK;rw[HV.out];rfl)
        have hB3:Below (w.heap.size + 1) (w.alloc (.cells (l.map Value.string).toArray 9)) w3:=(hB.alloc (by omega) _).grown hgrow (by simp;omega) (fun j hj=>(hown.lt j (by rw[hj])).1)
        clear hown' hgrow hown
        go_wp2
        go_roundw
        case rel=>exact⟨k + 1,by omega,by go_num,hR3,hA3.out,hB3⟩
        case measure=>simp[intOf];omega
   ·obtain rfl:k=l.length:=by omega
    rw[List.take_length] at hown hall
    have HF:Hid (SplitLeft s w (.returned (.tuple #[u4,.bool true])) wr):=⟨u4,by rw[HOK.out,hall],by rw[HN.out hall,List.length_map];exact own_lower hown (by omega),((Below.refl _ _).alloc (Nat.le_refl _) _).trans (hB.mono (by omega))⟩
    clear hall hown
    go_wp2
    go_ret2
    exact HF.out
end
section
open Go.RowKit
def hostOdd (r:Nat):Bool:=decide (128≤r) || (decide (r≠46) && (decide (r≠45) && (decide (r≠95) && (!Deci.isD (UInt8.ofNat r) && (decide (r < 97) || decide (122 < r))))))
theorem hostOdd_end (r:Nat) (w:World) (b:Bool) (hb:b=hostOdd r) (h:Calls Tryz.prog 222 #[.int .i32 (r:Int)] w fun e w'=>e=.returned (.bool b)∧w=w') :
  Calls Tryz.prog 222 #[.int .i32 (r:Int)] w fun e w'=>e=.returned (.bool (hostOdd r))∧∃ q,w'=w.drewN q:=by
 subst hb
 exact h.mono fun e w' ⟨he,hw⟩=>⟨he,0,hw.symm⟩
set_option maxHeartbeats 1000000 in
theorem hostOdd_at (w:World):PredAt Tryz.prog 222 #[] encR hostOdd w:=fun W r _=>by
 unfold FnGives
 show Calls Tryz.prog 222 #[.int .i32 (r:Int)] W fun e w'=>e=.returned (.bool (hostOdd r))∧∃ q,w'=W.drewN q
 by_cases h:128≤r
 ·refine hostOdd_end r W true (by unfold hostOdd;rw[decide_eq_true h];rfl) ?_
  go_enter Tryz.func222,Tryz.ntmps222
  go_wp2
  go_ret
  exact⟨rfl,rfl⟩
 ·by_cases h1:r=46
  ·subst h1
   refine hostOdd_end 46 W false (by decide) ?_
   go_enter Tryz.func222,Tryz.ntmps222
   go_wp2
   go_ret
   exact⟨rfl,rfl⟩
  ·by_cases h2:r=45
   ·subst h2
    refine hostOdd_end 45 W false (by decide) ?_
    go_enter Tryz.func222,Tryz.ntmps222
    go_wp2
    go_ret
    exact⟨rfl,rfl⟩
   ·by_cases h3:r=95
    ·subst h3
     refine hostOdd_end 95 W false (by decide) ?_
     go_enter Tryz.func222,Tryz.ntmps222
     go_wp2
     go_ret
     exact⟨rfl,rfl⟩
    ·have HE:Hid (hostOdd r=(!Deci.isD (UInt8.ofNat r) && (decide (r < 97) || decide (122 < r)))):=by
      show _=_;unfold hostOdd;rw[decide_eq_false h,decide_eq_true h1,decide_eq_true h2,decide_eq_true h3];rfl
     obtain⟨c,hc⟩:∃ c,c=UInt8.ofNat r:=⟨_,rfl⟩
     have hr:r=c.toNat:=by rw[hc];simp;omega
     rw[← hc] at HE
     clear hc
     have H2:=Lib.hid (digit_any c W)
     have n1:(((r:Nat):Int) != 46)=true:=by rw[bne_iff_ne];omega
     have n2:(((r:Nat):Int) != 45)=true:=by rw[bne_iff_ne];omega
     have n3:(((r:Nat):Int) != 95)=true:=by rw[bne_iff_ne];omega
     have hw:IntKind.u8.wrap (r:Int)=(r:Int):=wrap_u8 (by omega) (by omega)
     have H2':Hid (Calls Tryz.prog 66 #[.int .u8 (r:Int)] W fun e w'=>e=.returned (.bool (Deci.isD c))∧W=w'):=by rw[hr];exact H2.out
     obtain⟨b,hb⟩:∃ b,b=Deci.isD c:=⟨_,rfl⟩
     rw[← hb] at HE H2'
     clear hb H2 hr h1 h2 h3
     cases b with
     | true =>
      refine hostOdd_end r W false (by rw[HE.out];rfl) ?_
      go_enter Tryz.func222,Tryz.ntmps222
      go_wp2_with fail
      refine H2'.out.mono ?_
      rintro e w' ⟨rfl,rfl⟩
      go_wp2
      go_ret
      exact⟨ret_bool (by first|rfl|(simp <;> omega)),rfl⟩
     | false =>
      by_cases g1:r < 97
      ·refine hostOdd_end r W true (by rw[HE.out,decide_eq_true g1];rfl) ?_
       go_enter Tryz.func222,Tryz.ntmps222
       go_wp2_with fail
       refine H2'.out.mono ?_
       rintro e w' ⟨rfl,rfl⟩
       go_wp2
       go_ret
       exact⟨ret_bool (by first|rfl|(simp <;> omega)),rfl⟩
      ·by_cases g2:122 < r
       ·refine hostOdd_end r W true (by rw[HE.out,decide_eq_true g2];simp) ?_
        go_enter Tryz.func222,Tryz.ntmps222
        go_wp2_with fail
        refine H2'.out.mono ?_
        rintro e w' ⟨rfl,rfl⟩
        go_wp2
        go_ret
        exact⟨ret_bool (by first|rfl|(simp <;> omega)),rfl⟩
       ·refine hostOdd_end r W false (by rw[HE.out,decide_eq_false g1,decide_eq_false g2];rfl) ?_
        go_enter Tryz.func222,Tryz.ntmps222
        go_wp2_with fail
        refine H2'.out.mono ?_
        rintro e w' ⟨rfl,rfl⟩
        go_wp2
        go_ret
        exact⟨ret_bool (by first|rfl|(simp <;> omega)),rfl⟩
def fitsB (s:ByteArray):Bool:=decide (s.size≠0) && (decide (s.size≤100) && (!looks s && (!Lib.contains (46::s.data.toList++[46]) [46,46] && !decide (0≤Lib.idxFunc hostOdd true s))))
set_option maxHeartbeats 1000000 in
theorem fits_any (s:ByteArray) (w:World) (G:Glob w) (hs:s.size≤1000000) :
  Calls Tryz.prog 173 #[.string s] w fun e w'=>e=.returned (.bool (fitsB s))∧Below w.heap.size w w':=by
 have HE:Hid (fitsB s=(decide (s.size≠0) && (decide (s.size≤100) && (!looks s && (!Lib.contains (46::s.data.toList++[46]) [46,46] && !decide (0≤Lib.idxFunc hostOdd true s)))))):=rfl
 obtain⟨b,hb⟩:∃ b,b=fitsB s:=⟨_,rfl⟩
 rw[← hb] at HE ⊢
 clear hb
 by_cases h0:s.size=0
 ·have he:s.toList.isEmpty=true:=(empty_iff s).2 h0
  have he2:s.data.toList=[]:=List.length_eq_zero_iff.1 (by rw[size_len];exact h0)
  have HF:Hid (b=false):=by show _=_;rw[HE.out,h0];rfl
  clear h0
  go_enter Tryz.func173,Tryz.ntmps173
  go_wp2
  go_ret
  exact⟨ret_bool HF.out.symm,Below.refl _ _⟩
 ·have he:s.toList.isEmpty=false:=empty_no h0
  by_cases h1:s.size≤100
  ·have HL:=Lib.hid (looks_any s w hs)
   have hz:((⟨#[46]⟩:ByteArray)++s++⟨#[46]⟩).size≤3000000:=by rw[app_size,app_size];show 1 + s.size + 1≤3000000;omega
   have HC:Hid (Calls Tryz.prog 119 #[.string ((⟨#[46]⟩:ByteArray)++s++⟨#[46]⟩),.string ⟨#[46,46]⟩] w fun e w'=>e=.returned (.bool (Lib.contains (46::s.data.toList++[46]) [46,46]))∧w=w'):=by
    have:=contains_any ((⟨#[46]⟩:ByteArray)++s++⟨#[46]⟩) ⟨#[46,46]⟩ w G hz
    rw[app_list,app_list] at this
    exact this
   have HD:=Lib.hid (Tryz.strings_ContainsFunc 222 #[] (enters_of Tryz.func222 (by kernel_rfl) rfl) hostOdd s w (hostOdd_at w))
   obtain⟨x,hx⟩:∃ x,x=looks s:=⟨_,rfl⟩
   obtain⟨y,hy⟩:∃ y,y=Lib.contains (46::s.data.toList++[46]) [46,46]:=⟨_,rfl⟩
   obtain⟨z,hz'⟩:∃ z,z=decide (0≤Lib.idxFunc hostOdd true s):=⟨_,rfl⟩
   have HG:Hid (b=(!x && (!y && !z))):=by show _=_;rw[HE.out,decide_eq_true h0,decide_eq_true h1,hx,hy,hz'];rfl
   rw[← hx] at HL
   rw[← hy] at HC
   rw[← hz'] at HD
   clear hx hy hz' HE h0 hz
   cases x with
   | true =>
    have HF:Hid (b=false):=by show _=_;rw[HG.out];rfl
    go_enter Tryz.func173,Tryz.ntmps173
    go_wp2_with fail
    refine HL.out.mono ?_
    rintro e w' ⟨rfl,rfl⟩
    go_wp2
    go_ret
    exact⟨ret_bool HF.out.symm,Below.refl _ _⟩
   | false =>
    cases y with
    | true =>
     have HF:Hid (b=false):=by show _=_;rw[HG.out];rfl
     go_enter Tryz.func173,Tryz.ntmps173
     go_wp2_with fail
     refine HL.out.mono ?_
     rintro e w' ⟨rfl,rfl⟩
     go_wp2_with fail
     refine HC.out.mono ?_
     rintro e w' ⟨rfl,rfl⟩
     go_wp2
     go_ret
     exact⟨ret_bool HF.out.symm,Below.refl _ _⟩
    | false =>
     go_enter Tryz.func173,Tryz.ntmps173
     go_wp2_with fail
     refine HL.out.mono ?_
     rintro e w' ⟨rfl,rfl⟩
     go_wp2_with fail
     refine HC.out.mono ?_
     rintro e w' ⟨rfl,rfl⟩
     go_wp2_with fail
     refine HD.out.mono ?_
     rintro e w1 ⟨rfl,b1⟩
     go_wp2
     go_ret
     exact⟨ret_bool (by rw[HG.out];simp),b1⟩
  ·have HF:Hid (b=false):=by show _=_;rw[HE.out,decide_eq_false h1];simp
   clear h0
   go_enter Tryz.func173,Tryz.ntmps173
   go_wp2
   go_ret
   exact⟨ret_bool HF.out.symm,Below.refl _ _⟩
end
section
open Go.RowKit
theorem bel1 (w:World) (a:Obj):Below w.heap.size w (w.alloc a):=(Below.refl _ _).alloc (Nat.le_refl _) _
theorem bel2 (w:World) (a b:Obj):Below w.heap.size w ((w.alloc a).alloc b):=(bel1 w a).alloc (by simp) _
theorem bel3 (w:World) (a b c:Obj):Below w.heap.size w (((w.alloc a).alloc b).alloc c):=(bel2 w a b).alloc (by simp <;> omega) _
theorem bel4 (w:World) (a b c d:Obj):Below w.heap.size w ((((w.alloc a).alloc b).alloc c).alloc d):=(bel3 w a b c).alloc (by simp <;> omega) _
theorem row1 (w:World) (a:Obj):(w.alloc a).heap[w.heap.size]? = some a:=heap_alloc_new w a
theorem row2a (w:World) (a b:Obj):((w.alloc a).alloc b).heap[w.heap.size]? = some a:=heap_alloc2_old w a b
theorem row2b (w:World) (a b:Obj):((w.alloc a).alloc b).heap[w.heap.size + 1]? = some b:=heap_alloc2_new w a b
theorem row3a (w:World) (a b c:Obj):(((w.alloc a).alloc b).alloc c).heap[w.heap.size]? = some a:=(Below.heap_alloc _ _ _ (by simp <;> omega)).trans (row2a w a b)
theorem row3b (w:World) (a b c:Obj):(((w.alloc a).alloc b).alloc c).heap[w.heap.size + 1]? = some b:=(Below.heap_alloc _ _ _ (by simp)).trans (row2b w a b)
theorem row3c (w:World) (a b c:Obj):(((w.alloc a).alloc b).alloc c).heap[w.heap.size + 2]? = some c:=by
 have h:=row2b (w.alloc a) b c
 have e:(w.alloc a).heap.size=w.heap.size + 1:=by simp
 rwa [e] at h
theorem bel_on {w w0 w1:World} (h:Below w.heap.size w w0) (b:Below w0.heap.size w0 w1):Below w.heap.size w w1:=h.trans (b.mono h.size)
theorem kept {w w1:World} {k:Nat} {o:Obj} (b:Below w.heap.size w w1) (h:w.heap[k]? = some o):w1.heap[k]? = some o:=by
 refine(b.block k ?_).trans h
 exact(Array.getElem?_eq_some_iff.1 h).1
theorem cell_in {w:World} {g:Nat} {t:TypeId} {fr:Nat×Nat} {cs:Array Value} (h:w.heap[g]? = some (.cells cs t fr)) (j:Nat) (v:Value) (hj:cs[j]? = some v):w.cell? ⟨g,j,none⟩=some v:=by
 unfold World.cell?;rw[h];exact hj
theorem host_cells {w:World} {g:Nat} {t:TypeId} {fr:Nat×Nat} {k m p0 p1 p2 p3 p4 p5 p6 p7:Int} {n:ByteArray} (h:w.heap[g]? = some (.cells #[.int .i64 k,.string n,.int .i64 m,.int .i64 p0,.int .i64 p1,.int .i64 p2,.int .i64 p3,.int .i64 p4,.int .i64 p5,.int .i64 p6,.int .i64 p7] t fr)) :
  w.cell? ⟨g,0,none⟩=some (.int .i64 k)∧w.cell? ⟨g,1,none⟩=some (.string n)∧w.cell? ⟨g,2,none⟩=some (.int .i64 m)∧w.cell? ⟨g,3,none⟩=some (.int .i64 p0)∧w.cell? ⟨g,4,none⟩=some (.int .i64 p1)∧w.cell? ⟨g,5,none⟩=some (.int .i64 p2)∧w.cell? ⟨g,6,none⟩=some (.int .i64 p3)∧w.cell? ⟨g,7,none⟩=some (.int .i64 p4)∧w.cell? ⟨g,8,none⟩=some (.int .i64 p5)∧w.cell? ⟨g,9,none⟩=some (.int .i64 p6)∧w.cell? ⟨g,10,none⟩=some (.int .i64 p7) :=
 ⟨cell_in h 0 _ rfl,cell_in h 1 _ rfl,cell_in h 2 _ rfl,cell_in h 3 _ rfl,cell_in h 4 _ rfl,cell_in h 5 _ rfl,cell_in h 6 _ rfl,cell_in h 7 _ rfl,cell_in h 8 _ rfl,cell_in h 9 _ rfl,cell_in h 10 _ rfl⟩
theorem six_info:(Tryz.prog.info? 22).map (·.size)=some 8:=by kernel_rfl
theorem host_info:(Tryz.prog.info? 24).map (·.size)=some 11:=by kernel_rfl
theorem results_row_tmp {P:Program} {fn:Func} {p u:Tmp} {ty:TypeId} (h:fn.results=#[.cell p ty,.tmp u]) (tmps:Array Value) (w:World) (g:Nat) (t:TypeId) (cs:Array Value) (fr:Nat×Nat) (d:TypeDesc)
  (hp:tmps.getD p undef=.pointer (some ⟨g,0,none⟩)) (hg:w.heap[g]? = some (.cells cs t fr))
  (hu:P.underlying ty=some d) (hd:(match d with|.struct _|.array _ _=>true|_=>false)=true) (hi:(P.info? ty).map (·.size)=some cs.size) (v:Value) (hv:tmps.getD u undef=v) :
  (results fn tmps).run P w=.ok (.tuple #[.agg cs,v]) w:=by
 rw[results_cell_tmp h,hp]
 simp[asAddr,run_loadVar_row w g t ty cs fr d hg hu hd hi,hv]
theorem results_six {fn:Func} {p u:Tmp} (h:fn.results=#[.cell p 22,.tmp u]) (tmps:Array Value) (w:World) (g:Nat) (t:TypeId) (s:Six) (fr:Nat×Nat)
  (hp:tmps.getD p undef=.pointer (some ⟨g,0,none⟩)) (hg:w.heap[g]? = some (.cells (sixC s) t fr)) (v:Value) (hv:tmps.getD u undef=v) :
  (results fn tmps).run Tryz.prog w=.ok (.tuple #[.agg (sixC s),v]) w:=results_row_tmp h tmps w g t (sixC s) fr _ hp hg Tryz.underlying22 rfl six_info v hv
theorem results_host {fn:Func} {p u:Tmp} (h:fn.results=#[.cell p 24,.tmp u]) (tmps:Array Value) (w:World) (g:Nat) (t:TypeId) (s:Host) (fr:Nat×Nat)
  (hp:tmps.getD p undef=.pointer (some ⟨g,0,none⟩)) (hg:w.heap[g]? = some (.cells (hostC s) t fr)) (v:Value) (hv:tmps.getD u undef=v) :
  (results fn tmps).run Tryz.prog w=.ok (.tuple #[.agg (hostC s),v]) w:=results_row_tmp h tmps w g t (hostC s) fr _ hp hg Tryz.underlying24 rfl host_info v hv
end
end Go.Proofs.YtdlkjofnnefjfaaGreatDoor
