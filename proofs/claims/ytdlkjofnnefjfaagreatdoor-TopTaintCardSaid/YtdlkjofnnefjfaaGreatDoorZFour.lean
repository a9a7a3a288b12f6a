/- The walks of layer 5: numbers of 32 bits with dots: for every text of at most 1000000 bytes. The walk of layer 5's Show: some text for each number of 32 bits, none for others. -/
import Derived.Test.YtdlkjofnnefjfaaGreatDoorZLib
import Derived.Laws.BitsLemmas
import Derived.Deep.AppendLies
set_option linter.all false
namespace Go.Proofs.YtdlkjofnnefjfaaGreatDoor
set_option maxRecDepth 100000
section
open Go.RowKit
def dotEnd (s:ByteArray):Nat:=(Lib.lastIndexByte s 46 + 1).toNat
def looks (s:ByteArray):Bool:=Deci.plainD (s.data.toList.drop (dotEnd s))
theorem dotEnd_le (s:ByteArray):Lib.lastIndexByte s 46=(dotEnd s:Int) - 1∧dotEnd s≤s.size:=by
 unfold dotEnd
 rcases Lib.lastIndexByte_spec s 46 with ⟨h,_⟩|⟨i,hi,h,_⟩ <;> rw[h] <;> omega
theorem looks_any (s:ByteArray) (w:World) (hs:s.size≤1000000) :
  Calls Tryz.prog 210 #[.string s] w fun e w'=>e=.returned (.bool (looks s))∧w=w':=by
 obtain⟨h1,h2⟩:=dotEnd_le s
 have HL:=Lib.hid (show looks s=Deci.plainD (s.extract (dotEnd s) s.size).data.toList from by
  unfold looks;rw[extract_list,List.take_of_length_le (by rw[List.length_drop,size_len];exact Nat.le_refl _)])
 obtain⟨k,hk⟩:∃ k,k=dotEnd s:=⟨_,rfl⟩
 rw[← hk] at h1 h2 HL
 clear hk
 have hx:(s.extract k s.size).size≤1000000:=by rw[ByteArray.size_extract];omega
 have H1:=Lib.hid h1
 clear h1
 go_enter Tryz.func210,Tryz.ntmps210
 go_wp2_with fail
 refine(lastByte_any s 46 _ (by omega)).mono ?_
 rintro e w' ⟨rfl,rfl⟩
 rw[H1.out]
 go_wp2_with fail
 refine(Deci.plain_any _ _ (by omega)).mono ?_
 rintro e w' ⟨rfl,rfl⟩
 go_wp2
 go_ret
 exact⟨ret_bool (by rw[HL.out,extract_list]),rfl⟩
def SomeBool (e:Ending):Prop:=∃ b,e=.returned (.bool b)
theorem inner_any (n:Int) (w:World) (h1:-9223372036854775808≤n) (h2:n≤9223372036854775807) :
  Calls Tryz.prog 262 #[.int .i64 n] w fun e w'=>SomeBool e∧w=w':=by
 by_cases a:0≤n
 ·by_cases b:n≤4294967295
  ·go_enter Tryz.func262,Tryz.ntmps262
   go_wp2
   go_ret
   exact⟨⟨_,rfl⟩,rfl⟩
  ·go_enter Tryz.func262,Tryz.ntmps262
   go_wp2
   go_ret
   exact⟨⟨_,rfl⟩,rfl⟩
 ·go_enter Tryz.func262,Tryz.ntmps262
  go_wp2
  go_ret
  exact⟨⟨_,rfl⟩,rfl⟩
def partOK (s:ByteArray):Bool:=Deci.readOK s.data.toList 255 && (Deci.showL (Deci.readN s.data.toList 255) == s.data.toList)
def partN (s:ByteArray):Int:=Deci.readN s.data.toList 255
theorem partN_le (s:ByteArray):0≤partN s∧partN s≤255:=by
 unfold partN Deci.readN
 cases h:Deci.readOK s.data.toList 255 with
 | false=>simp
 | true =>
  unfold Deci.readOK at h
  rw[Bool.and_eq_true] at h
  have:=of_decide_eq_true h.2
  simp;omega
theorem or_i64 (n k:Int) (h0:0≤n) (h1:n≤16777215) (k0:0≤k) (k1:k≤255):bits .or .i64 (n * 256) k=n * 256 + k :=
 bits_join .i64 62 (by decide) (fun m a b=>by rw[IntKind.wrap_i64];omega) 8 (n * 256) k (by omega) (by omega) (by omega) k0 (by omega) (by omega)
def OneLeft (s:ByteArray) (n:Int) (a:Addr) (w:World) (e:Ending) (w':World):Prop:=e=.returned (.bool (partOK s))∧Below w.heap.size (w.setCell a (.int .i64 (n * 256 + partN s))) w'
theorem one_any (s:ByteArray) (n:Int) (a:Addr) (w:World) (hs:s.size≤1000000) (h0:0≤n) (h1:n≤16777215) (hc:w.cell? a=some (.int .i64 n)) (hf:w.frozen? a=false) :
  Calls Tryz.prog 236 #[.string s,.pointer (some a)] w (OneLeft s n a w):=by
 have hk0:=partN_le s
 have HP:Hid (partOK s=(Deci.readOK s.data.toList 255 && (Deci.showL (partN s) == s.data.toList))):=rfl
 have HR:=Lib.hid (show Calls Tryz.prog 157 #[.string s,.int .i64 255] w fun e w'=>e=.returned (.tuple #[.int .i64 (partN s),.bool (Deci.readOK s.data.toList 255)])∧w=w' from
  Deci.read_any s 255 w (by omega) (by omega) (by omega))
 have HO:Hid (∀ e w',(e=.returned (.bool (partOK s))∧Below w.heap.size (w.setCell a (.int .i64 (n * 256 + partN s))) w')→OneLeft s n a w e w'):=fun _ _ h=>h
 obtain⟨k,hk⟩:∃ k,k=partN s:=⟨_,rfl⟩
 obtain⟨b,hb⟩:∃ b,b=Deci.readOK s.data.toList 255:=⟨_,rfl⟩
 rw[← hk] at hk0 HP HR HO
 rw[← hb] at HP HR
 clear hk hb
 obtain⟨k0,k1⟩:=hk0
 have hor:=or_i64 n k h0 h1 k0 k1
 have hl:=World.block_lt_of_cell? w _ hc
 cases b with
 | true =>
  go_enter Tryz.func236,Tryz.ntmps236
  go_wp2_with fail
  refine HR.out.mono ?_
  rintro e w' ⟨rfl,rfl⟩
  go_wp2_with fail
  refine(Deci.show_any k _ (by omega) (by omega)).mono ?_
  rintro e w2 ⟨rfl,b2⟩
  go_wp2
  go_ret
  refine HO.out _ _ ⟨ret_bool ?_,b2.mono (by simp)⟩
  rw[HP.out,Bool.true_and,toList_data]
 | false =>
  go_enter Tryz.func236,Tryz.ntmps236
  go_wp2_with fail
  refine HR.out.mono ?_
  rintro e w' ⟨rfl,rfl⟩
  go_wp2
  go_ret
  exact HO.out _ _ ⟨ret_bool (by rw[HP.out];rfl),Below.refl _ _⟩
def dotParts (s:ByteArray):List ByteArray:=parts ⟨#[46]⟩ s
def fold4 (l:List ByteArray):Int:=l.foldl (fun n p=>n * 256 + partN p) 0
def fourOK (s:ByteArray):Bool:=decide ((dotParts s).length=4) && (dotParts s).all partOK
def fourN (s:ByteArray):Int:=if fourOK s=true then fold4 (dotParts s) else 0
theorem fold4_snoc (l:List ByteArray) (p:ByteArray):fold4 (l++[p])=fold4 l * 256 + partN p:=by unfold fold4;rw[List.foldl_append];rfl
theorem fold4_le:∀ (n:Nat) (l:List ByteArray),l.length=n→0≤fold4 l∧fold4 l < 256 ^ n
 | 0,l,h=>by rw[List.length_eq_zero_iff] at h;subst h;simp[fold4]
 | n + 1,l,h=>by
  obtain⟨l',p,rfl⟩:∃ l' p,l=l'++[p]:=⟨l.dropLast,l.getLast (by intro e;subst e;simp at h),(List.dropLast_concat_getLast _).symm⟩
  obtain⟨a,b⟩:=fold4_le n l' (by simpa using h)
  have:=partN_le p
  rw[fold4_snoc]
  have:(256:Int) ^ (n + 1)=256 ^ n * 256:=by rw[Int.pow_succ]
  omega
theorem all_no {α:Type} (p:α→Bool) (l:List α) (k:Nat) (d:α) (hk:k < l.length) (h:p (l.getD k d)=false):l.all p=false:=by
 rw[List.all_eq_false]
 refine⟨l.getD k d,?_,by rw[h];simp⟩
 simp[List.getD,hk]
theorem all_snoc {α:Type} (p:α→Bool) (l:List α) (x:α) (h:l.all p=true) (hx:p x=true):(l++[x]).all p=true:=by rw[List.all_append,h];simp[hx]
set_option maxHeartbeats 1000000 in
theorem fourParse_any (s:ByteArray) (w:World) (G:Glob w) (hs:s.size≤1000000) :
  Calls Tryz.prog 211 #[.string s] w fun e w'=>e=.returned (.tuple #[.int .i64 (fourN s),.bool (fourOK s)])∧Below w.heap.size w w':=by
 have HSP:=Lib.hid (split_any s ⟨#[46]⟩ w G (by omega) (by decide))
 have hsz:∀ p∈dotParts s,p.size≤1000000:=fun p hp=>Nat.le_trans (parts_size _ _ s p hp) hs
 obtain⟨l,hl⟩:∃ l,l=dotParts s:=⟨_,rfl⟩
 have HN:Hid (fourN s=if (decide (l.length=4) && l.all partOK)=true then fold4 l else 0):=by show _=_;rw[hl];rfl
 have HK:Hid (fourOK s=(decide (l.length=4) && l.all partOK)):=by show _=_;rw[hl];rfl
 have HSP':Hid (Calls Tryz.prog 214 #[.string s,.string ⟨#[46]⟩] w fun e w'=>e=.returned (.slice (some ⟨w.heap.size,0,none⟩) l.length l.length)∧w.alloc (.cells (l.map Value.string).toArray 9)=w'):=by
  rw[hl];exact HSP.out
 rw[← hl] at hsz
 clear HSP hl
 obtain⟨n,hn⟩:∃ n,n=fourN s:=⟨_,rfl⟩
 obtain⟨b,hb⟩:∃ b,b=fourOK s:=⟨_,rfl⟩
 rw[← hn] at HN ⊢
 rw[← hb] at HK ⊢
 clear hn hb
 have hmf:∀ (fn:Fn) (first cap:Array Value) (w:World),(Instr.makeFunc fn first cap).run Tryz.prog w=.ok (.func fn first cap) w:=fun _ _ _ _=>rfl
 by_cases h4:l.length=4
 ·have hc:∀ j,j < l.length→(w.alloc (.cells (l.map Value.string).toArray 9)).cell? ⟨w.heap.size,j,none⟩=some (.string (l.getD j ByteArray.empty)):=by
   intro j hj
   rw[World.cell?_alloc_at _ _ _ _ rfl];simp[hj]
  have HC:=Lib.hid hc
  have H4:=Lib.hid h4
  clear hc
  have hl1:l.length≤4:=by omega
  have hl2:4≤l.length:=by omega
  have t1:((l.length:Int) != 4)=false:=by rw[h4];rfl
  clear h4
  go_enter Tryz.func211,Tryz.ntmps211
  go_wp2_with fail
  refine HSP'.out.mono ?_
  rintro e w' ⟨rfl,rfl⟩
  go_wp2_with fail
  go_loopw [8,17] (fun _ i wr=>∃ k:Nat,k≤l.length∧i=.int .i64 k∧wr.cell? ⟨w.heap.size + 1,0,none⟩=some (.int .i64 (fold4 (l.take k)))∧wr.frozen? ⟨w.heap.size + 1,0,none⟩=false∧(l.take k).all partOK=true∧(∀ j,j < l.length→wr.cell? ⟨w.heap.size,j,none⟩=some (.string (l.getD j ByteArray.empty)))∧w.heap.size + 2≤wr.heap.size∧Below w.heap.size w wr) (fun _ i _=>l.length - (intOf i).toNat)
  case atStart =>
   refine⟨0,Nat.zero_le _,rfl,?_,?_,by simp,fun j hj=>?_,by simp,((Below.refl _ _).alloc (Nat.le_refl _) _).alloc (by simp) _⟩
   ·rw[World.cell?_alloc_at _ _ _ _ (by simp)];rfl
   ·rw[World.frozen?_alloc_at _ _ _ _ (by simp)]
   ·rw[World.cell?_alloc_past _ _ _ (by simp)];exact HC.out j hj
  case round =>
   obtain⟨k,hk,rfl,hbx,hfr,hall,hcs,hz,hB⟩:=hrel
   by_cases hlt:k < l.length
   ·have hcell:=hcs k hlt
    have hfl:=fold4_le k (l.take k) (by rw[List.length_take];omega)
    have h16:fold4 (l.take k)≤16777215:=by
     have:(256:Int) ^ k≤256 ^ 3:=by
      have hn:(256:Nat) ^ k≤256 ^ 3:=Nat.pow_le_pow_right (by omega) (by omega)
      exact_mod_cast hn
     omega
    obtain⟨pt,hpt⟩:∃ pt,pt=l.getD k ByteArray.empty:=⟨_,rfl⟩
    have hps:pt.size≤1000000:=by
     rw[hpt];refine hsz _ ?_
     simp[List.getD,hlt]
    have HTS:Hid (l.take (k + 1)=l.take k++[pt]):=by show _=_;rw[hpt];exact take_snocL l k _ hlt
    have HNO:Hid (partOK pt=false→l.all partOK=false):=fun h=>all_no partOK l k ByteArray.empty hlt (by rw[← hpt];exact h)
    rw[← hpt] at hcell
    clear hpt
    have HONE:=Lib.hid (one_any pt (fold4 (l.take k)) ⟨w.heap.size + 1,0,none⟩ wr hps hfl.1 h16 hbx hfr)
    have HALL:=Lib.hid hall
    have HCS:=Lib.hid hcs
    have HBX:=Lib.hid hbx
    have HFR:=Lib.hid hfr
    obtain⟨f4,hf4⟩:∃ f4,f4=fold4 (l.take k):=⟨_,rfl⟩
    rw[← hf4] at HONE HBX
    have HF4:=Lib.hid hf4
    clear hall hcs hbx hfr hfl h16 hf4
    obtain⟨r,hr⟩:∃ r,r=partOK pt:=⟨_,rfl⟩
    have HR:=Lib.hid hr
    clear hr
    go_wp2_with fail
    refine HONE.out.mono ?_
    rintro e w2 ⟨rfl,b2⟩
    rw[← HR.out]
    cases r with
    | true =>
     go_wp2_with fail
     go_roundw
     case rel =>
      have hlt2:w.heap.size + 1 < wr.heap.size:=by omega
      refine⟨k + 1,by omega,by go_num,?_,?_,?_,?_,?_,?_⟩
      ·rw[HTS.out,fold4_snoc,← HF4.out]
       exact(b2.cell (p:=⟨w.heap.size + 1,0,none⟩) hlt2).trans (World.cell?_setCell_same' _ _ _ (by rw[HBX.out];rfl))
      ·exact(b2.frozen (p:=⟨w.heap.size + 1,0,none⟩) hlt2).trans (by rw[World.frozen?_setCell];exact HFR.out)
      ·rw[HTS.out];exact all_snoc _ _ _ HALL.out HR.out.symm
      ·intro j hj
       refine(b2.cell (p:=⟨w.heap.size,j,none⟩) (by simp;omega)).trans ?_
       rw[World.cell?_of_block (w:=wr) (Below.heap_setCell _ _ _ _ (by simp))]
       exact HCS.out j hj
      ·have:=b2.size;simp at this;omega
      ·exact(hB.setCell (by simp) _).trans (b2.mono (by omega))
     case measure=>simp[intOf];omega
    | false =>
     have HF:Hid (b=false):=by show _=_;rw[HK.out,HNO.out HR.out.symm,Bool.and_false]
     have HZ:Hid (n=0):=by show _=_;rw[HN.out,HNO.out HR.out.symm,Bool.and_false];rfl
     go_wp2
     go_ret2
     refine⟨by rw[HF.out,HZ.out];rfl,?_⟩
     exact(hB.setCell (by simp) _).trans (b2.mono (by omega))
   ·have hkl:k=l.length:=by omega
    subst hkl
    rw[List.take_length] at hbx hall
    have HT:Hid (b=true):=by show _=_;rw[HK.out,hall,decide_eq_true H4.out];rfl
    have HV:Hid (n=fold4 l):=by show _=_;rw[HN.out,hall,decide_eq_true H4.out];rfl
    obtain⟨f4,hf4⟩:∃ f4,f4=fold4 l:=⟨_,rfl⟩
    rw[← hf4] at hbx HV
    clear hf4 hall
    go_wp2
    go_ret2
    exact⟨by rw[HT.out,HV.out];rfl,hB⟩
 ·have t1:((l.length:Int) != 4)=true:=by rw[bne_iff_ne];omega
  have HF:Hid (b=false):=by show _=_;rw[HK.out,decide_eq_false h4];rfl
  have HZ:Hid (n=0):=by show _=_;rw[HN.out,decide_eq_false h4];rfl
  clear h4
  go_enter Tryz.func211,Tryz.ntmps211
  go_wp2_with fail
  refine HSP'.out.mono ?_
  rintro e w' ⟨rfl,rfl⟩
  go_wp2
  go_ret2
  exact⟨by rw[HF.out,HZ.out];rfl,(Below.refl _ _).alloc (Nat.le_refl _) _⟩
end
section
open Go.RowKit
theorem Tryz.info9:(Tryz.prog.info? 9).map (fun i=>(i.zero,i.size,i.bytes))=some (some (.string ⟨#[]⟩),1,16):=by kernel_rfl
theorem bits_range (op:BinOp) (x y:Int):-9223372036854775808≤bits op .i64 x y∧bits op .i64 x y≤9223372036854775807:=by
 unfold bits
 split <;> first|(rw[IntKind.wrap_i64];omega)|omega
def TextRow (w:World) (B:Nat) (v:Value) (n m:Nat):Prop:=∃ xs:List ByteArray,xs.length=n∧(∀ x∈xs,1≤x.size∧x.size≤m)∧w.ownsRow B 9 1 v n (xs.map Value.string)
def inFour (n:Int):Bool:=decide (0≤n) && decide (n≤4294967295)
def FourText (n:Int) (w:World) (e:Ending) (w':World):Prop:=(∃ t:ByteArray,e=.returned (.string t)∧1≤t.size∧t.size≤1000)∧Below w.heap.size w w'
theorem fourShow_out (n:Int) (w:World) (h:inFour n=false) :
  Calls Tryz.prog 174 #[.int .i64 n] w fun e w'=>e=.returned (.string ⟨#[]⟩)∧w=w':=by
 unfold inFour at h
 by_cases a:0≤n
 ·have b:4294967295 < n:=by
   by_cases b:n≤4294967295
   ·rw[decide_eq_true a,decide_eq_true b] at h;cases h
   ·omega
  clear h
  go_enter Tryz.func174,Tryz.ntmps174
  go_wp2
  go_ret
  exact⟨rfl,rfl⟩
 ·clear h
  go_enter Tryz.func174,Tryz.ntmps174
  go_wp2
  go_ret
  exact⟨rfl,rfl⟩
theorem join4_len (xs:List ByteArray) (h:xs.length=4) (hs:∀ x∈xs,1≤x.size∧x.size≤30):1≤(Lib.join (xs.map (·.data.toList)) [46]).length∧(Lib.join (xs.map (·.data.toList)) [46]).length≤1000:=by
 match xs,h with
 | [a,b,c,d],_ =>
  have ha:=hs a (by simp)
  have hb:=hs b (by simp)
  have hc:=hs c (by simp)
  have hd:=hs d (by simp)
  rw[← size_len a] at ha
  rw[← size_len b] at hb
  rw[← size_len c] at hc
  rw[← size_len d] at hd
  simp[Lib.join,List.intercalate,List.intersperse]
  simp at ha hb hc hd
  omega
set_option maxHeartbeats 1000000 in
theorem fourShow_in (n:Int) (w:World) (h0:0≤n) (h1:n≤4294967295) :
  Calls Tryz.prog 174 #[.int .i64 n] w (FourText n w):=by
 obtain⟨i0,hi,hz0,hz1,hz2⟩:=info_parts Tryz.info9
 go_enter Tryz.func174,Tryz.ntmps174
 go_wp2_with fail
 go_loopw [3,4,11] (fun v _ i wr=>∃ k:Nat,k≤4∧i=.int .i64 k∧TextRow wr w.heap.size v k 30∧Below w.heap.size w wr) (fun _ _ i _=>4 - (intOf i).toNat)
 case atStart=>exact⟨0,by omega,rfl,⟨[],rfl,by simp,World.ownsRow_nil _ _ _ _⟩,Below.refl _ _⟩
 case round =>
  obtain⟨k,hk,rfl,HR,hB⟩:=hrel
  have hB0:=hB.size
  by_cases hlt:k < 4
  ·obtain⟨xs,hxs,hsz,hown⟩:=HR
   obtain⟨m,hm⟩:∃ m,m=bits .and .i64 (n / 2 ^ (8 * (3 - k))) 255:=⟨_,rfl⟩
   have hm2:=bits_range .and (n / 2 ^ (8 * (3 - k))) 255
   rw[← hm] at hm2
   obtain⟨m1,m2⟩:=hm2
   have HM:=Lib.hid hm
   clear hm
   go_wp2_with fail
   rw[← HM.out]
   refine(Deci.show_any m _ m1 m2).mono ?_
   rintro e w2 ⟨rfl,b2⟩
   have hl:(Deci.showL m).length≤30∧1≤(Deci.showL m).length:=by have:=Deci.showL_len m1 m2;omega
   have hown2:=own_below hown b2
   obtain⟨t,ht⟩:∃ t:ByteArray,t=⟨(Deci.showL m).toArray⟩:=⟨_,rfl⟩
   have htz:1≤t.size∧t.size≤30:=by rw[ht];exact⟨hl.2,hl.1⟩
   rw[← ht]
   clear ht hl
   have HXS:=Lib.hid hxs
   have HSZ:=Lib.hid hsz
   have HTZ:=Lib.hid htz
   clear hxs hsz htz hown
   have hs2:=b2.size
   go_wp2_with (at_builtin;refine wpList_append_own _ rfl _ _ 25 rfl w.heap.size 9 i0 (.string ⟨#[]⟩) 1 16 Tryz.underlying25 hi hz0 hz1 hz2 rfl (by decide) _ _ _ rfl (hown2.alloc _) ⟨w2.heap.size,0,none⟩ 1 1 [.string t] rfl rfl ?c1 ?c2 ?c3 ?c4 ?c5 ?_)
   case c1=>exact new_one rfl
   case c2=>intro u hu;simp at hu;subst hu;rfl
   case c3=>unfold maxLen;omega
   case c4=>omega
   case c5=>simp;omega
   intro v' w3 hown' hgrow _
   have hR3:TextRow w3 w.heap.size v' (k + 1) 30:=⟨xs++[t],by simp[HXS.out],by
    intro x hx
    rcases List.mem_append.1 hx with h|h
    ·exact HSZ.out x h
    ·rw[List.mem_singleton.1 h];exact HTZ.out,by simpa using hown'⟩
   have hB3:Below w.heap.size w w3:=((hB.trans (b2.mono hB0)).alloc (by omega) _).grown hgrow (by simp;omega) (fun j hj=>(hown2.lt j (by rw[hj])).1)
   clear hown' hgrow hown2
   go_wp2
   go_roundw
   case rel=>exact⟨k + 1,by omega,by go_num,hR3,hB3⟩
   case measure=>simp[intOf];omega
  ·obtain⟨xs,hxs,hsz,hown⟩:=HR
   obtain rfl:k=4:=by omega
   have hown':=hown
   obtain⟨_,h2⟩:=hown
   rcases h2 with ⟨_,h2⟩|⟨g,cap,cur,rfl,hg,hh,h3,h4,h5,h6⟩
   ·omega
   ·have hcells:∀ (j:Nat) x,xs[j]? = some x→wr.cell? ⟨g,0 + j,none⟩=some (.string x):=by
     rcases Strs.of_own (l:=xs) (by rw[hxs];exact hown') with ⟨hv,_⟩|⟨b,off,cap',hv,_,_,_,hc⟩
     ·cases hv
     ·simp only[Value.slice.injEq,Option.some.injEq,Addr.mk.injEq] at hv
      obtain⟨⟨rfl,rfl,_⟩,_,_⟩:=hv
      intro j x hx
      have hj:j < xs.length:=(List.getElem?_eq_some_iff.1 hx).1
      rw[hc j hj];simp[List.getD,hx]
    have hj:=join4_len xs hxs hsz
    have HJ:=Lib.hid (Tryz.strings_Join g 0 cap xs ⟨#[46]⟩ wr hcells (heap_lt hh) (by omega) (by omega) (Nat.le_trans hj.2 (by omega)))
    rw[hxs] at HJ
    have HTX:Hid (1≤(Lib.join (xs.map (·.data.toList)) [46]).length∧(Lib.join (xs.map (·.data.toList)) [46]).length≤1000):=⟨by omega,by omega⟩
    clear hcells hown' hh h6 hj hxs hsz
    go_wp2_with fail
    refine HJ.out.mono ?_
    rintro e w2 ⟨rfl,b2⟩
    go_wp2
    go_ret
    exact⟨⟨_,rfl,HTX.out.1,HTX.out.2⟩,hB.trans (b2.mono hB0)⟩
end
end Go.Proofs.YtdlkjofnnefjfaaGreatDoor
