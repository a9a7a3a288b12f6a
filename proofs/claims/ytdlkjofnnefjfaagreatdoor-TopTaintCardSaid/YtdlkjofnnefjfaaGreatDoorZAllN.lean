/- head.All where the names alone are bounded. -/
import Derived.Test.YtdlkjofnnefjfaaGreatDoorZShort
import Derived.Test.YtdlkjofnnefjfaaGreatDoorZHeadA
set_option linter.all false
namespace Go.Proofs.YtdlkjofnnefjfaaGreatDoor
set_option maxRecDepth 100000
open Go.RowKit
set_option maxHeartbeats 1000000 in
theorem zfQ (v:Value) (l:List Fld) (name:ByteArray) (w:World) (hv:Flds w v l) (hl1:l.length≤1000000) (hzz:∀ f∈l,f.1.size≤1000000) (hn:name.size≤1000000) :
  Calls Tryz.prog 15 #[v,.string name] w fun e w'=>∃ v',e=.returned v'∧w'.ownsRow w.heap.size 9 1 v' (allL name l).length ((allL name l).map Value.string)∧Below w.heap.size w w':=by
 obtain⟨i0,hi,hz0,hz1,hz2⟩:=info9'
 have HS:=fun (a:ByteArray) (ha:a.size≤1000000) w'=>Lib.hid (same_any a name w' (by omega) (by omega))
 rcases hv with ⟨rfl,rfl⟩|⟨b,off,cap,rfl,hl,hm,hlt,hc⟩
 ·go_enter Tryz.func15,Tryz.ntmps15
  go_wp2
  go_loopw [5,7,10] (fun v _ i wr=>i=.int .i64 0∧v=.slice none 0 0∧w=wr) (fun _ _ i _=>0)
  case atStart=>exact⟨rfl,rfl,rfl⟩
  case round =>
   obtain⟨rfl,rfl,rfl⟩:=hrel
   go_wp2
   go_ret
   exact⟨_,rfl,World.ownsRow_nil _ _ _ _,Below.refl _ _⟩
 ·have HC:=Lib.hid hc
  clear hc
  go_enter Tryz.func15,Tryz.ntmps15
  go_wp2
  go_loopw [5,7,10] (fun v _ i wr=>∃ k:Nat,k≤l.length∧i=.int .i64 k∧wr.ownsRow w.heap.size 9 1 v (allL name (l.take k)).length ((allL name (l.take k)).map Value.string)∧Below w.heap.size w wr) (fun _ _ i _=>l.length - (intOf i).toNat)
  case atStart=>exact⟨0,by omega,rfl,World.ownsRow_nil _ _ _ _,Below.refl _ _⟩
  case round =>
   obtain⟨k,hk,rfl,hown,hB⟩:=hrel
   by_cases hlt':k < l.length
   ·have e1:=(hB.cell (p:=⟨b,off + k * 2,none⟩) hlt).trans (HC.out k hlt').1
    have e2:=(hB.cell (p:=⟨b,off + k * 2 + 1,none⟩) hlt).trans (HC.out k hlt').2
    obtain⟨f,hf'⟩:∃ f,f=l.getD k (⟨#[]⟩,⟨#[]⟩):=⟨_,rfl⟩
    have hmem:f∈l:=by rw[hf',List.getD_eq_getElem?_getD,List.getElem?_eq_getElem hlt'];exact List.getElem_mem hlt'
    have hz:=hzz f hmem
    have HT:Hid (allL name (l.take (k + 1))=allL name (l.take k)++(if zbg f.1 name=true then [f.2] else [])):=by show _=_;rw[take_snocL l k (⟨#[]⟩,⟨#[]⟩) hlt',← hf'];exact zdB _ _ _
    have hal:=zbT name (l.take k)
    rw[List.length_take] at hal
    rw[← hf'] at e1 e2
    obtain⟨A,hA⟩:∃ A,A=allL name (l.take k):=⟨_,rfl⟩
    rw[← hA] at hown HT hal
    clear hf' hmem hA
    have HSf:∀ w',Hid (Calls Tryz.prog 35 #[.string f.1,.string name] w' fun e w''=>e=.returned (.bool (zbg f.1 name))∧Below w'.heap.size w' w''):=fun w'=>HS f.1 hz w'
    obtain⟨sb,hsb⟩:∃ sb,sb=zbg f.1 name:=⟨_,rfl⟩
    rw[← hsb] at HT
    simp only[← hsb] at HSf
    clear hsb HS
    have hs0:=hB.size
    have B1:Below w.heap.size w (wr.alloc (.cells #[.string f.1,.string f.2] 72)):=hB.alloc hs0 _
    have R1:=row1 wr (.cells #[.string f.1,.string f.2] 72)
    go_wp2_with fail
    refine(HSf _).out.mono ?_
    rintro e w2 ⟨rfl,b2⟩
    have B2:=yD B1 b2
    have R2:=kept b2 R1
    have c1:=yE R2 1 (.string f.2) rfl
    have hown2:=own_below (hown.alloc _) b2
    have hs2:=B2.size
    clear R1 R2 B1 hown
    cases sb with
    | false =>
     have hT:allL name (l.take (k + 1))=A:=by rw[HT.out];simp
     have HTT:=Lib.hid hT
     clear hT
     go_wp2
     exact⟨⟨k + 1,by omega,by simp,by rw[HTT.out];exact hown2,B2⟩,by simp[intOf];omega⟩
    | true =>
     have hT:allL name (l.take (k + 1))=A++[f.2]:=by rw[HT.out];simp
     have HTT:=Lib.hid hT
     clear hT
     go_wp2_with (at_builtin;refine wpList_append_own _ rfl _ _ 25 rfl w.heap.size 9 i0 (.string ⟨#[]⟩) 1 16 Tryz.underlying25 hi hz0 hz1 hz2 rfl (by decide) _ _ _ rfl (hown2.alloc _) ⟨w2.heap.size,0,none⟩ 1 1 [.string f.2] rfl rfl ?c1 ?c2 ?c3 ?c4 ?c5 ?_)
     case c1=>exact new_one rfl
     case c2=>intro u hu;simp at hu;subst hu;rfl
     case c3=>unfold maxLen;omega
     case c4=>omega
     case c5=>simp;omega
     intro v' w3 hown' hgrow _
     have B3:Below w.heap.size w w3:=(B2.alloc hs2 _).grown hgrow (by simp;omega) (fun j hj=>(hown2.lt j (by rw[hj])).1)
     go_wp2
     exact⟨⟨k + 1,by omega,by simp,by rw[HTT.out,List.length_append,List.map_append];exact hown',B3⟩,by simp[intOf];omega⟩
   ·obtain rfl:k=l.length:=by omega
    rw[List.take_length] at hown
    go_wp2
    go_ret
    exact⟨_,rfl,hown,hB⟩
end Go.Proofs.YtdlkjofnnefjfaaGreatDoor
