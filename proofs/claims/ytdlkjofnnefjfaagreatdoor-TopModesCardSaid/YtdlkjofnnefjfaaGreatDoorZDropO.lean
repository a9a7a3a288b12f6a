/- head.Drop, whose fields lie in a row that may be appended to. hop.Send's put. -/
import Derived.Test.YtdlkjofnnefjfaaGreatDoorZShort
import Derived.Test.YtdlkjofnnefjfaaGreatDoorZTaintA
set_option linter.all false
namespace Go.Proofs.YtdlkjofnnefjfaaGreatDoor
set_option maxRecDepth 100000
section
open Go.RowKit
def RowZ (g N:Nat) (l:List Fld) (w:World):Prop:=RowF g l w∧∃ cs:Array Value,w.heap[g]? = some (.cells cs 72 (0,0))∧cs.size=N
theorem RowZ.cells {g N:Nat} {l:List Fld} {w:World} (h:RowZ g N l w) {j:Nat} {f:Fld} (hj:l[j]? = some f):w.cell? ⟨g,j * 2,none⟩=some (.string f.1)∧w.cell? ⟨g,j * 2 + 1,none⟩=some (.string f.2):=h.1.cells hj
theorem RowZ.kept {g N:Nat} {l:List Fld} {w w':World} (h:RowZ g N l w) (b:Below w.heap.size w w'):RowZ g N l w':=by
 obtain⟨h0,cs,h1,h2⟩:=h
 exact⟨h0.kept b,cs,YtdlkjofnnefjfaaGreatDoor.kept b h1,h2⟩
theorem RowZ.flds {g N cap:Nat} {l:List Fld} {w:World} (h:RowZ g N l w) (hc:l.length≤cap) (hm:cap≤maxLen):Flds w (.slice (some ⟨g,0,none⟩) l.length cap) l:=h.1.flds hc hm
theorem RowZ.take {g N:Nat} {l:List Fld} {w:World} (h:RowZ g N l w) (k:Nat):RowZ g N (l.take k) w:=⟨h.1.take k,h.2⟩
theorem RowZ.there {g N:Nat} {l:List Fld} {w:World} (h:RowZ g N l w) {i n:Nat} (hi:i + n≤l.length):w.there g (i * 2) (n * 2):=h.1.there hi
theorem RowZ.sets {g N:Nat} {l l':List Fld} {w:World} (h:RowZ g N l w) (i:Nat) (vs:List Value) (h':RowF g l' (w.setCells g i vs)):RowZ g N l' (w.setCells g i vs):=by
 obtain⟨_,cs,h1,h2⟩:=h
 exact⟨h',_,setCells_row g 72 _ _ _ _ h1,by rw[zbQ];exact h2⟩
theorem RowZ.set {g N:Nat} {l:List Fld} {w:World} (h:RowZ g N l w) (i:Nat) (f:Fld) (hi:i < l.length):RowZ g N (l.set i f) (w.setCells g (i * 2) [.string f.1,.string f.2]):=h.sets _ _ (h.1.set i f hi)
theorem RowZ.behind {g N:Nat} {l:List Fld} {w:World} (h:RowZ g N l w) (i:Nat) (vs:List Value) (hi:l.length≤i) (h0:0 < l.length * 2∨l=[]):RowZ g N l (w.setCells g (i * 2) vs):=h.sets _ _ (h.1.behind i vs hi h0)
set_option maxHeartbeats 2000000 in
theorem zeo (g cap N:Nat) (l:List Fld) (gf:Nat) (lb:Array Value) (eg:∀ args w,(callFunc gf args).run Tryz.prog w=.ok (.enter gf args) w) (p:Fld→Bool) (w:World) (hR:RowZ g N l w) (hc:l.length≤cap) (hm:cap≤maxLen) (hf:zax l) (hp:AskF g gf lb p w) :
  Calls Tryz.prog 89 #[.slice (some ⟨g,0,none⟩) l.length cap,.func (.func gf) #[] lb] w fun e w'=>e=.returned (.slice (some ⟨g,0,none⟩) (l.filter (fun f=>!p f)).length cap)∧RowZ g N (l.filter (fun f=>!p f)) w'∧Below g w w':=by
 have hl1:=hf.1
 have hgw:g < w.heap.size:=by obtain⟨cs,h1,_⟩:=hR.1;exact yS h1
 have HI:=Lib.hid (zbj gf lb eg p _ l w (fun W hW=>hp W (hW.mono (Nat.le_of_lt hgw))) (hR.flds hc hm) hf)
 have hix:=zco p l 0 (by omega)
 obtain⟨F,hF⟩:∃ F,F=l.filter (fun f=>!p f):=⟨_,rfl⟩
 rw[← hF]
 obtain⟨r,hr⟩:∃ r,r=ixGo p l 0:=⟨_,rfl⟩
 rw[← hr] at HI hix
 clear hr
 rcases hix with ⟨rfl,hno⟩|⟨i,hil,hri,hno,x,hx,hpx⟩
 ·have hFl:F=l:=by rw[hF,List.filter_eq_self];intro a ha;simp[hno a ha]
  subst hFl
  clear hF hno
  go_enter Tryz.func89,Tryz.ntmps89
  go_wp2_with fail
  refine HI.out.mono ?_
  rintro e w1 ⟨rfl,b1⟩
  go_wp2
  go_ret
  exact⟨rfl,hR.kept b1,b1.mono (Nat.le_of_lt hgw)⟩
 ·have hri':r=(i:Int):=by omega
  subst hri'
  clear hri
  have hFi:(l.take (i + 1)).filter (fun f=>!p f)=l.take i:=by
   rw[zbq hx,if_pos hpx,List.append_nil,List.filter_eq_self]
   intro a ha;simp[hno a ha]
  have HF:=Lib.hid hF
  have HFI:=Lib.hid hFi
  clear hF hFi hno hx hpx
  have hne:((i:Int) == -1)=false:=by simp
  go_enter Tryz.func89,Tryz.ntmps89
  go_wp2_with fail
  refine HI.out.mono ?_
  rintro e w1 ⟨rfl,b1⟩
  have hR1:=hR.kept b1
  have B1:=b1.mono (Nat.le_of_lt hgw)
  go_wp2
  go_loopw [5,6,7] (fun a b _ wr=>∃ (k j:Nat) (cur:List Fld),k < j∧j≤l.length∧a=.int .i64 k∧b=.int .i64 j∧Hid (k=((l.take j).filter (fun f=>!p f)).length)∧Hid (cur.take k=(l.take j).filter (fun f=>!p f))∧Hid (cur.drop j=l.drop j)∧cur.length=l.length∧RowZ g N cur wr∧Below g w wr) (fun _ b _ _=>l.length - (intOf b).toNat)
  case atStart=>exact⟨i,i + 1,l,by omega,by omega,rfl,rfl,by show _=_;rw[HFI.out,List.length_take];omega,HFI.out.symm,rfl,rfl,hR1,B1⟩
  case round =>
   obtain⟨k,j,cur,hkj,hjl,rfl,rfl,HK,HT,HD,hcl,hRc,hB⟩:=hrel
   by_cases hj:j < l.length
   ·obtain⟨f,hf'⟩:∃ f,l[j]? = some f:=⟨_,List.getElem?_eq_getElem hj⟩
    have hcf:cur[j]? = some f:=by
     have h:=congrArg (·[0]?) HD.out
     simpa [List.getElem?_drop,hf'] using h
    have hz:=hf.2 f (List.mem_of_getElem? hf')
    obtain⟨e1,e2⟩:=hRc.cells hcf
    have HT1:Hid ((l.take (j + 1)).filter (fun f=>!p f)=(l.take j).filter (fun f=>!p f)++(if p f=true then [] else [f])):=zbq hf'
    have HD1:Hid (cur.drop (j + 1)=l.drop (j + 1)):=by
     show _=_
     have h:=congrArg (List.drop 1) HD.out
     rwa [List.drop_drop,List.drop_drop] at h
    have hs0:=hB.size
    have hgr:g < wr.heap.size:=by obtain⟨cs,h1,_⟩:=hRc.1;exact yS h1
    have B2:Below g w (wr.alloc (.cells #[.string f.1,.string f.2] 72)):=hB.alloc (Nat.le_of_lt hgr) _
    have R2:=row1 wr (.cells #[.string f.1,.string f.2] 72)
    have hRc2:=hRc.kept (bel1 wr (.cells #[.string f.1,.string f.2] 72))
    have HP:=Lib.hid (hp _ B2 f hz.1 hz.2)
    have hl2:=hf.1
    clear hf' hcf HD
    obtain⟨pb,hpb⟩:∃ pb,pb=p f:=⟨_,rfl⟩
    rw[← hpb] at HP HT1
    clear hpb
    go_wp2_with fail
    refine HP.out.mono ?_
    rintro e w3 ⟨rfl,b3⟩
    have hgs:g≤(wr.alloc (.cells #[.string f.1,.string f.2] 72)).heap.size:=by simp;omega
    have B3:=B2.trans (b3.mono hgs)
    have R3:=YtdlkjofnnefjfaaGreatDoor.kept b3 R2
    have hRc3:=hRc2.kept b3
    clear R2 hRc2 b3 B2
    cases pb with
    | true =>
     have hT:(l.take (j + 1)).filter (fun f=>!p f)=(l.take j).filter (fun f=>!p f):=by rw[HT1.out];simp
     have HTT:=Lib.hid hT
     clear hT
     go_wp2
     exact⟨⟨k,j + 1,cur,by omega,by omega,rfl,by simp,by show _=_;rw[HTT.out];exact HK.out,by show _=_;rw[HTT.out];exact HT.out,HD1,hcl,hRc3,B3⟩,by simp[intOf];omega⟩
    | false =>
     have hT:(l.take (j + 1)).filter (fun f=>!p f)=(l.take j).filter (fun f=>!p f)++[f]:=by rw[HT1.out];simp
     have HTT:=Lib.hid hT
     clear hT
     have hth:=hRc3.there (i:=k) (n:=1) (by omega)
     have hset:=hRc3.set k f (by omega)
     have HC:=Lib.hid (And.intro hset (setCells_below g g (yV _) [.string f.1,.string f.2] (k * 2) _ _ B3))
     clear hset
     have c1:=yE R3 0 (.string f.1) rfl
     have c2:=yE R3 1 (.string f.2) rfl
     go_wp2_with (first|((with_reducible (show wpList _ _ _ (Oper.mk none (.store 72 _ _) _ _ _ none::_) _ _));refine wpList_store_mid rfl 72 _ _ rfl g (k * 2) #[.string f.1,.string f.2] rfl rfl hth zeW (by simp[Value.oneCell']) ?_))
     refine⟨⟨k + 1,j + 1,cur.set k f,by omega,by omega,by simp,by simp,?_,?_,?_,by simp[hcl],HC.out.1,HC.out.2⟩,by simp[intOf];omega⟩
     ·show _=_
      rw[HTT.out,List.length_append,← HK.out];rfl
     ·show _=_
      rw[HTT.out,zb4 _ _ _ (by omega),HT.out]
     ·show _=_
      rw[List.drop_set_of_lt (by omega)];exact HD1.out
   ·obtain rfl:j=l.length:=by omega
    have hs0:=hB.size
    have hck:¬ cap=k:=by omega
    obtain⟨vs,hcl'⟩:=zbt wr 0 g (k * 2) (l.length - k) (cap - k) (by rw[← hcl];exact hRc.there (by omega)) (by omega)
    have hfin:RowZ g N (cur.take k) (wr.setCells g (k * 2) vs):=(hRc.take k).behind k vs (by rw[List.length_take];omega) (by
     rcases Nat.eq_zero_or_pos (cur.take k).length with h|h
     ·exact .inr (List.length_eq_zero_iff.1 h)
     ·exact .inl (by omega))
    have hFk:F=cur.take k:=by rw[HF.out,HT.out,List.take_length]
    have hkF:k=F.length:=by rw[HF.out,HK.out,List.take_length]
    rw[← hFk] at hfin
    have HFin:=Lib.hid (And.intro hfin (setCells_below g g (yV _) vs (k * 2) _ _ hB))
    have HKF:=Lib.hid hkF
    clear hfin hFk hkF
    go_wp2
    go_ret
    exact⟨ret_val (congrArg (fun n=>Value.slice (some ⟨g,0,none⟩) n cap) HKF.out),HFin.out.1,HFin.out.2⟩
theorem zfi (v:Value) (l:List Fld) (w:World) (hv:Flds w v l) (hf:zax l) :
  Calls Tryz.prog 24 #[v] w fun e w'=>∃ v',e=.returned v'∧w'.ownsRow w.heap.size 72 2 v' l.length (zai l)∧Below w.heap.size w w':=by
 have hl:=hf.1
 rcases hv with ⟨rfl,rfl⟩|⟨b,off,cap,rfl,_,_,hlt,hc⟩
 ·exact(Tryz.slices_Clone_fields_nil 0 0 w).mono fun e w' ⟨he,hw⟩=>⟨_,he,World.ownsRow_nil _ _ _ _,by rw[hw];exact Below.refl _ _⟩
 ·obtain⟨i0,hi,hz0,hz1,hz2⟩:∃ i0:TypeInfo,Tryz.prog.info? 72=some i0∧i0.zero=some (.agg #[.string ⟨#[]⟩,.string ⟨#[]⟩])∧i0.size=2∧i0.bytes=32:=info_parts (by kernel_rfl)
  refine(Tryz.slices_Clone_fields i0 _ 2 32 hi hz0 hz1 hz2 rfl (by omega) Tryz.sizeOf72 b off l.length cap (zai l) w (zas l) (by unfold maxLen;omega) (by omega) (Flds.get (cap:=cap) hc) ?_).mono ?_
  ·intro u hu
   unfold zai at hu
   rw[List.mem_flatMap] at hu
   obtain⟨f,_,hu⟩:=hu
   simp at hu
   rcases hu with rfl|rfl <;> rfl
  ·rintro e w' ⟨v',he,ho,hne,b1⟩
   exact⟨v',he,ho,b1⟩
theorem zeH {w:World} {B n:Nat} {v:Value} {l:List Fld} (h:w.ownsRow B 72 2 v n (zai l)) (hn:n=l.length):(v=.slice none 0 0∧l=[])∨∃ g cap,v=.slice (some ⟨g,0,none⟩) l.length cap∧B≤g∧l.length≤cap∧cap≤maxLen∧RowZ g (cap * 2) l w:=by
 by_cases hv:v=.slice none 0 0
 ·refine .inl ⟨hv,?_⟩
  rcases h.2 with ⟨_,h2⟩|⟨g,cap,cur,h2,_⟩
  ·exact List.length_eq_zero_iff.1 (by omega)
  ·rw[hv] at h2;cases h2
 ·obtain⟨g,cap,e,h1,h2,h3,h4⟩:=zca (cap:=0) h hn hv
  refine .inr ⟨g,cap,e,h1,h2,h3,h4,?_⟩
  rcases h.2 with ⟨h5,_⟩|⟨g',cap',cur,h5,_,hh,_,_,h6,_⟩
  ·exact absurd h5 hv
  ·rw[e] at h5
   simp only[Value.slice.injEq,Option.some.injEq,Addr.mk.injEq] at h5
   obtain⟨⟨rfl,_⟩,_,rfl⟩:=h5
   exact⟨cur,hh,h6⟩
theorem zeC {w:World} {B g cap:Nat} {l:List Fld} (h:RowZ g (cap * 2) l w) (hB:B≤g) (hc:l.length≤cap) (hm:cap≤maxLen):w.ownsRow B 72 2 (.slice (some ⟨g,0,none⟩) l.length cap) l.length (zai l):=by
 obtain⟨⟨cs,h1,h2,h3⟩,cs',h4,h5⟩:=h
 rw[h1] at h4
 cases h4
 refine⟨zas l,.inr ⟨g,cap,cs,rfl,hB,h1,hc,hm,h5,?_⟩⟩
 apply List.ext_getElem?
 intro i
 by_cases hi:i < l.length * 2
 ·rw[List.getElem?_take,if_pos hi,Array.getElem?_toList]
  obtain⟨f,hf⟩:∃ f,l[i / 2]? = some f:=⟨_,List.getElem?_eq_getElem (by omega)⟩
  obtain⟨a1,a2⟩:=h3 _ f hf
  obtain⟨b1,b2⟩:=za9 l _ f hf
  rcases Nat.mod_two_eq_zero_or_one i with e|e
  ·have:i=i / 2 * 2:=by omega
   rw[this,a1,b1]
  ·have:i=i / 2 * 2 + 1:=by omega
   rw[this,a2,b2]
 ·rw[List.getElem?_eq_none (by simp;omega),List.getElem?_eq_none (by rw[zas];omega)]
set_option maxHeartbeats 1000000 in
theorem zfY (v nv:Value) (l:List Fld) (names:List ByteArray) (w:World) (hv:Flds w v l) (hf:zax l) (hn:Strs w nv names) (hnl:names.length≤1000000) (hnz:∀ x∈names,x.size≤1000000) :
  Calls Tryz.prog 45 #[v,nv] w fun e w'=>∃ v',e=.returned v'∧w'.ownsRow w.heap.size 72 2 v' (zaf names l).length (zai (zaf names l))∧Below w.heap.size w w':=by
 have hmf:∀ (fn:Fn) (first cap:Array Value) (w:World),(Instr.makeFunc fn first cap).run Tryz.prog w=.ok (.func fn first cap) w:=fun _ _ _ _=>rfl
 have R1:=row1 w (.cells #[nv] 25)
 have B1:=bel1 w (.cells #[nv] 25)
 have HC:=Lib.hid (zfi v l _ (hv.below B1) hf)
 have hs1:(w.alloc (.cells #[nv] 25)).heap.size=w.heap.size + 1:=by simp
 have hask:∀ (B:Nat) (W0:World),w.heap.size + 1≤B→Below w.heap.size w W0→W0.heap[w.heap.size]? = some (.cells #[nv] 25 (0,0))→AskF B 86 #[.pointer (some ⟨w.heap.size,0,none⟩)] (zcD names) W0:=fun B W0 hB0 hb hr W hW f h1 h2=>by
  have hr':W.heap[w.heap.size]? = some (.cells #[nv] 25 (0,0)):=(hW.block _ (by omega)).trans hr
  exact zeU w.heap.size nv names W (yE hr' 0 _ rfl) (yS hr') (hn.below (hb.trans (hW.mono (by omega)))) hnl hnz f h1
 obtain⟨q,m,c,rfl⟩:=hv.slice
 obtain⟨q',m',c',rfl⟩:=hn.slice
 go_enter Tryz.func45,Tryz.ntmps45
 go_wp2_with fail
 refine HC.out.mono ?_
 rintro e w2 ⟨v2,rfl,hN,b2⟩
 have B2:=yD B1 b2
 have R2:=kept b2 R1
 rw[hs1] at hN
 rcases zeH hN rfl with ⟨rfl,rfl⟩|⟨g,cap,rfl,hg,hc1,hm1,hrow⟩
 ·have HI:=Lib.hid (zbj 86 #[.pointer (some ⟨w.heap.size,0,none⟩)] (enters_of Tryz.func86 (by kernel_rfl) rfl) (zcD names) (.slice none 0 0) [] w2 (hask _ w2 (by have:=yS R2;omega) B2 R2) (.inl ⟨rfl,rfl⟩) hf)
  go_wp2_with (first|(go_at_call 89;go_in)|(go_at_call 107;refine HI.out.mono ?_;rintro e w3 ⟨rfl,b3⟩))
  go_ret
  exact⟨_,rfl,World.ownsRow_nil _ _ _ _,yD B2 b3⟩
 ·have HD:=Lib.hid (zeo g cap (cap * 2) l 86 #[.pointer (some ⟨w.heap.size,0,none⟩)] (enters_of Tryz.func86 (by kernel_rfl) rfl) (zcD names) w2 hrow hc1 hm1 hf (hask g w2 hg B2 R2))
  go_wp2_with fail
  refine HD.out.mono ?_
  rintro e w3 ⟨rfl,hr3,b3⟩
  have hle:(l.filter (fun f=>!zcD names f)).length≤cap:=yW (List.length_filter_le _ _) hc1
  have HF:=Lib.hid (And.intro hr3 hle)
  clear hr3 hle
  go_wp2
  go_ret
  exact⟨_,rfl,zeC HF.out.1 (by omega) HF.out.2 hm1,B2.trans (b3.mono (by omega))⟩
end
section
open Go.RowKit
abbrev zad (ut mt:ByteArray) (hv:Value) (bd:Bool):Array Value:=#[.string ut,.string mt,hv,.bool bd]
def addF (is:Bool) (l:List Fld) (f:Fld):List Fld:=if is=true then l++[f] else l
theorem zck (l:List Fld) (f:Fld):addF true l f=l++[f]:=rfl
theorem zfM (l:List Fld) (f:Fld):addF false l f=l:=rfl
theorem zba {w:World} {B e n X:Nat} {sz:Nat} {v:Value} {xs:List Value} {cs:Array Value} {T:TypeId} {fr:Nat×Nat} (ho:w.ownsRow B e sz v n xs) (hR:w.heap[X]? = some (.cells cs T fr)) (hT:T≠e):some X≠v.ownBlock:=by
 intro e2
 rcases ho.2 with ⟨rfl,_⟩|⟨g,cap,cur,rfl,_,hh,_⟩
 ·simp[Value.ownBlock] at e2
 ·simp[Value.ownBlock] at e2
  subst e2
  rw[hR] at hh
  cases hh
  exact hT rfl
set_option maxHeartbeats 2000000 in
theorem zfb (X B:Nat) (ut mt:ByteArray) (hv:Value) (bd:Bool) (l:List Fld) (nm tv:ByteArray) (is:Bool) (w:World) (hR:w.heap[X]? = some (.cells (zad ut mt hv bd) 54 (0,0)))
  (ho:w.ownsRow B 72 2 hv l.length (zai l)) (hl:l.length≤2000000) (hB:B≤w.heap.size) (hX:B≤X) :
  Calls Tryz.prog 46 #[.string nm,.string tv,.bool is,.pointer (some ⟨X,0,none⟩)] w fun e w'=>e=.returned (.tuple #[])∧∃ hv',w'.heap[X]? = some (.cells (zad ut mt hv' bd) 54 (0,0))∧w'.ownsRow B 72 2 hv' (addF is l (nm,tv)).length (zai (addF is l (nm,tv)))∧Below B w w':=by
 cases is with
 | false =>
  have HZ:Hid (addF false l (nm,tv)=l):=zfM _ _
  have HO:=Lib.hid ho
  have HR:=Lib.hid hR
  clear ho hR
  go_enter Tryz.func46,Tryz.ntmps46
  go_wp2
  go_end0
  exact⟨rfl,hv,HR.out,by rw[HZ.out];exact HO.out,Below.refl _ _⟩
 | true =>
  have HZ:Hid (addF true l (nm,tv)=l++[(nm,tv)]):=zck _ _
  obtain⟨i0,hi,hz0,hz1,hz2⟩:∃ i0:TypeInfo,Tryz.prog.info? 72=some i0∧i0.zero=some (.agg #[.string ⟨#[]⟩,.string ⟨#[]⟩])∧i0.size=2∧i0.bytes=32:=info_parts (by kernel_rfl)
  have hXw:=yS hR
  have c2:=yE hR 2 hv rfl
  have hno:=zba ho hR (by decide)
  have HR:=Lib.hid hR
  clear hR
  obtain⟨q,c,rfl⟩:∃ q c,hv=.slice q l.length c:=by
   rcases ho.2 with ⟨h,h'⟩|⟨g,cap,cur,h,_⟩
   ·exact⟨none,0,by rw[h,h']⟩
   ·exact⟨_,_,h⟩
  go_enter Tryz.func46,Tryz.ntmps46
  go_wp2_with (at_builtin;refine wpList_append_own _ rfl _ _ 28 rfl B 72 i0 _ 2 32 Tryz.underlying28 hi hz0 hz1 hz2 rfl (by decide) _ _ _ rfl (ho.alloc _) ⟨w.heap.size,0,none⟩ 1 1 [.string nm,.string tv] rfl rfl (cell_two_new _ _ _ _) (by intro u hu;simp at hu;rcases hu with rfl|rfl <;> rfl) (by unfold maxLen;omega) (by omega) (by simp;omega) ?_;intro v' w5 hown' hgrow _;obtain⟨g',cap',rfl⟩:=ownsRow_succ hown';have R5:w5.heap[X]? = some (.cells (zad ut mt (.slice q l.length c) bd) 54 (0,0)):=(hgrow.block X (by simp;omega) hno).trans (kept (bel1 w _) HR.out);have d2:=yE R5 2 (.slice q l.length c) rfl;have f2:=yF R5 2;have HG:=Lib.hid hgrow;have HOW:=Lib.hid hown')
  go_end0
  have hgrow2:(w.alloc (.cells #[.string nm,.string tv] 72)).grownBy w5 (Value.slice q l.length c).ownBlock:=HG.out
  have hB5:=((Below.refl B w).alloc hB _).grown hgrow2 (by simp;omega) (fun j hj=>(ho.lt j (by rw[hj])).1)
  refine⟨rfl,_,zap (i:=2) R5 (.slice (some ⟨g',0,none⟩) (l.length + 1) cap') rfl,?_,hB5.setCell (p:=⟨X,2,none⟩) hX _⟩
  rw[HZ.out,zce,List.length_append]
  exact ownsRow_setCell_other HOW.out (a:=⟨X,2,none⟩) (fun e=>zba HOW.out R5 (by decide) e.symm) _
end
end Go.Proofs.YtdlkjofnnefjfaaGreatDoor
