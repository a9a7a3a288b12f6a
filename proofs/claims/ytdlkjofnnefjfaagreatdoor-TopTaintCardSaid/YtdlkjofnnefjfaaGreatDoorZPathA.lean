/- The walks of layer 8: dots, split: for every text of at most 1000000 bytes. The walks of layer 8's iterator over segments. The walk of layer 8's Norm: segments without dots: for every list of at most 1000000 texts. The walks of layer 8: split, Parse; IndexFunc and ContainsFunc of texts where the question may lay new blocks; May. The walks of slices.Grow and slices.Concat of texts, and of layer 8's Merge. The walks of a Builder's WriteString, and of layer 8's Show. -/
import Derived.Test.YtdlkjofnnefjfaaGreatDoorZHostE
import Derived.Deep.AppendLies
import Derived.Shelf.Spec.SlicesGrow
import Derived.Ground.Names8Prog
import Derived.Laws.AppendOwnNone
import Derived.Lib.AppendStr
set_option linter.all false
namespace Go.Proofs.YtdlkjofnnefjfaaGreatDoor
set_option maxRecDepth 100000
section
open Go.RowKit
def dotR (s:ByteArray):Option ByteArray :=
 if Lib.hasPrefix s.data.toList [46]=true then some (bs (Lib.trimPrefix s.data.toList [46]))
 else if 3≤s.size then (if sameL (s.extract 0 3).data.toList [37,50,101]=true then some (s.extract 3 s.size) else none) else none
def dotsN:Nat→ByteArray→Int→Int
 | 0,_,_=>0
 | k + 1,s,n=>if s.size=0 then n else match dotR s with|none=>0|some r=>dotsN k r (n + 1)
def dots (s:ByteArray):Int:=dotsN 3 s 0
theorem dotsN_le:∀ (k:Nat) (s:ByteArray) (n:Int),0≤n→n + k≤3→0≤dotsN k s n∧dotsN k s n≤2
 | 0,_,n,_,_=>by simp[dotsN]
 | k + 1,s,n,h,h2=>by
  unfold dotsN
  split
  ·omega
  ·split
   ·simp
   ·exact dotsN_le k _ (n + 1) (by omega) (by omega)
set_option maxHeartbeats 1000000 in
theorem dots_any (s:ByteArray) (w:World) (hs:s.size≤1000000) :
  Calls Tryz.prog 120 #[.string s] w fun e w'=>e=.returned (.int .i64 (dots s))∧Below w.heap.size w w':=by
 obtain⟨r,hr⟩:∃ r,r=dots s:=⟨_,rfl⟩
 rw[← hr]
 have HR:Hid (r=dotsN 3 s 0):=hr
 clear hr
 go_enter Tryz.func120,Tryz.ntmps120
 go_wp2_with fail
 go_loopw [0,3,4,5] (fun sv n _ _ wr=>∃ (t:ByteArray) (k:Nat),k≤2∧sv=.string t∧t.size≤1000000∧n=.int .i64 k∧r=dotsN (3 - k) t k∧Below w.heap.size w wr) (fun _ n _ _ _=>3 - (intOf n).toNat)
 case atStart=>exact⟨s,0,by omega,rfl,hs,rfl,HR.out,Below.refl _ _⟩
 case round =>
  obtain⟨t,k,hk,rfl,ht,rfl,hd,hB⟩:=hrel
  have HD:=Lib.hid hd
  clear hd
  by_cases h0:t.size=0
  ·have he:t.toList.isEmpty=true:=(empty_iff t).2 h0
   have he2:t.data.toList=[]:=List.length_eq_zero_iff.1 (by rw[size_len];exact h0)
   have HF:Hid (r=(k:Int)):=by
    show _=_;rw[HD.out]
    obtain⟨j,hj⟩:∃ j,3 - k=j + 1:=⟨2 - k,by omega⟩
    rw[hj];unfold dotsN;rw[if_pos h0]
   clear h0
   go_wp2
   go_ret
   exact⟨by rw[HF.out];rfl,hB⟩
  ·have he:t.toList.isEmpty=false:=empty_no h0
   have HP:∀ w',Hid (Calls Tryz.prog 99 #[.string t,.string ⟨#[46]⟩] w' fun e w''=>e=.returned (.tuple #[.string (bs (Lib.trimPrefix t.data.toList [46])),.bool (Lib.hasPrefix t.data.toList [46])])∧w'=w''):=fun w'=>cutPrefix_any t ⟨#[46]⟩ w'
   have HS:=fun w'=>Lib.hid (same_any (t.extract 0 3) ⟨#[37,50,101]⟩ w' (by rw[ByteArray.size_extract];omega) (by decide))
   have HN:Hid (dotR t=none→r=0):=by
    intro hn;rw[HD.out]
    obtain⟨j,hj⟩:∃ j,3 - k=j + 1:=⟨2 - k,by omega⟩
    rw[hj,dotsN.eq_2,if_neg h0,hn]
   have HY:Hid (∀ u,dotR t=some u→r=dotsN (2 - k) u ((k:Int) + 1)):=by
    intro u hu;rw[HD.out]
    obtain⟨j,hj⟩:∃ j,3 - k=j + 1:=⟨2 - k,by omega⟩
    have:2 - k=j:=by omega
    rw[hj,this,dotsN.eq_2,if_neg h0,hu]
   have HQ:Hid (dotR t=_):=dotR.eq_1 t
   obtain⟨p,hp⟩:∃ p,p=bs (Lib.trimPrefix t.data.toList [46]):=⟨_,rfl⟩
   have hps:p.size≤1000000:=by rw[hp,bs_size];have:=trimP_le t.data.toList [46];rw[size_len] at this;omega
   obtain⟨b,hb⟩:∃ b,b=Lib.hasPrefix t.data.toList [46]:=⟨_,rfl⟩
   simp only[← hp,← hb] at HP HQ
   clear hp hb h0 HD
   cases b with
   | true =>
    have HY':=Lib.hid (HY.out p (by rw[HQ.out];rfl))
    clear HN HY HQ
    go_wp2_with fail
    refine(HP _).out.mono ?_
    rintro e w1 ⟨rfl,rfl⟩
    by_cases hk2:k=2
    ·subst hk2
     have HZ:Hid (r=0):=HY'.out
     go_wp2
     go_ret
     exact⟨by rw[HZ.out];rfl,hB⟩
    ·have hlt:k < 2:=by omega
     have e1:wrap64 ((k:Int) + 1)=(k:Int) + 1:=by unfold wrap64;omega
     have e2:¬ ((k:Int) + 1 > 2):=by omega
     go_wp2
     go_roundw
     case rel=>exact⟨p,k + 1,by omega,rfl,hps,by go_num,by rw[HY'.out];congr 1;omega,hB⟩
     case measure=>simp[intOf];omega
   | false =>
    by_cases h3:3≤t.size
    ·obtain⟨u,hu⟩:∃ u,u=t.extract 3 t.size:=⟨_,rfl⟩
     have hus:u.size≤1000000:=by rw[hu,ByteArray.size_extract];omega
     obtain⟨b,hb⟩:∃ b,b=sameL (t.extract 0 3).data.toList [37,50,101]:=⟨_,rfl⟩
     have HS:∀ w',Hid (Calls Tryz.prog 35 #[.string (t.extract 0 3),.string ⟨#[37,50,101]⟩] w' fun e w''=>e=.returned (.bool b)∧Below w'.heap.size w' w''):=by rw[hb];exact HS
     have HQ:Hid (dotR t=if b=true then some u else none):=by show _=_;rw[HQ.out,if_neg (by simp),if_pos h3,hb,hu]
     have HU:=Lib.hid hu
     clear hu hb
     go_wp2_with fail
     refine(HP _).out.mono ?_
     rintro e w1 ⟨rfl,rfl⟩
     go_wp2_with fail
     refine(HS _).out.mono ?_
     rintro e w1 ⟨rfl,b1⟩
     cases b with
     | true =>
      have HY':=Lib.hid (HY.out u (by rw[HQ.out];rfl))
      clear HN HY HQ
      by_cases hk2:k=2
      ·subst hk2
       have HZ:Hid (r=0):=HY'.out
       go_wp2
       go_ret
       exact⟨by rw[HZ.out];rfl,hB.trans (b1.mono hB.size)⟩
      ·have hlt:k < 2:=by omega
       have e1:wrap64 ((k:Int) + 1)=(k:Int) + 1:=by unfold wrap64;omega
       have e2:¬ ((k:Int) + 1 > 2):=by omega
       go_wp2
       go_roundw
       case rel=>exact⟨u,k + 1,by omega,by rw[HU.out],hus,by go_num,by rw[HY'.out];congr 1;omega,hB.trans (b1.mono hB.size)⟩
       case measure=>simp[intOf];omega
     | false =>
      have HN':=Lib.hid (HN.out (by rw[HQ.out];rfl))
      clear HN HY HQ
      go_wp2
      go_ret
      exact⟨by rw[HN'.out];rfl,hB.trans (b1.mono hB.size)⟩
    ·have HN':=Lib.hid (HN.out (by rw[HQ.out,if_neg (by simp),if_neg h3]))
     have h3':¬ ((t.size:Int) ≥ 3):=by omega
     clear HN HY HQ h3
     go_wp2_with fail
     refine(HP _).out.mono ?_
     rintro e w1 ⟨rfl,rfl⟩
     go_wp2
     go_ret
     exact⟨by rw[HN'.out];rfl,hB⟩
end
section
open Go.RowKit Go.Shelf
attribute [local go_sem] Oper.semAt_some
def segAt (l:List ByteArray) (j:Nat):ByteArray×Bool:=(l.getD j ByteArray.empty,decide (j + 1=l.length))
def StrsP (p:Nat→Prop) (w:World) (v:Value) (l:List ByteArray):Prop :=
 (v=.slice none 0 0∧l=[])∨∃ b off cap,v=.slice (some ⟨b,off,none⟩) l.length cap∧l.length≤cap∧cap≤maxLen∧p b∧∀ j,j < l.length→w.cell? ⟨b,off + j,none⟩=some (.string (l.getD j ByteArray.empty))
theorem StrsP.keep {p:Nat→Prop} {w w':World} {v:Value} {l:List ByteArray} (h:StrsP p w v l) (hk:KeepAt p w w'):StrsP p w' v l:=by
 rcases h with h|⟨b,off,cap,hv,hl,hm,hlt,hc⟩
 ·exact .inl h
 ·exact .inr ⟨b,off,cap,hv,hl,hm,hlt,fun j hj=>(hk.cell (a:=⟨b,off + j,none⟩) hlt).trans (hc j hj)⟩
set_option maxHeartbeats 2000000 in
theorem seg1_in (n:Nat) (hn:2≤n) (l Bs:Nat) (v:Value) (s:List ByteArray) (hs:s.length≤10000000) (J Jx:List (ByteArray×Bool)→World→Prop) (p:Nat→Prop) (hp1:p Bs)
  (hY:∀ pre x W,J pre W→(pre.length < s.length∧x=segAt s pre.length)→YieldAt Fence.wide (n - 1) Tryz.prog l #[.string x.1,.bool x.2] W fun e W' =>
   (e=.returned (.bool true)∧J (pre++[x]) W'∧KeepAt p W W')∨(e=.returned (.bool false)∧Jx (pre++[x]) W'))
  (hJd:∀ pre W,J pre W→J pre W.drew)
  (W:World) (hBs:W.cell? ⟨Bs,0,none⟩=some v) (hv:StrsP p W v s) (h0:J [] W) :
  CallsIn Fence.wide n Tryz.prog 192 #[.func (.yield l) #[] #[],.pointer (some ⟨Bs,0,none⟩)] W fun e W'=>(∃ v,e=.returned v) ∧
   ((∃ ys,ys=upto (segAt s) s.length∧J ys W')∨(∃ pre,(∃ k,k≤s.length∧pre=upto (segAt s) k)∧Jx pre W')):=by
 refine callsIn_of_wp Tryz.func192 rfl trivial ?_ rfl
 simp only[Tryz.ntmps192,List.size_toArray,List.length_cons,List.length_nil,Nat.reduceAdd,Nat.reduceSub,Array.replicate_succ,Array.replicate_zero,List.push_toArray,List.append_toArray,List.nil_append,List.cons_append]
 rcases hv with ⟨rfl,rfl⟩|⟨b,off,cap,rfl,hl,hm,hpb,hc⟩
 ·gi_wp2
  gi_loopw [7] (fun i wr=>i=.int .i64 0∧J [] wr) (fun i _=>0)
  case atStart=>exact⟨rfl,h0⟩
  case round =>
   obtain⟨rfl,hJs⟩:=hrel
   gi_wp2
   go_end0
   exact⟨⟨_,rfl⟩,.inl ⟨_,rfl,hJs⟩⟩
 ·have HC:=Lib.hid hc
  clear hc
  gi_wp2
  gi_loopw [3,4,7] (fun _ _ i wr=>∃ k:Nat,k≤s.length∧i=.int .i64 k∧J (upto (segAt s) k) wr∧KeepAt p W wr)
   (fun _ _ i _=>s.length - (intOf i).toNat)
  case atStart=>exact⟨0,Nat.zero_le _,rfl,h0,KeepAt.refl _ _⟩
  case round =>
   obtain⟨k,hk,rfl,hJs,hnx⟩:=hrel
   have hc1:=(hnx.cell (a:=⟨Bs,0,none⟩) hp1).trans hBs
   by_cases hlt:k < s.length
   ·have hcell:=(hnx.cell (a:=⟨b,off + k,none⟩) hpb).trans (HC.out k hlt)
    have e1:wrap64 ((s.length:Int) - 1)=(s.length:Int) - 1:=by unfold wrap64;omega
    have hy:=hY _ (segAt s k) wr hJs (by rw[upto_length];exact⟨hlt,rfl⟩)
    have hq:((k:Int) == (s.length:Int) - 1)=decide (k + 1=s.length):=by
     rw[Bool.eq_iff_iff];simp;omega
    obtain⟨x,hx⟩:∃ x,x=segAt s k:=⟨_,rfl⟩
    have hx1:s.getD k ByteArray.empty=x.1:=by rw[hx];rfl
    have hx2:decide (k + 1=s.length)=x.2:=by rw[hx];rfl
    rw[hx1] at hcell
    rw[hx2] at hq
    rw[← hx] at hy
    have HX:=Lib.hid hx
    clear hx1 hx2 hx
    obtain⟨fn,tmps,assign,body,hy,hR⟩:=hy
    have hRR:=Lib.hid (hR.mono (R':=fun e W'=>∃ r,e=.returned (.bool r)∧Went J Jx p wr (upto (segAt s) k++[x]) r W') (by
     rintro e W' (⟨rfl,h1,h2⟩|⟨rfl,h1⟩)
     ·exact⟨true,rfl,h1,h2⟩
     ·exact⟨false,rfl,h1⟩))
    clear hR
    gi_wp2
    refine⟨fun _=>by omega,?_⟩
    refine hRR.out.mono ?_
    rintro e W' ⟨r,rfl,hw⟩
    cases r with
    | true =>
     obtain⟨h1,h2⟩:=hw
     gi_wp2
     go_roundw
     case rel=>exact⟨k + 1,by omega,by simp,by rw[upto_succ,← HX.out];exact h1,hnx.trans h2⟩
     case measure=>simp[intOf];omega
    | false =>
     have h1:Jx _ _:=hw
     gi_wp2
     refine bodyPost_ret (results_none rfl _ _ _) rfl ?_
     exact⟨⟨_,rfl⟩,.inr ⟨_,⟨k + 1,by omega,by rw[upto_succ,← HX.out]⟩,h1⟩⟩
   ·obtain rfl:k=s.length:=by omega
    gi_wp2
    go_end0
    exact⟨⟨_,rfl⟩,.inl ⟨_,rfl,hJs⟩⟩
end
section
open Go.RowKit Go.Shelf
attribute [local go_sem] Oper.semAt_some
def normStep (out:List ByteArray) (x:ByteArray×Bool):List ByteArray :=
 if dots x.1=0 then out++[x.1] else if x.2=true then (if dots x.1=2 then out.dropLast else out)++[⟨#[]⟩] else (if dots x.1=2 then out.dropLast else out)
def normL (l:List ByteArray):List ByteArray:=(upto (segAt l) l.length).foldl normStep []
theorem normStep_len (out:List ByteArray) (x:ByteArray×Bool):(normStep out x).length≤out.length + 1:=by
 unfold normStep;split
 ·simp
 ·split <;> split <;> simp <;> omega
theorem norm_snoc (pre:List (ByteArray×Bool)) (x:ByteArray×Bool):(pre++[x]).foldl normStep []=normStep (pre.foldl normStep []) x:=by rw[List.foldl_append];rfl
theorem norm_len:∀ (pre:List (ByteArray×Bool)) (out:List ByteArray),(pre.foldl normStep out).length≤out.length + pre.length
 | [],out=>by simp
 | x::pre,out=>by have:=norm_len pre (normStep out x);have:=normStep_len out x;simp only[List.foldl_cons,List.length_cons];omega
theorem normPut_any (B a:Nat) (v:Value) (n:Nat) (xs:List Value) (s:ByteArray) (w:World) (hb:Boxed w a 25 v) (ho:w.ownsRow B 9 1 v n xs) (hn:n≤10000000) (hB:B≤w.heap.size) (ha:B≤a) :
  Calls Tryz.prog 213 #[.string s,.pointer (some ⟨a,0,none⟩)] w fun e w'=>e=.returned (.tuple #[])∧∃ v',Boxed w' a 25 v'∧w'.ownsRow B 9 1 v' (n + 1) (xs++[.string s])∧KeepsOthers w w'∧Below B w w'∧∀ k,k < w.heap.size→k≠a→some k≠v.ownBlock→w'.heap[k]? = w.heap[k]?:=by
 obtain⟨i0,hi,hz0,hz1,hz2⟩:=info_parts Tryz.info9
 have hc:=hb.cell
 go_enter Tryz.func213,Tryz.ntmps213
 go_wp2_with (at_builtin;refine wpList_append_own _ rfl _ _ 25 rfl B 9 i0 (.string ⟨#[]⟩) 1 16 Tryz.underlying25 hi hz0 hz1 hz2 rfl (by decide) _ _ _ rfl (ho.alloc _) ⟨w.heap.size,0,none⟩ 1 1 [.string s] rfl rfl (cell_one_new _ _ _) (by simp[Value.oneCell']) (by unfold maxLen;omega) (by omega) (by simp;omega) ?_;intro v' w1 hown' hgrow _;obtain⟨g',cap',rfl⟩:=ownsRow_succ hown';obtain⟨hv1,hv2,hr2,hk2,hb2⟩:=hb.appended (by decide) ho hB ha hown' hgrow;have hc1:=hv1.cell;have hf1:=hv1.frozen;have hkk:=Lib.hid hgrow)
 go_end0
 exact⟨rfl,_,hv2,hr2,hk2,hb2,fun k hk hka hkv=>(Below.heap_setCell _ _ _ _ hka).trans ((hkk.out.block k (by simp;omega) hkv).trans (Below.heap_alloc _ _ _ hk))⟩
theorem segments_any (q:Option Addr) (m c:Nat) (w:World):Calls Tryz.prog 137 #[.slice q m c] w fun e w'=>e=.returned (.func (.func 192) #[] #[.pointer (some ⟨w.heap.size,0,none⟩)])∧w.alloc (.cells #[.slice q m c] 25)=w':=by
 have hmf:∀ (fn:Fn) (first cap:Array Value) (w:World),(Instr.makeFunc fn first cap).run Tryz.prog w=.ok (.func fn first cap) w:=fun _ _ _ _=>rfl
 go_enter Tryz.func137,Tryz.ntmps137
 go_wp2
 go_ret
 exact⟨rfl,rfl⟩
theorem seg_stops (n:Nat) (hn:2≤n) (Bs H:Nat) (v:Value) (s:List ByteArray) (hs:s.length≤10000000) (w:World) (hH:H≤w.heap.size) (hBs:Bs < w.heap.size)
  (h1:w.cell? ⟨Bs,0,none⟩=some v) (h2:StrsP (fun k=>k=Bs∨k < H) w v s) :
  SeqG n Tryz.prog 192 #[.pointer (some ⟨Bs,0,none⟩)] (fun x:ByteArray×Bool=>#[.string x.1,.bool x.2]) (KeepAt fun k=>k=Bs∨k < H) (fun pre x _=>pre.length < s.length∧x=segAt s pre.length)
   (fun xs=>xs=upto (segAt s) s.length) (fun pre=>∃ k,k≤s.length∧pre=upto (segAt s) k) w:=fun l J Jx W hW hJ _ hY h0=>by
 refine(seg1_in n hn l Bs v s hs J Jx (fun k=>k=Bs∨k < H) (Or.inl rfl) hY (fun pre W1 h=>abides_below hJ h (Below.refl _ _).drew) W ((hW.cell (p:=⟨Bs,0,none⟩) hBs).trans h1) (h2.keep (KeepAt.below (n:=w.heap.size) (fun k hk=>by omega) hW)) h0).mono ?_
 rintro e W' ⟨he,⟨ys,hy,hj⟩|⟨pre,hp,hj⟩⟩
 ·exact⟨he,.inl ⟨ys,hy,hj⟩⟩
 ·exact⟨he,.inr ⟨pre,hp,hj⟩⟩
theorem Strs.to_P {w:World} {v:Value} {l:List ByteArray} (h:Strs w v l) (Bs:Nat):StrsP (fun k=>k=Bs∨k < w.heap.size) w v l:=by
 rcases h with h|⟨b,off,cap,hv,hl,hm,hlt,hc⟩
 ·exact .inl h
 ·exact .inr ⟨b,off,cap,hv,hl,hm,.inr hlt,hc⟩
theorem StrsP.slice {p:Nat→Prop} {w:World} {v:Value} {l:List ByteArray} (h:StrsP p w v l):∃ q m c,v=.slice q m c:=by
 rcases h with ⟨h,_⟩|⟨b,off,cap,h,_⟩
 ·exact⟨_,_,_,h⟩
 ·exact⟨_,_,_,h⟩
theorem own_less {w:World} {B e n m c:Nat} {q:Option Addr} {xs:List Value} (h:w.ownsRow B e 1 (.slice q n c) n xs) (hm:m + 1=n):w.ownsRow B e 1 (.slice q m c) m xs.dropLast:=by
 obtain⟨h1,h2⟩:=h
 refine⟨by rw[List.length_dropLast,h1];omega,?_⟩
 rcases h2 with ⟨_,h2⟩|⟨g,cap,cur,hv,hg,hh,h3,h4,h5,h6⟩
 ·omega
 ·cases hv
  refine .inr ⟨g,c,cur,rfl,hg,hh,by omega,h4,h5,?_⟩
  rw[← h6,List.dropLast_eq_take,List.length_take,List.take_take]
  congr 1
  have:cur.toList.length=c:=by rw[Array.length_toList,h5];omega
  rw[this];omega
set_option maxHeartbeats 2000000 in
theorem norm_any (v:Value) (s:List ByteArray) (w:World) (hv:Strs w v s) (hs:s.length≤5000000) (hz:∀ x∈s,x.size≤1000000) :
  Calls Tryz.prog 158 #[v] w fun e w'=>∃ v',e=.returned v'∧w'.ownsRow w.heap.size 9 1 v' (normL s).length ((normL s).map Value.string)∧Below w.heap.size w w':=by
 have hP:=hv.to_P (w.heap.size + 2)
 obtain⟨q,m,c,rfl⟩:=hP.slice
 have hmf:∀ (fn:Fn) (first cap:Array Value) (w:World),(Instr.makeFunc fn first cap).run Tryz.prog w=.ok (.func fn first cap) w:=fun _ _ _ _=>rfl
 refine callsIn_wide.1 (callsIn_of_wp_marks (n:=9) Tryz.func158 rfl trivial ?_ rfl)
 simp only[Tryz.ntmps158,List.size_toArray,List.length_cons,List.length_nil,Nat.reduceAdd,Nat.reduceSub,Array.replicate_succ,Array.replicate_zero,List.push_toArray,List.append_toArray,List.nil_append,List.cons_append]
 refine wpIn_wide.2 ?_
 go_wp2_with (go_at_call 137;refine(segments_any q m c _).mono ?_;rintro e w' ⟨rfl,rfl⟩)
 obtain⟨H,hH⟩:∃ H,H=w.heap.size:=⟨_,rfl⟩
 obtain⟨W0,hW0⟩:∃ W0,((w.alloc (.cells #[.slice none 0 0] 25)).alloc (.cells #[.func (.func 213) #[] #[.pointer (some ⟨w.heap.size,0,none⟩)]] 274)).alloc (.cells #[.slice q m c] 25)=W0:=⟨_,rfl⟩
 have hb0:Below w.heap.size w W0:=by rw[← hW0];exact bel3 _ _ _ _
 have hz0:W0.heap.size=w.heap.size + 3:=by rw[← hW0];simp
 have x0:Boxed W0 w.heap.size 25 (.slice none 0 0):=by unfold Boxed;rw[← hW0];exact row3a _ _ _ _
 have x1:Boxed W0 (w.heap.size + 1) 274 (.func (.func 213) #[] #[.pointer (some ⟨w.heap.size,0,none⟩)]):=by unfold Boxed;rw[← hW0];exact row3b _ _ _ _
 have x2:Boxed W0 (w.heap.size + 2) 25 (.slice q m c):=by unfold Boxed;rw[← hW0];exact row3c _ _ _ _
 have hP0:StrsP (fun k=>k=w.heap.size + 2∨k < w.heap.size) W0 (.slice q m c) s:=by
  rcases hv with h|⟨b,off,cap,h1,hl,hm,hlt,hc⟩
  ·exact .inl h
  ·exact .inr ⟨b,off,cap,h1,hl,hm,.inr hlt,fun j hj=>(hb0.cell (p:=⟨b,off + j,none⟩) hlt).trans (hc j hj)⟩
 have ow0:W0.ownsRow w.heap.size 9 1 (.slice none 0 0) 0 []:=World.ownsRow_nil _ _ _ _
 rw[hW0]
 clear hW0 hP hv
 refine(wpIn_wide (n:=9)).1 ?_
 refine range_over (n:=9) (gf:=192) (lb:=#[.pointer (some ⟨w.heap.size + 2,0,none⟩)]) rfl (enters_of Tryz.func192 (by kernel_rfl) rfl)
  (seg_stops 8 (by omega) (w.heap.size + 2) w.heap.size (.slice q m c) s (by omega) W0 (by omega) (by omega) x2.cell hP0) KeepAt.trans (fun W l o hl=>KeepAt.putObj (n:=W0.heap.size) (fun k hk=>by omega) W l o hl) (Below.refl _ _) (fun _=>rfl)
  (fun (pre:List (ByteArray×Bool)) W=>(∃ v,Boxed W w.heap.size 25 v∧W.ownsRow w.heap.size 9 1 v (pre.foldl normStep []).length ((pre.foldl normStep []).map Value.string)∧True)∧((W.heap[w.heap.size + 1]? = some (.cells #[.func (.func 213) #[] #[.pointer (some ⟨w.heap.size,0,none⟩)]] 274 (0,0))∧W.heap[w.heap.size + 2]? = some (.cells #[.slice q m c] 25 (0,0)))∧Below w.heap.size w W))
  (fun _ _ _=>False)
  (OwnFrom.and (Own.from (holdsRow_own w.heap.size w.heap.size 25 9 1 (fun (pre:List (ByteArray×Bool))=>(pre.foldl normStep []).length) (fun pre=>(pre.foldl normStep []).map Value.string) (fun _ _=>True)) _)
   (OwnFrom.and (OwnFrom.and (own_block (fun _=>w.heap.size + 1) (fun _=>.cells #[.func (.func 213) #[] #[.pointer (some ⟨w.heap.size,0,none⟩)]] 274 (0,0)) (fun _=>rfl)) (own_block (fun _=>w.heap.size + 2) (fun _=>.cells #[.slice q m c] 25 (0,0)) (fun _=>rfl)))
    (ownFrom_below (Nat.le_refl _) (by omega))))
  (fun _ _ _ _ _ h _ _=>h) (fun _ _ _ _ _ h _ _=>h)
  ⟨⟨_,x0,ow0,trivial⟩,⟨x1,x2⟩,hb0⟩
  ?a1 ?assign ?body ?done ?stop
 case assign =>
  intro l x W K hK
  gi_wp2
  exact hK
 case body =>
  rintro l pre x W ⟨⟨vo,hb,ho,_⟩,⟨hf,hx2⟩,hB⟩ ⟨hlt,hx⟩
  have hxs:x.1.size≤1000000:=by
   rw[hx]
   refine hz _ ?_
   simp[segAt,List.getD,hlt]
  have hn:(pre.foldl normStep []).length≤pre.length:=by have:=norm_len pre [];simpa using this
  have HS:=Lib.hid (norm_snoc pre x)
  obtain⟨out,hout⟩:∃ out,out=pre.foldl normStep []:=⟨_,rfl⟩
  rw[← hout] at ho hn HS
  have HST:Hid (normStep out x=_):=normStep.eq_1 out x
  obtain⟨y,z⟩:=x
  have hd:=dotsN_le 3 y 0 (by omega) (by omega)
  have HD:=fun w'=>Lib.hid (dots_any y w' hxs)
  dsimp only at HST
  obtain⟨d,hdd⟩:∃ d,d=dots y:=⟨_,rfl⟩
  have hd:0≤d∧d≤2:=by rw[hdd];exact hd
  simp only[← hdd] at HD HST
  clear hdd hout hx hxs
  have hcf:W.cell? ⟨w.heap.size + 1,0,none⟩=some (.func (.func 213) #[] #[.pointer (some ⟨w.heap.size,0,none⟩)]):=cell_in hf 0 _ rfl
  have KP:∀ W':World,W.heap.size≤W'.heap.size→Below w.heap.size W W'→W'.heap[w.heap.size + 2]? = some (.cells #[.slice q m c] 25 (0,0))→KeepAt (fun k=>k=w.heap.size + 2∨k < w.heap.size) W W':=by
   rintro W' h1 h2 h3
   refine⟨h1,fun k hk=>?_⟩
   rcases hk with rfl|hk
   ·rw[h3,hx2]
   ·exact h2.block k hk
  have ho':=ho
  obtain⟨qo,co,rfl,hco⟩:∃ qo co,vo=.slice qo out.length co∧out.length≤co:=by
   rcases ho.2 with ⟨h,h'⟩|⟨g,cap,cur,h,_,_,h2,_⟩
   ·exact⟨none,0,by rw[h,h'],by omega⟩
   ·exact⟨_,_,h,h2⟩
  clear ho'
  by_cases d0:d=0
  ·subst d0
   have HZ:Hid (normStep out (y,z)=out++[y]):=by show _=_;rw[HST.out,if_pos rfl]
   clear HST
   gi_wp2_with (first|(refine⟨trivial,?_⟩;gi_at_call 120;refine(CallsIn.inRound l (callsIn_wide.2 (HD _).out)).mono ?_;rintro e w1 ⟨rfl,b1⟩;have B1:=b1.mono hB.size;have hb:=Boxed.kept hb (grown_below b1) (by simp);have ho:=own_below ho b1;have hcf:=cell_in (kept b1 hf) 0 _ rfl;have hcb:=hb.cell;have hfb:=hb.frozen;have hs1:=b1.size;have hk1:=keeps_below b1;have hx3:=kept b1 hx2;have hf3:=kept b1 hf)|(refine⟨trivial,?_⟩;gi_at_call 213;refine(CallsIn.inRound l (callsIn_wide.2 (normPut_any w.heap.size w.heap.size _ _ _ y _ hb ho (by omega) (by have:=hB.size;omega) (Nat.le_refl _)))).mono ?_;rintro e w2 ⟨rfl,v2,hb2,ho2,hk2,b2,kk⟩))
   have B2:Below w.heap.size W w2:=B1.trans b2
   have kf:Boxed w1 (w.heap.size + 1) 274 (.func (.func 213) #[] #[.pointer (some ⟨w.heap.size,0,none⟩)]):=hf3
   have kx:Boxed w1 (w.heap.size + 2) 25 (.slice q m c):=hx3
   have k2:=(kk _ kf.lt (by omega) (kf.not_row (by decide) ho)).trans hf3
   have k3:=(kk _ kx.lt (by omega) (kx.not_row (by decide) ho)).trans hx3
   exact⟨(hk1.trans hk2).from _,KP _ B2.size B2 k3,⟨⟨v2,hb2,by rw[HS.out,HZ.out,List.length_append,List.map_append];exact ho2,trivial⟩,⟨k2,k3⟩,hB.trans B2⟩⟩
  ·have e0:(d == 0)=false:=by rw[beq_eq_false_iff_ne];exact d0
   by_cases hA:d=2∧0 < out.length
   ·obtain⟨hd2,hpos⟩:=hA
    subst hd2
    obtain⟨n1,hn1⟩:∃ n1,n1 + 1=out.length:=⟨out.length - 1,by omega⟩
    have e1:wrap64 ((out.length:Int) - 1)=(n1:Int):=by unfold wrap64;omega
    have e2:(out.length:Int) - 1=(n1:Int):=by omega
    have g1:0 < (out.length:Int):=by omega
    have g2:(n1:Int)≤(co:Int):=by omega
    have hmap:out.dropLast.map Value.string=(out.map Value.string).dropLast:=by rw[List.map_dropLast]
    have hlen:out.dropLast.length=n1:=by rw[List.length_dropLast];omega
    cases z with
    | true =>
     have HZ:Hid (normStep out (y,true)=out.dropLast++[⟨#[]⟩]):=by show _=_;rw[HST.out];rfl
     clear HST
     gi_wp2_with (first|(refine⟨trivial,?_⟩;gi_at_call 120;refine(CallsIn.inRound l (callsIn_wide.2 (HD _).out)).mono ?_;rintro e w1 ⟨rfl,b1⟩;have B1:=b1.mono hB.size;have hb:=Boxed.kept hb (grown_below b1) (by simp);have ho:=own_below ho b1;have hcf:=cell_in (kept b1 hf) 0 _ rfl;have hcb:=hb.cell;have hfb:=hb.frozen;have hs1:=b1.size;have hk1:=keeps_below b1;have hx3:=kept b1 hx2;have hf3:=kept b1 hf)|(refine⟨trivial,?_⟩;gi_at_call 213;refine(CallsIn.inRound l (callsIn_wide.2 (normPut_any w.heap.size w.heap.size _ _ _ ⟨#[]⟩ _ (Boxed.set (.slice qo n1 co) hb) ((own_less ho hn1).kept (grownBy_setCell' w1 w.heap.size (.slice qo n1 co)) (.inr (fun e=>(hb.not_row (by decide) ho) (by cases qo <;> exact e.symm)))) (by omega) (by have:=hB.size;simp;omega) (Nat.le_refl _)))).mono ?_;rintro e w2 ⟨rfl,v2,hb2,ho2,hk2,b2,kk⟩))
     have BS:Below w.heap.size w1 (w1.setCell ⟨w.heap.size,0,none⟩ (.slice qo n1 co)):=(Below.refl _ _).setCell (p:=⟨w.heap.size,0,none⟩) (Nat.le_refl _) _
     have B2:Below w.heap.size W w2:=(B1.trans BS).trans b2
     have kf:Boxed w1 (w.heap.size + 1) 274 (.func (.func 213) #[] #[.pointer (some ⟨w.heap.size,0,none⟩)]):=hf3
     have kx:Boxed w1 (w.heap.size + 2) 25 (.slice q m c):=hx3
     have k2:=(kk _ (by have:=kf.lt;simpa using this) (by omega) (fun e=>(kf.not_row (e:=9) (by decide) ho) (by cases qo <;> exact e))).trans ((Below.heap_setCell _ _ _ _ (by simp)).trans hf3)
     have k3:=(kk _ (by have:=kx.lt;simpa using this) (by omega) (fun e=>(kx.not_row (e:=9) (by decide) ho) (by cases qo <;> exact e))).trans ((Below.heap_setCell _ _ _ _ (by simp)).trans hx3)
     exact⟨((hk1.trans (KeepsOthers.setCell _ _ _)).trans hk2).from _,KP _ B2.size B2 k3,⟨⟨v2,hb2,by rw[HS.out,HZ.out,List.length_append,hlen,List.map_append,hmap];exact ho2,trivial⟩,⟨k2,k3⟩,hB.trans B2⟩⟩
    | false =>
     have HZ:Hid (normStep out (y,false)=out.dropLast):=by show _=_;rw[HST.out];rfl
     clear HST
     gi_wp2_with (first|(refine⟨trivial,?_⟩;gi_at_call 120;refine(CallsIn.inRound l (callsIn_wide.2 (HD _).out)).mono ?_;rintro e w1 ⟨rfl,b1⟩;have B1:=b1.mono hB.size;have hb:=Boxed.kept hb (grown_below b1) (by simp);have ho:=own_below ho b1;have hcf:=cell_in (kept b1 hf) 0 _ rfl;have hcb:=hb.cell;have hfb:=hb.frozen;have hs1:=b1.size;have hk1:=keeps_below b1;have hx3:=kept b1 hx2;have hf3:=kept b1 hf))
     have BS:Below w.heap.size w1 (w1.setCell ⟨w.heap.size,0,none⟩ (.slice qo n1 co)):=(Below.refl _ _).setCell (p:=⟨w.heap.size,0,none⟩) (Nat.le_refl _) _
     have B2:=B1.trans BS
     have k2:=(Below.heap_setCell w1 ⟨w.heap.size,0,none⟩ (.slice qo n1 co) (w.heap.size + 1) (by simp)).trans hf3
     have k3:=(Below.heap_setCell w1 ⟨w.heap.size,0,none⟩ (.slice qo n1 co) (w.heap.size + 2) (by simp)).trans hx3
     exact⟨(hk1.trans (KeepsOthers.setCell _ _ _)).from _,KP _ B2.size B2 k3,⟨⟨_,Boxed.set (.slice qo n1 co) hb,by rw[HS.out,HZ.out,hlen,hmap];exact(own_less ho hn1).kept (grownBy_setCell' w1 w.heap.size (.slice qo n1 co)) (.inr (fun e=>(hb.not_row (by decide) ho) (by cases qo <;> exact e.symm))),trivial⟩,⟨k2,k3⟩,hB.trans B2⟩⟩
   ·by_cases d2:d=2
    ·have hnil:out=[]:=by
      cases out with
      | nil=>rfl
      | cons a b=>exact absurd ⟨d2,by simp⟩ hA
     subst d2
     subst hnil
     cases z with
     | true =>
      have HZ:Hid (normStep [] (y,true)=[]++[⟨#[]⟩]):=by show _=_;rw[HST.out];rfl
      clear HST
      gi_wp2_with (first|(refine⟨trivial,?_⟩;gi_at_call 120;refine(CallsIn.inRound l (callsIn_wide.2 (HD _).out)).mono ?_;rintro e w1 ⟨rfl,b1⟩;have B1:=b1.mono hB.size;have hb:=Boxed.kept hb (grown_below b1) (by simp);have ho:=own_below ho b1;have hcf:=cell_in (kept b1 hf) 0 _ rfl;have hcb:=hb.cell;have hfb:=hb.frozen;have hs1:=b1.size;have hk1:=keeps_below b1;have hx3:=kept b1 hx2;have hf3:=kept b1 hf)|(refine⟨trivial,?_⟩;gi_at_call 213;refine(CallsIn.inRound l (callsIn_wide.2 (normPut_any w.heap.size w.heap.size _ _ _ ⟨#[]⟩ _ hb ho (by omega) (by have:=hB.size;omega) (Nat.le_refl _)))).mono ?_;rintro e w2 ⟨rfl,v2,hb2,ho2,hk2,b2,kk⟩))
      have B2:Below w.heap.size W w2:=B1.trans b2
      have kf:Boxed w1 (w.heap.size + 1) 274 (.func (.func 213) #[] #[.pointer (some ⟨w.heap.size,0,none⟩)]):=hf3
      have kx:Boxed w1 (w.heap.size + 2) 25 (.slice q m c):=hx3
      have k2:=(kk _ kf.lt (by omega) (kf.not_row (by decide) ho)).trans hf3
      have k3:=(kk _ kx.lt (by omega) (kx.not_row (by decide) ho)).trans hx3
      exact⟨(hk1.trans hk2).from _,KP _ B2.size B2 k3,⟨⟨v2,hb2,by rw[HS.out,HZ.out,List.length_append,List.map_append];exact ho2,trivial⟩,⟨k2,k3⟩,hB.trans B2⟩⟩
     | false =>
      have HZ:Hid (normStep [] (y,false)=[]):=by show _=_;rw[HST.out];rfl
      clear HST
      gi_wp2_with (first|(refine⟨trivial,?_⟩;gi_at_call 120;refine(CallsIn.inRound l (callsIn_wide.2 (HD _).out)).mono ?_;rintro e w1 ⟨rfl,b1⟩;have B1:=b1.mono hB.size;have hb:=Boxed.kept hb (grown_below b1) (by simp);have ho:=own_below ho b1;have hcf:=cell_in (kept b1 hf) 0 _ rfl;have hcb:=hb.cell;have hfb:=hb.frozen;have hs1:=b1.size;have hk1:=keeps_below b1;have hx3:=kept b1 hx2;have hf3:=kept b1 hf))
      exact⟨hk1.from _,KP _ hs1 B1 hx3,⟨⟨_,hb,by rw[HS.out,HZ.out];exact ho,trivial⟩,⟨hf3,hx3⟩,hB.trans B1⟩⟩
    ·have e2:(d == 2)=false:=by rw[beq_eq_false_iff_ne];exact d2
     cases z with
     | true =>
      have HZ:Hid (normStep out (y,true)=out++[⟨#[]⟩]):=by show _=_;rw[HST.out];rw[if_neg d0,if_pos rfl,if_neg d2]
      clear HST
      gi_wp2_with (first|(refine⟨trivial,?_⟩;gi_at_call 120;refine(CallsIn.inRound l (callsIn_wide.2 (HD _).out)).mono ?_;rintro e w1 ⟨rfl,b1⟩;have B1:=b1.mono hB.size;have hb:=Boxed.kept hb (grown_below b1) (by simp);have ho:=own_below ho b1;have hcf:=cell_in (kept b1 hf) 0 _ rfl;have hcb:=hb.cell;have hfb:=hb.frozen;have hs1:=b1.size;have hk1:=keeps_below b1;have hx3:=kept b1 hx2;have hf3:=kept b1 hf)|(refine⟨trivial,?_⟩;gi_at_call 213;refine(CallsIn.inRound l (callsIn_wide.2 (normPut_any w.heap.size w.heap.size _ _ _ ⟨#[]⟩ _ hb ho (by omega) (by have:=hB.size;omega) (Nat.le_refl _)))).mono ?_;rintro e w2 ⟨rfl,v2,hb2,ho2,hk2,b2,kk⟩))
      have B2:Below w.heap.size W w2:=B1.trans b2
      have kf:Boxed w1 (w.heap.size + 1) 274 (.func (.func 213) #[] #[.pointer (some ⟨w.heap.size,0,none⟩)]):=hf3
      have kx:Boxed w1 (w.heap.size + 2) 25 (.slice q m c):=hx3
      have k2:=(kk _ kf.lt (by omega) (kf.not_row (by decide) ho)).trans hf3
      have k3:=(kk _ kx.lt (by omega) (kx.not_row (by decide) ho)).trans hx3
      exact⟨(hk1.trans hk2).from _,KP _ B2.size B2 k3,⟨⟨v2,hb2,by rw[HS.out,HZ.out,List.length_append,List.map_append];exact ho2,trivial⟩,⟨k2,k3⟩,hB.trans B2⟩⟩
     | false =>
      have HZ:Hid (normStep out (y,false)=out):=by show _=_;rw[HST.out];rw[if_neg d0,if_neg (by simp),if_neg d2]
      clear HST
      gi_wp2_with (first|(refine⟨trivial,?_⟩;gi_at_call 120;refine(CallsIn.inRound l (callsIn_wide.2 (HD _).out)).mono ?_;rintro e w1 ⟨rfl,b1⟩;have B1:=b1.mono hB.size;have hb:=Boxed.kept hb (grown_below b1) (by simp);have ho:=own_below ho b1;have hcf:=cell_in (kept b1 hf) 0 _ rfl;have hcb:=hb.cell;have hfb:=hb.frozen;have hs1:=b1.size;have hk1:=keeps_below b1;have hx3:=kept b1 hx2;have hf3:=kept b1 hf))
      exact⟨hk1.from _,KP _ hs1 B1 hx3,⟨⟨_,hb,by rw[HS.out,HZ.out];exact ho,trivial⟩,⟨hf3,hx3⟩,hB.trans B1⟩⟩
 case done =>
  rintro D ys W hD rfl ⟨⟨v,hb,ho,_⟩,_,hB⟩ hK
  have hcx:=hb.cell
  go_wp2
  refine⟨by simp,.inl ⟨_,_,rfl,run_takeDeferred hK,?_⟩⟩
  exact⟨_,results_tmp rfl _ _ _,v,rfl,ownsRow_putObj ho _ hK rfl,hB.trans (belowK_b (w:=w) (Nat.le_refl _) W D _ _ (by omega) hK rfl rfl)⟩
 case stop =>
  rintro D c pre W _ _ h _
  exact h.elim
end
section
open Go.RowKit Go.Shelf
def AskStr (g:Nat) (lb:Array Value) (p:ByteArray→Bool) (N:Nat) (w:World):Prop :=
 ∀ W,Below w.heap.size w W→∀ s:ByteArray,s.size≤N→Calls Tryz.prog g (#[.string s]++lb) W fun e w'=>e=.returned (.bool (p s))∧Below W.heap.size W w'
def findGo (p:ByteArray→Bool):List ByteArray→Int→Int
 | [],_=>-1
 | x::l,k=>if p x=true then k else findGo p l (k + 1)
def findL (p:ByteArray→Bool) (l:List ByteArray):Int:=findGo p l 0
theorem findGo_any (p:ByteArray→Bool):∀ (l:List ByteArray) (k:Int),0≤k→decide (0≤findGo p l k)=l.any p
 | [],k,_=>by simp[findGo]
 | x::l,k,hk=>by
  unfold findGo
  by_cases h:p x=true
  ·rw[if_pos h];simp[h,hk]
  ·rw[if_neg h,findGo_any p l (k + 1) (by omega)];simp[h]
theorem drop_getD {α:Type} (l:List α) (k:Nat) (d:α) (h:k < l.length):l.drop k=l.getD k d::l.drop (k + 1):=by
 rw[List.drop_eq_getElem_cons h];simp[List.getD,h]
theorem findGo_le (p:ByteArray→Bool):∀ (l:List ByteArray) (k:Int),0≤k→-1≤findGo p l k∧findGo p l k≤k + l.length
 | [],k,_=>by simp[findGo];omega
 | x::l,k,hk=>by
  unfold findGo
  split
  ·simp;omega
  ·have:=findGo_le p l (k + 1) (by omega);simp;omega
set_option maxHeartbeats 1000000 in
theorem indexFunc_any (g:Nat) (lb:Array Value) (eg:∀ args w,(callFunc g args).run Tryz.prog w=.ok (.enter g args) w) (p:ByteArray→Bool) (N:Nat) (v:Value) (l:List ByteArray) (w:World) (hp:AskStr g lb p N w) (hv:Strs w v l) (hl:l.length≤10000000) (hz:∀ x∈l,x.size≤N) :
  Calls Tryz.prog 138 #[v,.func (.func g) #[] lb] w fun e w'=>e=.returned (.int .i64 (findL p l))∧Below w.heap.size w w':=by
 obtain⟨r,hr⟩:∃ r,r=findL p l:=⟨_,rfl⟩
 have HR:Hid (r=findGo p l 0):=hr
 rw[← hr]
 clear hr
 rcases hv with ⟨rfl,rfl⟩|⟨b,off,cap,rfl,hle,hm,hb,hc⟩
 ·have HZ:Hid (r=-1):=HR.out
  go_enter Tryz.func138,Tryz.ntmps138
  go_wp2_with fail
  go_loopw [8] (fun i wr=>i=.int .i64 0∧w=wr) (fun i _=>0)
  case atStart=>exact⟨rfl,rfl⟩
  case round =>
   obtain⟨rfl,rfl⟩:=hrel
   go_wp2
   go_ret
   exact⟨by rw[HZ.out];rfl,Below.refl _ _⟩
 ·have HC:=Lib.hid hc
  have HP:=Lib.hid hp
  clear hc hp
  go_enter Tryz.func138,Tryz.ntmps138
  go_wp2_with fail
  go_loopw [5,8] (fun _ i wr=>∃ k:Nat,k≤l.length∧i=.int .i64 k∧r=findGo p (l.drop k) k∧Below w.heap.size w wr) (fun _ i _=>l.length - (intOf i).toNat)
  case atStart=>exact⟨0,Nat.zero_le _,rfl,HR.out,Below.refl _ _⟩
  case round =>
   obtain⟨k,hk,rfl,hd,hB⟩:=hrel
   have HD:=Lib.hid hd
   clear hd
   by_cases hlt:k < l.length
   ·have hcell:=(hB.cell (p:=⟨b,off + k,none⟩) hb).trans (HC.out k hlt)
    obtain⟨s,hs⟩:∃ s,s=l.getD k ByteArray.empty:=⟨_,rfl⟩
    have hsz:s.size≤N:=by rw[hs];refine hz _ ?_;simp[List.getD,hlt]
    have HG:Hid (r=if p s=true then (k:Int) else findGo p (l.drop (k + 1)) ((k:Int) + 1)):=by show _=_;rw[HD.out,drop_getD l k ByteArray.empty hlt,← hs];rfl
    rw[← hs] at hcell
    have HQ:=Lib.hid (HP.out wr hB s hsz)
    obtain⟨q,hq⟩:∃ q,q=p s:=⟨_,rfl⟩
    rw[← hq] at HQ HG
    clear hs hq HD
    go_wp2_with fail
    refine HQ.out.mono ?_
    rintro e w1 ⟨rfl,b1⟩
    have B1:=bel_on hB b1
    cases q with
    | true =>
     have HZ:Hid (r=(k:Int)):=by show _=_;rw[HG.out];rfl
     go_wp2
     go_ret
     exact⟨by rw[HZ.out];rfl,B1⟩
    | false =>
     have HZ:Hid (r=findGo p (l.drop (k + 1)) ((k:Int) + 1)):=by show _=_;rw[HG.out];rfl
     clear HG
     go_wp2
     go_roundw
     case rel=>exact⟨k + 1,by omega,by go_num,by rw[HZ.out];rfl,B1⟩
     case measure=>simp[intOf];omega
   ·obtain rfl:k=l.length:=by omega
    have HZ:Hid (r=-1):=by show _=_;rw[HD.out,List.drop_length];rfl
    go_wp2
    go_ret
    exact⟨by rw[HZ.out];rfl,hB⟩
theorem containsFunc_any (g:Nat) (lb:Array Value) (eg:∀ args w,(callFunc g args).run Tryz.prog w=.ok (.enter g args) w) (p:ByteArray→Bool) (N:Nat) (v:Value) (l:List ByteArray) (w:World) (hp:AskStr g lb p N w) (hv:Strs w v l) (hl:l.length≤10000000) (hz:∀ x∈l,x.size≤N) :
  Calls Tryz.prog 87 #[v,.func (.func g) #[] lb] w fun e w'=>e=.returned (.bool (l.any p))∧Below w.heap.size w w':=by
 have HI:=Lib.hid (indexFunc_any g lb eg p N v l w hp hv hl hz)
 have hle:=findGo_le p l 0 (by omega)
 have HB:Hid (l.any p=decide (0≤findL p l)):=(findGo_any p l 0 (by omega)).symm
 obtain⟨r,hr⟩:∃ r,r=findL p l:=⟨_,rfl⟩
 rw[← hr] at HI HB
 clear hr hle hp
 rcases hv with ⟨rfl,rfl⟩|⟨b,off,cap,rfl,_⟩
 ·go_enter Tryz.func87,Tryz.ntmps87
  go_wp2_with fail
  refine HI.out.mono ?_
  rintro e w1 ⟨rfl,b1⟩
  go_wp2
  go_ret
  exact⟨ret_bool (by rw[HB.out]),b1⟩
 ·go_enter Tryz.func87,Tryz.ntmps87
  go_wp2_with fail
  refine HI.out.mono ?_
  rintro e w1 ⟨rfl,b1⟩
  go_wp2
  go_ret
  exact⟨ret_bool (by rw[HB.out]),b1⟩
def pathSegs (s:ByteArray):List ByteArray:=parts ⟨#[47]⟩ (bs (encL 3 (Lib.trimPrefix s.data.toList [47])))
theorem pathEnc_size (s:ByteArray):(bs (encL 3 (Lib.trimPrefix s.data.toList [47]))).size≤3 * s.size:=by
 rw[bs_size]
 have:=(encL_len 3 (Lib.trimPrefix s.data.toList [47])).2
 have:=trimP_le s.data.toList [47]
 rw[size_len] at this;omega
theorem pathSegs_le (s:ByteArray):(pathSegs s).length≤3 * s.size + 1∧∀ x∈pathSegs s,x.size≤3 * s.size:=by
 have hz:=pathEnc_size s
 refine⟨?_,fun x hx=>Nat.le_trans (parts_size _ _ _ x hx) hz⟩
 unfold pathSegs
 rw[parts_len _ (by decide) _ _ (Nat.le_refl _)]
 have:=Lib.countB_mul_le ⟨#[47]⟩ (by decide) _ (bs (encL 3 (Lib.trimPrefix s.data.toList [47]))) (Nat.le_refl _)
 have e1:(⟨#[47]⟩:ByteArray).size=1:=rfl
 rw[e1,Nat.mul_one] at this
 omega
theorem pathSplit_any (s:ByteArray) (w:World) (G:Glob w) (hs:s.size≤300000) :
  Calls Tryz.prog 159 #[.string s] w fun e w'=>∃ v,e=.returned v∧Strs w' v (pathSegs s)∧Below w.heap.size w w':=by
 have HT:∀ w',Hid (Calls Tryz.prog 215 #[.string s,.string ⟨#[47]⟩] w' fun e w''=>e=.returned (.string (bs (Lib.trimPrefix s.data.toList [47])))∧w'=w''):=fun w'=>trimPrefix_any s ⟨#[47]⟩ w'
 have hz:(bs (Lib.trimPrefix s.data.toList [47])).size≤300000:=by rw[bs_size];have:=trimP_le s.data.toList [47];rw[size_len] at this;omega
 have HE:∀ w',Hid (Calls Tryz.prog 98 #[.string (bs (Lib.trimPrefix s.data.toList [47])),.int .i64 3] w' fun e w''=>e=.returned (.string (bs (encL 3 (Lib.trimPrefix s.data.toList [47]))))∧Below w'.heap.size w' w''):=by
  intro w'
  have:=encode_any (bs (Lib.trimPrefix s.data.toList [47])) 3 w' (by omega)
  rw[bs_list] at this
  exact this
 have hz2:=pathEnc_size s
 have HS:=fun w'=>Lib.hid (fun (G':Glob w')=>split_any (bs (encL 3 (Lib.trimPrefix s.data.toList [47]))) ⟨#[47]⟩ w' G' (by omega) (by decide))
 have HL:Hid (pathSegs s=_):=pathSegs.eq_1 s
 obtain⟨a,ha⟩:∃ a,a=bs (Lib.trimPrefix s.data.toList [47]):=⟨_,rfl⟩
 obtain⟨b,hb⟩:∃ b,b=bs (encL 3 (Lib.trimPrefix s.data.toList [47])):=⟨_,rfl⟩
 simp only[← ha,← hb] at HT HE HS HL
 have hln:(pathSegs s).length≤900001:=by have:=(pathSegs_le s).1;omega
 rw[HL.out] at hln
 rw[HL.out]
 clear ha hb hz hz2 HL
 obtain⟨l,hl⟩:∃ l,l=parts ⟨#[47]⟩ b:=⟨_,rfl⟩
 simp only[← hl] at HS hln ⊢
 clear hl
 go_enter Tryz.func159,Tryz.ntmps159
 go_wp2_with fail
 refine(HT _).out.mono ?_
 rintro e w1 ⟨rfl,rfl⟩
 go_wp2_with fail
 refine(HE _).out.mono ?_
 rintro e w1 ⟨rfl,b1⟩
 go_wp2_with fail
 refine((HS _).out (G.below b1)).mono ?_
 rintro e w2 ⟨rfl,rfl⟩
 go_wp2
 go_ret
 refine⟨_,rfl,.inr ⟨w1.heap.size,0,l.length,rfl,Nat.le_refl _,by unfold maxLen;omega,by simp,fun j hj=>?_⟩,b1.alloc b1.size _⟩
 rw[Nat.zero_add,World.cell?_alloc_at _ _ _ _ rfl];simp[hj]
def pathL (s:ByteArray):List ByteArray:=normL (pathSegs s)
def oddSeg (s:ByteArray):Bool:=!(encL 3 s.data.toList == s.data.toList) || (Lib.contains s.data.toList [47] || decide (0 < dots s))
set_option maxHeartbeats 1000000 in
theorem oddSeg_ask (w:World) (G:Glob w):AskStr 118 #[] oddSeg 1000000 w:=by
 intro W hW s hs
 show Calls Tryz.prog 118 #[.string s] W fun e w'=>e=.returned (.bool (oddSeg s))∧Below W.heap.size W w'
 have G':=G.below hW
 have HR:=Lib.hid (ready_enc s 3 W (by omega) _ rfl)
 rw[toList_data] at HR
 have HC:∀ w',Glob w'→Hid (Calls Tryz.prog 119 #[.string s,.string ⟨#[47]⟩] w' fun e w''=>e=.returned (.bool (Lib.contains s.data.toList [47]))∧w'=w''):=fun w' g=>contains_any s ⟨#[47]⟩ w' g (by omega)
 have HD:=fun w'=>Lib.hid (dots_any s w' hs)
 have HO:Hid (oddSeg s=_):=oddSeg.eq_1 s
 obtain⟨a,ha⟩:∃ a,a=(encL 3 s.data.toList == s.data.toList):=⟨_,rfl⟩
 obtain⟨b,hb⟩:∃ b,b=Lib.contains s.data.toList [47]:=⟨_,rfl⟩
 obtain⟨d,hd⟩:∃ d,d=dots s:=⟨_,rfl⟩
 obtain⟨o,ho⟩:∃ o,o=oddSeg s:=⟨_,rfl⟩
 simp only[← ha,← hb,← hd,← ho] at HR HC HD HO ⊢
 clear ha hb hd ho
 go_enter Tryz.func118,Tryz.ntmps118
 go_wp2_with fail
 refine HR.out.mono ?_
 rintro e w1 ⟨rfl,b1⟩
 cases a with
 | false =>
  have HZ:Hid (o=true):=by show _=_;rw[HO.out];rfl
  go_wp2
  go_ret
  exact⟨ret_bool (by rw[HZ.out]),b1⟩
 | true =>
  go_wp2_with fail
  refine((HC _ (G'.below b1)).out).mono ?_
  rintro e w2 ⟨rfl,rfl⟩
  cases b with
  | true =>
   have HZ:Hid (o=true):=by show _=_;rw[HO.out];rfl
   go_wp2
   go_ret
   exact⟨ret_bool (by rw[HZ.out]),b1⟩
  | false =>
   have HZ:Hid (o=decide (0 < d)):=by show _=_;rw[HO.out];rfl
   go_wp2_with fail
   refine((HD _).out).mono ?_
   rintro e w2 ⟨rfl,b2⟩
   go_wp2
   go_ret
   exact⟨ret_bool (by rw[HZ.out]),bel_on b1 b2⟩
def pathMay (l:List ByteArray):Bool:=decide (0 < l.length) && !(l.any oddSeg)
theorem pathMay_any (v:Value) (l:List ByteArray) (w:World) (G:Glob w) (hv:Strs w v l) (hl:l.length≤10000000) (hz:∀ x∈l,x.size≤1000000) :
  Calls Tryz.prog 74 #[v] w fun e w'=>e=.returned (.bool (pathMay l))∧Below w.heap.size w w':=by
 have HC:=Lib.hid (containsFunc_any 118 #[] (enters_of Tryz.func118 (by kernel_rfl) rfl) oddSeg 1000000 v l w (oddSeg_ask w G) hv hl hz)
 have HM:Hid (pathMay l=_):=pathMay.eq_1 l
 obtain⟨o,ho⟩:∃ o,o=l.any oddSeg:=⟨_,rfl⟩
 obtain⟨r,hr⟩:∃ r,r=pathMay l:=⟨_,rfl⟩
 simp only[← ho,← hr] at HC HM ⊢
 clear ho hr
 rcases hv with ⟨rfl,rfl⟩|⟨b,off,cap,rfl,_⟩
 ·have HZ:Hid (r=false):=by show _=_;rw[HM.out];rfl
  clear HM
  go_enter Tryz.func74,Tryz.ntmps74
  go_wp2
  go_ret
  exact⟨ret_bool (by rw[HZ.out]),Below.refl _ _⟩
 ·by_cases h0:0 < l.length
  ·have h0':0 < (l.length:Int):=by omega
   have HZ:Hid (r=!o):=by show _=_;rw[HM.out,decide_eq_true h0];rfl
   clear HM h0
   go_enter Tryz.func74,Tryz.ntmps74
   go_wp2_with fail
   refine HC.out.mono ?_
   rintro e w1 ⟨rfl,b1⟩
   go_wp2
   go_ret
   exact⟨ret_bool (by rw[HZ.out]),b1⟩
  ·have h0':¬ 0 < (l.length:Int):=by omega
   have HZ:Hid (r=false):=by show _=_;rw[HM.out,decide_eq_false h0];rfl
   clear HM h0
   go_enter Tryz.func74,Tryz.ntmps74
   go_wp2
   go_ret
   exact⟨ret_bool (by rw[HZ.out]),Below.refl _ _⟩
end
section
open Go.RowKit Go.Shelf
def Tryz.growS_ren:Go.Shelf.Ren:=⟨fun|4=>274|n=>n,fun|22=>25|25=>9|3=>3|4=>4|9=>9|20=>20|0=>0|n=>n,fun|n=>n⟩
theorem Tryz.growS:Go.Proofs.Lays8.n4 Tryz.prog Tryz.growS_ren:={
 mixed:=by kernel_rfl
 f4:=⟨Tryz.f274.name,by decide,Tryz.func274.trans (congrArg some (by kernel_rfl))⟩
 t0:=Tryz.underlying0
 a0:=Tryz.isAgg0
 z0:=Tryz.sizeOf0
 v0:=Tryz.zeroValue0
 t3:=Tryz.underlying3
 a3:=Tryz.isAgg3
 z3:=Tryz.sizeOf3
 v3:=Tryz.zeroValue3
 t4:=Tryz.underlying4
 a4:=Tryz.isAgg4
 z4:=Tryz.sizeOf4
 v4:=Tryz.zeroValue4
 t9:=Tryz.underlying9
 a9:=Tryz.isAgg9
 z9:=Tryz.sizeOf9
 v9:=Tryz.zeroValue9
 t20:=Tryz.underlying20
 a20:=Tryz.isAgg20
 z20:=Tryz.sizeOf20
 v20:=Tryz.zeroValue20
 t22:=Tryz.underlying25
 a22:=Tryz.isAgg25
 z22:=Tryz.sizeOf25
 v22:=Tryz.zeroValue25 }
theorem info9':∃ i0:TypeInfo,Tryz.prog.info? 9=some i0∧i0.zero=some (.string ⟨#[]⟩)∧i0.size=1∧i0.bytes=16:=by
 obtain⟨i0,hi,hz0,hz1,hz2⟩:=info_parts Tryz.info9
 exact⟨i0,hi,hz0,hz1,hz2⟩
theorem grow_any (n:Nat) (w:World) (hn:n≤100000000) :
  Calls Tryz.prog 274 #[.slice none 0 0,.int .i64 n] w fun e w'=>∃ v,e=.returned v∧w'.ownsRow w.heap.size 9 1 v 0 []∧Below w.heap.size w w':=by
 by_cases h0:n=0
 ·subst h0
  refine(Any8.slices_Grow_room Tryz.growS none 0 0 0 w (by omega) (by omega) (by omega) (by omega)).mono ?_
  rintro e w' ⟨rfl,rfl⟩
  exact⟨_,rfl,World.ownsRow_nil _ _ _ _,Below.refl _ _⟩
 ·obtain⟨i0,hi,hz,hs,hb⟩:=info9'
  refine(Any8.slices_Grow_grow Tryz.growS i0 (.string ⟨#[]⟩) hi hz (by omega) none 0 0 n [] w (by omega) (by omega) (by rw[hb];omega) (by omega) (by simp) (by simp) (by simp)).mono ?_
  rintro e w' ⟨rfl,rfl⟩
  have hg:=grownCap_ge w (0 + n) 0 9
  have hm:=grownCap_le_maxLen w (0 + n) 0 9 (by unfold maxLen;omega)
  refine⟨_,rfl,⟨rfl,.inr ⟨w.heap.size,_,_,rfl,Nat.le_refl _,heap_alloc_new w.drew _,Nat.zero_le _,hm,?_,by simp⟩⟩,(Below.refl _ _).drew.alloc (Nat.le_refl _) _⟩
  have e1:(Value.string ⟨#[]⟩).cells.size=1:=rfl
  have e2:Tryz.growS_ren.t 25=9:=rfl
  rw[e2]
  simp[Builtin.zeroCells,e1]
  rw[Nat.zero_add] at hg
  omega
def catL (Ls:Nat→List ByteArray):Nat→List ByteArray
 | 0=>[]
 | k + 1=>catL Ls k++Ls k
theorem src_cells {w:World} {b off:Nat} {Y:List ByteArray} (h:∀ j,j < Y.length→w.cell? ⟨b,off + j,none⟩=some (.string (Y.getD j ByteArray.empty))):∀ j u,(Y.map Value.string)[j]? = some u→w.cell? ((⟨b,off,none⟩:Addr).add j)=some u:=by
 intro j u hu
 rw[List.getElem?_map] at hu
 have hj:j < Y.length:=by
  by_cases hj:j < Y.length
  ·exact hj
  ·rw[List.getElem?_eq_none (by omega)] at hu;cases hu
 rw[List.getElem?_eq_getElem hj] at hu
 cases hu
 have:=h j hj
 simp only[List.getD,List.getElem?_eq_getElem hj] at this
 rw[← show (⟨b,off + j,none⟩:Addr)=(⟨b,off,none⟩:Addr).add j from by unfold Addr.add;split <;> simp_all]
 exact this
set_option maxHeartbeats 2000000 in
theorem concat_any (B0:Nat) (vs:Nat→Value) (Ls:Nat→List ByteArray) (w:World) (h:∀ k,k < 2→w.cell? ⟨B0,k,none⟩=some (vs k)∧Strs w (vs k) (Ls k)∧(Ls k).length≤10000000) (hB0:B0 < w.heap.size) :
  Calls Tryz.prog 259 #[.slice (some ⟨B0,0,none⟩) 2 2] w fun e w'=>∃ v,e=.returned v∧w'.ownsRow w.heap.size 9 1 v (catL Ls 2).length ((catL Ls 2).map Value.string)∧Below w.heap.size w w':=by
 obtain⟨i0,hi,hz0,hz1,hz2⟩:=info_parts Tryz.info9
 have HH:=Lib.hid h
 have hlen:∀ k,k≤2→(catL Ls k).length≤k * 10000000:=by
  intro k hk
  induction k with
  | zero=>simp[catL]
  | succ k ih=>have:=ih (by omega);have:=(h k (by omega)).2.2;simp[catL];omega
 clear h
 go_enter Tryz.func259,Tryz.ntmps259
 go_wp2_with fail
 go_loop [3,5,11] (fun n _ i=>∃ k:Nat,k≤2∧i=.int .i64 k∧n=.int .i64 ((catL Ls k).length:Nat)) (fun _ _ i=>2 - (intOf i).toNat)
 case atStart=>exact⟨0,by omega,rfl,rfl⟩
 case round =>
  obtain⟨k,hk,rfl,rfl⟩:=hrel
  have hk1:=hlen k hk
  by_cases hlt:k < 2
  ·obtain⟨hc,hs,hl⟩:=HH.out k hlt
   have hk2:=hlen (k + 1) (by omega)
   have e3:(catL Ls (k + 1)).length=(catL Ls k).length + (Ls k).length:=by simp[catL]
   obtain⟨q,c,hv⟩:∃ q c,vs k=.slice q (Ls k).length c:=by
    rcases hs with ⟨h1,h2⟩|⟨b,off,cap,h1,_⟩
    ·exact⟨none,0,by rw[h1,h2];rfl⟩
    ·exact⟨_,_,h1⟩
   rw[hv] at hc
   have e1:wrap64 (((catL Ls k).length:Int) + ((Ls k).length:Int))=((catL Ls (k + 1)).length:Int):=by unfold wrap64;omega
   have e2:¬ (((catL Ls (k + 1)).length:Int) < 0):=by omega
   obtain⟨n2,hn2⟩:∃ n2,n2=(catL Ls (k + 1)).length:=⟨_,rfl⟩
   obtain⟨n1,hn1⟩:∃ n1,n1=(catL Ls k).length:=⟨_,rfl⟩
   obtain⟨n0,hn0⟩:∃ n0,n0=(Ls k).length:=⟨_,rfl⟩
   rw[← hn2] at e1 e2 hk2 e3
   rw[← hn1] at e1 hk1 e3 ⊢
   rw[← hn0] at e1 hc e3
   have E4:=Lib.hid hn2
   clear hn2 hn1 hn0
   have e5:(n1:Int) + (n0:Int)=(n2:Int):=by omega
   clear e3
   go_wp2
   go_round
   case rel=>exact⟨k + 1,by omega,by go_num,by rw[E4.out]⟩
   case measure=>simp[intOf];omega
  ·obtain rfl:k=2:=by omega
   obtain⟨n0,hn0⟩:∃ n0,n0=(catL Ls 2).length:=⟨_,rfl⟩
   rw[← hn0]
   have N0:=Lib.hid hn0
   have l0:n0≤20000000:=by rw[hn0];omega
   have g0:¬ ((n0:Int) < 0):=by omega
   clear hn0 hk1
   go_wp2_with fail
   refine(grow_any n0 _ (by omega)).mono ?_
   rintro e w1 ⟨v,rfl,ho,b1⟩
   go_wp2_with fail
   go_loopw [6,8,27] (fun v _ i wr=>∃ k:Nat,k≤2∧i=.int .i64 k∧wr.ownsRow w.heap.size 9 1 v (catL Ls k).length ((catL Ls k).map Value.string)∧Below w.heap.size w wr) (fun _ _ i _=>2 - (intOf i).toNat)
   case atStart=>exact⟨0,by omega,rfl,ho,b1⟩
   case round =>
    obtain⟨k,hk,rfl,hown,hB⟩:=hrel
    by_cases hlt:k < 2
    ·obtain⟨hc,hs,hl⟩:=HH.out k hlt
     have hc:=(hB.cell (p:=⟨B0,k,none⟩) hB0).trans hc
     have hs:=Lib.hid (hs.below hB)
     have hk1:=hlen k hk
     have HS:Hid (catL Ls (k + 1)=catL Ls k++Ls k):=rfl
     have hsz:=hB.size
     obtain⟨X,hX⟩:∃ X,X=catL Ls k:=⟨_,rfl⟩
     obtain⟨Y,hY⟩:∃ Y,Y=Ls k:=⟨_,rfl⟩
     obtain⟨y,hy⟩:∃ y,y=vs k:=⟨_,rfl⟩
     rw[← hX] at hown hk1
     rw[← hX,← hY] at HS
     rw[← hY,← hy] at hs
     rw[← hY] at hl
     rw[← hy] at hc
     clear hX hY hy
     rcases hs.out with ⟨rfl,rfl⟩|⟨b,off,cap,rfl,hle,hm,hbb,hcc⟩
     ·go_wp2_with (at_builtin;refine wpList_append_own_none rfl _ _ 25 rfl w.heap.size 9 i0 1 Tryz.underlying25 hi _ _ _ rfl hown rfl ?_)
      go_roundw
      case rel=>exact⟨k + 1,by omega,by go_num,by rw[HS.out,List.append_nil];exact hown,hB⟩
      case measure=>simp[intOf];omega
     ·have HC:=Lib.hid hcc
      clear hcc
      go_wp2_with (at_builtin;refine wpList_append_own _ rfl _ _ 25 rfl w.heap.size 9 i0 (.string ⟨#[]⟩) 1 16 Tryz.underlying25 hi hz0 hz1 hz2 rfl (by decide) _ _ _ rfl hown ⟨b,off,none⟩ Y.length cap (Y.map Value.string) rfl (by rw[List.length_map];omega) (src_cells HC.out) (by intro u hu;rw[List.mem_map] at hu;obtain⟨a,_,rfl⟩:=hu;rfl) (by unfold maxLen;omega) (by omega) hsz ?_;intro v' w2 hown' hgrow _)
      have B2:=hB.grown hgrow hsz (fun j hj=>(hown.lt j hj).1)
      go_roundw
      case rel=>exact⟨k + 1,by omega,by go_num,by rw[HS.out,List.length_append,List.map_append];exact hown',B2⟩
      case measure=>simp[intOf];omega
    ·obtain rfl:k=2:=by omega
     go_wp2
     go_ret
     exact⟨_,rfl,hown,hB⟩
theorem Strs.slice {w:World} {v:Value} {l:List ByteArray} (h:Strs w v l):∃ q m c,v=.slice q m c:=by
 rcases h with ⟨h,_⟩|⟨b,off,cap,h,_⟩
 ·exact⟨_,_,_,h⟩
 ·exact⟨_,_,_,h⟩
theorem slice_h (q:Option Addr) (n c m:Nat) (h:m≤c) (w:World):(Instr.sliceAt 25 (.slice q n c) none (some (.int .i64 (m:Int))) none).run Tryz.prog w=.ok (.slice q m c) w:=by
 have h1:(0:Int)≤(m:Int):=by omega
 have h2:(m:Int)≤(c:Int):=by omega
 have hu:Tryz.prog.underlying 25=some (.slice (Tryz.prog.elem 25)):=by rw[Tryz.underlying25];rfl
 rw[run_sliceAt_slice (P:=Tryz.prog) w 25 _ _ _ _ hu,run_slice_h (P:=Tryz.prog) w 25 q n c hu .i64 m h1 h2]
 simp[sliced,go_sem]
theorem app_le {a b:List ByteArray} {N:Nat} (ha:∀ x∈a,x.size≤N) (hb:∀ x∈b,x.size≤N):∀ x∈a++b,x.size≤N:=fun x hx=>(List.mem_append.1 hx).elim (ha x) (hb x)
def mergeL (base:List ByteArray) (s:ByteArray):List ByteArray:=normL (base.dropLast++pathSegs s)
def two {α:Type} (a b:α):Nat→α
 | 0=>a
 | _=>b
theorem merge_two (w1:World) (va vb:Value) (la lb:List ByteArray) (ha:Strs w1 va la) (hb:Strs w1 vb lb) (hla:la.length≤10000000) (hlb:lb.length≤10000000) :
  Calls Tryz.prog 259 #[.slice (some ⟨w1.heap.size,0,none⟩) 2 2] (w1.alloc (.cells #[va,vb] 25)) fun e w'=>∃ v,e=.returned v∧w'.ownsRow w1.heap.size 9 1 v (la++lb).length ((la++lb).map Value.string)∧Below w1.heap.size w1 w':=by
 have b0:=bel1 w1 (.cells #[va,vb] 25)
 have h0:∀ k,k < 2→(w1.alloc (.cells #[va,vb] 25)).cell? ⟨w1.heap.size,k,none⟩=some (two va vb k)∧Strs (w1.alloc (.cells #[va,vb] 25)) (two va vb k) (two la lb k)∧(two la lb k).length≤10000000:=by
  intro k hk
  match k,hk with
  | 0,_=>exact⟨cell_in (row1 w1 _) 0 _ rfl,ha.below b0,hla⟩
  | 1,_=>exact⟨cell_in (row1 w1 _) 1 _ rfl,hb.below b0,hlb⟩
 refine(concat_any w1.heap.size (two va vb) (two la lb) _ h0 (by simp)).mono ?_
 rintro e w2 ⟨v,rfl,ho,b2⟩
 exact⟨v,rfl,own_lower ho (by simp),bel_on b0 b2⟩
end
section
open Go.RowKit Go.Shelf
attribute [local go_sem] Oper.semAt_some
def Put2 (B b:Nat) (v:Value) (bs:List UInt8) (s:ByteArray) (w:World) (e:Ending) (w':World):Prop :=
 e=.returned (.tuple #[.int .i64 s.size,.nilIface])∧∃ v',Bld B b v' (bs++s.data.toList) w'∧KeepsOthers w w'∧Below B w w'∧∀ k,k < w.heap.size→k≠b→some k≠v.ownBlock→w'.heap[k]? = w.heap[k]?
theorem strCells_u8s (s:ByteArray):Lib.strCells s=u8s s.data.toList:=by
 unfold Lib.strCells u8s;simp[toList_data]
theorem put2_gen (B b:Nat) (v:Value) (bs:List UInt8) (s:ByteArray) (w0 w:World) (HC:Hid (Calls Tryz.prog 123 #[.pointer (some ⟨b,0,none⟩)] w0 fun e w'=>e=.returned (.tuple #[])∧w=w')) (hlo:B≤b) (hblk:w.heap[b]? = some (.cells #[.pointer (some ⟨b,0,none⟩),v] 120 (0,0))) (hown:w.ownsRow B 5 1 v bs.length (u8s bs)) (hne:v.ownBlock≠some b) (hlen:bs.length + s.size≤10000000) (hBw:B≤w.heap.size) :
  Calls Tryz.prog 77 #[.pointer (some ⟨b,0,none⟩),.string s] w0 (Put2 B b v bs s w):=by
 obtain⟨i0,hi,hz0,hz1,hz2⟩:=info_parts Tryz.info5
 have c0:w.cell? ⟨b,0,none⟩=some (.pointer (some ⟨b,0,none⟩)):=by rw[Lib.cell_of_heap hblk];rfl
 have c1:w.cell? ⟨b,1,none⟩=some v:=by rw[Lib.cell_of_heap hblk];rfl
 have HBK:=Lib.hid hblk
 have hlt:=heap_lt hblk
 clear hblk
 go_enter Tryz.func77,Tryz.ntmps77
 go_wp2_with fail
 refine HC.out.mono ?_
 rintro e w' ⟨rfl,rfl⟩
 go_wp2_with (at_builtin;refine Lib.wpList_append_own_string _ rfl _ _ 118 9 rfl B 5 i0 Tryz.underlying118 Tryz.underlying9 hi hz0 hz1 hz2 _ _ _ rfl hown s rfl ?c1 ?c2 hBw ?_)
 case c1=>unfold maxLen;omega
 case c2=>omega
 intro v' w2 hown' hgrow _
 have hb2:w2.heap[b]? = some (.cells #[.pointer (some ⟨b,0,none⟩),v] 120 (0,0)):=by
  rw[hgrow.block b hlt (fun e=>hne e.symm)];exact HBK.out
 have d0:w2.cell? ⟨b,0,none⟩=some (.pointer (some ⟨b,0,none⟩)):=by rw[Lib.cell_of_heap hb2];rfl
 have d1:w2.cell? ⟨b,1,none⟩=some v:=by rw[Lib.cell_of_heap hb2];rfl
 have f1:w2.frozen? ⟨b,1,none⟩=false:=Lib.frozen_of_heap hb2 1
 obtain⟨q,m,c,rfl,hq⟩:∃ q m c,v'=.slice q m c∧(Value.slice q m c).ownBlock≠some b:=by
  rcases hown'.2 with ⟨h,_⟩|⟨g,cap,cur,h,_,hg,_⟩
  ·exact⟨none,0,0,h,by simp[Value.ownBlock]⟩
  ·refine⟨_,_,_,h,?_⟩
   intro e
   simp[Value.ownBlock] at e
   subst e
   rw[hb2] at hg
   simp at hg
 have R:Put2 B b v bs s w (.returned (.tuple #[.int .i64 s.size,.nilIface])) (w2.setCell ⟨b,1,none⟩ (.slice q m c)):=by
  refine⟨rfl,.slice q m c,⟨hlo,⟨_,Or.inr rfl,?_⟩,?_,hq⟩,?_,?_,?_⟩
  ·rw[heap_setCell_same w2 b 1 _ 120 _ hb2];rfl
  ·rw[strCells_u8s] at hown'
   have:=ownsRow_setCell_other hown' (a:=⟨b,1,none⟩) hq (.slice q m c)
   have e1:bs.length + s.size=(bs++s.data.toList).length:=by rw[List.length_append,size_len]
   have e2:u8s bs++u8s s.data.toList=u8s (bs++s.data.toList):=by unfold u8s;rw[List.map_append]
   rw[e1,e2] at this
   exact this
  ·refine(KeepsOthers.of_grownBy hgrow fun j o ej hj=>?_).trans (KeepsOthers.setCell _ _ _)
   rcases hown.2 with ⟨h,_⟩|⟨g,cap,cur,h,_,hg,_⟩
   ·rw[h] at ej;simp[Value.ownBlock] at ej
   ·rw[h] at ej
    obtain rfl:g=j:=by simpa [Value.ownBlock] using ej
    rw[hg] at hj;cases hj;rfl
  ·refine((Below.refl B w).grown hgrow hBw fun j ej=>(hown.lt j ej).1).setCell (p:=⟨b,1,none⟩) hlo _
  ·intro k hk hkb hkv
   rw[Below.heap_setCell _ _ _ _ hkb,hgrow.block k hk hkv]
 clear hb2 hown' hgrow
 go_wp2
 go_ret2
 exact R
theorem put2_any (B b:Nat) (v:Value) (bs:List UInt8) (s:ByteArray) (w:World) (h:Bld B b v bs w) (hlen:bs.length + s.size≤10000000) (hBw:B≤w.heap.size) :
  Calls Tryz.prog 77 #[.pointer (some ⟨b,0,none⟩),.string s] w (Put2 B b v bs s w):=by
 obtain⟨hlo,⟨p,hp,hblk⟩,hown,hne⟩:=h
 rcases hp with rfl|rfl
 ·have c0:w.cell? ⟨b,0,none⟩=some (.pointer none):=by rw[Lib.cell_of_heap hblk];rfl
  have f0:w.frozen? ⟨b,0,none⟩=false:=Lib.frozen_of_heap hblk 0
  have hb1:(w.setCell ⟨b,0,none⟩ (.pointer (some ⟨b,0,none⟩))).heap[b]? = some (.cells #[.pointer (some ⟨b,0,none⟩),v] 120 (0,0)):=by
   rw[heap_setCell_same w b 0 _ 120 _ hblk];rfl
  refine(put2_gen B b v bs s w _ (check_fresh b w c0 (shape_of hblk) f0) hlo hb1 (ownsRow_setCell_other hown (a:=⟨b,0,none⟩) hne _) hne hlen (by simpa using hBw)).mono fun e w' ⟨he,v',h1,h2,h3,h4⟩=>⟨he,v',h1,(KeepsOthers.setCell _ _ _).trans h2,((Below.refl B w).setCell (p:=⟨b,0,none⟩) hlo _).trans h3,fun k hk hkb hkv=>?_⟩
  rw[h4 k (by simpa using hk) hkb hkv,Below.heap_setCell _ _ _ _ hkb]
 ·have c0:w.cell? ⟨b,0,none⟩=some (.pointer (some ⟨b,0,none⟩)):=by rw[Lib.cell_of_heap hblk];rfl
  exact put2_gen B b v bs s w w (check_used b w c0) hlo hblk hown hne hlen hBw
theorem bld_own {β:Type} (B b:Nat) (f:β→List UInt8) (D:Nat):OwnFrom D (fun (s:β) W=>∃ v,Bld B b v (f s) W):=by
 rintro s X Y row ⟨v,hlo,⟨p,hp,hblk⟩,hown,hne⟩ hg hrow
 have hb:∀ k cs t fr,X.heap[k]? = some (.cells cs t fr)→some k≠row:=by
  intro k cs t fr hk e
  obtain⟨_,o,ho,hc⟩:=hrow k e.symm
  rw[hk] at ho;cases ho;cases hc
 refine⟨v,hlo,⟨p,hp,(hg.block _ (heap_lt hblk) (hb _ _ _ _ hblk)).trans hblk⟩,hown.kept hg ?_,hne⟩
 rcases hown.2 with ⟨h,_⟩|⟨g,cap,cur,h,_,hgb,_⟩
 ·exact .inl (by rw[h];rfl)
 ·rw[h]
  refine .inr fun e'=>hb g _ _ _ hgb ?_
  rw[← e'];rfl
def pathShow (l:List ByteArray):List UInt8:=l.flatMap fun s=>47::s.data.toList
theorem upto_fst (l:List ByteArray):∀ k,k≤l.length→(upto (segAt l) k).map Prod.fst=l.take k
 | 0,_=>by simp[upto]
 | k + 1,hk=>by
  rw[upto_succ,List.map_append,upto_fst l k (by omega),take_snocL l k ByteArray.empty (by omega)];rfl
set_option maxHeartbeats 2000000 in
theorem pathShow_any (v:Value) (s:List ByteArray) (w:World) (hv:Strs w v s) (hs:s.length≤5000000) (hz:(pathShow s).length≤5000000) :
  Calls Tryz.prog 85 #[v] w fun e w'=>e=.returned (.string (bs (pathShow s)))∧Below w.heap.size w w':=by
 have hP:=hv.to_P (w.heap.size + 1)
 obtain⟨q,m,c,rfl⟩:=hP.slice
 refine callsIn_wide.1 (callsIn_of_wp_marks (n:=9) Tryz.func85 rfl trivial ?_ rfl)
 simp only[Tryz.ntmps85,List.size_toArray,List.length_cons,List.length_nil,Nat.reduceAdd,Nat.reduceSub,Array.replicate_succ,Array.replicate_zero,List.push_toArray,List.append_toArray,List.nil_append,List.cons_append]
 refine wpIn_wide.2 ?_
 have HB0:=Lib.hid (Bld.fresh w)
 go_wp2_with (go_at_call 137;refine(segments_any q m c _).mono ?_;rintro e w' ⟨rfl,rfl⟩)
 obtain⟨W0,hW0⟩:∃ W0,(w.alloc (.cells #[.pointer none,.slice none 0 0] 120)).alloc (.cells #[.slice q m c] 25)=W0:=⟨_,rfl⟩
 have hb0:Below w.heap.size w W0:=by rw[← hW0];exact bel2 _ _ _
 have hz0:W0.heap.size=w.heap.size + 2:=by rw[← hW0];simp
 have b0:Bld w.heap.size w.heap.size (.slice none 0 0) [] W0:=by
  rw[← hW0]
  exact⟨Nat.le_refl _,⟨_,Or.inl rfl,row2a w _ _⟩,World.ownsRow_nil _ _ _ _,by simp[Value.ownBlock]⟩
 have x2:Boxed W0 (w.heap.size + 1) 25 (.slice q m c):=by unfold Boxed;rw[← hW0];exact row2b _ _ _
 have hP0:StrsP (fun k=>k=w.heap.size + 1∨k < w.heap.size) W0 (.slice q m c) s:=by
  rcases hv with h|⟨b,off,cap,h1,hl,hm,hlt,hc⟩
  ·exact .inl h
  ·exact .inr ⟨b,off,cap,h1,hl,hm,.inr hlt,fun j hj=>(hb0.cell (p:=⟨b,off + j,none⟩) hlt).trans (hc j hj)⟩
 have LEN:∀ (pre:List (ByteArray×Bool)) (x:ByteArray×Bool),x=segAt s pre.length→pre.length < s.length→pre=upto (segAt s) pre.length→(pathShow (pre.map Prod.fst)).length + (⟨#[47]⟩++x.1:ByteArray).size≤10000000:=by
  intro pre x hx hlt hp
  have h1:pathShow s=pathShow (s.take (pre.length + 1))++pathShow (s.drop (pre.length + 1)):=by
   unfold pathShow;rw[← List.flatMap_append,List.take_append_drop]
  have h2:=upto_fst s (pre.length + 1) (by omega)
  rw[upto_succ,List.map_append,← hp,← hx] at h2
  rw[h1,← h2,List.length_append] at hz
  unfold pathShow at hz ⊢
  rw[List.flatMap_append,List.length_append] at hz
  have e3:((List.map Prod.fst [x]).flatMap fun s=>47::s.data.toList).length=x.1.size + 1:=by simp only[List.map_cons,List.map_nil,List.flatMap_cons,List.flatMap_nil,List.append_nil,List.length_cons,size_len]
  rw[e3] at hz
  rw[app_size]
  show _ + (1 + x.1.size)≤_
  omega
 rw[hW0]
 clear hW0 hP hv HB0
 refine(wpIn_wide (n:=9)).1 ?_
 refine range_over (n:=9) (gf:=192) (lb:=#[.pointer (some ⟨w.heap.size + 1,0,none⟩)]) rfl (enters_of Tryz.func192 (by kernel_rfl) rfl)
  (seg_stops 8 (by omega) (w.heap.size + 1) w.heap.size (.slice q m c) s (by omega) W0 (by omega) (by omega) x2.cell hP0) KeepAt.trans (fun W l o hl=>KeepAt.putObj (n:=W0.heap.size) (fun k hk=>by omega) W l o hl) (Below.refl _ _) (fun _=>rfl)
  (fun (pre:List (ByteArray×Bool)) W=>(∃ v,Bld w.heap.size w.heap.size v (pathShow (pre.map Prod.fst)) W)∧((W.heap[w.heap.size + 1]? = some (.cells #[.slice q m c] 25 (0,0))∧Below w.heap.size w W)∧pre=upto (segAt s) pre.length))
  (fun _ _ _=>False)
  (OwnFrom.and (bld_own w.heap.size w.heap.size (fun (pre:List (ByteArray×Bool))=>pathShow (pre.map Prod.fst)) _)
   (OwnFrom.and (OwnFrom.and (own_block (fun _=>w.heap.size + 1) (fun _=>.cells #[.slice q m c] 25 (0,0)) (fun _=>rfl)) (ownFrom_below (Nat.le_refl _) (by omega))) (fun _ _ _ _ h _ _=>h)))
  (fun _ _ _ _ _ h _ _=>h) (fun _ _ _ _ _ h _ _=>h)
  ⟨⟨_,b0⟩,⟨x2,hb0⟩,rfl⟩
  ?a1 ?assign ?body ?done ?stop
 case assign =>
  intro l x W K hK
  gi_wp2
  exact hK
 case body =>
  rintro l pre x W ⟨⟨vo,hb⟩,⟨hx2,hB⟩,hpre⟩ ⟨hlt,hx⟩
  have HPR:Hid (pre++[x]=upto (segAt s) (pre++[x]).length):=by
   show _=_
   rw[List.length_append]
   show _=upto (segAt s) (pre.length + 1)
   rw[upto_succ,← hpre,← hx]
  have HSH:Hid (pathShow ((pre++[x]).map Prod.fst)=pathShow (pre.map Prod.fst)++(⟨#[47]⟩++x.1:ByteArray).data.toList):=by
   show _=_
   rw[List.map_append]
   unfold pathShow
   rw[List.flatMap_append,app_list]
   simp
  have HLE:Hid ((pathShow (pre.map Prod.fst)).length + (⟨#[47]⟩++x.1:ByteArray).size≤10000000):=LEN pre x hx hlt hpre
  have hct:1 + x.1.size≤9223372036854775807:=by have h1:=HLE.out;rw[app_size] at h1;have h2:(⟨#[47]⟩:ByteArray).size=1:=rfl;omega
  have hsz:=hB.size
  obtain⟨t,ht⟩:∃ t:ByteArray,t=⟨#[47]⟩++x.1:=⟨_,rfl⟩
  rw[← ht] at HSH HLE
  have HC:∀ W',Bld w.heap.size w.heap.size vo (pathShow (pre.map Prod.fst)) W'→w.heap.size≤W'.heap.size→Hid (Calls Tryz.prog 77 #[.pointer (some ⟨w.heap.size,0,none⟩),.string (⟨#[47]⟩++x.1)] W' (Put2 w.heap.size w.heap.size vo (pathShow (pre.map Prod.fst)) t W')):=by
   intro W' h1 h2;rw[← ht];exact put2_any _ _ _ _ _ _ h1 HLE.out h2
  have HKX:Hid (∀ W':World,(∀ k,k < W.heap.size→k≠w.heap.size→some k≠vo.ownBlock→W'.heap[k]? = W.heap[k]?)→W'.heap[w.heap.size + 1]? = some (.cells #[.slice q m c] 25 (0,0))):=by
   intro W' h
   have hxb:Boxed W (w.heap.size + 1) 25 (.slice q m c):=hx2
   exact(h _ hxb.lt (by omega) (hxb.not_row (by decide) hb.own)).trans hx2
  have hb':=Lib.hid hb
  clear ht hx hlt hb hpre
  gi_wp2_with (refine⟨trivial,?_⟩;gi_at_call 77;refine(CallsIn.inRound l (callsIn_wide.2 (HC _ hb'.out hsz).out)).mono ?_;rintro e w2 ⟨rfl,v2,hb2,hk2,B2,kk⟩)
  have k3:=HKX.out _ kk
  refine⟨hk2.from _,⟨B2.size,fun k hk=>?_⟩,⟨⟨v2,by rw[HSH.out];exact hb2⟩,⟨k3,hB.trans B2⟩,HPR.out⟩⟩
  rcases hk with rfl|hk
  ·rw[k3,hx2]
  ·exact B2.block k hk
 case done =>
  rintro D ys W hD rfl ⟨⟨v,hb⟩,⟨hx2,hB⟩,_⟩ hK
  rw[upto_fst s s.length (Nat.le_refl _),List.take_length] at hb
  have HB:=Lib.hid hb
  clear hb
  go_wp2_with (go_at_call 78;refine(Tryz.Builder_String_any_k w.heap.size w.heap.size (pathShow s) _ (Lib.IsBuilderF.of HB.out.isB) hB.size).mono ?_;rintro e w2 ⟨rfl,_,b2,ok⟩)
  have hK2:=ok D _ hK (by simp;omega) (fun _ _ h=>by cases h)
  refine⟨by simp,.inl ⟨_,_,rfl,run_takeDeferred hK2,?_⟩⟩
  exact⟨_,results_tmp rfl _ _ _,rfl,hB.trans (b2.trans (belowK_b (w:=w) (Nat.le_refl _) w2 D _ _ (by omega) hK2 rfl rfl))⟩
 case stop =>
  rintro D c pre W _ _ h _
  exact h.elim
end
end Go.Proofs.YtdlkjofnnefjfaaGreatDoor
