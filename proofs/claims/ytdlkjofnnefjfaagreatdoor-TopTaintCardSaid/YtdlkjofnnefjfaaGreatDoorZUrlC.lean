/- An address's cells; the addresses that may be, as plain data. url.May: what its first test says; what it answers where that fails, and of the opaque addresses. url.parse: the address of a text that is clean. url.parse of an address of the web: with a path or none, with a user or none. url.Parse: what is no address is told so. -/
import Derived.Test.YtdlkjofnnefjfaaGreatDoorZPolicy
import Derived.Deep.RegionHeld3
import Derived.Deep.CutRange
import Derived.Laws.Rows
import Derived.Laws.Tables
import Derived.Deep.RegionWith
import Derived.Test.YtdlkjofnnefjfaaGreatDoorZClnA
import Derived.Recover
set_option linter.all false
namespace Go.Proofs.YtdlkjofnnefjfaaGreatDoor
set_option maxRecDepth 100000
section
open Go.RowKit
theorem url_cells {w:World} {g:Nat} {t:TypeId} {fr:Nat×Nat} {u:Url} {p:Value} (h:w.heap[g]? = some (.cells (urlC u p) t fr)) :
  w.cell? ⟨g,0,none⟩=some (.string u.scheme)∧w.cell? ⟨g,1,none⟩=some (.string u.user)∧w.cell? ⟨g,2,none⟩=some (.string u.pass)∧w.cell? ⟨g,3,none⟩=some (.int .i64 u.host.kind)∧w.cell? ⟨g,4,none⟩=some (.string u.host.name)∧w.cell? ⟨g,5,none⟩=some (.int .i64 u.host.num)∧w.cell? ⟨g,6,none⟩=some (.int .i64 u.host.six.p0)∧w.cell? ⟨g,7,none⟩=some (.int .i64 u.host.six.p1)∧w.cell? ⟨g,8,none⟩=some (.int .i64 u.host.six.p2)∧w.cell? ⟨g,9,none⟩=some (.int .i64 u.host.six.p3)∧w.cell? ⟨g,10,none⟩=some (.int .i64 u.host.six.p4)∧w.cell? ⟨g,11,none⟩=some (.int .i64 u.host.six.p5)∧w.cell? ⟨g,12,none⟩=some (.int .i64 u.host.six.p6)∧w.cell? ⟨g,13,none⟩=some (.int .i64 u.host.six.p7)∧w.cell? ⟨g,14,none⟩=some (.int .i64 u.port)∧w.cell? ⟨g,15,none⟩=some (p)∧w.cell? ⟨g,16,none⟩=some (.string u.opq)∧w.cell? ⟨g,17,none⟩=some (.string u.query)∧w.cell? ⟨g,18,none⟩=some (.string u.frag)∧w.cell? ⟨g,19,none⟩=some (.bool u.hasQ)∧w.cell? ⟨g,20,none⟩=some (.bool u.hasF) :=
 ⟨cell_in h 0 _ rfl,cell_in h 1 _ rfl,cell_in h 2 _ rfl,cell_in h 3 _ rfl,cell_in h 4 _ rfl,cell_in h 5 _ rfl,cell_in h 6 _ rfl,cell_in h 7 _ rfl,cell_in h 8 _ rfl,cell_in h 9 _ rfl,cell_in h 10 _ rfl,cell_in h 11 _ rfl,cell_in h 12 _ rfl,cell_in h 13 _ rfl,cell_in h 14 _ rfl,cell_in h 15 _ rfl,cell_in h 16 _ rfl,cell_in h 17 _ rfl,cell_in h 18 _ rfl,cell_in h 19 _ rfl,cell_in h 20 _ rfl⟩
theorem url_info:(Tryz.prog.info? 27).map (·.size)=some 21:=by kernel_rfl
def readyB (set:Int) (s:ByteArray):Bool:=encL set s.data.toList == s.data.toList
theorem ready_ascii:∀ l:List UInt8,encL 1 l=l→∀ b∈l,b.toNat < 128
 | [],_,b,hb=>by cases hb
 | c::l,h,b,hb=>by
  have e:encL 1 (c::l)=encC 1 c++encL 1 l:=rfl
  rw[e] at h
  have hl:=(encL_len 1 l).1
  unfold encC at h
  split at h
  ·have:=congrArg List.length h
   simp at this;omega
  ·rename_i hc
   simp at h
   rcases List.mem_cons.1 hb with rfl|hb
   ·have h2:∀ c:Fin 256,inS 1 (UInt8.ofNat c.val)=false→c.val < 128:=by decide +kernel
    have:=h2 ⟨b.toNat,b.toNat_lt⟩ (by simpa using hc)
    exact this
   ·exact ready_ascii l h b hb
def urlMay (u:Url):Bool :=
 if (!readyB 2 u.query || (!readyB 1 u.frag || ((!u.hasQ && decide (u.query.size≠0)) || (!u.hasF && decide (u.frag.size≠0)))))=true then false
 else if opqB u.scheme=true then readyB 1 u.opq && (!Lib.containsAny u.opq.data.toList [63,35] && (decide (u.port=-1) && (decide (u.host=host0) && (decide (u.user.size=0) && (decide (u.pass.size=0) && decide (u.path.length=0))))))
 else decide (0 < webP u.scheme) && (mayH u.host && (readyB 4 u.user && (readyB 4 u.pass && (pathMay u.path && (decide (u.opq.size=0) && (decide (-1≤u.port) && (decide (u.port≤65535) && decide (u.port≠webP u.scheme))))))))
theorem results_url {fn:Func} {p u:Tmp} (h:fn.results=#[.cell p 27,.tmp u]) (tmps:Array Value) (w:World) (g:Nat) (t:TypeId) (s:Url) (pv:Value) (fr:Nat×Nat)
  (hp:tmps.getD p undef=.pointer (some ⟨g,0,none⟩)) (hg:w.heap[g]? = some (.cells (urlC s pv) t fr)) (v:Value) (hv:tmps.getD u undef=v) :
  (results fn tmps).run Tryz.prog w=.ok (.tuple #[.agg (urlC s pv),v]) w:=results_row_tmp h tmps w g t (urlC s pv) fr _ hp hg Tryz.underlying27 rfl url_info v hv
end
section
open Go.RowKit
def urlBad (u:Url):Bool:=!readyB 2 u.query || (!readyB 1 u.frag || ((!u.hasQ && decide (u.query.size≠0)) || (!u.hasF && decide (u.frag.size≠0))))
theorem urlBad_no {u:Url} (h:urlBad u=false):readyB 2 u.query=true∧readyB 1 u.frag=true∧(u.hasQ=true∨u.query.size=0)∧(u.hasF=true∨u.frag.size=0):=by
 unfold urlBad at h
 simp only[Bool.or_eq_false_iff,Bool.not_eq_false',Bool.and_eq_false_iff,decide_eq_false_iff_not,ne_eq,Decidable.not_not] at h
 exact⟨h.1,h.2.1,h.2.2.1,h.2.2.2⟩
theorem urlMay_web (u:Url) (h:urlBad u=false) (ho:opqB u.scheme=false):urlMay u=(decide (0 < webP u.scheme) && (mayH u.host && (readyB 4 u.user && (readyB 4 u.pass && (pathMay u.path && (decide (u.opq.size=0) && (decide (-1≤u.port) && (decide (u.port≤65535) && decide (u.port≠webP u.scheme))))))))):=by
 unfold urlMay;rw[if_neg (by unfold urlBad at h;rw[h];simp),if_neg (by rw[ho];simp)]
theorem url_row {w:World} {g:Nat} {t:TypeId} {fr:Nat×Nat} {sc us pa hn' op qu fg:ByteArray} {hk hm p0 p1 p2 p3 p4 p5 p6 p7 po:Int} {pv:Value} {hQ hF:Bool} (h:w.heap[g]? = some (.cells #[.string sc,.string us,.string pa,.int .i64 hk,.string hn',.int .i64 hm,.int .i64 p0,.int .i64 p1,.int .i64 p2,.int .i64 p3,.int .i64 p4,.int .i64 p5,.int .i64 p6,.int .i64 p7,.int .i64 po,pv,.string op,.string qu,.string fg,.bool hQ,.bool hF] t fr)) :
  w.cell? ⟨g,0,none⟩=some (.string sc)∧w.cell? ⟨g,1,none⟩=some (.string us)∧w.cell? ⟨g,2,none⟩=some (.string pa)∧w.cell? ⟨g,3,none⟩=some (.int .i64 hk)∧w.cell? ⟨g,4,none⟩=some (.string hn')∧w.cell? ⟨g,5,none⟩=some (.int .i64 hm)∧w.cell? ⟨g,6,none⟩=some (.int .i64 p0)∧w.cell? ⟨g,7,none⟩=some (.int .i64 p1)∧w.cell? ⟨g,8,none⟩=some (.int .i64 p2)∧w.cell? ⟨g,9,none⟩=some (.int .i64 p3)∧w.cell? ⟨g,10,none⟩=some (.int .i64 p4)∧w.cell? ⟨g,11,none⟩=some (.int .i64 p5)∧w.cell? ⟨g,12,none⟩=some (.int .i64 p6)∧w.cell? ⟨g,13,none⟩=some (.int .i64 p7)∧w.cell? ⟨g,14,none⟩=some (.int .i64 po)∧w.cell? ⟨g,15,none⟩=some (pv)∧w.cell? ⟨g,16,none⟩=some (.string op)∧w.cell? ⟨g,17,none⟩=some (.string qu)∧w.cell? ⟨g,18,none⟩=some (.string fg)∧w.cell? ⟨g,19,none⟩=some (.bool hQ)∧w.cell? ⟨g,20,none⟩=some (.bool hF) :=
 ⟨cell_in h 0 _ rfl,cell_in h 1 _ rfl,cell_in h 2 _ rfl,cell_in h 3 _ rfl,cell_in h 4 _ rfl,cell_in h 5 _ rfl,cell_in h 6 _ rfl,cell_in h 7 _ rfl,cell_in h 8 _ rfl,cell_in h 9 _ rfl,cell_in h 10 _ rfl,cell_in h 11 _ rfl,cell_in h 12 _ rfl,cell_in h 13 _ rfl,cell_in h 14 _ rfl,cell_in h 15 _ rfl,cell_in h 16 _ rfl,cell_in h 17 _ rfl,cell_in h 18 _ rfl,cell_in h 19 _ rfl,cell_in h 20 _ rfl⟩
set_option maxHeartbeats 2000000 in
theorem urlMay_bo (u:Url) (pv:Value) (w:World) (G:Glob w) (hp:Strs w pv u.path) (hq:u.query.size≤1000000) (hf:u.frag.size≤1000000) (ho:u.opq.size≤1000000) (hbo:urlBad u=true∨opqB u.scheme=true) :
  Calls Tryz.prog 32 #[.agg (urlC u pv)] w fun e w'=>e=.returned (.bool (urlMay u))∧Below w.heap.size w w':=by
 have HQ:∀ w',Hid (Calls Tryz.prog 71 #[.string u.query,.int .i64 2] w' fun e w''=>e=.returned (.bool (readyB 2 u.query))∧Below w'.heap.size w' w''):=fun w'=>ready_enc u.query 2 w' (by omega) (readyB 2 u.query) (by rw[toList_data];rfl)
 have HF:∀ w',Hid (Calls Tryz.prog 71 #[.string u.frag,.int .i64 1] w' fun e w''=>e=.returned (.bool (readyB 1 u.frag))∧Below w'.heap.size w' w''):=fun w'=>ready_enc u.frag 1 w' (by omega) (readyB 1 u.frag) (by rw[toList_data];rfl)
 have HB:Hid (urlBad u=_):=urlBad.eq_1 u
 obtain⟨bad,hbad⟩:∃ bad,bad=urlBad u:=⟨_,rfl⟩
 obtain⟨rq,hrq⟩:∃ rq,rq=readyB 2 u.query:=⟨_,rfl⟩
 obtain⟨rf,hrf⟩:∃ rf,rf=readyB 1 u.frag:=⟨_,rfl⟩
 rw[← hbad,← hrq,← hrf] at HB
 simp only[← hrq] at HQ
 simp only[← hrf] at HF
 replace hbad:=Lib.hid hbad
 clear hrq hrf
 obtain⟨may,hmay⟩:∃ may,may=urlMay u:=⟨_,rfl⟩
 rw[← hmay]
 have HM:Hid (may=urlMay u):=hmay
 clear hmay
 go_enter Tryz.func32,Tryz.ntmps32
 go_upto_region 1 with fail
 go_cut [32] from 3 to 32 (fun v wx=>v=.bool bad∧wx.heap[w.heap.size]? = some (.cells (urlC u pv) 27 (0,0))∧Below w.heap.size w wx)
 case first =>
  go_wp2_with fail
  refine(HQ _).out.mono ?_
  rintro e w1 ⟨rfl,b1⟩
  have B1:=bel_on (bel1 w _) b1
  have R1:=kept b1 (row1 w _)
  obtain⟨c0,c1,c2,c3,c4,c5,c6,c7,c8,c9,c10,c11,c12,c13,c14,c15,c16,c17,c18,c19,c20⟩:=url_cells R1
  cases rq with
  | false =>
   have HZ:Hid (bad=true):=by show _=_;rw[HB.out];rfl
   go_wp2_with fail
   go_meet
   exact⟨by rw[HZ.out],R1,B1⟩
  | true =>
   go_wp2_with fail
   refine(HF _).out.mono ?_
   rintro e w2 ⟨rfl,b2⟩
   have B2:=bel_on B1 b2
   have R2:=kept b2 R1
   clear c0 c1 c2 c3 c4 c5 c6 c7 c8 c9 c10 c11 c12 c13 c14 c15 c16 c17 c18 c19 c20
   obtain⟨c0,c1,c2,c3,c4,c5,c6,c7,c8,c9,c10,c11,c12,c13,c14,c15,c16,c17,c18,c19,c20⟩:=url_cells R2
   cases rf with
   | false =>
    have HZ:Hid (bad=true):=by show _=_;rw[HB.out];rfl
    go_wp2_with fail
    go_meet
    exact⟨by rw[HZ.out],R2,B2⟩
   | true =>
    have HB2:Hid (bad=((!u.hasQ && decide (u.query.size≠0)) || (!u.hasF && decide (u.frag.size≠0)))):=HB.out
    clear HB HQ HF b1 b2 B1 R1
    obtain⟨zq,hzq⟩:∃ zq,zq=decide (u.query.size≠0):=⟨_,rfl⟩
    obtain⟨zf,hzf⟩:∃ zf,zf=decide (u.frag.size≠0):=⟨_,rfl⟩
    have eq:u.query.toList.isEmpty=!zq:=by
     rw[hzq];by_cases h:u.query.size=0
     ·rw[(empty_iff _).2 h];simp[h]
     ·rw[empty_no h];simp[h]
    have ef:u.frag.toList.isEmpty=!zf:=by
     rw[hzf];by_cases h:u.frag.size=0
     ·rw[(empty_iff _).2 h];simp[h]
     ·rw[empty_no h];simp[h]
    rw[← hzq,← hzf] at HB2
    clear hzq hzf
    obtain⟨xq,hxq⟩:∃ xq,xq=u.hasQ:=⟨_,rfl⟩
    obtain⟨xf,hxf⟩:∃ xf,xf=u.hasF:=⟨_,rfl⟩
    rw[← hxq,← hxf] at HB2
    rw[← hxq] at c19
    rw[← hxf] at c20
    clear hxq hxf
    cases xq <;> cases zq <;> cases xf <;> cases zf <;>
    ·have HZ:=HB2.out
     replace HZ:=Lib.hid HZ
     clear HB2
     go_wp2_with fail
     go_meet
     exact⟨by rw[HZ.out];rfl,R2,B2⟩
 case rest =>
  obtain⟨rfl,R,B⟩:=hcut
  clear HB HQ HF
  cases bad with
  | true =>
   have HZ:Hid (may=false):=by show _=_;rw[HM.out];unfold urlMay;rw[if_pos (by have:=hbad.out;unfold urlBad at this;exact this.symm)]
   go_wp2
   go_ret
   exact⟨ret_bool (by rw[HZ.out]),B⟩
  | false =>
   have HO:=fun w'=>Lib.hid (opaque_any u.scheme w')
   obtain⟨c0,c1,c2,c3,c4,c5,c6,c7,c8,c9,c10,c11,c12,c13,c14,c15,c16,c17,c18,c19,c20⟩:=url_cells R
   go_wp2_with fail
   refine(HO _).out.mono ?_
   rintro e w1 ⟨rfl,b1⟩
   have B1:=bel_on B b1
   have R1:=kept b1 R
   clear c0 c1 c2 c3 c4 c5 c6 c7 c8 c9 c10 c11 c12 c13 c14 c15 c16 c17 c18 c19 c20
   obtain⟨c0,c1,c2,c3,c4,c5,c6,c7,c8,c9,c10,c11,c12,c13,c14,c15,c16,c17,c18,c19,c20⟩:=url_cells R1
   cases hob:opqB u.scheme with
   | false=>rcases hbo with h|h <;> simp_all [hbad.out.symm]
   | true =>
    have HE:Hid (urlMay u=(readyB 1 u.opq && (!Lib.containsAny u.opq.data.toList [63,35] && (decide (u.port=-1) && (decide (u.host=host0) && (decide (u.user.size=0) && (decide (u.pass.size=0) && decide (u.path.length=0)))))))):=by
     show _=_;unfold urlMay;rw[if_neg (by have:=hbad.out;unfold urlBad at this;rw[← this];simp),if_pos hob]
    clear hob HO b1
    have HR:∀ w',Hid (Calls Tryz.prog 71 #[.string u.opq,.int .i64 1] w' fun e w''=>e=.returned (.bool (readyB 1 u.opq))∧Below w'.heap.size w' w''):=fun w'=>ready_enc u.opq 1 w' (by omega) (readyB 1 u.opq) (by rw[toList_data];rfl)
    rw[← HM.out] at HE
    cases hro:readyB 1 u.opq with
    | false =>
     have HZ:Hid (may=false):=by show _=_;rw[HE.out,hro];rfl
     rw[hro] at HR
     clear hro HE
     go_wp2_with fail
     refine(HR _).out.mono ?_
     rintro e w2 ⟨rfl,b2⟩
     go_wp2
     go_ret
     exact⟨ret_bool (by rw[HZ.out]),bel_on B1 b2⟩
    | true =>
     have HA:=fun w'=>Lib.hid (containsAny_any u.opq ⟨#[63,35]⟩ w' (by omega) (by decide) (fun j b h=>ready_ascii _ (by simpa [readyB] using hro) b (List.mem_of_getElem? h)) (fun j b h=>by have:=List.mem_of_getElem? h;simp at this;rcases this with rfl|rfl <;> decide))
     obtain⟨ca,hca⟩:∃ ca,ca=Lib.containsAny u.opq.data.toList [63,35]:=⟨_,rfl⟩
     have HA:∀ w',Hid (Calls Tryz.prog 69 #[.string u.opq,.string ⟨#[63,35]⟩] w' fun e w''=>e=.returned (.bool ca)∧Below w'.heap.size w' w''):=by rw[hca];exact HA
     rw[hro,← hca] at HE
     rw[hro] at HR
     clear hro hca
     go_wp2_with fail
     refine(HR _).out.mono ?_
     rintro e w2 ⟨rfl,b2⟩
     have B2:=bel_on B1 b2
     have R2:=kept b2 R1
     clear c0 c1 c2 c3 c4 c5 c6 c7 c8 c9 c10 c11 c12 c13 c14 c15 c16 c17 c18 c19 c20
     obtain⟨c0,c1,c2,c3,c4,c5,c6,c7,c8,c9,c10,c11,c12,c13,c14,c15,c16,c17,c18,c19,c20⟩:=url_cells R2
     cases ca with
     | true =>
      have HZ:Hid (may=false):=by show _=_;rw[HE.out];rfl
      go_wp2_with fail
      refine(HA _).out.mono ?_
      rintro e w3 ⟨rfl,b3⟩
      go_wp2
      go_ret
      exact⟨ret_bool (by rw[HZ.out]),bel_on B2 b3⟩
     | false =>
      go_wp2_with fail
      refine(HA _).out.mono ?_
      rintro e w3 ⟨rfl,b3⟩
      have B3:=bel_on B2 b3
      have R3:=kept b3 R2
      clear b2 b3 R1 R2 B1 B2
      clear c0 c1 c2 c3 c4 c5 c6 c7 c8 c9 c10 c11 c12 c13 c14 c15 c16 c17 c18 c19 c20
      obtain⟨c0,c1,c2,c3,c4,c5,c6,c7,c8,c9,c10,c11,c12,c13,c14,c15,c16,c17,c18,c19,c20⟩:=url_cells R3
      have HE2:Hid (may=(decide (u.port=-1) && (decide (u.host=host0) && (decide (u.user.size=0) && (decide (u.pass.size=0) && decide (u.path.length=0)))))):=HE.out
      clear HE HR HA
      by_cases k1:u.port=-1
      ·have e1:(u.port == -1)=true:=by rw[beq_iff_eq];exact k1
       obtain⟨hb,hhb⟩:∃ hb,hb=decide (u.host=host0):=⟨_,rfl⟩
       have heq:∀ w',(Op.equalIn 10000 24 (.agg #[.int .i64 u.host.kind,.string u.host.name,.int .i64 u.host.num,.int .i64 u.host.six.p0,.int .i64 u.host.six.p1,.int .i64 u.host.six.p2,.int .i64 u.host.six.p3,.int .i64 u.host.six.p4,.int .i64 u.host.six.p5,.int .i64 u.host.six.p6,.int .i64 u.host.six.p7]) (.agg #[.int .i64 0,.string ⟨#[]⟩,.int .i64 0,.int .i64 0,.int .i64 0,.int .i64 0,.int .i64 0,.int .i64 0,.int .i64 0,.int .i64 0,.int .i64 0])).run Tryz.prog w'=.ok hb w':=by
        intro w';rw[hhb];exact eqH w' u.host.kind 0 u.host.num 0 u.host.name ⟨#[]⟩ u.host.six.p0 u.host.six.p1 u.host.six.p2 u.host.six.p3 u.host.six.p4 u.host.six.p5 u.host.six.p6 u.host.six.p7 0 0 0 0 0 0 0 0
       rw[decide_eq_true k1,← hhb] at HE2
       clear hhb k1
       obtain⟨q,m,c,rfl,hm⟩:∃ q m c,pv=.slice q m c∧m=u.path.length:=by
        rcases hp with ⟨rfl,hpl⟩|⟨b,off,cap,rfl,_⟩
        ·exact⟨_,_,_,rfl,by rw[hpl];rfl⟩
        ·exact⟨_,_,_,rfl,rfl⟩
       replace HE2:Hid (may=(hb && (decide (u.user.size=0) && (decide (u.pass.size=0) && decide (m=0))))):=by rw[hm];exact HE2
       clear hp hm
       cases hb with
       | false =>
        have HZ:Hid (may=false):=by show _=_;rw[HE2.out];rfl
        clear HE2
        go_wp2
        go_ret
        exact⟨ret_bool (by rw[HZ.out]),B3⟩
       | true =>
        by_cases k2:u.user.size=0
        ·have f2:u.user.toList.isEmpty=true:=(empty_iff _).2 k2
         by_cases k3:u.pass.size=0
         ·have f3:u.pass.toList.isEmpty=true:=(empty_iff _).2 k3
          have HZ:Hid (may=decide (m=0)):=by show _=_;rw[HE2.out,decide_eq_true k2,decide_eq_true k3];rfl
          clear HE2 k2 k3
          go_wp2
          go_ret
          exact⟨ret_bool (by rw[HZ.out];by_cases hm0:m=0 <;> simp[hm0]),B3⟩
         ·have f3:u.pass.toList.isEmpty=false:=empty_no k3
          have HZ:Hid (may=false):=by show _=_;rw[HE2.out,decide_eq_false k3];simp
          clear HE2 k2 k3
          go_wp2
          go_ret
          exact⟨ret_bool (by rw[HZ.out]),B3⟩
        ·have f2:u.user.toList.isEmpty=false:=empty_no k2
         have HZ:Hid (may=false):=by show _=_;rw[HE2.out,decide_eq_false k2];simp
         clear HE2 k2
         go_wp2
         go_ret
         exact⟨ret_bool (by rw[HZ.out]),B3⟩
      ·have e1:(u.port == -1)=false:=by rw[beq_eq_false_iff_ne];exact k1
       have HZ:Hid (may=false):=by show _=_;rw[HE2.out,decide_eq_false k1];rfl
       clear HE2 k1
       go_wp2
       go_ret
       exact⟨ret_bool (by rw[HZ.out]),B3⟩
end
section
open Go.RowKit
def encB (set:Int) (s:ByteArray):ByteArray:=bs (encL set s.data.toList)
def url0:Url:=⟨⟨#[]⟩,⟨#[]⟩,⟨#[]⟩,host0,0,[],⟨#[]⟩,⟨#[]⟩,⟨#[]⟩,false,false⟩
def pBase (s:ByteArray):Url:={ url0 with scheme:=schS s,port:=-1,query:=encB 2 (tailQ (schR s)),frag:=encB 1 (tailF (schR s)),hasQ:=tailHQ (schR s),hasF:=tailHF (schR s) }
def pRest (s:ByteArray):ByteArray:=bs (Lib.trimPrefix (tailT (schR s)).data.toList [47,47])
def pI (t:ByteArray):Int:=Lib.indexByte t.data.toList 47
def pWhere (t:ByteArray):ByteArray:=if 0≤pI t then t.extract 0 (pI t).toNat else t
def pPath (t:ByteArray):ByteArray:=if 0≤pI t then t.extract (pI t).toNat t.size else ⟨#[]⟩
def pJ (v:ByteArray):Int:=Lib.lastIndexByte v 64
def pUp (v:ByteArray):List UInt8×List UInt8×Bool:=Lib.cut (v.extract 0 (pJ v).toNat).data.toList [58]
def pUser (v:ByteArray):ByteArray:=if 0≤pJ v then encB 4 (bs (pUp v).1) else ⟨#[]⟩
def pPass (v:ByteArray):ByteArray:=if 0≤pJ v then encB 4 (bs (pUp v).2.1) else ⟨#[]⟩
def pDoor (v:ByteArray):ByteArray:=if 0≤pJ v then v.extract ((pJ v).toNat + 1) v.size else v
def parseX (s:ByteArray):Option Url :=
 if (schOK s && (decide (0 < webP (schS s)) || opqB (schS s)))=false then none
 else if opqB (schS s)=true then some { pBase s with opq:=encB 1 (tailT (schR s)) }
 else if Lib.hasPrefix (tailT (schR s)).data.toList [47,47]=false then none
 else (doorX (schS s) (pDoor (pWhere (pRest s)))).map fun d =>
  { setDoor { pBase s with user:=pUser (pWhere (pRest s)),pass:=pPass (pWhere (pRest s)) } d with path:=pathL (pPath (pRest s)) }
def ParseLeft (r:Option Url) (w:World) (e:Ending) (w':World):Prop :=
 Below w.heap.size w w'∧match r with
  | none=>e=.panicked wrongE
  | some u=>∃ pv,e=.returned (.agg (urlC u pv))∧w'.ownsRow w.heap.size 9 1 pv u.path.length (u.path.map Value.string)
theorem webP_opq (s:ByteArray) (h:0 < webP s):opqB s=false:=by
 unfold webP at h
 split at h
 ·rename_i e;subst e;decide
 ·split at h
  ·rename_i e;subst e;decide
  ·omega
theorem setRow_other (w:World) (g k:Nat) (cs:Array Value) (h:g≠k):(w.setRow g cs).heap[k]? = w.heap[k]?:=by
 unfold World.setRow;simp[Array.getElem?_modify,h]
theorem schR_le (s:ByteArray):(schR s).size≤s.size:=by
 unfold schR
 split
 ·unfold schRest;rw[bs_size,← size_len s];exact(cut_le _ _).2
 ·exact Nat.zero_le _
theorem tail_le (s:ByteArray):(tailT s).size≤s.size∧(tailQ s).size≤s.size∧(tailF s).size≤s.size:=by
 have h1:=cut_le s.data.toList [35]
 have h2:=cut_le (tail1 s).data.toList [63]
 have h3:(tail1 s).data.toList.length≤s.size:=by rw[← size_len s];exact h1.1
 rw[size_len] at h1
 refine⟨Nat.le_trans h2.1 h3,Nat.le_trans h2.2 h3,h1.2⟩
theorem enc_le (k:Int) (s:ByteArray):(encB k s).size≤3 * s.size:=by
 unfold encB;rw[bs_size,← size_len s];exact(encL_len k s.data.toList).2
set_option maxHeartbeats 1000000 in
theorem parse_no (s:ByteArray) (w:World) (G:Glob w) (hs:s.size≤100000) (h:(schOK s && (decide (0 < webP (schS s)) || opqB (schS s)))=false) :
  Calls Tryz.prog 50 #[.string s] w (ParseLeft (parseX s) w):=by
 have HX:Hid (parseX s=none):=by show _=_;unfold parseX;rw[if_pos h]
 have HS:=fun w' g=>Lib.hid (scheme_any s w' g (by omega))
 have HW:=fun w'=>Lib.hid (web_any (schS s) w')
 have HO:=fun w'=>Lib.hid (opaque_any (schS s) w')
 rw[HX.out]
 obtain⟨sc,hsc⟩:∃ sc,sc=schS s:=⟨_,rfl⟩
 obtain⟨rs,hrs⟩:∃ rs,rs=schR s:=⟨_,rfl⟩
 obtain⟨ok,hok⟩:∃ ok,ok=schOK s:=⟨_,rfl⟩
 unfold SchLeft at HS
 simp only[← hsc,← hrs,← hok] at HS HW HO h
 obtain⟨wv,hwv⟩:∃ wv,wv=webP sc:=⟨_,rfl⟩
 obtain⟨ob,hob⟩:∃ ob,ob=opqB sc:=⟨_,rfl⟩
 simp only[← hwv,← hob] at HW HO h
 clear hsc hrs hok hwv hob
 go_enter Tryz.func50,Tryz.ntmps50
 go_wp2_with fail
 refine(HS _ (G.below (bel1 w _))).out.mono ?_
 rintro e w1 ⟨rfl,b1⟩
 have B1:=bel_on (bel1 w _) b1
 cases ok with
 | false =>
  go_wp2_with fail
  refine(must_no _).mono ?_
  rintro e w2 ⟨rfl,rfl⟩
  show bodyPost Tryz.prog Tryz.f50 _ (Exit.panic wrongE) _ _
  exact⟨rfl,B1,rfl⟩
 | true =>
  simp at h
  obtain⟨h1,rfl⟩:=h
  have h2:decide (0 < wv)=false:=decide_eq_false (by omega)
  go_wp2_with (first|(go_at_call 33;refine(HW _).out.mono ?_;rintro e w2 ⟨rfl,rfl⟩))
  refine(HO _).out.mono ?_
  rintro e w2 ⟨rfl,b2⟩
  go_wp2_with fail
  refine(must_no _).mono ?_
  rintro e w3 ⟨rfl,rfl⟩
  show bodyPost Tryz.prog Tryz.f50 _ (Exit.panic wrongE) _ _
  exact⟨rfl,bel_on B1 b2,rfl⟩
set_option maxHeartbeats 2000000 in
theorem parse_opq (s:ByteArray) (w:World) (G:Glob w) (hs:s.size≤100000) (h:schOK s=true) (ho:opqB (schS s)=true) :
  Calls Tryz.prog 50 #[.string s] w (ParseLeft (parseX s) w):=by
 have hnw:¬ 0 < webP (schS s):=fun hw=>by rw[webP_opq _ hw] at ho;cases ho
 have HX:Hid (parseX s=some { pBase s with opq:=encB 1 (tailT (schR s)) }):=by show _=_;unfold parseX;rw[if_neg (by rw[h,ho];simp),if_pos ho]
 have HPB:Hid (pBase s=_):=pBase.eq_1 s
 have HS:=fun w' g=>Lib.hid (scheme_any s w' g (by omega))
 have HW:=fun w'=>Lib.hid (web_any (schS s) w')
 have HO:=fun w'=>Lib.hid (opaque_any (schS s) w')
 have hrz:(schR s).size≤100000:=Nat.le_trans (schR_le s) hs
 have HT:=fun w' g=>Lib.hid (tail_any (schR s) w' g (by omega))
 have ht1:(tailT (schR s)).size≤100000∧(tailQ (schR s)).size≤100000∧(tailF (schR s)).size≤100000:=by
  have:=tail_le (schR s)
  omega
 have HE2:∀ w',Hid (Calls Tryz.prog 98 #[.string (tailQ (schR s)),.int .i64 2] w' fun e w''=>e=.returned (.string (encB 2 (tailQ (schR s))))∧Below w'.heap.size w' w''):=fun w'=>encode_any (tailQ (schR s)) 2 w' (by omega)
 have HE1:∀ w',Hid (Calls Tryz.prog 98 #[.string (tailF (schR s)),.int .i64 1] w' fun e w''=>e=.returned (.string (encB 1 (tailF (schR s))))∧Below w'.heap.size w' w''):=fun w'=>encode_any (tailF (schR s)) 1 w' (by omega)
 have HEt:∀ w',Hid (Calls Tryz.prog 98 #[.string (tailT (schR s)),.int .i64 1] w' fun e w''=>e=.returned (.string (encB 1 (tailT (schR s))))∧Below w'.heap.size w' w''):=fun w'=>encode_any (tailT (schR s)) 1 w' (by omega)
 rw[HX.out,HPB.out]
 unfold SchLeft at HS
 rw[h] at HS
 rw[ho] at HO
 obtain⟨eq,heq⟩:∃ x,x=encB 2 (tailQ (schR s)):=⟨_,rfl⟩
 obtain⟨ef,hef⟩:∃ x,x=encB 1 (tailF (schR s)):=⟨_,rfl⟩
 obtain⟨et,het⟩:∃ x,x=encB 1 (tailT (schR s)):=⟨_,rfl⟩
 simp only[← heq,← hef,← het] at HE2 HE1 HEt ⊢
 obtain⟨tq,htq⟩:∃ x,x=tailQ (schR s):=⟨_,rfl⟩
 obtain⟨tf,htf⟩:∃ x,x=tailF (schR s):=⟨_,rfl⟩
 obtain⟨tt,htt⟩:∃ x,x=tailT (schR s):=⟨_,rfl⟩
 obtain⟨hq,hhq⟩:∃ x,x=tailHQ (schR s):=⟨_,rfl⟩
 obtain⟨hf,hhf⟩:∃ x,x=tailHF (schR s):=⟨_,rfl⟩
 simp only[← htq,← htf,← htt,← hhq,← hhf] at HT HE2 HE1 HEt ⊢
 obtain⟨sc,hsc⟩:∃ sc,sc=schS s:=⟨_,rfl⟩
 obtain⟨rs,hrs⟩:∃ rs,rs=schR s:=⟨_,rfl⟩
 simp only[← hsc,← hrs] at HS HW HO HT hnw ⊢
 obtain⟨wv,hwv⟩:∃ wv,wv=webP sc:=⟨_,rfl⟩
 rw[← hwv] at hnw
 simp only[← hwv] at HW
 have h2:decide (0 < wv)=false:=decide_eq_false hnw
 clear hsc hrs hwv heq hef het htq htf htt hhq hhf hnw HX HPB ho h hrz ht1
 go_enter Tryz.func50,Tryz.ntmps50
 go_wp2_with fail
 refine(HS _ (G.below (bel1 w _))).out.mono ?_
 rintro e w1 ⟨rfl,b1⟩
 have B1:=bel_on (bel1 w _) b1
 have R1:=kept b1 (row1 w _)
 go_wp2_with (first|(go_at_call 33;refine(HW _).out.mono ?_;rintro e w2 ⟨rfl,rfl⟩))
 refine(HO _).out.mono ?_
 rintro e w2 ⟨rfl,b2⟩
 have B2:=bel_on B1 b2
 have R2:=kept b2 R1
 go_wp2_with (first|(go_at_call 96;refine(must_yes _).mono ?_;rintro e w3 ⟨rfl,rfl⟩))
 refine(HT _ (G.below B2)).out.mono ?_
 rintro e w3 ⟨rfl,b3⟩
 have B3:=bel_on B2 b3
 have R3:=kept b3 R2
 go_wp2_with fail
 refine(HE2 _).out.mono ?_
 rintro e w4 ⟨rfl,b4⟩
 have B4:=bel_on B3 b4
 have R4:=kept b4 R3
 go_wp2_with fail
 refine(HE1 _).out.mono ?_
 rintro e w5 ⟨rfl,b5⟩
 have B5:=bel_on B4 b5
 have R5:=kept b5 R4
 clear R1 R2 R3 R4 b1 b2 b3 b4 b5 B1 B2 B3 B4
 have N5:=row1 w5 (.cells (urlC url0 (.slice none 0 0)) 27)
 go_wp2_with (first|((with_reducible (show wpList _ _ _ (Oper.mk none (.store 27 _ _) _ _ _ none::_) _ _));refine wpList_store_row rfl 27 _ _ rfl w5.heap.size _ rfl rfl 27 _ N5 url_info rfl (by simp[Value.oneCell']) ?_))
 refine(HO _).out.mono ?_
 rintro e w6 ⟨rfl,b6⟩
 have N6:w6.heap[w5.heap.size]? = some (.cells (urlC { url0 with scheme:=sc,port:=-1,query:=eq,frag:=ef,hasQ:=hq,hasF:=hf } (.slice none 0 0)) 27 (0,0)):=kept b6 (setRow_heap _ _ _ _ _ _ N5)
 have hlt:=heap_lt R5
 have R6:w6.heap[w.heap.size]? = some (.cells (urlC url0 (.slice none 0 0)) 27 (0,0)):=kept b6 ((setRow_other _ _ _ _ (by omega)).trans ((Below.heap_alloc _ _ _ hlt).trans R5))
 have B6:Below w.heap.size w w6:=bel_on (below_row (B5.alloc B5.size _) B5.size) b6
 clear N5 b6 R5
 have hu:=heap_lt N6
 have hs5:=B5.size
 obtain⟨ub,hub⟩:∃ ub,ub=w5.heap.size:=⟨_,rfl⟩
 simp only[← hub] at N6 hs5 hu hlt ⊢
 clear hub
 go_wp2_with fail
 refine(HEt _).out.mono ?_
 rintro e w7 ⟨rfl,b7⟩
 have N7:=kept b7 N6
 have R7:=kept b7 R6
 have B7:=bel_on B6 b7
 have c16:=cell_in N7 16 _ rfl
 have f16:=Lib.frozen_of_heap N7 16
 have N8:(w7.setCell ⟨ub,16,none⟩ (.string et)).heap[ub]? = some (.cells (urlC { url0 with scheme:=sc,port:=-1,opq:=et,query:=eq,frag:=ef,hasQ:=hq,hasF:=hf } (.slice none 0 0)) 27 (0,0)):=by
  rw[heap_setCell_same _ _ _ _ _ _ N7];simp[urlC]
 have R8:(w7.setCell ⟨ub,16,none⟩ (.string et)).heap[w.heap.size]? = some (.cells (urlC url0 (.slice none 0 0)) 27 (0,0)):=(Below.heap_setCell _ _ _ _ (by simp;omega)).trans R7
 have B8:Below w.heap.size w (w7.setCell ⟨ub,16,none⟩ (.string et)):=B7.setCell (p:=⟨ub,16,none⟩) hs5 _
 obtain⟨u,hu'⟩:∃ u:Url,u={ url0 with scheme:=sc,port:=-1,opq:=et,query:=eq,frag:=ef,hasQ:=hq,hasF:=hf }:=⟨_,rfl⟩
 rw[← hu'] at N8
 go_wp2_with (first
  | ((with_reducible (show wpList _ _ _ (Oper.mk _ (.load 27 _) _ _ _ none::_) _ _));refine wpList_load_row rfl 27 _ rfl ub rfl 27 _ (0,0) _ N8 Tryz.underlying27 rfl url_info ?_)
  | ((with_reducible (show wpList _ _ _ (Oper.mk none (.store 27 _ _) _ _ _ none::_) _ _));refine wpList_store_row rfl 27 _ _ rfl w.heap.size _ rfl rfl 27 _ R8 url_info rfl (by simp[Value.oneCell']) ?_))
 refine bodyPost_ret (results_cell_row rfl _ _ _ _ _ (0,0) _ rfl (setRow_heap _ _ _ _ _ _ R8) Tryz.underlying27 rfl url_info) rfl ⟨below_row B8 (Nat.le_refl _),.slice none 0 0,?_,World.ownsRow_nil _ _ _ _⟩
 rw[hu']
theorem pRest_le (s:ByteArray):(pRest s).size≤(tailT (schR s)).size:=by
 unfold pRest;rw[bs_size,← size_len (tailT (schR s))];exact trimP_le _ _
theorem own_base {w:World} {B B' n:Nat} {v:Value} {xs:List Value} (h:w.ownsRow B 9 1 v n xs) (hB:B'≤B):w.ownsRow B' 9 1 v n xs:=by
 obtain⟨h1,h2⟩:=h
 refine⟨h1,?_⟩
 rcases h2 with h2|⟨g,cap,cur,hv,hg,r⟩
 ·exact .inl h2
 ·exact .inr ⟨g,cap,cur,hv,Nat.le_trans hB hg,r⟩
theorem own_setRow {w:World} {B n g:Nat} {v:Value} {xs:List Value} {cs:Array Value} (h:w.ownsRow B 9 1 v n xs) (hg:g < B):(w.setRow g cs).ownsRow B 9 1 v n xs:=by
 obtain⟨h1,h2⟩:=h
 refine⟨h1,?_⟩
 rcases h2 with h2|⟨g',cap,cur,hv,hg',hh,r⟩
 ·exact .inl h2
 ·exact .inr ⟨g',cap,cur,hv,hg',(setRow_other _ _ _ _ (by omega)).trans hh,r⟩
theorem pathParse_own (s:ByteArray) (w:World) (G:Glob w) (hs:s.size≤300000) :
  Calls Tryz.prog 103 #[.string s] w fun e w'=>∃ v,e=.returned v∧w'.ownsRow w.heap.size 9 1 v (pathL s).length ((pathL s).map Value.string)∧Below w.heap.size w w':=by
 have hle:=pathSegs_le s
 have HL:Hid (pathL s=_):=pathL.eq_1 s
 have HS:=Lib.hid (pathSplit_any s w G hs)
 rw[HL.out]
 obtain⟨l,hl⟩:∃ l,l=pathSegs s:=⟨_,rfl⟩
 simp only[← hl] at HS hle ⊢
 clear hl HL
 go_enter Tryz.func103,Tryz.ntmps103
 go_wp2_with fail
 refine HS.out.mono ?_
 rintro e w1 ⟨v,rfl,hv,b1⟩
 have HN:=Lib.hid (norm_any v l w1 hv (by omega) (fun x hx=>by have:=hle.2 x hx;omega))
 go_wp2_with fail
 refine HN.out.mono ?_
 rintro e w2 ⟨v2,rfl,ho,b2⟩
 have HO:=Lib.hid (own_base ho b1.size)
 go_wp2
 go_ret
 exact⟨_,rfl,HO.out,bel_on b1 b2⟩
theorem lastIndex_lt (v:ByteArray) (c:Int):Lib.lastIndexByte v c < v.size:=by
 rcases Lib.lastIndexByte_spec v c with ⟨h,_⟩|⟨i,hi,h,_⟩ <;> rw[h] <;> omega
set_option maxHeartbeats 4000000 in
theorem parse_np (s:ByteArray) (w:World) (G:Glob w) (hs:s.size≤100000) (h:schOK s=true) (hw:0 < webP (schS s)) (hpx:Lib.hasPrefix (tailT (schR s)).data.toList [47,47]=false) :
  Calls Tryz.prog 50 #[.string s] w (ParseLeft (parseX s) w):=by
 have hop:opqB (schS s)=false:=webP_opq _ hw
 have HPB:Hid (pBase s=_):=pBase.eq_1 s
 have HS:=fun w' g=>Lib.hid (scheme_any s w' g (by omega))
 have HW:=fun w'=>Lib.hid (web_any (schS s) w')
 have HO:=fun w'=>Lib.hid (opaque_any (schS s) w')
 have hrz:(schR s).size≤100000:=Nat.le_trans (schR_le s) hs
 have HT:=fun w' g=>Lib.hid (tail_any (schR s) w' g (by omega))
 have ht1:(tailT (schR s)).size≤100000∧(tailQ (schR s)).size≤100000∧(tailF (schR s)).size≤100000:=by
  have:=tail_le (schR s)
  omega
 have HE2:∀ w',Hid (Calls Tryz.prog 98 #[.string (tailQ (schR s)),.int .i64 2] w' fun e w''=>e=.returned (.string (encB 2 (tailQ (schR s))))∧Below w'.heap.size w' w''):=fun w'=>encode_any (tailQ (schR s)) 2 w' (by omega)
 have HE1:∀ w',Hid (Calls Tryz.prog 98 #[.string (tailF (schR s)),.int .i64 1] w' fun e w''=>e=.returned (.string (encB 1 (tailF (schR s))))∧Below w'.heap.size w' w''):=fun w'=>encode_any (tailF (schR s)) 1 w' (by omega)
 have HCP:∀ w',Hid (Calls Tryz.prog 99 #[.string (tailT (schR s)),.string ⟨#[47,47]⟩] w' fun e w''=>e=.returned (.tuple #[.string (pRest s),.bool (Lib.hasPrefix (tailT (schR s)).data.toList [47,47])])∧w'=w''):=fun w'=>cutPrefix_any (tailT (schR s)) ⟨#[47,47]⟩ w'
 have HX:Hid (parseX s=none):=by show _=_;unfold parseX;rw[if_neg (by rw[h,decide_eq_true hw];simp),if_neg (by rw[hop];simp),if_pos hpx]
 rw[HX.out]
 obtain⟨tr,htr⟩:∃ x,x=pRest s:=⟨_,rfl⟩
 simp only[← htr] at HCP
 clear htr HX
 unfold SchLeft at HS
 rw[h] at HS
 rw[hop] at HO
 rw[hpx] at HCP
 obtain⟨eq,heq⟩:∃ x,x=encB 2 (tailQ (schR s)):=⟨_,rfl⟩
 obtain⟨ef,hef⟩:∃ x,x=encB 1 (tailF (schR s)):=⟨_,rfl⟩
 simp only[← heq,← hef] at HE2 HE1 HPB
 obtain⟨tq,htq⟩:∃ x,x=tailQ (schR s):=⟨_,rfl⟩
 obtain⟨tf,htf⟩:∃ x,x=tailF (schR s):=⟨_,rfl⟩
 obtain⟨tt,htt⟩:∃ x,x=tailT (schR s):=⟨_,rfl⟩
 obtain⟨hq,hhq⟩:∃ x,x=tailHQ (schR s):=⟨_,rfl⟩
 obtain⟨hf,hhf⟩:∃ x,x=tailHF (schR s):=⟨_,rfl⟩
 simp only[← htq,← htf,← htt,← hhq,← hhf] at HT HE2 HE1 HCP HPB
 obtain⟨sc,hsc⟩:∃ sc,sc=schS s:=⟨_,rfl⟩
 obtain⟨rs,hrs⟩:∃ rs,rs=schR s:=⟨_,rfl⟩
 simp only[← hsc,← hrs] at HS HW HO HT hw HPB
 obtain⟨wv,hwv⟩:∃ wv,wv=webP sc:=⟨_,rfl⟩
 rw[← hwv] at hw
 simp only[← hwv] at HW
 have h2:decide (0 < wv)=true:=decide_eq_true hw
 clear hsc hrs hwv heq hef htq htf htt hhq hhf hw hop h hrz ht1 hpx
 go_enter Tryz.func50,Tryz.ntmps50
 go_wp2_with fail
 refine(HS _ (G.below (bel1 w _))).out.mono ?_
 rintro e w1 ⟨rfl,b1⟩
 have B1:=bel_on (bel1 w _) b1
 have R1:=kept b1 (row1 w _)
 go_wp2_with (first|(go_at_call 33;refine(HW _).out.mono ?_;rintro e w2 ⟨rfl,rfl⟩))
 refine(must_yes _).mono ?_
 rintro e w3 ⟨rfl,rfl⟩
 go_wp2_with fail
 refine(HT _ (G.below B1)).out.mono ?_
 rintro e w3 ⟨rfl,b3⟩
 have B3:=bel_on B1 b3
 have R3:=kept b3 R1
 go_wp2_with fail
 refine(HE2 _).out.mono ?_
 rintro e w4 ⟨rfl,b4⟩
 have B4:=bel_on B3 b4
 have R4:=kept b4 R3
 go_wp2_with fail
 refine(HE1 _).out.mono ?_
 rintro e w5 ⟨rfl,b5⟩
 have B5:=bel_on B4 b5
 have R5:=kept b5 R4
 clear R1 R3 R4 b1 b3 b4 b5 B1 B3 B4
 have N5:=row1 w5 (.cells (urlC url0 (.slice none 0 0)) 27)
 go_wp2_with (first|((with_reducible (show wpList _ _ _ (Oper.mk none (.store 27 _ _) _ _ _ none::_) _ _));refine wpList_store_row rfl 27 _ _ rfl w5.heap.size _ rfl rfl 27 _ N5 url_info rfl (by simp[Value.oneCell']) ?_))
 refine(HO _).out.mono ?_
 rintro e w6 ⟨rfl,b6⟩
 have N6:w6.heap[w5.heap.size]? = some (.cells (urlC { url0 with scheme:=sc,port:=-1,query:=eq,frag:=ef,hasQ:=hq,hasF:=hf } (.slice none 0 0)) 27 (0,0)):=kept b6 (setRow_heap _ _ _ _ _ _ N5)
 have hlt:=heap_lt R5
 have R6:w6.heap[w.heap.size]? = some (.cells (urlC url0 (.slice none 0 0)) 27 (0,0)):=kept b6 ((setRow_other _ _ _ _ (by omega)).trans ((Below.heap_alloc _ _ _ hlt).trans R5))
 have B6:Below w.heap.size w w6:=bel_on (below_row (B5.alloc B5.size _) B5.size) b6
 clear N5 b6 R5
 have hu:=heap_lt N6
 have hs5:=B5.size
 obtain⟨ub,hub⟩:∃ ub,ub=w5.heap.size:=⟨_,rfl⟩
 simp only[← hub] at N6 hs5 hu hlt ⊢
 clear hub
 go_wp2_with fail
 refine(HCP _).out.mono ?_
 rintro e w7 ⟨rfl,rfl⟩
 go_wp2_with fail
 refine(must_no _).mono ?_
 rintro e w8 ⟨rfl,rfl⟩
 show bodyPost Tryz.prog Tryz.f50 _ (Exit.panic wrongE) _ _
 exact⟨rfl,B6,rfl⟩
end
section
open Go.RowKit
set_option maxHeartbeats 4000000 in
theorem parse_yn (s:ByteArray) (w:World) (G:Glob w) (hs:s.size≤100000) (h:schOK s=true) (hw:0 < webP (schS s)) (hpx:Lib.hasPrefix (tailT (schR s)).data.toList [47,47]=true) (hi:0≤pI (pRest s)) (hj:¬ 0≤pJ (pWhere (pRest s))) :
  Calls Tryz.prog 50 #[.string s] w (ParseLeft (parseX s) w):=by
 have hop:opqB (schS s)=false:=webP_opq _ hw
 have HPB:Hid (pBase s=_):=pBase.eq_1 s
 have HS:=fun w' g=>Lib.hid (scheme_any s w' g (by omega))
 have HW:=fun w'=>Lib.hid (web_any (schS s) w')
 have HO:=fun w'=>Lib.hid (opaque_any (schS s) w')
 have hrz:(schR s).size≤100000:=Nat.le_trans (schR_le s) hs
 have HT:=fun w' g=>Lib.hid (tail_any (schR s) w' g (by omega))
 have ht1:(tailT (schR s)).size≤100000∧(tailQ (schR s)).size≤100000∧(tailF (schR s)).size≤100000:=by
  have:=tail_le (schR s)
  omega
 have HE2:∀ w',Hid (Calls Tryz.prog 98 #[.string (tailQ (schR s)),.int .i64 2] w' fun e w''=>e=.returned (.string (encB 2 (tailQ (schR s))))∧Below w'.heap.size w' w''):=fun w'=>encode_any (tailQ (schR s)) 2 w' (by omega)
 have HE1:∀ w',Hid (Calls Tryz.prog 98 #[.string (tailF (schR s)),.int .i64 1] w' fun e w''=>e=.returned (.string (encB 1 (tailF (schR s))))∧Below w'.heap.size w' w''):=fun w'=>encode_any (tailF (schR s)) 1 w' (by omega)
 have HCP:∀ w',Hid (Calls Tryz.prog 99 #[.string (tailT (schR s)),.string ⟨#[47,47]⟩] w' fun e w''=>e=.returned (.tuple #[.string (pRest s),.bool (Lib.hasPrefix (tailT (schR s)).data.toList [47,47])])∧w'=w''):=fun w'=>cutPrefix_any (tailT (schR s)) ⟨#[47,47]⟩ w'
 have HX:Hid (parseX s=_):=parseX.eq_1 s
 rw[if_neg (by rw[h,decide_eq_true hw];simp),if_neg (by rw[hop];simp),if_neg (by rw[hpx];simp)] at HX
 have htz:(pRest s).size≤100000:=Nat.le_trans (pRest_le s) ht1.1
 obtain⟨tr,htr⟩:∃ x,x=pRest s:=⟨_,rfl⟩
 simp only[← htr] at HCP HX htz hi hj
 clear htr
 obtain⟨r,hr⟩:∃ r,r=parseX s:=⟨_,rfl⟩
 rw[← hr] at HX ⊢
 clear hr
 have HI:∀ w',Hid (Calls Tryz.prog 100 #[.string tr,.int .u8 47] w' fun e w''=>e=.returned (.int .i64 (pI tr))∧w'=w''):=fun w'=>indexByte_any tr 47 w'
 have hil:=(indexByte_le tr.data.toList 47).2
 rw[size_len] at hil
 obtain⟨k,hk⟩:∃ k:Nat,pI tr=(k:Int):=⟨(pI tr).toNat,by omega⟩
 have hV:pWhere tr=tr.extract 0 k:=by unfold pWhere;rw[if_pos hi,hk];rfl
 have hP:pPath tr=tr.extract k tr.size:=by unfold pPath;rw[if_pos hi,hk];rfl
 have hkl:k < tr.size:=by have:pI tr < tr.size:=hil;omega
 simp only[hk] at HI
 have ek0:(0:Int)≤(k:Int):=by omega
 have ek1:(k:Int)≤(tr.size:Int):=by omega
 rw[hV] at HX hj
 rw[hP] at HX
 clear hV hP
 have hvz:((tr.extract 0 k)).size≤100000:=by rw[ByteArray.size_extract];omega
 have hpz:((tr.extract k tr.size)).size≤300000:=by rw[ByteArray.size_extract];omega
 obtain⟨v,hv⟩:∃ v,v=(tr.extract 0 k):=⟨_,rfl⟩
 obtain⟨tp,htp⟩:∃ tp,tp=(tr.extract k tr.size):=⟨_,rfl⟩
 simp only[← hv] at HX hj hvz
 simp only[← htp] at HX hpz
 have HV:=Lib.hid hv
 have HTP:=Lib.hid htp
 clear hv htp
 have HJ:∀ w',Hid (Calls Tryz.prog 101 #[.string v,.int .u8 64] w' fun e w''=>e=.returned (.int .i64 (pJ v))∧w'=w''):=fun w'=>lastByte_any v 64 w' (by omega)
 have HP:=fun w' g=>Lib.hid (pathParse_own tp w' g hpz)
 have hU:pUser v=⟨#[]⟩:=by unfold pUser;rw[if_neg hj]
 have hPa:pPass v=⟨#[]⟩:=by unfold pPass;rw[if_neg hj]
 have hD:pDoor v=v:=by unfold pDoor;rw[if_neg hj]
 rw[hU,hPa,hD] at HX
 have hdz:v.size≤300000:=by omega
 obtain⟨jx,hjx⟩:∃ jx,jx=pJ v:=⟨_,rfl⟩
 simp only[← hjx] at HJ hj
 clear hU hPa hD hjx
 unfold SchLeft at HS
 rw[h] at HS
 rw[hop] at HO
 rw[hpx] at HCP
 obtain⟨eq,heq⟩:∃ x,x=encB 2 (tailQ (schR s)):=⟨_,rfl⟩
 obtain⟨ef,hef⟩:∃ x,x=encB 1 (tailF (schR s)):=⟨_,rfl⟩
 simp only[← heq,← hef] at HE2 HE1 HPB
 obtain⟨tq,htq⟩:∃ x,x=tailQ (schR s):=⟨_,rfl⟩
 obtain⟨tf,htf⟩:∃ x,x=tailF (schR s):=⟨_,rfl⟩
 obtain⟨tt,htt⟩:∃ x,x=tailT (schR s):=⟨_,rfl⟩
 obtain⟨hq,hhq⟩:∃ x,x=tailHQ (schR s):=⟨_,rfl⟩
 obtain⟨hf,hhf⟩:∃ x,x=tailHF (schR s):=⟨_,rfl⟩
 simp only[← htq,← htf,← htt,← hhq,← hhf] at HT HE2 HE1 HCP HPB
 obtain⟨sc,hsc⟩:∃ sc,sc=schS s:=⟨_,rfl⟩
 obtain⟨rs,hrs⟩:∃ rs,rs=schR s:=⟨_,rfl⟩
 simp only[← hsc,← hrs] at HS HW HO HT hw HPB HX
 obtain⟨wv,hwv⟩:∃ wv,wv=webP sc:=⟨_,rfl⟩
 rw[← hwv] at hw
 simp only[← hwv] at HW
 have h2:decide (0 < wv)=true:=decide_eq_true hw
 clear hsc hrs hwv heq hef htq htf htt hhq hhf hw hop h hrz ht1 hpx
 go_enter Tryz.func50,Tryz.ntmps50
 go_wp2_with fail
 refine(HS _ (G.below (bel1 w _))).out.mono ?_
 rintro e w1 ⟨rfl,b1⟩
 have B1:=bel_on (bel1 w _) b1
 have R1:=kept b1 (row1 w _)
 go_wp2_with (first|(go_at_call 33;refine(HW _).out.mono ?_;rintro e w2 ⟨rfl,rfl⟩))
 refine(must_yes _).mono ?_
 rintro e w3 ⟨rfl,rfl⟩
 go_wp2_with fail
 refine(HT _ (G.below B1)).out.mono ?_
 rintro e w3 ⟨rfl,b3⟩
 have B3:=bel_on B1 b3
 have R3:=kept b3 R1
 go_wp2_with fail
 refine(HE2 _).out.mono ?_
 rintro e w4 ⟨rfl,b4⟩
 have B4:=bel_on B3 b4
 have R4:=kept b4 R3
 go_wp2_with fail
 refine(HE1 _).out.mono ?_
 rintro e w5 ⟨rfl,b5⟩
 have B5:=bel_on B4 b5
 have R5:=kept b5 R4
 clear R1 R3 R4 b1 b3 b4 b5 B1 B3 B4
 have N5:=row1 w5 (.cells (urlC url0 (.slice none 0 0)) 27)
 go_wp2_with (first|((with_reducible (show wpList _ _ _ (Oper.mk none (.store 27 _ _) _ _ _ none::_) _ _));refine wpList_store_row rfl 27 _ _ rfl w5.heap.size _ rfl rfl 27 _ N5 url_info rfl (by simp[Value.oneCell']) ?_))
 refine(HO _).out.mono ?_
 rintro e w6 ⟨rfl,b6⟩
 have N6:w6.heap[w5.heap.size]? = some (.cells (urlC { url0 with scheme:=sc,port:=-1,query:=eq,frag:=ef,hasQ:=hq,hasF:=hf } (.slice none 0 0)) 27 (0,0)):=kept b6 (setRow_heap _ _ _ _ _ _ N5)
 have hlt:=heap_lt R5
 have R6:w6.heap[w.heap.size]? = some (.cells (urlC url0 (.slice none 0 0)) 27 (0,0)):=kept b6 ((setRow_other _ _ _ _ (by omega)).trans ((Below.heap_alloc _ _ _ hlt).trans R5))
 have B6:Below w.heap.size w w6:=bel_on (below_row (B5.alloc B5.size _) B5.size) b6
 clear N5 b6 R5
 have hu:=heap_lt N6
 have hs5:=B5.size
 obtain⟨ub,hub⟩:∃ ub,ub=w5.heap.size:=⟨_,rfl⟩
 simp only[← hub] at N6 hs5 hu hlt ⊢
 clear hub
 go_wp2_with fail
 refine(HCP _).out.mono ?_
 rintro e w7 ⟨rfl,rfl⟩
 go_wp2_with fail
 refine(must_yes _).mono ?_
 rintro e w7 ⟨rfl,rfl⟩
 go_wp2_with fail
 refine(HI _).out.mono ?_
 rintro e w7 ⟨rfl,rfl⟩
 go_wp2_with fail
 go_quiet (fail)
 have N7:(w6.drewN nq).heap[ub]? = _:=N6
 have R7:(w6.drewN nq).heap[w.heap.size]? = _:=R6
 have B7:Below w.heap.size w (w6.drewN nq):=bel_on B6 (below_drewN _ _)
 generalize w6.drewN nq=w7 at N7 R7 B7 ⊢
 rw[← HV.out,← HTP.out]
 clear HV HTP
 go_wp2_with fail
 refine(HJ _).out.mono ?_
 rintro e w8 ⟨rfl,rfl⟩
 go_wp2_with fail
 have HD:=Lib.hid (door_any ub _ _ v _ (G.below B7) N7 hdz (by have:=G.lt;omega))
 cases hd:doorX sc v with
 | none =>
  refine HD.out.mono ?_
  rintro e w8 ⟨b8,he⟩
  have he':e=.panicked wrongE:=by
   change (match doorX sc v with|none=>_|some d=>_) at he
   rw[hd] at he;exact he
  subst he'
  show bodyPost Tryz.prog Tryz.f50 _ (Exit.panic wrongE) _ _
  refine⟨rfl,B7.trans (b8.mono hs5),?_⟩
  rw[HX.out,hd];rfl
 | some d =>
  refine HD.out.mono ?_
  rintro e w8 ⟨b8,he⟩
  change (match doorX sc v with|none=>_|some d=>_) at he
  rw[hd] at he
  obtain⟨rfl,N8⟩:=he
  have R8:w8.heap[w.heap.size]? = some (.cells (urlC url0 (.slice none 0 0)) 27 (0,0)):=(b8.block _ hlt).trans R7
  have B8:=B7.trans (b8.mono hs5)
  clear HD
  go_wp2_with fail
  refine(HP _ (G.below B8)).out.mono ?_
  rintro e w9 ⟨pv,rfl,ho,b9⟩
  have N9:=kept b9 N8
  have R9:=kept b9 R8
  have B9:=bel_on B8 b9
  have hu8:=heap_lt N8
  have hr8:=heap_lt R8
  obtain⟨q,m,c,rfl⟩:=(Strs.of_own ho).slice
  have c15:=cell_in N9 15 _ rfl
  have f15:=Lib.frozen_of_heap N9 15
  have N10:(w9.setCell ⟨ub,15,none⟩ (.slice q m c)).heap[ub]? = some (.cells (urlC (setDoor { url0 with scheme:=sc,port:=-1,query:=eq,frag:=ef,hasQ:=hq,hasF:=hf } d) (.slice q m c)) 27 (0,0)):=by
   rw[heap_setCell_same _ _ _ _ _ _ N9];simp[urlC]
  have R10:(w9.setCell ⟨ub,15,none⟩ (.slice q m c)).heap[w.heap.size]? = some (.cells (urlC url0 (.slice none 0 0)) 27 (0,0)):=(Below.heap_setCell _ _ _ _ (by simp;omega)).trans R9
  have B10:Below w.heap.size w (w9.setCell ⟨ub,15,none⟩ (.slice q m c)):=B9.setCell (p:=⟨ub,15,none⟩) hs5 _
  have ho10:=ownsRow_setCell_below ho (a:=⟨ub,15,none⟩) hu8 (.slice q m c)
  have HO:=Lib.hid (own_base (own_setRow (g:=w.heap.size) (cs:=urlC (setDoor { url0 with scheme:=sc,port:=-1,query:=eq,frag:=ef,hasQ:=hq,hasF:=hf } d) (.slice q m c)) ho10 hr8) (Nat.le_of_lt hr8))
  have HR:Hid (r=some { setDoor { url0 with scheme:=sc,port:=-1,query:=eq,frag:=ef,hasQ:=hq,hasF:=hf } d with path:=pathL tp }):=by show _=_;rw[HX.out,hd,HPB.out];rfl
  clear HX HPB ho ho10 N9 R9
  go_wp2_with (first
   | ((with_reducible (show wpList _ _ _ (Oper.mk _ (.load 27 _) _ _ _ none::_) _ _));refine wpList_load_row rfl 27 _ rfl ub rfl 27 _ (0,0) _ N10 Tryz.underlying27 rfl url_info ?_)
   | ((with_reducible (show wpList _ _ _ (Oper.mk none (.store 27 _ _) _ _ _ none::_) _ _));refine wpList_store_row rfl 27 _ _ rfl w.heap.size _ rfl rfl 27 _ R10 url_info rfl (by simp[Value.oneCell']) ?_))
  refine bodyPost_ret (results_cell_row rfl _ _ _ _ _ (0,0) _ rfl (setRow_heap _ _ _ _ _ _ R10) Tryz.underlying27 rfl url_info) rfl ?_
  rw[HR.out]
  exact⟨below_row B10 (Nat.le_refl _),_,rfl,HO.out⟩
set_option maxHeartbeats 4000000 in
theorem parse_nn (s:ByteArray) (w:World) (G:Glob w) (hs:s.size≤100000) (h:schOK s=true) (hw:0 < webP (schS s)) (hpx:Lib.hasPrefix (tailT (schR s)).data.toList [47,47]=true) (hi:¬ 0≤pI (pRest s)) (hj:¬ 0≤pJ (pWhere (pRest s))) :
  Calls Tryz.prog 50 #[.string s] w (ParseLeft (parseX s) w):=by
 have hop:opqB (schS s)=false:=webP_opq _ hw
 have HPB:Hid (pBase s=_):=pBase.eq_1 s
 have HS:=fun w' g=>Lib.hid (scheme_any s w' g (by omega))
 have HW:=fun w'=>Lib.hid (web_any (schS s) w')
 have HO:=fun w'=>Lib.hid (opaque_any (schS s) w')
 have hrz:(schR s).size≤100000:=Nat.le_trans (schR_le s) hs
 have HT:=fun w' g=>Lib.hid (tail_any (schR s) w' g (by omega))
 have ht1:(tailT (schR s)).size≤100000∧(tailQ (schR s)).size≤100000∧(tailF (schR s)).size≤100000:=by
  have:=tail_le (schR s)
  omega
 have HE2:∀ w',Hid (Calls Tryz.prog 98 #[.string (tailQ (schR s)),.int .i64 2] w' fun e w''=>e=.returned (.string (encB 2 (tailQ (schR s))))∧Below w'.heap.size w' w''):=fun w'=>encode_any (tailQ (schR s)) 2 w' (by omega)
 have HE1:∀ w',Hid (Calls Tryz.prog 98 #[.string (tailF (schR s)),.int .i64 1] w' fun e w''=>e=.returned (.string (encB 1 (tailF (schR s))))∧Below w'.heap.size w' w''):=fun w'=>encode_any (tailF (schR s)) 1 w' (by omega)
 have HCP:∀ w',Hid (Calls Tryz.prog 99 #[.string (tailT (schR s)),.string ⟨#[47,47]⟩] w' fun e w''=>e=.returned (.tuple #[.string (pRest s),.bool (Lib.hasPrefix (tailT (schR s)).data.toList [47,47])])∧w'=w''):=fun w'=>cutPrefix_any (tailT (schR s)) ⟨#[47,47]⟩ w'
 have HX:Hid (parseX s=_):=parseX.eq_1 s
 rw[if_neg (by rw[h,decide_eq_true hw];simp),if_neg (by rw[hop];simp),if_neg (by rw[hpx];simp)] at HX
 have htz:(pRest s).size≤100000:=Nat.le_trans (pRest_le s) ht1.1
 obtain⟨tr,htr⟩:∃ x,x=pRest s:=⟨_,rfl⟩
 simp only[← htr] at HCP HX htz hi hj
 clear htr
 obtain⟨r,hr⟩:∃ r,r=parseX s:=⟨_,rfl⟩
 rw[← hr] at HX ⊢
 clear hr
 have HI:∀ w',Hid (Calls Tryz.prog 100 #[.string tr,.int .u8 47] w' fun e w''=>e=.returned (.int .i64 (pI tr))∧w'=w''):=fun w'=>indexByte_any tr 47 w'
 have hV:pWhere tr=tr:=by unfold pWhere;rw[if_neg hi]
 have hP:pPath tr=⟨#[]⟩:=by unfold pPath;rw[if_neg hi]
 obtain⟨ix,hix⟩:∃ ix,ix=pI tr:=⟨_,rfl⟩
 simp only[← hix] at HI hi
 clear hix
 rw[hV] at HX hj
 rw[hP] at HX
 clear hV hP
 have hvz:(tr).size≤100000:=by exact htz
 have hpz:((⟨#[]⟩:ByteArray)).size≤300000:=by decide
 obtain⟨v,hv⟩:∃ v,v=tr:=⟨_,rfl⟩
 obtain⟨tp,htp⟩:∃ tp,tp=(⟨#[]⟩:ByteArray):=⟨_,rfl⟩
 simp only[← hv] at HX hj hvz
 simp only[← htp] at HX hpz
 have HV:=Lib.hid hv
 have HTP:=Lib.hid htp
 clear hv htp
 have HJ:∀ w',Hid (Calls Tryz.prog 101 #[.string v,.int .u8 64] w' fun e w''=>e=.returned (.int .i64 (pJ v))∧w'=w''):=fun w'=>lastByte_any v 64 w' (by omega)
 have HP:=fun w' g=>Lib.hid (pathParse_own tp w' g hpz)
 have hU:pUser v=⟨#[]⟩:=by unfold pUser;rw[if_neg hj]
 have hPa:pPass v=⟨#[]⟩:=by unfold pPass;rw[if_neg hj]
 have hD:pDoor v=v:=by unfold pDoor;rw[if_neg hj]
 rw[hU,hPa,hD] at HX
 have hdz:v.size≤300000:=by omega
 obtain⟨jx,hjx⟩:∃ jx,jx=pJ v:=⟨_,rfl⟩
 simp only[← hjx] at HJ hj
 clear hU hPa hD hjx
 unfold SchLeft at HS
 rw[h] at HS
 rw[hop] at HO
 rw[hpx] at HCP
 obtain⟨eq,heq⟩:∃ x,x=encB 2 (tailQ (schR s)):=⟨_,rfl⟩
 obtain⟨ef,hef⟩:∃ x,x=encB 1 (tailF (schR s)):=⟨_,rfl⟩
 simp only[← heq,← hef] at HE2 HE1 HPB
 obtain⟨tq,htq⟩:∃ x,x=tailQ (schR s):=⟨_,rfl⟩
 obtain⟨tf,htf⟩:∃ x,x=tailF (schR s):=⟨_,rfl⟩
 obtain⟨tt,htt⟩:∃ x,x=tailT (schR s):=⟨_,rfl⟩
 obtain⟨hq,hhq⟩:∃ x,x=tailHQ (schR s):=⟨_,rfl⟩
 obtain⟨hf,hhf⟩:∃ x,x=tailHF (schR s):=⟨_,rfl⟩
 simp only[← htq,← htf,← htt,← hhq,← hhf] at HT HE2 HE1 HCP HPB
 obtain⟨sc,hsc⟩:∃ sc,sc=schS s:=⟨_,rfl⟩
 obtain⟨rs,hrs⟩:∃ rs,rs=schR s:=⟨_,rfl⟩
 simp only[← hsc,← hrs] at HS HW HO HT hw HPB HX
 obtain⟨wv,hwv⟩:∃ wv,wv=webP sc:=⟨_,rfl⟩
 rw[← hwv] at hw
 simp only[← hwv] at HW
 have h2:decide (0 < wv)=true:=decide_eq_true hw
 clear hsc hrs hwv heq hef htq htf htt hhq hhf hw hop h hrz ht1 hpx
 go_enter Tryz.func50,Tryz.ntmps50
 go_wp2_with fail
 refine(HS _ (G.below (bel1 w _))).out.mono ?_
 rintro e w1 ⟨rfl,b1⟩
 have B1:=bel_on (bel1 w _) b1
 have R1:=kept b1 (row1 w _)
 go_wp2_with (first|(go_at_call 33;refine(HW _).out.mono ?_;rintro e w2 ⟨rfl,rfl⟩))
 refine(must_yes _).mono ?_
 rintro e w3 ⟨rfl,rfl⟩
 go_wp2_with fail
 refine(HT _ (G.below B1)).out.mono ?_
 rintro e w3 ⟨rfl,b3⟩
 have B3:=bel_on B1 b3
 have R3:=kept b3 R1
 go_wp2_with fail
 refine(HE2 _).out.mono ?_
 rintro e w4 ⟨rfl,b4⟩
 have B4:=bel_on B3 b4
 have R4:=kept b4 R3
 go_wp2_with fail
 refine(HE1 _).out.mono ?_
 rintro e w5 ⟨rfl,b5⟩
 have B5:=bel_on B4 b5
 have R5:=kept b5 R4
 clear R1 R3 R4 b1 b3 b4 b5 B1 B3 B4
 have N5:=row1 w5 (.cells (urlC url0 (.slice none 0 0)) 27)
 go_wp2_with (first|((with_reducible (show wpList _ _ _ (Oper.mk none (.store 27 _ _) _ _ _ none::_) _ _));refine wpList_store_row rfl 27 _ _ rfl w5.heap.size _ rfl rfl 27 _ N5 url_info rfl (by simp[Value.oneCell']) ?_))
 refine(HO _).out.mono ?_
 rintro e w6 ⟨rfl,b6⟩
 have N6:w6.heap[w5.heap.size]? = some (.cells (urlC { url0 with scheme:=sc,port:=-1,query:=eq,frag:=ef,hasQ:=hq,hasF:=hf } (.slice none 0 0)) 27 (0,0)):=kept b6 (setRow_heap _ _ _ _ _ _ N5)
 have hlt:=heap_lt R5
 have R6:w6.heap[w.heap.size]? = some (.cells (urlC url0 (.slice none 0 0)) 27 (0,0)):=kept b6 ((setRow_other _ _ _ _ (by omega)).trans ((Below.heap_alloc _ _ _ hlt).trans R5))
 have B6:Below w.heap.size w w6:=bel_on (below_row (B5.alloc B5.size _) B5.size) b6
 clear N5 b6 R5
 have hu:=heap_lt N6
 have hs5:=B5.size
 obtain⟨ub,hub⟩:∃ ub,ub=w5.heap.size:=⟨_,rfl⟩
 simp only[← hub] at N6 hs5 hu hlt ⊢
 clear hub
 go_wp2_with fail
 refine(HCP _).out.mono ?_
 rintro e w7 ⟨rfl,rfl⟩
 go_wp2_with fail
 refine(must_yes _).mono ?_
 rintro e w7 ⟨rfl,rfl⟩
 go_wp2_with fail
 refine(HI _).out.mono ?_
 rintro e w7 ⟨rfl,rfl⟩
 have N7:=N6
 have R7:=R6
 have B7:=B6
 go_wp2_with fail
 rw[← HV.out]
 rw[← HTP.out]
 clear HV HTP
 go_wp2_with fail
 refine(HJ _).out.mono ?_
 rintro e w8 ⟨rfl,rfl⟩
 go_wp2_with fail
 have HD:=Lib.hid (door_any ub _ _ v _ (G.below B7) N7 hdz (by have:=G.lt;omega))
 cases hd:doorX sc v with
 | none =>
  refine HD.out.mono ?_
  rintro e w8 ⟨b8,he⟩
  have he':e=.panicked wrongE:=by
   change (match doorX sc v with|none=>_|some d=>_) at he
   rw[hd] at he;exact he
  subst he'
  show bodyPost Tryz.prog Tryz.f50 _ (Exit.panic wrongE) _ _
  refine⟨rfl,B7.trans (b8.mono hs5),?_⟩
  rw[HX.out,hd];rfl
 | some d =>
  refine HD.out.mono ?_
  rintro e w8 ⟨b8,he⟩
  change (match doorX sc v with|none=>_|some d=>_) at he
  rw[hd] at he
  obtain⟨rfl,N8⟩:=he
  have R8:w8.heap[w.heap.size]? = some (.cells (urlC url0 (.slice none 0 0)) 27 (0,0)):=(b8.block _ hlt).trans R7
  have B8:=B7.trans (b8.mono hs5)
  clear HD
  go_wp2_with fail
  refine(HP _ (G.below B8)).out.mono ?_
  rintro e w9 ⟨pv,rfl,ho,b9⟩
  have N9:=kept b9 N8
  have R9:=kept b9 R8
  have B9:=bel_on B8 b9
  have hu8:=heap_lt N8
  have hr8:=heap_lt R8
  obtain⟨q,m,c,rfl⟩:=(Strs.of_own ho).slice
  have c15:=cell_in N9 15 _ rfl
  have f15:=Lib.frozen_of_heap N9 15
  have N10:(w9.setCell ⟨ub,15,none⟩ (.slice q m c)).heap[ub]? = some (.cells (urlC (setDoor { url0 with scheme:=sc,port:=-1,query:=eq,frag:=ef,hasQ:=hq,hasF:=hf } d) (.slice q m c)) 27 (0,0)):=by
   rw[heap_setCell_same _ _ _ _ _ _ N9];simp[urlC]
  have R10:(w9.setCell ⟨ub,15,none⟩ (.slice q m c)).heap[w.heap.size]? = some (.cells (urlC url0 (.slice none 0 0)) 27 (0,0)):=(Below.heap_setCell _ _ _ _ (by simp;omega)).trans R9
  have B10:Below w.heap.size w (w9.setCell ⟨ub,15,none⟩ (.slice q m c)):=B9.setCell (p:=⟨ub,15,none⟩) hs5 _
  have ho10:=ownsRow_setCell_below ho (a:=⟨ub,15,none⟩) hu8 (.slice q m c)
  have HO:=Lib.hid (own_base (own_setRow (g:=w.heap.size) (cs:=urlC (setDoor { url0 with scheme:=sc,port:=-1,query:=eq,frag:=ef,hasQ:=hq,hasF:=hf } d) (.slice q m c)) ho10 hr8) (Nat.le_of_lt hr8))
  have HR:Hid (r=some { setDoor { url0 with scheme:=sc,port:=-1,query:=eq,frag:=ef,hasQ:=hq,hasF:=hf } d with path:=pathL tp }):=by show _=_;rw[HX.out,hd,HPB.out];rfl
  clear HX HPB ho ho10 N9 R9
  go_wp2_with (first
   | ((with_reducible (show wpList _ _ _ (Oper.mk _ (.load 27 _) _ _ _ none::_) _ _));refine wpList_load_row rfl 27 _ rfl ub rfl 27 _ (0,0) _ N10 Tryz.underlying27 rfl url_info ?_)
   | ((with_reducible (show wpList _ _ _ (Oper.mk none (.store 27 _ _) _ _ _ none::_) _ _));refine wpList_store_row rfl 27 _ _ rfl w.heap.size _ rfl rfl 27 _ R10 url_info rfl (by simp[Value.oneCell']) ?_))
  refine bodyPost_ret (results_cell_row rfl _ _ _ _ _ (0,0) _ rfl (setRow_heap _ _ _ _ _ _ R10) Tryz.underlying27 rfl url_info) rfl ?_
  rw[HR.out]
  exact⟨below_row B10 (Nat.le_refl _),_,rfl,HO.out⟩
set_option maxHeartbeats 4000000 in
theorem parse_yy (s:ByteArray) (w:World) (G:Glob w) (hs:s.size≤100000) (h:schOK s=true) (hw:0 < webP (schS s)) (hpx:Lib.hasPrefix (tailT (schR s)).data.toList [47,47]=true) (hi:0≤pI (pRest s)) (hj:0≤pJ (pWhere (pRest s))) :
  Calls Tryz.prog 50 #[.string s] w (ParseLeft (parseX s) w):=by
 have hop:opqB (schS s)=false:=webP_opq _ hw
 have HPB:Hid (pBase s=_):=pBase.eq_1 s
 have HS:=fun w' g=>Lib.hid (scheme_any s w' g (by omega))
 have HW:=fun w'=>Lib.hid (web_any (schS s) w')
 have HO:=fun w'=>Lib.hid (opaque_any (schS s) w')
 have hrz:(schR s).size≤100000:=Nat.le_trans (schR_le s) hs
 have HT:=fun w' g=>Lib.hid (tail_any (schR s) w' g (by omega))
 have ht1:(tailT (schR s)).size≤100000∧(tailQ (schR s)).size≤100000∧(tailF (schR s)).size≤100000:=by
  have:=tail_le (schR s)
  omega
 have HE2:∀ w',Hid (Calls Tryz.prog 98 #[.string (tailQ (schR s)),.int .i64 2] w' fun e w''=>e=.returned (.string (encB 2 (tailQ (schR s))))∧Below w'.heap.size w' w''):=fun w'=>encode_any (tailQ (schR s)) 2 w' (by omega)
 have HE1:∀ w',Hid (Calls Tryz.prog 98 #[.string (tailF (schR s)),.int .i64 1] w' fun e w''=>e=.returned (.string (encB 1 (tailF (schR s))))∧Below w'.heap.size w' w''):=fun w'=>encode_any (tailF (schR s)) 1 w' (by omega)
 have HCP:∀ w',Hid (Calls Tryz.prog 99 #[.string (tailT (schR s)),.string ⟨#[47,47]⟩] w' fun e w''=>e=.returned (.tuple #[.string (pRest s),.bool (Lib.hasPrefix (tailT (schR s)).data.toList [47,47])])∧w'=w''):=fun w'=>cutPrefix_any (tailT (schR s)) ⟨#[47,47]⟩ w'
 have HX:Hid (parseX s=_):=parseX.eq_1 s
 rw[if_neg (by rw[h,decide_eq_true hw];simp),if_neg (by rw[hop];simp),if_neg (by rw[hpx];simp)] at HX
 have htz:(pRest s).size≤100000:=Nat.le_trans (pRest_le s) ht1.1
 obtain⟨tr,htr⟩:∃ x,x=pRest s:=⟨_,rfl⟩
 simp only[← htr] at HCP HX htz hi hj
 clear htr
 obtain⟨r,hr⟩:∃ r,r=parseX s:=⟨_,rfl⟩
 rw[← hr] at HX ⊢
 clear hr
 have HI:∀ w',Hid (Calls Tryz.prog 100 #[.string tr,.int .u8 47] w' fun e w''=>e=.returned (.int .i64 (pI tr))∧w'=w''):=fun w'=>indexByte_any tr 47 w'
 have hil:=(indexByte_le tr.data.toList 47).2
 rw[size_len] at hil
 obtain⟨k,hk⟩:∃ k:Nat,pI tr=(k:Int):=⟨(pI tr).toNat,by omega⟩
 have hV:pWhere tr=tr.extract 0 k:=by unfold pWhere;rw[if_pos hi,hk];rfl
 have hP:pPath tr=tr.extract k tr.size:=by unfold pPath;rw[if_pos hi,hk];rfl
 have hkl:k < tr.size:=by have:pI tr < tr.size:=hil;omega
 simp only[hk] at HI
 have ek0:(0:Int)≤(k:Int):=by omega
 have ek1:(k:Int)≤(tr.size:Int):=by omega
 rw[hV] at HX hj
 rw[hP] at HX
 clear hV hP
 have hvz:((tr.extract 0 k)).size≤100000:=by rw[ByteArray.size_extract];omega
 have hpz:((tr.extract k tr.size)).size≤300000:=by rw[ByteArray.size_extract];omega
 obtain⟨v,hv⟩:∃ v,v=(tr.extract 0 k):=⟨_,rfl⟩
 obtain⟨tp,htp⟩:∃ tp,tp=(tr.extract k tr.size):=⟨_,rfl⟩
 simp only[← hv] at HX hj hvz
 simp only[← htp] at HX hpz
 have HV:=Lib.hid hv
 have HTP:=Lib.hid htp
 clear hv htp
 have HJ:∀ w',Hid (Calls Tryz.prog 101 #[.string v,.int .u8 64] w' fun e w''=>e=.returned (.int .i64 (pJ v))∧w'=w''):=fun w'=>lastByte_any v 64 w' (by omega)
 have HP:=fun w' g=>Lib.hid (pathParse_own tp w' g hpz)
 have hjl:=lastIndex_lt v 64
 obtain⟨m,hm⟩:∃ m:Nat,pJ v=(m:Int):=⟨(pJ v).toNat,by omega⟩
 have hml:m < v.size:=by have:pJ v < v.size:=hjl;omega
 have hU:pUser v=encB 4 (bs (pUp v).1):=by unfold pUser;rw[if_pos hj]
 have hPa:pPass v=encB 4 (bs (pUp v).2.1):=by unfold pPass;rw[if_pos hj]
 have hD:pDoor v=v.extract (m + 1) v.size:=by unfold pDoor;rw[if_pos hj,hm];rfl
 simp only[hm] at HJ
 have em0:(0:Int)≤(m:Int):=by omega
 have em1:(m:Int)≤(v.size:Int):=by omega
 have em2:IntKind.i64.wrap ((m:Int) + 1)=((m + 1:Nat):Int):=by rw[IntKind.wrap_i64];omega
 have em3:(((m + 1:Nat):Int))≤(v.size:Int):=by omega
 rw[hU,hPa,hD] at HX
 have hup:pUp v=Lib.cut (v.extract 0 m).data.toList [58]:=by unfold pUp;rw[hm];rfl
 have hcu:=cut_le (v.extract 0 m).data.toList [58]
 have hez:(v.extract 0 m).size≤100000:=by rw[ByteArray.size_extract];omega
 rw[size_len] at hcu
 have HC:∀ w' (g:Glob w'),Hid (Calls Tryz.prog 27 #[.string (v.extract 0 m),.string ⟨#[58]⟩] w' fun e w''=>e=.returned (.tuple #[.string (bs (pUp v).1),.string (bs (pUp v).2.1),.bool (pUp v).2.2])∧Below w'.heap.size w' w''):=fun w' g=>by
  rw[hup];exact cut_any (v.extract 0 m) ⟨#[58]⟩ w' g (by omega)
 rw[← hup] at hcu
 have hd1:(bs (pUp v).1).size≤100000:=by rw[bs_size];omega
 have hd2:(bs (pUp v).2.1).size≤100000:=by rw[bs_size];omega
 have HU:∀ w',Hid (Calls Tryz.prog 98 #[.string (bs (pUp v).1),.int .i64 4] w' fun e w''=>e=.returned (.string (encB 4 (bs (pUp v).1)))∧Below w'.heap.size w' w''):=fun w'=>encode_any (bs (pUp v).1) 4 w' (by omega)
 have HA:∀ w',Hid (Calls Tryz.prog 98 #[.string (bs (pUp v).2.1),.int .i64 4] w' fun e w''=>e=.returned (.string (encB 4 (bs (pUp v).2.1)))∧Below w'.heap.size w' w''):=fun w'=>encode_any (bs (pUp v).2.1) 4 w' (by omega)
 obtain⟨us,hus⟩:∃ us,us=encB 4 (bs (pUp v).1):=⟨_,rfl⟩
 obtain⟨pa,hpa⟩:∃ pa,pa=encB 4 (bs (pUp v).2.1):=⟨_,rfl⟩
 simp only[← hus,← hpa] at HU HA HX
 obtain⟨c1,hc1⟩:∃ c1,c1=bs (pUp v).1:=⟨_,rfl⟩
 obtain⟨c2,hc2⟩:∃ c2,c2=bs (pUp v).2.1:=⟨_,rfl⟩
 obtain⟨c3,hc3⟩:∃ c3,c3=(pUp v).2.2:=⟨_,rfl⟩
 simp only[← hc1,← hc2,← hc3] at HU HA HC
 have hdz:(v.extract (m + 1) v.size).size≤300000:=by rw[ByteArray.size_extract];omega
 obtain⟨dd,hdd⟩:∃ dd,dd=v.extract (m + 1) v.size:=⟨_,rfl⟩
 simp only[← hdd] at HX hdz
 have HDD:=Lib.hid hdd
 clear hdd
 clear hU hPa hD hup hcu hez hd1 hd2 hus hpa hc1 hc2 hc3 hjl hm hml
 unfold SchLeft at HS
 rw[h] at HS
 rw[hop] at HO
 rw[hpx] at HCP
 obtain⟨eq,heq⟩:∃ x,x=encB 2 (tailQ (schR s)):=⟨_,rfl⟩
 obtain⟨ef,hef⟩:∃ x,x=encB 1 (tailF (schR s)):=⟨_,rfl⟩
 simp only[← heq,← hef] at HE2 HE1 HPB
 obtain⟨tq,htq⟩:∃ x,x=tailQ (schR s):=⟨_,rfl⟩
 obtain⟨tf,htf⟩:∃ x,x=tailF (schR s):=⟨_,rfl⟩
 obtain⟨tt,htt⟩:∃ x,x=tailT (schR s):=⟨_,rfl⟩
 obtain⟨hq,hhq⟩:∃ x,x=tailHQ (schR s):=⟨_,rfl⟩
 obtain⟨hf,hhf⟩:∃ x,x=tailHF (schR s):=⟨_,rfl⟩
 simp only[← htq,← htf,← htt,← hhq,← hhf] at HT HE2 HE1 HCP HPB
 obtain⟨sc,hsc⟩:∃ sc,sc=schS s:=⟨_,rfl⟩
 obtain⟨rs,hrs⟩:∃ rs,rs=schR s:=⟨_,rfl⟩
 simp only[← hsc,← hrs] at HS HW HO HT hw HPB HX
 obtain⟨wv,hwv⟩:∃ wv,wv=webP sc:=⟨_,rfl⟩
 rw[← hwv] at hw
 simp only[← hwv] at HW
 have h2:decide (0 < wv)=true:=decide_eq_true hw
 clear hsc hrs hwv heq hef htq htf htt hhq hhf hw hop h hrz ht1 hpx
 go_enter Tryz.func50,Tryz.ntmps50
 go_wp2_with fail
 refine(HS _ (G.below (bel1 w _))).out.mono ?_
 rintro e w1 ⟨rfl,b1⟩
 have B1:=bel_on (bel1 w _) b1
 have R1:=kept b1 (row1 w _)
 go_wp2_with (first|(go_at_call 33;refine(HW _).out.mono ?_;rintro e w2 ⟨rfl,rfl⟩))
 refine(must_yes _).mono ?_
 rintro e w3 ⟨rfl,rfl⟩
 go_wp2_with fail
 refine(HT _ (G.below B1)).out.mono ?_
 rintro e w3 ⟨rfl,b3⟩
 have B3:=bel_on B1 b3
 have R3:=kept b3 R1
 go_wp2_with fail
 refine(HE2 _).out.mono ?_
 rintro e w4 ⟨rfl,b4⟩
 have B4:=bel_on B3 b4
 have R4:=kept b4 R3
 go_wp2_with fail
 refine(HE1 _).out.mono ?_
 rintro e w5 ⟨rfl,b5⟩
 have B5:=bel_on B4 b5
 have R5:=kept b5 R4
 clear R1 R3 R4 b1 b3 b4 b5 B1 B3 B4
 have N5:=row1 w5 (.cells (urlC url0 (.slice none 0 0)) 27)
 go_wp2_with (first|((with_reducible (show wpList _ _ _ (Oper.mk none (.store 27 _ _) _ _ _ none::_) _ _));refine wpList_store_row rfl 27 _ _ rfl w5.heap.size _ rfl rfl 27 _ N5 url_info rfl (by simp[Value.oneCell']) ?_))
 refine(HO _).out.mono ?_
 rintro e w6 ⟨rfl,b6⟩
 have N6:w6.heap[w5.heap.size]? = some (.cells (urlC { url0 with scheme:=sc,port:=-1,query:=eq,frag:=ef,hasQ:=hq,hasF:=hf } (.slice none 0 0)) 27 (0,0)):=kept b6 (setRow_heap _ _ _ _ _ _ N5)
 have hlt:=heap_lt R5
 have R6:w6.heap[w.heap.size]? = some (.cells (urlC url0 (.slice none 0 0)) 27 (0,0)):=kept b6 ((setRow_other _ _ _ _ (by omega)).trans ((Below.heap_alloc _ _ _ hlt).trans R5))
 have B6:Below w.heap.size w w6:=bel_on (below_row (B5.alloc B5.size _) B5.size) b6
 clear N5 b6 R5
 have hu:=heap_lt N6
 have hs5:=B5.size
 obtain⟨ub,hub⟩:∃ ub,ub=w5.heap.size:=⟨_,rfl⟩
 simp only[← hub] at N6 hs5 hu hlt ⊢
 clear hub
 go_wp2_with fail
 refine(HCP _).out.mono ?_
 rintro e w7 ⟨rfl,rfl⟩
 go_wp2_with fail
 refine(must_yes _).mono ?_
 rintro e w7 ⟨rfl,rfl⟩
 go_wp2_with fail
 refine(HI _).out.mono ?_
 rintro e w7 ⟨rfl,rfl⟩
 go_wp2_with fail
 go_quiet (fail)
 have N7:(w6.drewN nq).heap[ub]? = _:=N6
 have R7:(w6.drewN nq).heap[w.heap.size]? = _:=R6
 have B7:Below w.heap.size w (w6.drewN nq):=bel_on B6 (below_drewN _ _)
 generalize w6.drewN nq=w7 at N7 R7 B7 ⊢
 rw[← HV.out,← HTP.out]
 clear HV HTP
 go_wp2_with fail
 refine(HJ _).out.mono ?_
 rintro e w8 ⟨rfl,rfl⟩
 go_wp2_with fail
 refine(HC _ (G.below B7)).out.mono ?_
 rintro e w8 ⟨rfl,b8⟩
 have N8:=kept b8 N7
 have R8:=kept b8 R7
 have B8:=bel_on B7 b8
 clear N7 R7 B7
 go_upto_region 18 with fail
 go_cut [12] from 87 to 96 (fun t wx=>t=.string dd∧wx.heap[ub]? = some (.cells (urlC { url0 with scheme:=sc,user:=us,pass:=pa,port:=-1,query:=eq,frag:=ef,hasQ:=hq,hasF:=hf } (.slice none 0 0)) 27 (0,0))∧wx.heap[w.heap.size]? = some (.cells (urlC url0 (.slice none 0 0)) 27 (0,0))∧Below w.heap.size w wx)
 case first =>
  first|go_region_with (first
   | (go_at_call_of 98 c1;refine(HU _).out.mono ?_;rintro e w9 ⟨rfl,b9⟩;have N9:=kept b9 N8;have R9:=kept b9 R8;have B9:=bel_on B8.drew b9)
   | (go_at_call_of 98 c2;refine(HA _).out.mono ?_;rintro e w10 ⟨rfl,b10⟩;have N10:=kept b10 N9;have R10:=kept b10 R9;have B10:=bel_on B9 b10;have c1:=cell_in N10 1 _ rfl;have c2:=cell_in N10 2 _ rfl;have f1:=Lib.frozen_of_heap N10 1;have f2:=Lib.frozen_of_heap N10 2))|fail
  all_goals go_wp2
  all_goals go_meet
  all_goals exact⟨by rw[HDD.out],by rw[heap_setCell_same _ _ _ _ _ _ (heap_setCell_same _ _ _ _ _ _ N10)];simp[urlC],(Below.heap_setCell _ _ _ _ (by simp;omega)).trans ((Below.heap_setCell _ _ _ _ (by simp;omega)).trans R10),(B10.setCell (p:=⟨ub,1,none⟩) hs5 _).setCell (p:=⟨ub,2,none⟩) hs5 _⟩
 case rest =>
 obtain⟨rfl,N7,R7,B7⟩:=hcut
 rename_i w7
 go_wp2_with fail
 have HD:=Lib.hid (door_any ub _ _ dd _ (G.below B7) N7 hdz (by have:=G.lt;omega))
 cases hd:doorX sc dd with
 | none =>
  refine HD.out.mono ?_
  rintro e w8 ⟨b8,he⟩
  have he':e=.panicked wrongE:=by
   change (match doorX sc dd with|none=>_|some d=>_) at he
   rw[hd] at he;exact he
  subst he'
  show bodyPost Tryz.prog Tryz.f50 _ (Exit.panic wrongE) _ _
  refine⟨rfl,B7.trans (b8.mono hs5),?_⟩
  rw[HX.out,hd];rfl
 | some d =>
  refine HD.out.mono ?_
  rintro e w8 ⟨b8,he⟩
  change (match doorX sc dd with|none=>_|some d=>_) at he
  rw[hd] at he
  obtain⟨rfl,N8⟩:=he
  have R8:w8.heap[w.heap.size]? = some (.cells (urlC url0 (.slice none 0 0)) 27 (0,0)):=(b8.block _ hlt).trans R7
  have B8:=B7.trans (b8.mono hs5)
  clear HD
  go_wp2_with fail
  refine(HP _ (G.below B8)).out.mono ?_
  rintro e w9 ⟨pv,rfl,ho,b9⟩
  have N9:=kept b9 N8
  have R9:=kept b9 R8
  have B9:=bel_on B8 b9
  have hu8:=heap_lt N8
  have hr8:=heap_lt R8
  obtain⟨q,m,c,rfl⟩:=(Strs.of_own ho).slice
  have c15:=cell_in N9 15 _ rfl
  have f15:=Lib.frozen_of_heap N9 15
  have N10:(w9.setCell ⟨ub,15,none⟩ (.slice q m c)).heap[ub]? = some (.cells (urlC (setDoor { url0 with scheme:=sc,user:=us,pass:=pa,port:=-1,query:=eq,frag:=ef,hasQ:=hq,hasF:=hf } d) (.slice q m c)) 27 (0,0)):=by
   rw[heap_setCell_same _ _ _ _ _ _ N9];simp[urlC]
  have R10:(w9.setCell ⟨ub,15,none⟩ (.slice q m c)).heap[w.heap.size]? = some (.cells (urlC url0 (.slice none 0 0)) 27 (0,0)):=(Below.heap_setCell _ _ _ _ (by simp;omega)).trans R9
  have B10:Below w.heap.size w (w9.setCell ⟨ub,15,none⟩ (.slice q m c)):=B9.setCell (p:=⟨ub,15,none⟩) hs5 _
  have ho10:=ownsRow_setCell_below ho (a:=⟨ub,15,none⟩) hu8 (.slice q m c)
  have HO:=Lib.hid (own_base (own_setRow (g:=w.heap.size) (cs:=urlC (setDoor { url0 with scheme:=sc,user:=us,pass:=pa,port:=-1,query:=eq,frag:=ef,hasQ:=hq,hasF:=hf } d) (.slice q m c)) ho10 hr8) (Nat.le_of_lt hr8))
  have HR:Hid (r=some { setDoor { url0 with scheme:=sc,user:=us,pass:=pa,port:=-1,query:=eq,frag:=ef,hasQ:=hq,hasF:=hf } d with path:=pathL tp }):=by show _=_;rw[HX.out,hd,HPB.out];rfl
  clear HX HPB ho ho10 N9 R9
  go_wp2_with (first
   | ((with_reducible (show wpList _ _ _ (Oper.mk _ (.load 27 _) _ _ _ none::_) _ _));refine wpList_load_row rfl 27 _ rfl ub rfl 27 _ (0,0) _ N10 Tryz.underlying27 rfl url_info ?_)
   | ((with_reducible (show wpList _ _ _ (Oper.mk none (.store 27 _ _) _ _ _ none::_) _ _));refine wpList_store_row rfl 27 _ _ rfl w.heap.size _ rfl rfl 27 _ R10 url_info rfl (by simp[Value.oneCell']) ?_))
  refine bodyPost_ret (results_cell_row rfl _ _ _ _ _ (0,0) _ rfl (setRow_heap _ _ _ _ _ _ R10) Tryz.underlying27 rfl url_info) rfl ?_
  rw[HR.out]
  exact⟨below_row B10 (Nat.le_refl _),_,rfl,HO.out⟩
set_option maxHeartbeats 4000000 in
theorem parse_ny (s:ByteArray) (w:World) (G:Glob w) (hs:s.size≤100000) (h:schOK s=true) (hw:0 < webP (schS s)) (hpx:Lib.hasPrefix (tailT (schR s)).data.toList [47,47]=true) (hi:¬ 0≤pI (pRest s)) (hj:0≤pJ (pWhere (pRest s))) :
  Calls Tryz.prog 50 #[.string s] w (ParseLeft (parseX s) w):=by
 have hop:opqB (schS s)=false:=webP_opq _ hw
 have HPB:Hid (pBase s=_):=pBase.eq_1 s
 have HS:=fun w' g=>Lib.hid (scheme_any s w' g (by omega))
 have HW:=fun w'=>Lib.hid (web_any (schS s) w')
 have HO:=fun w'=>Lib.hid (opaque_any (schS s) w')
 have hrz:(schR s).size≤100000:=Nat.le_trans (schR_le s) hs
 have HT:=fun w' g=>Lib.hid (tail_any (schR s) w' g (by omega))
 have ht1:(tailT (schR s)).size≤100000∧(tailQ (schR s)).size≤100000∧(tailF (schR s)).size≤100000:=by
  have:=tail_le (schR s)
  omega
 have HE2:∀ w',Hid (Calls Tryz.prog 98 #[.string (tailQ (schR s)),.int .i64 2] w' fun e w''=>e=.returned (.string (encB 2 (tailQ (schR s))))∧Below w'.heap.size w' w''):=fun w'=>encode_any (tailQ (schR s)) 2 w' (by omega)
 have HE1:∀ w',Hid (Calls Tryz.prog 98 #[.string (tailF (schR s)),.int .i64 1] w' fun e w''=>e=.returned (.string (encB 1 (tailF (schR s))))∧Below w'.heap.size w' w''):=fun w'=>encode_any (tailF (schR s)) 1 w' (by omega)
 have HCP:∀ w',Hid (Calls Tryz.prog 99 #[.string (tailT (schR s)),.string ⟨#[47,47]⟩] w' fun e w''=>e=.returned (.tuple #[.string (pRest s),.bool (Lib.hasPrefix (tailT (schR s)).data.toList [47,47])])∧w'=w''):=fun w'=>cutPrefix_any (tailT (schR s)) ⟨#[47,47]⟩ w'
 have HX:Hid (parseX s=_):=parseX.eq_1 s
 rw[if_neg (by rw[h,decide_eq_true hw];simp),if_neg (by rw[hop];simp),if_neg (by rw[hpx];simp)] at HX
 have htz:(pRest s).size≤100000:=Nat.le_trans (pRest_le s) ht1.1
 obtain⟨tr,htr⟩:∃ x,x=pRest s:=⟨_,rfl⟩
 simp only[← htr] at HCP HX htz hi hj
 clear htr
 obtain⟨r,hr⟩:∃ r,r=parseX s:=⟨_,rfl⟩
 rw[← hr] at HX ⊢
 clear hr
 have HI:∀ w',Hid (Calls Tryz.prog 100 #[.string tr,.int .u8 47] w' fun e w''=>e=.returned (.int .i64 (pI tr))∧w'=w''):=fun w'=>indexByte_any tr 47 w'
 have hV:pWhere tr=tr:=by unfold pWhere;rw[if_neg hi]
 have hP:pPath tr=⟨#[]⟩:=by unfold pPath;rw[if_neg hi]
 obtain⟨ix,hix⟩:∃ ix,ix=pI tr:=⟨_,rfl⟩
 simp only[← hix] at HI hi
 clear hix
 rw[hV] at HX hj
 rw[hP] at HX
 clear hV hP
 have hvz:(tr).size≤100000:=by exact htz
 have hpz:((⟨#[]⟩:ByteArray)).size≤300000:=by decide
 obtain⟨v,hv⟩:∃ v,v=tr:=⟨_,rfl⟩
 obtain⟨tp,htp⟩:∃ tp,tp=(⟨#[]⟩:ByteArray):=⟨_,rfl⟩
 simp only[← hv] at HX hj hvz
 simp only[← htp] at HX hpz
 have HV:=Lib.hid hv
 have HTP:=Lib.hid htp
 clear hv htp
 have HJ:∀ w',Hid (Calls Tryz.prog 101 #[.string v,.int .u8 64] w' fun e w''=>e=.returned (.int .i64 (pJ v))∧w'=w''):=fun w'=>lastByte_any v 64 w' (by omega)
 have HP:=fun w' g=>Lib.hid (pathParse_own tp w' g hpz)
 have hjl:=lastIndex_lt v 64
 obtain⟨m,hm⟩:∃ m:Nat,pJ v=(m:Int):=⟨(pJ v).toNat,by omega⟩
 have hml:m < v.size:=by have:pJ v < v.size:=hjl;omega
 have hU:pUser v=encB 4 (bs (pUp v).1):=by unfold pUser;rw[if_pos hj]
 have hPa:pPass v=encB 4 (bs (pUp v).2.1):=by unfold pPass;rw[if_pos hj]
 have hD:pDoor v=v.extract (m + 1) v.size:=by unfold pDoor;rw[if_pos hj,hm];rfl
 simp only[hm] at HJ
 have em0:(0:Int)≤(m:Int):=by omega
 have em1:(m:Int)≤(v.size:Int):=by omega
 have em2:IntKind.i64.wrap ((m:Int) + 1)=((m + 1:Nat):Int):=by rw[IntKind.wrap_i64];omega
 have em3:(((m + 1:Nat):Int))≤(v.size:Int):=by omega
 rw[hU,hPa,hD] at HX
 have hup:pUp v=Lib.cut (v.extract 0 m).data.toList [58]:=by unfold pUp;rw[hm];rfl
 have hcu:=cut_le (v.extract 0 m).data.toList [58]
 have hez:(v.extract 0 m).size≤100000:=by rw[ByteArray.size_extract];omega
 rw[size_len] at hcu
 have HC:∀ w' (g:Glob w'),Hid (Calls Tryz.prog 27 #[.string (v.extract 0 m),.string ⟨#[58]⟩] w' fun e w''=>e=.returned (.tuple #[.string (bs (pUp v).1),.string (bs (pUp v).2.1),.bool (pUp v).2.2])∧Below w'.heap.size w' w''):=fun w' g=>by
  rw[hup];exact cut_any (v.extract 0 m) ⟨#[58]⟩ w' g (by omega)
 rw[← hup] at hcu
 have hd1:(bs (pUp v).1).size≤100000:=by rw[bs_size];omega
 have hd2:(bs (pUp v).2.1).size≤100000:=by rw[bs_size];omega
 have HU:∀ w',Hid (Calls Tryz.prog 98 #[.string (bs (pUp v).1),.int .i64 4] w' fun e w''=>e=.returned (.string (encB 4 (bs (pUp v).1)))∧Below w'.heap.size w' w''):=fun w'=>encode_any (bs (pUp v).1) 4 w' (by omega)
 have HA:∀ w',Hid (Calls Tryz.prog 98 #[.string (bs (pUp v).2.1),.int .i64 4] w' fun e w''=>e=.returned (.string (encB 4 (bs (pUp v).2.1)))∧Below w'.heap.size w' w''):=fun w'=>encode_any (bs (pUp v).2.1) 4 w' (by omega)
 obtain⟨us,hus⟩:∃ us,us=encB 4 (bs (pUp v).1):=⟨_,rfl⟩
 obtain⟨pa,hpa⟩:∃ pa,pa=encB 4 (bs (pUp v).2.1):=⟨_,rfl⟩
 simp only[← hus,← hpa] at HU HA HX
 obtain⟨c1,hc1⟩:∃ c1,c1=bs (pUp v).1:=⟨_,rfl⟩
 obtain⟨c2,hc2⟩:∃ c2,c2=bs (pUp v).2.1:=⟨_,rfl⟩
 obtain⟨c3,hc3⟩:∃ c3,c3=(pUp v).2.2:=⟨_,rfl⟩
 simp only[← hc1,← hc2,← hc3] at HU HA HC
 have hdz:(v.extract (m + 1) v.size).size≤300000:=by rw[ByteArray.size_extract];omega
 obtain⟨dd,hdd⟩:∃ dd,dd=v.extract (m + 1) v.size:=⟨_,rfl⟩
 simp only[← hdd] at HX hdz
 have HDD:=Lib.hid hdd
 clear hdd
 clear hU hPa hD hup hcu hez hd1 hd2 hus hpa hc1 hc2 hc3 hjl hm hml
 unfold SchLeft at HS
 rw[h] at HS
 rw[hop] at HO
 rw[hpx] at HCP
 obtain⟨eq,heq⟩:∃ x,x=encB 2 (tailQ (schR s)):=⟨_,rfl⟩
 obtain⟨ef,hef⟩:∃ x,x=encB 1 (tailF (schR s)):=⟨_,rfl⟩
 simp only[← heq,← hef] at HE2 HE1 HPB
 obtain⟨tq,htq⟩:∃ x,x=tailQ (schR s):=⟨_,rfl⟩
 obtain⟨tf,htf⟩:∃ x,x=tailF (schR s):=⟨_,rfl⟩
 obtain⟨tt,htt⟩:∃ x,x=tailT (schR s):=⟨_,rfl⟩
 obtain⟨hq,hhq⟩:∃ x,x=tailHQ (schR s):=⟨_,rfl⟩
 obtain⟨hf,hhf⟩:∃ x,x=tailHF (schR s):=⟨_,rfl⟩
 simp only[← htq,← htf,← htt,← hhq,← hhf] at HT HE2 HE1 HCP HPB
 obtain⟨sc,hsc⟩:∃ sc,sc=schS s:=⟨_,rfl⟩
 obtain⟨rs,hrs⟩:∃ rs,rs=schR s:=⟨_,rfl⟩
 simp only[← hsc,← hrs] at HS HW HO HT hw HPB HX
 obtain⟨wv,hwv⟩:∃ wv,wv=webP sc:=⟨_,rfl⟩
 rw[← hwv] at hw
 simp only[← hwv] at HW
 have h2:decide (0 < wv)=true:=decide_eq_true hw
 clear hsc hrs hwv heq hef htq htf htt hhq hhf hw hop h hrz ht1 hpx
 go_enter Tryz.func50,Tryz.ntmps50
 go_wp2_with fail
 refine(HS _ (G.below (bel1 w _))).out.mono ?_
 rintro e w1 ⟨rfl,b1⟩
 have B1:=bel_on (bel1 w _) b1
 have R1:=kept b1 (row1 w _)
 go_wp2_with (first|(go_at_call 33;refine(HW _).out.mono ?_;rintro e w2 ⟨rfl,rfl⟩))
 refine(must_yes _).mono ?_
 rintro e w3 ⟨rfl,rfl⟩
 go_wp2_with fail
 refine(HT _ (G.below B1)).out.mono ?_
 rintro e w3 ⟨rfl,b3⟩
 have B3:=bel_on B1 b3
 have R3:=kept b3 R1
 go_wp2_with fail
 refine(HE2 _).out.mono ?_
 rintro e w4 ⟨rfl,b4⟩
 have B4:=bel_on B3 b4
 have R4:=kept b4 R3
 go_wp2_with fail
 refine(HE1 _).out.mono ?_
 rintro e w5 ⟨rfl,b5⟩
 have B5:=bel_on B4 b5
 have R5:=kept b5 R4
 clear R1 R3 R4 b1 b3 b4 b5 B1 B3 B4
 have N5:=row1 w5 (.cells (urlC url0 (.slice none 0 0)) 27)
 go_wp2_with (first|((with_reducible (show wpList _ _ _ (Oper.mk none (.store 27 _ _) _ _ _ none::_) _ _));refine wpList_store_row rfl 27 _ _ rfl w5.heap.size _ rfl rfl 27 _ N5 url_info rfl (by simp[Value.oneCell']) ?_))
 refine(HO _).out.mono ?_
 rintro e w6 ⟨rfl,b6⟩
 have N6:w6.heap[w5.heap.size]? = some (.cells (urlC { url0 with scheme:=sc,port:=-1,query:=eq,frag:=ef,hasQ:=hq,hasF:=hf } (.slice none 0 0)) 27 (0,0)):=kept b6 (setRow_heap _ _ _ _ _ _ N5)
 have hlt:=heap_lt R5
 have R6:w6.heap[w.heap.size]? = some (.cells (urlC url0 (.slice none 0 0)) 27 (0,0)):=kept b6 ((setRow_other _ _ _ _ (by omega)).trans ((Below.heap_alloc _ _ _ hlt).trans R5))
 have B6:Below w.heap.size w w6:=bel_on (below_row (B5.alloc B5.size _) B5.size) b6
 clear N5 b6 R5
 have hu:=heap_lt N6
 have hs5:=B5.size
 obtain⟨ub,hub⟩:∃ ub,ub=w5.heap.size:=⟨_,rfl⟩
 simp only[← hub] at N6 hs5 hu hlt ⊢
 clear hub
 go_wp2_with fail
 refine(HCP _).out.mono ?_
 rintro e w7 ⟨rfl,rfl⟩
 go_wp2_with fail
 refine(must_yes _).mono ?_
 rintro e w7 ⟨rfl,rfl⟩
 go_wp2_with fail
 refine(HI _).out.mono ?_
 rintro e w7 ⟨rfl,rfl⟩
 have N7:=N6
 have R7:=R6
 have B7:=B6
 go_wp2_with fail
 rw[← HV.out]
 rw[← HTP.out]
 clear HV HTP
 go_wp2_with fail
 refine(HJ _).out.mono ?_
 rintro e w8 ⟨rfl,rfl⟩
 go_wp2_with fail
 refine(HC _ (G.below B7)).out.mono ?_
 rintro e w8 ⟨rfl,b8⟩
 have N8:=kept b8 N7
 have R8:=kept b8 R7
 have B8:=bel_on B7 b8
 clear N7 R7 B7
 go_upto_region 18 with fail
 go_cut [12] from 87 to 96 (fun t wx=>t=.string dd∧wx.heap[ub]? = some (.cells (urlC { url0 with scheme:=sc,user:=us,pass:=pa,port:=-1,query:=eq,frag:=ef,hasQ:=hq,hasF:=hf } (.slice none 0 0)) 27 (0,0))∧wx.heap[w.heap.size]? = some (.cells (urlC url0 (.slice none 0 0)) 27 (0,0))∧Below w.heap.size w wx)
 case first =>
  first|go_region_with (first
   | (go_at_call_of 98 c1;refine(HU _).out.mono ?_;rintro e w9 ⟨rfl,b9⟩;have N9:=kept b9 N8;have R9:=kept b9 R8;have B9:=bel_on B8.drew b9)
   | (go_at_call_of 98 c2;refine(HA _).out.mono ?_;rintro e w10 ⟨rfl,b10⟩;have N10:=kept b10 N9;have R10:=kept b10 R9;have B10:=bel_on B9 b10;have c1:=cell_in N10 1 _ rfl;have c2:=cell_in N10 2 _ rfl;have f1:=Lib.frozen_of_heap N10 1;have f2:=Lib.frozen_of_heap N10 2))|fail
  all_goals go_wp2
  all_goals go_meet
  all_goals exact⟨by rw[HDD.out],by rw[heap_setCell_same _ _ _ _ _ _ (heap_setCell_same _ _ _ _ _ _ N10)];simp[urlC],(Below.heap_setCell _ _ _ _ (by simp;omega)).trans ((Below.heap_setCell _ _ _ _ (by simp;omega)).trans R10),(B10.setCell (p:=⟨ub,1,none⟩) hs5 _).setCell (p:=⟨ub,2,none⟩) hs5 _⟩
 case rest =>
 obtain⟨rfl,N7,R7,B7⟩:=hcut
 rename_i w7
 go_wp2_with fail
 have HD:=Lib.hid (door_any ub _ _ dd _ (G.below B7) N7 hdz (by have:=G.lt;omega))
 cases hd:doorX sc dd with
 | none =>
  refine HD.out.mono ?_
  rintro e w8 ⟨b8,he⟩
  have he':e=.panicked wrongE:=by
   change (match doorX sc dd with|none=>_|some d=>_) at he
   rw[hd] at he;exact he
  subst he'
  show bodyPost Tryz.prog Tryz.f50 _ (Exit.panic wrongE) _ _
  refine⟨rfl,B7.trans (b8.mono hs5),?_⟩
  rw[HX.out,hd];rfl
 | some d =>
  refine HD.out.mono ?_
  rintro e w8 ⟨b8,he⟩
  change (match doorX sc dd with|none=>_|some d=>_) at he
  rw[hd] at he
  obtain⟨rfl,N8⟩:=he
  have R8:w8.heap[w.heap.size]? = some (.cells (urlC url0 (.slice none 0 0)) 27 (0,0)):=(b8.block _ hlt).trans R7
  have B8:=B7.trans (b8.mono hs5)
  clear HD
  go_wp2_with fail
  refine(HP _ (G.below B8)).out.mono ?_
  rintro e w9 ⟨pv,rfl,ho,b9⟩
  have N9:=kept b9 N8
  have R9:=kept b9 R8
  have B9:=bel_on B8 b9
  have hu8:=heap_lt N8
  have hr8:=heap_lt R8
  obtain⟨q,m,c,rfl⟩:=(Strs.of_own ho).slice
  have c15:=cell_in N9 15 _ rfl
  have f15:=Lib.frozen_of_heap N9 15
  have N10:(w9.setCell ⟨ub,15,none⟩ (.slice q m c)).heap[ub]? = some (.cells (urlC (setDoor { url0 with scheme:=sc,user:=us,pass:=pa,port:=-1,query:=eq,frag:=ef,hasQ:=hq,hasF:=hf } d) (.slice q m c)) 27 (0,0)):=by
   rw[heap_setCell_same _ _ _ _ _ _ N9];simp[urlC]
  have R10:(w9.setCell ⟨ub,15,none⟩ (.slice q m c)).heap[w.heap.size]? = some (.cells (urlC url0 (.slice none 0 0)) 27 (0,0)):=(Below.heap_setCell _ _ _ _ (by simp;omega)).trans R9
  have B10:Below w.heap.size w (w9.setCell ⟨ub,15,none⟩ (.slice q m c)):=B9.setCell (p:=⟨ub,15,none⟩) hs5 _
  have ho10:=ownsRow_setCell_below ho (a:=⟨ub,15,none⟩) hu8 (.slice q m c)
  have HO:=Lib.hid (own_base (own_setRow (g:=w.heap.size) (cs:=urlC (setDoor { url0 with scheme:=sc,user:=us,pass:=pa,port:=-1,query:=eq,frag:=ef,hasQ:=hq,hasF:=hf } d) (.slice q m c)) ho10 hr8) (Nat.le_of_lt hr8))
  have HR:Hid (r=some { setDoor { url0 with scheme:=sc,user:=us,pass:=pa,port:=-1,query:=eq,frag:=ef,hasQ:=hq,hasF:=hf } d with path:=pathL tp }):=by show _=_;rw[HX.out,hd,HPB.out];rfl
  clear HX HPB ho ho10 N9 R9
  go_wp2_with (first
   | ((with_reducible (show wpList _ _ _ (Oper.mk _ (.load 27 _) _ _ _ none::_) _ _));refine wpList_load_row rfl 27 _ rfl ub rfl 27 _ (0,0) _ N10 Tryz.underlying27 rfl url_info ?_)
   | ((with_reducible (show wpList _ _ _ (Oper.mk none (.store 27 _ _) _ _ _ none::_) _ _));refine wpList_store_row rfl 27 _ _ rfl w.heap.size _ rfl rfl 27 _ R10 url_info rfl (by simp[Value.oneCell']) ?_))
  refine bodyPost_ret (results_cell_row rfl _ _ _ _ _ (0,0) _ rfl (setRow_heap _ _ _ _ _ _ R10) Tryz.underlying27 rfl url_info) rfl ?_
  rw[HR.out]
  exact⟨below_row B10 (Nat.le_refl _),_,rfl,HO.out⟩
theorem parse_any (s:ByteArray) (w:World) (G:Glob w) (hs:s.size≤100000):Calls Tryz.prog 50 #[.string s] w (ParseLeft (parseX s) w):=by
 cases h:schOK s && (decide (0 < webP (schS s)) || opqB (schS s)) with
 | false=>exact parse_no s w G hs h
 | true =>
  rw[Bool.and_eq_true,Bool.or_eq_true,decide_eq_true_eq] at h
  obtain⟨h1,h2⟩:=h
  by_cases hw:0 < webP (schS s)
  ·cases hpx:Lib.hasPrefix (tailT (schR s)).data.toList [47,47] with
   | false=>exact parse_np s w G hs h1 hw hpx
   | true =>
    by_cases hi:0≤pI (pRest s)
    ·by_cases hj:0≤pJ (pWhere (pRest s))
     ·exact parse_yy s w G hs h1 hw hpx hi hj
     ·exact parse_yn s w G hs h1 hw hpx hi hj
    ·by_cases hj:0≤pJ (pWhere (pRest s))
     ·exact parse_ny s w G hs h1 hw hpx hi hj
     ·exact parse_nn s w G hs h1 hw hpx hi hj
  ·rcases h2 with h2|h2
   ·exact absurd h2 hw
   ·exact parse_opq s w G hs h1 h2
end
section
open Go.RowKit
theorem ta95 (w:World):(Instr.typeAssert (.iface 95 (.agg #[])) 20 95 false).run Tryz.prog w=.ok (.agg #[]) w:=by
 kernel_rfl
theorem catch_panicking (ub ib:Nat) (old:Array Value) (b:Bool) (older:List PanicEntry) (w:World) (hU:w.heap[ub]? = some (.cells old 27 (0,0))) (ho:old.size=21) (hI:w.heap[ib]? = some (.cells #[.bool b] 4 (0,0))) (hne:ub≠ib) :
  CallsD Tryz.prog 49 #[.pointer (some ⟨ub,0,none⟩),.pointer (some ⟨ib,0,none⟩)] (.panicking ({ v:=.iface 95 (.agg #[]),recovered:=false }::older)) w fun e u' w' =>
   e=.returned (.tuple #[])∧u'=.panicking ({ v:=.iface 95 (.agg #[]),recovered:=true }::older)∧w'=(w.setRow ub (urlC url0 (.slice none 0 0))).setCell ⟨ib,0,none⟩ (.bool false):=by
 have hta:=ta95
 refine callsD_of_wpS Tryz.func49 rfl fun c₀ cs hu=>?_
 apply wpS_seq
 apply wpS_region
 simp[wpOpsS,go_sem,recoverD,hu,Tryz.ntmps49,Exit.thenS]
 refine wpS_of_wp ?_
 have ht:#[Value.pointer (some { block:=ub,off:=0 }),Value.pointer (some { block:=ib,off:=0 })] ++
    ((Array.replicate 7 undef).setIfInBounds 1 (Value.iface 95 (Value.agg #[]))).setIfInBounds 0 (Value.iface 95 (Value.agg #[]))=#[.pointer (some ⟨ub,0,none⟩),.pointer (some ⟨ib,0,none⟩),.iface 95 (.agg #[]),.iface 95 (.agg #[]),undef,undef,undef,undef,undef]:=rfl
 rw[ht]
 have hI2:∀ cs,(w.setRow ub cs).heap[ib]? = some (.cells #[.bool b] 4 (0,0)):=fun cs=>(setRow_other _ _ _ _ hne).trans hI
 have c1:=fun cs=>cell_in (hI2 cs) 0 _ rfl
 have f1:=fun cs=>Lib.frozen_of_heap (hI2 cs) 0
 clear hI2
 go_wp2_with (first|((with_reducible (show wpList _ _ _ (Oper.mk none (.store 27 _ _) _ _ _ none::_) _ _));refine wpList_store_row rfl 27 _ _ rfl ub _ rfl rfl 27 _ hU url_info (by rw[ho];rfl) (by simp[Value.oneCell']) ?_))
 simp[bodyPostS,results,Tryz.results49]
 rfl
theorem catch_idle (ub ib:Nat) (w:World) :
  CallsD Tryz.prog 49 #[.pointer (some ⟨ub,0,none⟩),.pointer (some ⟨ib,0,none⟩)] .returning w fun e u' w'=>e=.returned (.tuple #[])∧u'=.returning∧w'=w:=by
 refine callsD_of_wpS Tryz.func49 rfl fun c₀ cs hu=>?_
 apply wpS_seq
 apply wpS_region
 simp[wpOpsS,go_sem,recoverD,hu,Tryz.ntmps49,Exit.thenS]
 refine wpS_of_wp ?_
 have ht:#[Value.pointer (some { block:=ub,off:=0 }),Value.pointer (some { block:=ib,off:=0 })] ++
    ((Array.replicate 7 undef).setIfInBounds 1 Value.nilIface).setIfInBounds 0 Value.nilIface=#[.pointer (some ⟨ub,0,none⟩),.pointer (some ⟨ib,0,none⟩),.nilIface,.nilIface,undef,undef,undef,undef,undef]:=rfl
 rw[ht]
 go_wp2
 cases c₀
 simp_all [bodyPostS,results,Tryz.results49]
theorem results_row_cell {P:Program} {fn:Func} {p u:Tmp} {ty t2:TypeId} (h:fn.results=#[.cell p ty,.cell u t2]) (tmps:Array Value) (w:World) (g:Nat) (t:TypeId) (cs:Array Value) (fr:Nat×Nat) (d:TypeDesc)
  (hp:tmps.getD p undef=.pointer (some ⟨g,0,none⟩)) (hg:w.heap[g]? = some (.cells cs t fr))
  (hu:P.underlying ty=some d) (hd:(match d with|.struct _|.array _ _=>true|_=>false)=true) (hi:(P.info? ty).map (·.size)=some cs.size)
  (k:Nat) (v:Value) (hv:tmps.getD u undef=.pointer (some ⟨k,0,none⟩)) (hk:(loadVar t2 ⟨k,0,none⟩).run P w=.ok v w) :
  (results fn tmps).run P w=.ok (.tuple #[.agg cs,v]) w:=by
 have hp':tmps[p]?.getD undef=.pointer (some ⟨g,0,none⟩):=by simpa using hp
 have hv':tmps[u]?.getD undef=.pointer (some ⟨k,0,none⟩):=by simpa using hv
 simp[results,h,hp',hv',asAddr,run_loadVar_row w g t ty cs fr d hg hu hd hi,hk]
def parseR (raw:ByteArray):Option Url:=parseX (cleanB raw)
def ParsedLeft (r:Option Url) (w:World) (e:Ending) (w':World):Prop :=
 Below w.heap.size w w'∧match r with
  | none=>e=.returned (.tuple #[.agg (urlC url0 (.slice none 0 0)),.bool false])
  | some u=>∃ pv,e=.returned (.tuple #[.agg (urlC u pv),.bool true])∧w'.ownsRow w.heap.size 9 1 pv u.path.length (u.path.map Value.string)
theorem cleanB_le (s:ByteArray):(cleanB s).size≤s.size:=by
 unfold cleanB
 rw[bs_size]
 have h:=cln_len (trimB s).data.toList
 have:=trimB_le s
 rw[size_len] at h
 omega
theorem load_bool {w:World} {k:Nat} {b:Bool} (h:w.heap[k]? = some (.cells #[.bool b] 4 (0,0))):(loadVar 4 ⟨k,0,none⟩).run Tryz.prog w=.ok (.bool b) w:=by
 have c:=cell_in h 0 _ rfl
 simp[loadVar,go_sem,c]
theorem urlParse_any (s:ByteArray) (w:World) (G:Glob w) (hs:s.size≤100000) :
  Calls Tryz.prog 22 #[.string s] w (ParsedLeft (parseR s) w):=by
 have hmf:∀ (fn:Fn) (first cap:Array Value) (w:World),(Instr.makeFunc fn first cap).run Tryz.prog w=.ok (.func fn first cap) w:=fun _ _ _ _=>rfl
 have HC:=fun w' g=>Lib.hid (clean_any s w' g (by omega))
 have hz:(cleanB s).size≤100000:=Nat.le_trans (cleanB_le s) hs
 have HP:=fun w' g=>Lib.hid (parse_any (cleanB s) w' g hz)
 change Calls Tryz.prog 22 #[.string s] w (ParsedLeft (parseX (cleanB s)) w)
 obtain⟨cl,hcl⟩:∃ cl,cl=cleanB s:=⟨_,rfl⟩
 simp only[← hcl] at HC HP ⊢
 obtain⟨r,hr⟩:∃ r,r=parseX cl:=⟨_,rfl⟩
 simp only[← hr] at HP ⊢
 clear hcl hr hz
 have b0:=bel2 w (.cells (urlC url0 (.slice none 0 0)) 27) (.cells #[.bool false] 4)
 have R0:=row2a w (.cells (urlC url0 (.slice none 0 0)) 27) (.cells #[.bool false] 4)
 have I0:=row2b w (.cells (urlC url0 (.slice none 0 0)) 27) (.cells #[.bool false] 4)
 go_enter_defers Tryz.func22,Tryz.ntmps22
 go_wp2_with fail
 refine(HC _ (G.below b0)).out.mono ?_
 rintro e w1 ⟨rfl,b1⟩
 have B1:=bel_on b0 b1
 have R1:=kept b1 R0
 have I1:=kept b1 I0
 go_wp2_with fail
 cases r with
 | none =>
  refine(HP _ (G.below B1)).out.mono ?_
  rintro e w2 ⟨b2,rfl⟩
  have B2:=bel_on B1 b2
  have R2:=kept b2 R1
  have I2:=kept b2 I1
  show bodyPostD Tryz.prog Tryz.f22 _ (Exit.panic wrongE) _ _
  have R3:=setRow_heap _ _ _ (urlC url0 (.slice none 0 0)) _ _ R2
  have hlt:=heap_lt I2
  have I3:(w2.setRow w.heap.size (urlC url0 (.slice none 0 0))).heap[w.heap.size + 1]? = some (.cells #[.bool false] 4 (0,0)):=(setRow_other _ _ _ _ (by omega)).trans I2
  have R4:((w2.setRow w.heap.size (urlC url0 (.slice none 0 0))).setCell ⟨w.heap.size + 1,0,none⟩ (.bool false)).heap[w.heap.size]? = some (.cells (urlC url0 (.slice none 0 0)) 27 (0,0)):=(Below.heap_setCell _ _ _ _ (by simp)).trans R3
  have I4:((w2.setRow w.heap.size (urlC url0 (.slice none 0 0))).setCell ⟨w.heap.size + 1,0,none⟩ (.bool false)).heap[w.heap.size + 1]? = some (.cells #[.bool false] 4 (0,0)):=heap_setCell_same _ _ _ _ _ _ I3
  have B4:Below w.heap.size w ((w2.setRow w.heap.size (urlC url0 (.slice none 0 0))).setCell ⟨w.heap.size + 1,0,none⟩ (.bool false)):=(below_row B2 (Nat.le_refl _)).setCell (p:=⟨w.heap.size + 1,0,none⟩) (by simp) _
  refine leaves_cons (f:=49) (args:=#[.pointer (some ⟨w.heap.size,0,none⟩),.pointer (some ⟨w.heap.size + 1,0,none⟩)]) (by simp) (by simp[go_sem]) ?_
  refine(catch_panicking w.heap.size (w.heap.size + 1) _ false [] w2 R2 rfl I2 (by omega)).mono ?_
  rintro e u' w'' ⟨rfl,rfl,rfl⟩
  exact⟨_,results_row_cell (P:=Tryz.prog) rfl _ _ _ _ _ (0,0) _ rfl R4 Tryz.underlying27 rfl url_info _ _ rfl (load_bool I4),B4,rfl⟩
 | some u =>
  refine(HP _ (G.below B1)).out.mono ?_
  rintro e w2 ⟨b2,pv,rfl,hst⟩
  have B2:=bel_on B1 b2
  have R2:=kept b2 R1
  have I2:=kept b2 I1
  have R3:=setRow_heap _ _ _ (urlC u pv) _ _ R2
  have hlt:=heap_lt I2
  have I3:(w2.setRow w.heap.size (urlC u pv)).heap[w.heap.size + 1]? = some (.cells #[.bool false] 4 (0,0)):=(setRow_other _ _ _ _ (by omega)).trans I2
  have c3:=cell_in I3 0 _ rfl
  have f3:=Lib.frozen_of_heap I3 0
  obtain⟨q,m,c,rfl⟩:=(Strs.of_own hst).slice
  go_wp2_with (first|((with_reducible (show wpList _ _ _ (Oper.mk none (.store 27 _ _) _ _ _ none::_) _ _));refine wpList_store_row rfl 27 _ _ rfl w.heap.size _ rfl rfl 27 _ R2 url_info rfl (by simp[Value.oneCell']) ?_))
  have I4:((w2.setRow w.heap.size (urlC u (.slice q m c))).setCell ⟨w.heap.size + 1,0,none⟩ (.bool true)).heap[w.heap.size + 1]? = some (.cells #[.bool true] 4 (0,0)):=heap_setCell_same _ _ _ _ _ _ I3
  have R4:((w2.setRow w.heap.size (urlC u (.slice q m c))).setCell ⟨w.heap.size + 1,0,none⟩ (.bool true)).heap[w.heap.size]? = some (.cells (urlC u (.slice q m c)) 27 (0,0)):=(Below.heap_setCell _ _ _ _ (by simp)).trans R3
  have B4:Below w.heap.size w ((w2.setRow w.heap.size (urlC u (.slice q m c))).setCell ⟨w.heap.size + 1,0,none⟩ (.bool true)):=(below_row B2 (Nat.le_refl _)).setCell (p:=⟨w.heap.size + 1,0,none⟩) (by simp) _
  have hs1:w.heap.size + 1 < w1.heap.size:=heap_lt I1
  have O4:=ownsRow_setCell_below (own_setRow (g:=w.heap.size) (cs:=urlC u (.slice q m c)) hst (by omega)) (a:=⟨w.heap.size + 1,0,none⟩) hs1 (.bool true)
  refine leaves_cons (f:=49) (args:=#[.pointer (some ⟨w.heap.size,0,none⟩),.pointer (some ⟨w.heap.size + 1,0,none⟩)]) (by simp) (by simp[go_sem]) ?_
  refine(catch_idle w.heap.size (w.heap.size + 1) _).mono ?_
  rintro e u' w'' ⟨rfl,rfl,rfl⟩
  exact⟨_,results_row_cell (P:=Tryz.prog) rfl _ _ _ _ _ (0,0) _ rfl R4 Tryz.underlying27 rfl url_info _ _ rfl (load_bool I4),B4,_,rfl,own_base O4 (by omega)⟩
end
end Go.Proofs.YtdlkjofnnefjfaaGreatDoor
