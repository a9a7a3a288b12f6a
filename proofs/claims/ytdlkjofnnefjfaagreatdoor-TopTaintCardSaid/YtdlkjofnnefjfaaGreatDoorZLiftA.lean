/- What both laws' rows ask: what the listed variables hold, and a world that meets it. -/
import Derived.Test.YtdlkjofnnefjfaaGreatDoorZLib
import Derived.Test.YtdlkjofnnefjfaaGreatDoorRows
import Derived.Lib.LaidU8T
import Derived.PinnedBridge
import Derived.Lay
import Derived.LaidHandle
import Derived.Handed
import Derived.Carry
import Derived.OpenVars
import Derived.ProofKit
import Derived.LaidLaws
import Derived.LaidMore
import Derived.Stop.Joined
set_option linter.all false
namespace Go.Proofs.YtdlkjofnnefjfaaGreatDoor
set_option maxRecDepth 100000
open Go.RowKit Go.Shelf Go.ChangeShapes Go.WideShapes
theorem tz_own:ownKnob Tryz.prog.godebug=none:=by kernel_rfl
theorem tz_laid:laidOutB Tryz.prog=true:=by kernel_rfl
def laidL:List (String×DataW Unit):=[("unicode/utf8.acceptRanges",Rows.laid_unicode_utf8_acceptRanges),("errors.errorType",Rows.laid_errors_errorType),("postmark/token.names",Rows.laid_postmark_token_names),("postmark/method.bodies",Rows.laid_postmark_method_bodies),("unicode/utf8.first",Rows.laid_unicode_utf8_first)]
def laidD:List (String×DataW Unit):=[("unicode/utf8.acceptRanges",Rows.laid_unicode_utf8_acceptRanges),("postmark/token.names",Rows.laid_postmark_token_names),("postmark/method.bodies",Rows.laid_postmark_method_bodies),("unicode/utf8.first",Rows.laid_unicode_utf8_first)]
theorem tz_et:Tryz.prog.globalNamed "errors.errorType" = some 0:=by kernel_rfl
theorem tz_rt:(Tryz.prog.cutTypes.find? (·.1 == "internal/reflectlite.rtype")).map (·.2)=some 251:=by kernel_rfl
theorem tz_row:((List.range Tryz.prog.types.size).filter fun t=>Tryz.prog.rowNamed t [101,114,114,111,114])=[123]:=by kernel_rfl
theorem tz_handle:typeHandle Tryz.prog 123=.pointer (some ⟨6,123,none⟩):=by kernel_rfl
theorem handle_is {W:World} (h:handlesMet Tryz.prog [("errors.errorType",Rows.laid_errors_errorType)] W):W.cell? ⟨0,0,none⟩=some (.iface 251 (.agg #[.pointer (some ⟨6,123,none⟩)])):=by
 obtain⟨name,u,ty,e1,e2,e3,e4,e5⟩:=h _ (List.mem_singleton.2 rfl)
 have en:name=[101,114,114,111,114]:=(Option.some.inj e1).symm
 subst en
 obtain rfl:=Option.some.inj (tz_rt.symm.trans e2)
 have hm:ty∈(List.range Tryz.prog.types.size).filter fun t=>Tryz.prog.rowNamed t [101,114,114,111,114]:=List.mem_filter.2 ⟨List.mem_range.2 e3,e4⟩
 rw[tz_row] at hm
 obtain rfl:=List.mem_singleton.1 hm
 rw[tz_handle] at e5
 simpa using World.var?_cell tz_et e5 0
theorem bytes_ext {a b:ByteArray} (h:a.data.toList=b.data.toList):a=b:=by
 have h1:a.data=b.data:=Array.toList_inj.1 h
 cases a;cases b;exact congrArg ByteArray.mk h1
theorem texts_of {W:World} {name:String} {g n:Nat} {t:TypeId} (L:List ByteArray) (hg:Tryz.prog.globalNamed name=some g) (ht:(Tryz.prog.globals[g]?).map (·.type)=some t) (hu:Tryz.prog.underlying t=some (.array n 9)) (hn:n=L.length)
  (h:Lib.VarReads Tryz.prog W name (.agg (L.map fun s=>.lit (.string s.data.toList)))):∀ j,j < L.length→W.cell? ⟨g,j,none⟩=some (.string (L.getD j ByteArray.empty)):=by
 intro j hj
 obtain⟨g',t',cs,fuel,p,h1,h2,h3,h4⟩:=h
 obtain rfl:=Option.some.inj (hg.symm.trans h1)
 obtain rfl:=Option.some.inj (ht.symm.trans h2)
 obtain⟨fuel',d,q,hd,he⟩:=Lib.array_elem hu h4 j (by omega)
 rw[show Tryz.prog.cellsOf 9=1 by kernel_rfl,Nat.mul_one] at he
 obtain⟨s,e1,e2,_⟩:=DataW.trod_string Tryz.underlying9 he
 simp only[Prod.mk.injEq] at e2
 rw[List.getElem?_map,List.getElem?_eq_getElem hj,Option.map_some,Option.some.injEq] at hd
 rw[← hd] at e2
 have e3:L[j].data.toList=s.data.toList:=by simpa using e2.1
 have e4:L[j]=s:=bytes_ext e3
 rw[World.var?_cell hg h3 j,List.getD_eq_getElem?_getD,List.getElem?_eq_getElem hj,Option.getD_some,e4]
 have:=congrArg (·[0]?) e1
 simpa [List.getElem?_take,List.getElem?_drop] using this
theorem names_data:(Rows.laid_postmark_token_names:DataW Unit)=.agg (polNames.map fun s=>.lit (.string s.data.toList)):=by kernel_rfl
theorem bodies_data:(Rows.laid_postmark_method_bodies:DataW Unit)=.agg (bodyNames.map fun s=>.lit (.string s.data.toList)):=by kernel_rfl
theorem accept_data:(Rows.laid_unicode_utf8_acceptRanges:DataW Unit)=Lib.acceptData:=by kernel_rfl
theorem first_data:(Rows.laid_unicode_utf8_first:DataW Unit)=Lib.firstData:=Pinned.utf8First_eq
def u8Ren:Ren:=⟨fun n=>n,fun|5=>5|119=>280|138=>282|139=>283|n=>n,fun n=>n⟩
theorem glob_of {W:World} (h:laidMetH Tryz.prog laidL W) (hs:W.ShapedOpen Tryz.prog):Glob W:=by
 have h':laidMet Tryz.prog laidD W∧handlesMet Tryz.prog [("errors.errorType",Rows.laid_errors_errorType)] W:=h
 have hr:∀ {n d},(n,d)∈laidD→Lib.VarReads Tryz.prog W n d:=fun hm=>Lib.laidMet.reads h'.1 hm
 have r1:=hr (n := "unicode/utf8.acceptRanges") (d:=Rows.laid_unicode_utf8_acceptRanges) (by simp[laidD])
 have r2:=hr (n := "postmark/token.names") (d:=Rows.laid_postmark_token_names) (by simp[laidD])
 have r3:=hr (n := "postmark/method.bodies") (d:=Rows.laid_postmark_method_bodies) (by simp[laidD])
 have r4:=hr (n := "unicode/utf8.first") (d:=Rows.laid_unicode_utf8_first) (by simp[laidD])
 rw[names_data] at r2
 rw[bodies_data] at r3
 rw[accept_data] at r1
 rw[first_data] at r4
 have hn:=texts_of (g:=5) polNames (by kernel_rfl) (by kernel_rfl) Tryz.underlying312 rfl r2
 have hb:=texts_of (g:=2) bodyNames (by kernel_rfl) (by kernel_rfl) Tryz.underlying249 rfl r3
 refine⟨handle_is h'.2,cell_of_shapedOpen_int (zero:=#[.int .i64 0]) (t:=3) hs (of_decide_eq_true (by kernel_rfl)) (by kernel_rfl) rfl (by kernel_rfl) (by kernel_rfl) Tryz.underlying3,hb,?_,hn,?_⟩
 ·exact utf8Tabs_of_readsT (P:=Tryz.prog) (ρ:=u8Ren) ⟨Tryz.underlying5,Tryz.underlying280,Tryz.underlying282,Tryz.underlying283⟩ ⟨by kernel_rfl,by kernel_rfl,by kernel_rfl,by kernel_rfl,by kernel_rfl,by kernel_rfl,by kernel_rfl⟩ r4 r1
 ·have h8:=hn 8 (by decide)
  exact World.block_lt_of_cell? W _ h8
noncomputable def handWorld (os:Os):World :=
 let w0:=World.holding Tryz.prog os ⟨#[],#[],[]⟩
 { w0 with heap:=w0.heap.modify 0 fun
   | .cells _ t frozen=>.cells #[.iface 251 (.agg #[.pointer (some ⟨6,123,none⟩)])] t frozen
   | o=>o }
noncomputable def laidWorld (os:Os):World:=(handWorld os).layVars Tryz.prog laidD
theorem laidWorld_os (os:Os):(laidWorld os).os=os:=World.layVars_os _ _ _
theorem laidWorld_data (os:Os) (args:Array Value):laidMet Tryz.prog laidD ((laidWorld os).forCall (fun _ _=>0) ⟨#[],args,[]⟩).memory:=by
 have e1:(laidD.filter fun x=>(laidD.map (·.1)).contains x.1)=laidD:=List.filter_eq_self.2 fun x hx=>List.contains_iff_mem.2 (List.mem_map.2 ⟨x,hx,rfl⟩)
 have e2:(laidD.filter fun x=>!(laidD.map (·.1)).contains x.1)=[]:=List.filter_eq_nil_iff.2 fun x hx=>by rw[List.contains_iff_mem.2 (List.mem_map.2 ⟨x,hx,rfl⟩)];simp
 have h:laidMet Tryz.prog laidD (laidWorld os):=laidMet_layVars (w0:=handWorld os) (laidD.map (·.1)) [] (by rw[e1];rfl) (by rw[e1];kernel_rfl) (by rw[e1];kernel_rfl) (by rw[e2];exact LaidIn.none)
 exact h.of_heap (by simp[World.memory,World.forCall,Input.heap])
theorem laidWorld_met (os:Os) (args:Array Value):laidMetH Tryz.prog laidL ((laidWorld os).forCall (fun _ _=>0) ⟨#[],args,[]⟩).memory :=
 laidMetH_of_parts (laidWorld_data os args) (by kernel_rfl)
theorem laidWorld_shaped (os:Os) (args:Array Value):((laidWorld os).forCall (fun _ _=>0) ⟨#[],args,[]⟩).Shaped Tryz.prog :=
 World.shaped_of_ZipB (by kernel_rfl) (by kernel_rfl)
variable {H:Type} {enc:TypeId×Value→H}
theorem handed_shaped {a:Assume} {C:Checked} {os:Os} {f:FuncId} {fn:Func} {s:ChangeSpec} {conds:List PathCond} {apart fresh handsOn again:Bool} {X:World→Array Value→Prop}
  (hX:∀ (w w':World) (args:Array Value),w.heap=w'.heap→X w args→X w' args)
  (own:ownKnob C.prog.godebug=none) (started:os.Started) (noInit:C.prog.inits.idxOf? f=none) (hfn:C.prog.funcs[f]? = some fn)
  (witness:∃ (w:World) (tape:Tape) (i:Input),w.os=os∧(w.forCall tape i).Shaped C.prog∧i.vars=[]∧Input.okWide C.prog (w.forCall tape i) .any w.heap.size f i ∧
   ((s.pre enc C.prog fn conds apart (w.forCall tape i).memory i.args∧X (w.forCall tape i).memory i.args)∧sizedMet enc C.prog fn (OpenSpec.ofChange s) apart (w.forCall tape i).memory i.args)∧a.holds C.prog (lone (Frame.enter C.prog f i.args .normal) [] (w.forCall tape i)))
  (contract:∀ (W:World) (base:Nat) (args:Array Value) (ds gs:List (DataW H)) (before:List MemPlace),
   (∀ (j:Nat) t v,fn.params[j]? = some t→args[j]? = some v→Value.okWide C.prog W .any base t v) →
   DataW.Whole enc C.prog fn.params.toList s.vars apart W args.toList ds gs before →
   X W args→W.ShapedOpen C.prog →
   Calls C.prog f args W fun e W'=>∃ v,e=.returned v∧s.post enc C.prog fn apart fresh handsOn again W args v W') :
  ReturnsInHanded a C os f .any (fun w args=>(s.pre enc C.prog fn conds apart w args∧X w args)∧sizedMet enc C.prog fn (OpenSpec.ofChange s) apart w args) (s.post enc C.prog fn apart fresh handsOn again):=by
 refine returnsInHanded_of_calls own started noInit witness ?_
 intro w tape i _ hsh _ hok hpre _
 obtain⟨_,_,_,fn',hfn',_,_,_,_,hval⟩:=hok
 have e:fn'=fn:=Option.some.inj (hfn'.symm.trans hfn)
 subst e
 obtain⟨⟨⟨ds,gs,before,hw,hc⟩,hx⟩,hz⟩:=hpre
 have hw':=DataW.Whole.of_heap (w':=w.forCall tape i) (by rfl) hw
 refine(contract (w.forCall tape i) w.heap.size i.args ds gs before hval hw' (hX _ _ _ (by rfl) hx) hsh).mono fun e W' ⟨v,he,hp⟩=>?_
 subst he
 exact ChangeSpec.post_blind hp
end Go.Proofs.YtdlkjofnnefjfaaGreatDoor
