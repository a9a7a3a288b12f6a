/- Where redirects are an error, or not followed, one request is sent, and a redirect ends it so; there are never more than 21, and a 21st redirect to an address of the web ends it. Conditions: the five listed variables read as the program's own text lays them (the card ties them); for every input. -/
import Derived.Test.YtdlkjofnnefjfaaGreatDoorZTopM
import Derived.Test.YtdlkjofnnefjfaaGreatDoorZLiftA
import Derived.Test.YtdlkjofnnefjfaaGreatDoorZFactM
import Derived.Test.YtdlkjofnnefjfaaGreatDoorZOpenQ
import Derived.Test.YtdlkjofnnefjfaaGreatDoorTie
import Derived.Test.YtdlkjofnnefjfaaGreatDoorCards
set_option linter.all false
namespace Go.Proofs.YtdlkjofnnefjfaaGreatDoor.topModes
open Go Go.RowKit Go.ChangeShapes Go.WideShapes Go.ChangeAt
open Go.ChangeMaps (open_string shut_string)
set_option maxRecDepth 100000
theorem lifted (os:Os) (started:os.Started) (H:Type) (enc:TypeId×Value→H) :
  ReturnsInHanded {} Tryz.checked os 3 .any (fun w args=>(Rows.topModesSpec.pre enc Tryz.prog Tryz.f3 [] false w args∧laidMetH Tryz.prog laidL w)∧sizedMet enc Tryz.prog Tryz.f3 (OpenSpec.ofChange Rows.topModesSpec) false w args)
   (Rows.topModesSpec.post enc Tryz.prog Tryz.f3 false true false false):=by
 refine handed_shaped (C:=Tryz.checked) (X:=fun w _=>laidMetH Tryz.prog laidL w) (fun _ _ _ hh h=>h.of_heap hh) tz_own started init_fact Tryz.func3
  (ChangeSpec.witness_shaped (enc:=enc) (C:=Tryz.checked) (os:=os) (X:=fun w _=>laidMetH Tryz.prog laidL w) false (laidWorld os) #[.string ⟨#[]⟩,.agg (reqC req0 (.slice none 0 0) (.slice none 0 0)),.slice none 0 0] 8 (laidWorld_os os)
   (laidWorld_shaped os _) (by kernel_rfl) (by kernel_rfl) (by kernel_rfl) (laidWorld_met os _)) ?_
 intro W base args ds gs before hval0 hW hL hsh
 have hval:∀ (j:Nat) t v,Tryz.f3.params[j]? = some t→args[j]? = some v→Value.okWide Tryz.prog W .any base t v:=hval0
 have hW':=hW
 obtain⟨p,q,hA0,hV,rfl,hfz,hnd⟩:=hW
 have hA:DataW.TrodAll enc Tryz.prog W 0 (fun _=>true) true Tryz.f3.params.toList args.toList ds p:=hA0
 rw[Tryz.params3] at hA hval
 obtain⟨v0,vs0,d0,ds0,p0,q0,hargs,rfl,rfl,h0,r0⟩:=trodAll_cons hA
 obtain⟨v1,vs1,d1,ds1,p1,q1,rfl,rfl,rfl,h1,r1⟩:=trodAll_cons r0
 obtain⟨v2,vs2,d2,ds2,p2,q2,rfl,rfl,rfl,h2,r2⟩:=trodAll_cons r1
 obtain⟨rfl,rfl,rfl⟩:=trodAll_nil r2
 obtain rfl:args=#[v0,v1,v2]:=by cases args;simp_all
 obtain⟨rfl,rfl⟩:=trodVars_none hV
 obtain⟨a0,rfl,rfl,rfl,w0⟩:=open_string Tryz.underlying9 (hval 0 9 v0 rfl rfl) h0
 obtain⟨x,pv,hv,rfl,hp,hh⟩:=zhE (hval 1 32 v1 rfl rfl) h1
 obtain⟨rs,hr⟩:=ze7 (hval 2 33 v2 rfl rfl) h2
 have hl1:∀ y∈p1,y.block < W.heap.size:=fun y hy=>hW'.lt y (by simp[hy])
 have hl2:∀ y∈p2,y.block < W.heap.size:=fun y hy=>hW'.lt y (by simp[hy])
 clear hA0 hval0
 simp only[List.append_nil] at hW'
 refine(zd9 a0 x pv hv v2 rs W (glob_of hL hsh) hp hh hr).mono fun e W' ⟨he,hb⟩=>?_
 subst he
 exact⟨_,rfl,_,_,_,[],_,[],hW',(trodAll_cons_mk (shut_bool Tryz.underlying4 _) trodAll_mk0),(trodAll_cons_mk (shut_string Tryz.underlying9 w0) (trodAll_cons_mk (Below.trod tz_laid (by kernel_rfl) (of_decide_eq_true (by kernel_rfl)) h1 hb hl1) (trodAll_cons_mk (Below.trod tz_laid (by kernel_rfl) (of_decide_eq_true (by kernel_rfl)) h2 hb hl2) trodAll_mk0))),rfl,hb.frame _,fun h=>by cases h⟩
theorem over:Rows.topModesRow.holds Tryz.pinned (OpenSpec.ofChange Rows.topModesSpec) :=
 OpenClaim.holds_of_wide 3 Tryz.f3 rfl rfl rfl rfl rfl rfl rfl ⟨rfl,rfl,rfl,rfl,rfl⟩ rfl rfl rfl rfl rfl name_fact Tryz.func3 closed inst_fact wrap_fact
  (fun os started H enc _=>lifted os started H enc)
theorem proved:Rows.TopModesCardSaid :=
 Claim7.holds_tied_plain_at .later [] _ _ _ _ over (fun _ h=>by cases h) text_fact (fun _ h=>by cases h) topModes_row_tie rfl ⟨rfl,rfl⟩ main_fact rfl
  (fun f fn hf hfn=>by
   obtain rfl:f=3:=Option.some.inj (name_fact.symm.trans hf) |>.symm
   obtain rfl:fn=Tryz.f3:=(Option.some.inj (Tryz.func3.symm.trans hfn)).symm
   exact⟨looks_fact,fun j t ht=>by
    rw[Tryz.params3] at ht
    have hm:t∈[9,32,33]:=by simpa using Array.mem_of_getElem? ht
    have hall:([9,32,33].all fun u=>!Tryz.prog.wantsStandIn u)=true:=by kernel_rfl
    exact(show Tryz.prog.wantsStandIn t=false by simpa using List.all_eq_true.1 hall t hm)⟩)
  goes_fact
#print axioms proved
end Go.Proofs.YtdlkjofnnefjfaaGreatDoor.topModes
