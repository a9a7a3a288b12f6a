/- Once a redirect leaves an address of another origin than that of who asks for one of another origin than that, who asks is told by null, or by nothing, to the end. Conditions: the five listed variables read as the program's own text lays them (the card ties them); for every input. -/
import Derived.Test.YtdlkjofnnefjfaaGreatDoorZShort
import Derived.Test.YtdlkjofnnefjfaaGreatDoorZTopT
import Derived.Test.YtdlkjofnnefjfaaGreatDoorZLiftA
import Derived.Test.YtdlkjofnnefjfaaGreatDoorZFactT
import Derived.Test.YtdlkjofnnefjfaaGreatDoorZOpenQ
import Derived.Test.YtdlkjofnnefjfaaGreatDoorTie
import Derived.Test.YtdlkjofnnefjfaaGreatDoorCards
set_option linter.all false
namespace Go.Proofs.YtdlkjofnnefjfaaGreatDoor.topTaint
open Go Go.RowKit Go.ChangeShapes Go.WideShapes Go.ChangeAt
open Go.ChangeMaps (open_string shut_string)
set_option maxRecDepth 100000
theorem lifted (os:Os) (started:os.Started) (H:Type) (enc:TypeId×Value→H) :
  ReturnsInHanded {} Tryz.checked os 4 .any (fun w args=>(Rows.topTaintSpec.pre enc Tryz.prog Tryz.f4 [] false w args∧laidMetH Tryz.prog laidL w)∧sizedMet enc Tryz.prog Tryz.f4 (OpenSpec.ofChange Rows.topTaintSpec) false w args)
   (Rows.topTaintSpec.post enc Tryz.prog Tryz.f4 false true false false):=by
 refine handed_shaped (C:=Tryz.checked) (X:=fun w _=>laidMetH Tryz.prog laidL w) (fun _ _ _ hh h=>h.of_heap hh) tz_own started init_fact Tryz.func4
  (ChangeSpec.witness_shaped (enc:=enc) (C:=Tryz.checked) (os:=os) (X:=fun w _=>laidMetH Tryz.prog laidL w) false (laidWorld os) #[.string ⟨#[]⟩,.agg (reqC req0 (.slice none 0 0) (.slice none 0 0)),.slice none 0 0,.int .i64 0] 8 (laidWorld_os os)
   (laidWorld_shaped os _) (by kernel_rfl) (by kernel_rfl) (by kernel_rfl) (laidWorld_met os _)) ?_
 intro W base args ds gs before hval0 hW hL hsh
 have hval:∀ (j:Nat) t v,Tryz.f4.params[j]? = some t→args[j]? = some v→Value.okWide Tryz.prog W .any base t v:=hval0
 have hW':=hW
 obtain⟨p,q,hA0,hV,rfl,hfz,hnd⟩:=hW
 have hA:DataW.TrodAll enc Tryz.prog W 0 (fun _=>true) true Tryz.f4.params.toList args.toList ds p:=hA0
 rw[Tryz.params4] at hA hval
 obtain⟨v0,vs0,d0,ds0,p0,q0,hargs,rfl,rfl,h0,r0⟩:=trodAll_cons hA
 obtain⟨v1,vs1,d1,ds1,p1,q1,rfl,rfl,rfl,h1,r1⟩:=trodAll_cons r0
 obtain⟨v2,vs2,d2,ds2,p2,q2,rfl,rfl,rfl,h2,r2⟩:=trodAll_cons r1
 obtain⟨v3,vs3,d3,ds3,p3,q3,rfl,rfl,rfl,h3,r3⟩:=trodAll_cons r2
 obtain⟨rfl,rfl,rfl⟩:=trodAll_nil r3
 obtain rfl:args=#[v0,v1,v2,v3]:=by cases args;simp_all
 obtain⟨rfl,rfl⟩:=trodVars_none hV
 obtain⟨a0,rfl,rfl,rfl,w0⟩:=open_string Tryz.underlying9 (hval 0 9 v0 rfl rfl) h0
 obtain⟨x,pv,hv,rfl,hp,hh⟩:=zhE (hval 1 32 v1 rfl rfl) h1
 obtain⟨rs,hr⟩:=ze7 (hval 2 33 v2 rfl rfl) h2
 obtain⟨k,rfl,rfl,rfl,wk⟩:=open_int yC (hval 3 3 v3 rfl rfl) h3
 have hl1:∀ y∈p1,y.block < W.heap.size:=fun y hy=>hW'.lt y (by simp[hy])
 have hl2:∀ y∈p2,y.block < W.heap.size:=fun y hy=>hW'.lt y (by simp[hy])
 clear hA0 hval0
 simp only[List.append_nil] at hW'
 refine(zea a0 x pv hv v2 rs k W (glob_of hL hsh) hp hh hr wk).mono fun e W' ⟨he,hb⟩=>?_
 subst he
 exact⟨_,rfl,_,_,_,[],_,[],hW',(trodAll_cons_mk (shut_bool Tryz.underlying4 _) trodAll_mk0),(trodAll_cons_mk (shut_string Tryz.underlying9 w0) (trodAll_cons_mk (Below.trod tz_laid (by kernel_rfl) (of_decide_eq_true (by kernel_rfl)) h1 hb hl1) (trodAll_cons_mk (Below.trod tz_laid (by kernel_rfl) (of_decide_eq_true (by kernel_rfl)) h2 hb hl2) (trodAll_cons_mk (shut_int yC wk) trodAll_mk0)))),rfl,hb.frame _,fun h=>by cases h⟩
theorem over:Rows.topTaintRow.holds Tryz.pinned (OpenSpec.ofChange Rows.topTaintSpec) :=
 OpenClaim.holds_of_wide 4 Tryz.f4 rfl rfl rfl rfl rfl rfl rfl ⟨rfl,rfl,rfl,rfl,rfl⟩ rfl rfl rfl rfl rfl name_fact Tryz.func4 closed inst_fact wrap_fact
  (fun os started H enc _=>lifted os started H enc)
theorem proved:Rows.TopTaintCardSaid :=
 Claim7.holds_tied_plain_at .later [] _ _ _ _ over (fun _ h=>by cases h) text_fact (fun _ h=>by cases h) topTaint_row_tie rfl ⟨rfl,rfl⟩ main_fact rfl
  (fun f fn hf hfn=>by
   obtain rfl:f=4:=Option.some.inj (name_fact.symm.trans hf) |>.symm
   obtain rfl:fn=Tryz.f4:=(Option.some.inj (Tryz.func4.symm.trans hfn)).symm
   exact⟨looks_fact,fun j t ht=>by
    rw[Tryz.params4] at ht
    have hm:t∈[9,32,33,3]:=by simpa using Array.mem_of_getElem? ht
    have hall:([9,32,33,3].all fun u=>!Tryz.prog.wantsStandIn u)=true:=by kernel_rfl
    exact(show Tryz.prog.wantsStandIn t=false by simpa using List.all_eq_true.1 hall t hm)⟩)
  goes_fact
#print axioms proved
end Go.Proofs.YtdlkjofnnefjfaaGreatDoor.topTaint
