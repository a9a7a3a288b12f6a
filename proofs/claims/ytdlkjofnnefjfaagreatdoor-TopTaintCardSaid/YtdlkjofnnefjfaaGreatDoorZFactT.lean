/- The closed facts of the row of TopTaint, each by the kernel. -/
import Derived.Test.YtdlkjofnnefjfaaGreatDoorRows
import Derived.SevenTiedAt
set_option linter.all false
namespace Go.Proofs.YtdlkjofnnefjfaaGreatDoor.topTaint
open Go
set_option maxRecDepth 100000
theorem k0:(Rows.topTaintRow.wf (OpenSpec.ofChange Rows.topTaintSpec))=true:=by kernel_rfl
theorem k1:(laidOutB Tryz.prog)=true:=by kernel_rfl
theorem k2:(mapsRowed Tryz.prog)=true:=by kernel_rfl
theorem k3:(Tryz.f4.params.all (Tryz.prog.readableRec ·))=true:=by kernel_rfl
theorem k4:(namedTie Tryz.prog Rows.topTaintRow.named Rows.topTaintSpec.vars)=true:=by kernel_rfl
theorem k5:((Rows.topTaintRow.stops == []))=true:=by kernel_rfl
theorem k6:((Tryz.prog.stops == []))=true:=by kernel_rfl
theorem k7:((Rows.topTaintRow.knobs == []))=true:=by kernel_rfl
theorem k8:((Tryz.prog.stopKnobs == []))=true:=by kernel_rfl
theorem k9:((Rows.topTaintRow.inPlace == Tryz.prog.inPlace 4))=true:=by kernel_rfl
theorem k10:((Rows.topTaintRow.unfollowed == Tryz.prog.unfollowed 4))=true:=by kernel_rfl
theorem k11:((Rows.topTaintRow.recurses == Tryz.prog.recurses 4))=true:=by kernel_rfl
theorem k12:((Rows.topTaintRow.named == Tryz.prog.varsNamed 4))=true:=by kernel_rfl
theorem k13:((Rows.topTaintRow.maps == (Tryz.f4.params.toList++Rows.topTaintSpec.plain.varTypes Tryz.prog).any (Tryz.prog.mapsRec ·)))=true:=by kernel_rfl
theorem k14:((Rows.topTaintRow.ifaces == (Tryz.f4.params.toList++Rows.topTaintSpec.plain.varTypes Tryz.prog).any (Tryz.prog.ifacesRec ·)))=true:=by kernel_rfl
theorem k15:((Rows.topTaintRow.mapsOut == Tryz.prog.mapsAmong Tryz.f4.resultTypes.toList))=true:=by kernel_rfl
theorem k16:((Rows.topTaintRow.loops == (Tryz.f4.params.toList++Rows.topTaintSpec.plain.varTypes Tryz.prog).any (Tryz.prog.loopsFrom ·)))=true:=by kernel_rfl
theorem k17:((Rows.topTaintRow.wideKeys == (Tryz.f4.params.toList++Rows.topTaintSpec.plain.varTypes Tryz.prog++Tryz.f4.resultTypes.toList).any (Tryz.prog.wideKeysFrom ·)))=true:=by kernel_rfl
theorem k18:(Rows.topTaintSpec.vars.all (Tryz.prog.varReadable ·))=true:=by kernel_rfl
theorem k19:(Tryz.f4.resultTypes.all (fun t=>Tryz.prog.readableRec t && decide (t < Tryz.prog.types.size)))=true:=by kernel_rfl
theorem k20:((Rows.topTaintRow.ifacesOut == Tryz.f4.resultTypes.toList.any (Tryz.prog.ifacesRec ·)))=true:=by kernel_rfl
theorem k21:((Rows.topTaintRow.loopsOut == Tryz.f4.resultTypes.toList.any (Tryz.prog.loopsFrom ·)))=true:=by kernel_rfl
theorem k22:((Rows.topTaintRow.plainKeys == Tryz.prog.plainKeys))=true:=by kernel_rfl
theorem k23:(Rows.topTaintRow.shortTexts.isNone)=true:=by kernel_rfl
theorem k24:(Tryz.prog.stopsHeard)=true:=by kernel_rfl
theorem k25:(Tryz.prog.mayEnter)=true:=by kernel_rfl
theorem k26:((Rows.topTaintRow.lifted == Tryz.prog.liftsFinal))=true:=by kernel_rfl
theorem k27:((Tryz.prog.make == some Rows.topTaintRow.make))=true:=by kernel_rfl
theorem k28:((Rows.topTaintRow.kinds == (if Rows.topTaintRow.domain.isEmpty then [] else Tryz.f4.params.toList.map fun t=>match Tryz.prog.underlying t with|some (.int k)=>some k|_=>none)))=true:=by kernel_rfl
theorem k29:((Rows.topTaintRow.pinned == Rows.topTaintRow.pinnedBy))=true:=by kernel_rfl
theorem k30:((Rows.topTaintRow.veiled == (Tryz.f4.params.toList++Rows.topTaintSpec.plain.varTypes Tryz.prog++Tryz.f4.resultTypes.toList).any (Tryz.prog.veiledRec ·)))=true:=by kernel_rfl
theorem k31:(Rows.topTaintRow.veiledFits Tryz.prog Tryz.f4.params.toList (Tryz.f4.params.toList++Rows.topTaintSpec.plain.varTypes Tryz.prog++Tryz.f4.resultTypes.toList))=true:=by kernel_rfl
theorem and_both {a b:Bool} (h:a=true) (k:b=true):(a && b)=true:=by rw[h,k];rfl
theorem closed:joinedFacts Tryz.prog 4 Tryz.f4 Rows.topTaintSpec Rows.topTaintRow=true :=
 and_both (and_both (and_both (and_both (and_both (and_both (and_both (and_both (and_both (and_both (and_both (and_both (and_both (and_both (and_both (and_both (and_both (and_both (and_both (and_both (and_both (and_both (and_both (and_both (and_both (and_both (and_both (and_both (and_both (and_both (and_both (k0) k1) k2) k3) k4) k5) k6) k7) k8) k9) k10) k11) k12) k13) k14) k15) k16) k17) k18) k19) k20) k21) k22) k23) k24) k25) k26) k27) k28) k29) k30) k31
theorem name_fact:Tryz.prog.funcNamed Rows.topTaintRow.func=some 4:=by kernel_rfl
theorem inst_fact:Tryz.f4.isInstance Tryz.prog Rows.topTaintRow.origin Rows.topTaintRow.targs:=of_decide_eq_true (by kernel_rfl)
theorem wrap_fact:Tryz.f4.isWrapper Tryz.prog Rows.topTaintRow.wrapper Rows.topTaintRow.mainSum:=by unfold Func.isWrapper;first|(rw[if_pos (by decide +kernel)];kernel_rfl)|(rw[if_neg (by decide +kernel)];exact⟨rfl,rfl⟩)
theorem text_fact:Rows.topTaintRow.wfByText (OpenSpec.ofChange Rows.topTaintSpec)=true:=by kernel_rfl
theorem main_fact:Tryz.prog.mainIs=some (true, "c2adb38374f7326a0e457780bea79ec5d9732083bd2102a5ae89c012529b8b49".toList):=by kernel_rfl
theorem looks_fact:true=Tryz.prog.looks []:=by kernel_rfl
theorem goes_fact:false=Rows.topTaintRow.goesBy Tryz.prog:=by kernel_rfl
theorem init_fact:Tryz.prog.inits.idxOf? 4=none:=by kernel_rfl
end Go.Proofs.YtdlkjofnnefjfaaGreatDoor.topTaint
