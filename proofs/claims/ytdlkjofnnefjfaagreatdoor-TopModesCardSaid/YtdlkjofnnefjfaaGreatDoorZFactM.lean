/- The closed facts of the row of TopModes, each by the kernel. -/
import Derived.Test.YtdlkjofnnefjfaaGreatDoorRows
import Derived.JoinedOf
import Derived.LaidLaws
import Derived.SevenTiedAt
import Derived.Stop.Joined
set_option linter.all false
namespace Go.Proofs.YtdlkjofnnefjfaaGreatDoor.topModes
open Go
set_option maxRecDepth 100000
theorem k0:(Rows.topModesRow.wf (OpenSpec.ofChange Rows.topModesSpec))=true:=by kernel_rfl
theorem k1:(laidOutB Tryz.prog)=true:=by kernel_rfl
theorem k2:(mapsRowed Tryz.prog)=true:=by kernel_rfl
theorem k3:(Tryz.f3.params.all (Tryz.prog.readableRec ·))=true:=by kernel_rfl
theorem k4:(namedTie Tryz.prog Rows.topModesRow.named Rows.topModesSpec.vars)=true:=by kernel_rfl
theorem k5:((Rows.topModesRow.stops == []))=true:=by kernel_rfl
theorem k6:((Tryz.prog.stops == []))=true:=by kernel_rfl
theorem k7:((Rows.topModesRow.knobs == []))=true:=by kernel_rfl
theorem k8:((Tryz.prog.stopKnobs == []))=true:=by kernel_rfl
theorem k9:((Rows.topModesRow.inPlace == Tryz.prog.inPlace 3))=true:=by kernel_rfl
theorem k10:((Rows.topModesRow.unfollowed == Tryz.prog.unfollowed 3))=true:=by kernel_rfl
theorem k11:((Rows.topModesRow.recurses == Tryz.prog.recurses 3))=true:=by kernel_rfl
theorem k12:((Rows.topModesRow.named == Tryz.prog.varsNamed 3))=true:=by kernel_rfl
theorem k13:((Rows.topModesRow.maps == (Tryz.f3.params.toList++Rows.topModesSpec.plain.varTypes Tryz.prog).any (Tryz.prog.mapsRec ·)))=true:=by kernel_rfl
theorem k14:((Rows.topModesRow.ifaces == (Tryz.f3.params.toList++Rows.topModesSpec.plain.varTypes Tryz.prog).any (Tryz.prog.ifacesRec ·)))=true:=by kernel_rfl
theorem k15:((Rows.topModesRow.mapsOut == Tryz.prog.mapsAmong Tryz.f3.resultTypes.toList))=true:=by kernel_rfl
theorem k16:((Rows.topModesRow.loops == (Tryz.f3.params.toList++Rows.topModesSpec.plain.varTypes Tryz.prog).any (Tryz.prog.loopsFrom ·)))=true:=by kernel_rfl
theorem k17:((Rows.topModesRow.wideKeys == (Tryz.f3.params.toList++Rows.topModesSpec.plain.varTypes Tryz.prog++Tryz.f3.resultTypes.toList).any (Tryz.prog.wideKeysFrom ·)))=true:=by kernel_rfl
theorem k18:(Rows.topModesSpec.vars.all (Tryz.prog.varReadable ·))=true:=by kernel_rfl
theorem k19:(Tryz.f3.resultTypes.all (fun t=>Tryz.prog.readableRec t && decide (t < Tryz.prog.types.size)))=true:=by kernel_rfl
theorem k20:((Rows.topModesRow.ifacesOut == Tryz.f3.resultTypes.toList.any (Tryz.prog.ifacesRec ·)))=true:=by kernel_rfl
theorem k21:((Rows.topModesRow.loopsOut == Tryz.f3.resultTypes.toList.any (Tryz.prog.loopsFrom ·)))=true:=by kernel_rfl
theorem k22:((Rows.topModesRow.plainKeys == Tryz.prog.plainKeys))=true:=by kernel_rfl
theorem k23:(Rows.topModesRow.shortTexts.isNone)=true:=by kernel_rfl
theorem k24:(Tryz.prog.stopsHeard)=true:=by kernel_rfl
theorem k25:(Tryz.prog.mayEnter)=true:=by kernel_rfl
theorem k26:((Rows.topModesRow.lifted == Tryz.prog.liftsFinal))=true:=by kernel_rfl
theorem k27:((Tryz.prog.make == some Rows.topModesRow.make))=true:=by kernel_rfl
theorem k28:((Rows.topModesRow.kinds == (if Rows.topModesRow.domain.isEmpty then [] else Tryz.f3.params.toList.map fun t=>match Tryz.prog.underlying t with|some (.int k)=>some k|_=>none)))=true:=by kernel_rfl
theorem k29:((Rows.topModesRow.pinned == Rows.topModesRow.pinnedBy))=true:=by kernel_rfl
theorem k30:((Rows.topModesRow.veiled == (Tryz.f3.params.toList++Rows.topModesSpec.plain.varTypes Tryz.prog++Tryz.f3.resultTypes.toList).any (Tryz.prog.veiledRec ·)))=true:=by kernel_rfl
theorem k31:(Rows.topModesRow.veiledFits Tryz.prog Tryz.f3.params.toList (Tryz.f3.params.toList++Rows.topModesSpec.plain.varTypes Tryz.prog++Tryz.f3.resultTypes.toList))=true:=by kernel_rfl
theorem and_both {a b:Bool} (h:a=true) (k:b=true):(a && b)=true:=by rw[h,k];rfl
theorem closed:joinedFacts Tryz.prog 3 Tryz.f3 Rows.topModesSpec Rows.topModesRow=true :=
 and_both (and_both (and_both (and_both (and_both (and_both (and_both (and_both (and_both (and_both (and_both (and_both (and_both (and_both (and_both (and_both (and_both (and_both (and_both (and_both (and_both (and_both (and_both (and_both (and_both (and_both (and_both (and_both (and_both (and_both (and_both (k0) k1) k2) k3) k4) k5) k6) k7) k8) k9) k10) k11) k12) k13) k14) k15) k16) k17) k18) k19) k20) k21) k22) k23) k24) k25) k26) k27) k28) k29) k30) k31
theorem name_fact:Tryz.prog.funcNamed Rows.topModesRow.func=some 3:=by kernel_rfl
theorem inst_fact:Tryz.f3.isInstance Tryz.prog Rows.topModesRow.origin Rows.topModesRow.targs:=of_decide_eq_true (by kernel_rfl)
theorem wrap_fact:Tryz.f3.isWrapper Tryz.prog Rows.topModesRow.wrapper Rows.topModesRow.mainSum:=by unfold Func.isWrapper;first|(rw[if_pos (by decide +kernel)];kernel_rfl)|(rw[if_neg (by decide +kernel)];exact⟨rfl,rfl⟩)
theorem text_fact:Rows.topModesRow.wfByText (OpenSpec.ofChange Rows.topModesSpec)=true:=by kernel_rfl
theorem main_fact:Tryz.prog.mainIs=some (true, "c2adb38374f7326a0e457780bea79ec5d9732083bd2102a5ae89c012529b8b49".toList):=by kernel_rfl
theorem looks_fact:true=Tryz.prog.looks []:=by kernel_rfl
theorem goes_fact:false=Rows.topModesRow.goesBy Tryz.prog:=by kernel_rfl
theorem init_fact:Tryz.prog.inits.idxOf? 3=none:=by kernel_rfl
end Go.Proofs.YtdlkjofnnefjfaaGreatDoor.topModes
