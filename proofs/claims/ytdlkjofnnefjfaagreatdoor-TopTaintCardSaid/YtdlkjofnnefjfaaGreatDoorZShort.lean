/- Short names for the words of this seat. -/
import Derived.Test.YtdlkjofnnefjfaaGreatDoorZUrlC
import Derived.Test.YtdlkjofnnefjfaaGreatDoorZPathA
import Derived.Test.YtdlkjofnnefjfaaGreatDoorZClnA
import Derived.Test.YtdlkjofnnefjfaaGreatDoorZPolicy
import Derived.Test.YtdlkjofnnefjfaaGreatDoorZHostE
set_option linter.all false
namespace Go.Proofs.YtdlkjofnnefjfaaGreatDoor
open Go.RowKit
theorem yA:type_of% @Tryz.underlying32:=@Tryz.underlying32
theorem yB:type_of% @Tryz.underlying27:=@Tryz.underlying27
theorem yC:type_of% @Tryz.underlying3:=@Tryz.underlying3
theorem yD:type_of% @bel_on:=@bel_on
theorem yE:type_of% @cell_in:=@cell_in
theorem yF:type_of% @Lib.frozen_of_heap:=@Lib.frozen_of_heap
theorem yG:type_of% @Below.heap_setCell:=@Below.heap_setCell
theorem yH:type_of% @setRow_heap:=@setRow_heap
theorem yI:type_of% @setRow_other:=@setRow_other
theorem yJ:type_of% @wpList_store_row:=@wpList_store_row
theorem yK:type_of% @wpList_load_row:=@wpList_load_row
theorem yL:type_of% @run_callFunc_extern:=@run_callFunc_extern
theorem yM:type_of% @below_row:=@below_row
theorem yN:type_of% @url_info:=@url_info
theorem yO:type_of% @bodyPost_ret:=@bodyPost_ret
theorem yP:type_of% @List.exists_cons_of_length_eq_add_one:=@List.exists_cons_of_length_eq_add_one
theorem yQ:type_of% @wp_region_held_drew:=@wp_region_held_drew
theorem yR:type_of% @below_drew:=@below_drew
theorem yS:type_of% @heap_lt:=@heap_lt
theorem yT:type_of% @results_cell_row:=@results_cell_row
theorem yU:type_of% @ownsRow_setCell_below:=@ownsRow_setCell_below
theorem yV:type_of% @Nat.le_refl:=@Nat.le_refl
theorem yW:type_of% @Nat.le_trans:=@Nat.le_trans
theorem yX:type_of% @wpAnyH_done:=@wpAnyH_done
theorem zrd {P:Program} {ops:Array Oper} {Q:Exit→Act→World→Prop} {md:Region.Mode} {S:World→Prop} {i:Nat} {o:Oper} {fuel:Nat} {listed:Array Bool} {a:Act} {w:World} (ho:ops[i]?=some o)
 (h:∀ K':Act→World→Prop,Shut (∀ a w,S w→(S w→wpAnyH P md ops Q S fuel (listed.setIfInBounds i true) a w)→K' a w)→if Region.wanted o (yielded ops a.tmps)=true then Oper.wp P o a w K' Q else K' (a.put o.dst undef) w)
 (hr:Region.ready md ops listed=[i]:=by kernel_rfl):wpAnyH P md ops Q S (fuel+1) listed a w:=
 wpAnyH_ready hr (by simp) (AllReadyH.cons ho h AllReadyH.nil)
end Go.Proofs.YtdlkjofnnefjfaaGreatDoor
