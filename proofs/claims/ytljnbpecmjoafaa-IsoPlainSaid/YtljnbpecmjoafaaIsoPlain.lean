/- The statement IsoPlain: what is plain stays, wide and narrow; wide a text is plain just if it is, and at most twice as long. No condition. -/
import Derived.Test.YtljnbpecmjoafaaRows
import Derived.WalkKit
import Derived.ProofKit
import Derived.OpenShut
import Derived.ShutString
import Derived.Test.YtljnbpecmjoafaaWalksE
namespace Go.Proofs.Ytljnbpecmjoafaa.isoPlain
open Go.ChangeShapes Go.WideShapes Go.ChangeAt Go.RowKit
open Go.ChangeMaps (open_string shut_string)
set_option linter.unusedVariables false      -- a walk need not use every 'w<i>' (that an integer argument fits its kind)

theorem own : ownKnob Try.prog.godebug = none := by kernel_rfl

/-! ### STEP 1: THE WALK: the Go text returns true. 'Grown w w'': the world has at most new blocks (Derived/RowKit3.lean). Part the cases AHEAD of 'go_enter' where a test parts the walk; take each callee by a contract of your own. -/
theorem walk (a0 : ByteArray) (w0 : a0.size ≤ maxLen) (w : World) :
    Calls Try.prog 5 #[.string a0] w fun e w' => e = .returned (.bool true) ∧ Below w.heap.size w w' := by
  have hz := wid_size a0
  by_cases h : a0.size ≤ 600
  · have hm : (wrap64 (2 * (a0.size : Int))) = 2 * (a0.size : Int) := by unfold wrap64; omega
    cases hp : pl a0 with
    | true =>
      clear hz
      go_enter Try.func5, Try.ntmps5
      go_wp2_with fail
      refine (awake_any _).mono ?_
      rintro e w21 ⟨rfl, b1⟩
      go_wp2_with fail
      refine (wide_pl a0 _ (by omega) hp).mono ?_
      rintro e w22 ⟨rfl, b2⟩
      go_wp2_with fail
      refine (narrow_pl a0 _ (by omega) hp).mono ?_
      rintro e w23 ⟨rfl, b3⟩
      go_wp2_with fail
      refine (plain_is a0 true _ hp).mono ?_
      rintro e w24 ⟨rfl, b4⟩
      go_wp2_with fail
      refine (plain_is a0 true _ hp).mono ?_
      rintro e w25 ⟨rfl, b5⟩
      go_wp2_with fail
      refine (count_pl a0 _ (by omega) hp).mono ?_
      rintro e w26 ⟨rfl, b6⟩
      go_wp2
      go_ret
      exact ⟨ret_bool (by first | rfl | exact decide_eq_true (by omega)), below_then (below_then (below_then (below_then (below_then b1 b2) b3) b4) b5) b6⟩
    | false =>
      have hne := beq_no (wid_not hp)
      obtain ⟨hz1, hz2⟩ := hz
      go_enter Try.func5, Try.ntmps5
      go_wp2_with fail
      refine (awake_any _).mono ?_
      rintro e w21 ⟨rfl, b1⟩
      go_wp2_with fail
      refine (wide_any a0 _ (by omega)).mono ?_
      rintro e w22 ⟨rfl, b2⟩
      go_wp2_with fail
      refine (narrow_of a0 _ (by omega)).mono ?_
      rintro e w23 ⟨rfl, b3⟩
      go_wp2_with fail
      refine (plain_is a0 false _ hp).mono ?_
      rintro e w24 ⟨rfl, b4⟩
      go_wp2_with fail
      refine (plain_is (widB a0) false _ ((pl_wid a0).trans hp)).mono ?_
      rintro e w25 ⟨rfl, b5⟩
      go_wp2
      go_ret
      exact ⟨ret_bool (by first | rfl | exact decide_eq_true (by omega)), below_then (below_then (below_then (below_then b1 b2) b3) b4) b5⟩
  ·
    go_enter Try.func5, Try.ntmps5
    go_wp2_with fail
    refine (awake_any _).mono ?_
    rintro e w21 ⟨rfl, b1⟩
    go_wp2
    go_ret
    exact ⟨rfl, b1⟩

/-! ### THE ROW's STEP: WRITTEN OUT: LEAVE IT -/
set_option maxRecDepth 100000 in
theorem lifted (os : Os) (started : os.Started) (H : Type) (enc : TypeId × Value → H) :
    ReturnsInHanded {} Try.checked os 5 .any (Rows.isoPlainSpec.pre6 enc Try.prog Try.f5 Rows.isoPlainRow.domain false) (Rows.isoPlainSpec.post enc Try.prog Try.f5 false true false false) := by
  refine returnsInHanded_of_change (C := Try.checked) own started (by kernel_rfl) Try.func5
    (ChangeSpec.witness6 (enc := enc) (C := Try.checked) false ⟨#[], #[.string ByteArray.empty], []⟩ 8 (by kernel_rfl) (by kernel_rfl) (by kernel_rfl) (by kernel_rfl)) ?_
  intro W base args ds gs before hval0 hW hcnd _
  have hval : ∀ (j : Nat) t v, Try.f5.params[j]? = some t → args[j]? = some v → Value.okWide Try.prog W .any base t v := hval0
  have hW' := hW
  obtain ⟨p, q, hA0, hV, rfl, hfz, hnd⟩ := hW
  have hA : DataW.TrodAll enc Try.prog W 0 (fun _ => true) true Try.f5.params.toList args.toList ds p := hA0
  rw [Try.params5] at hA hval
  obtain ⟨v0, vs0, d0, ds0, p0, q0, hargs, rfl, rfl, h0, r0⟩ := trodAll_cons hA
  obtain ⟨rfl, rfl, rfl⟩ := trodAll_nil r0
  obtain rfl : args = #[v0] := by cases args; simp_all
  obtain ⟨rfl, rfl⟩ := trodVars_none hV
  obtain ⟨a0, rfl, rfl, rfl, w0⟩ := open_string Try.underlying9 (hval 0 9 v0 rfl rfl) h0
  clear hA0 hval0
  simp only [List.append_nil] at hW'
  refine (walk a0 w0 W).mono fun e W' ⟨he, hg⟩ => ?_
  subst he
  exact ⟨_, rfl, _, _, _, [], [], [], hW', (trodAll_cons_mk (shut_bool Try.underlying4 _) trodAll_mk0), (trodAll_cons_mk (shut_string Try.underlying9 w0) trodAll_mk0), rfl, hg.frame _, fun h => by cases h⟩

theorem over : Rows.isoPlainRow.holds Try.pinned (OpenSpec.ofChange Rows.isoPlainSpec) :=
  OpenClaim.holds_of_wide 5 Try.f5 rfl rfl rfl rfl rfl rfl rfl ⟨rfl, rfl, rfl, rfl, rfl⟩ rfl rfl rfl rfl rfl (by kernel_rfl) Try.func5 (by kernel_rfl)
    (of_decide_eq_true (by kernel_rfl)) (by unfold Func.isWrapper; first | (rw [if_pos (by decide +kernel)]; kernel_rfl) | (rw [if_neg (by decide +kernel)]; exact ⟨rfl, rfl⟩))
    (fun os started H enc _ => lifted os started H enc)

/-- ████ THE STATEMENT ████ -/
theorem proved : Rows.IsoPlainSaid :=
  over
#print axioms proved
end Go.Proofs.Ytljnbpecmjoafaa.isoPlain
