/- The statement PolicyLevels: what goes neither to another origin nor down is allowed the most of a policy; the most is nothing of the first policy alone. No condition. -/
import Derived.Test.YtoekfngllgmkaaaRows
import Derived.WalkKit
import Derived.ProofKit
import Derived.OpenShut
import Derived.ShutString
import Derived.Test.YtoekfngllgmkaaaWalksC
namespace Go.Proofs.Ytoekfngllgmkaaa.policyLevels
open Go.ChangeShapes Go.WideShapes Go.ChangeAt Go.RowKit
open Go.ChangeMaps (open_string shut_string)
set_option linter.unusedVariables false      -- a walk need not use every 'w<i>' (that an integer argument fits its kind)

theorem own : ownKnob Try.prog.godebug = none := by kernel_rfl

/-! ### STEP 1: THE WALK: the Go text returns true. 'Grown w w'': the world has at most new blocks (Derived/RowKit3.lean). Part the cases AHEAD of 'go_enter' where a test parts the walk; take each callee by a contract of your own. -/
set_option maxRecDepth 100000 in
set_option maxHeartbeats 2000000 in
theorem walk (a0 : Int) (w0 : (Lit.int .i64 a0).wf = true) (w : World) :
    Calls Try.prog 7 #[.int .i64 a0] w fun e w' => e = .returned (.bool true) ∧ Below w.heap.size w w' := by
  by_cases h1 : a0 = 1
  · subst h1
    go_enter Try.func7, Try.ntmps7
    go_wp2_with fail
    refine (awake_any _).mono ?_
    rintro e w21 ⟨rfl, b1⟩
    go_wp2_with fail
    refine (mo_is 1 0 _ (by decide)).mono ?_
    rintro e w22 ⟨rfl, b2⟩
    go_wp2_with fail
    refine (al_is 1 0 true false _ (by decide)).mono ?_
    rintro e w23 ⟨rfl, b3⟩
    go_wp2
    go_ret
    exact ⟨rfl, below_then (below_then b1 b2) b3⟩
  · by_cases h4 : a0 = 4
    · subst h4
      go_enter Try.func7, Try.ntmps7
      go_wp2_with fail
      refine (awake_any _).mono ?_
      rintro e w21 ⟨rfl, b1⟩
      go_wp2_with fail
      refine (mo_is 4 1 _ (by decide)).mono ?_
      rintro e w22 ⟨rfl, b2⟩
      go_wp2_with fail
      refine (al_is 4 1 true false _ (by decide)).mono ?_
      rintro e w23 ⟨rfl, b3⟩
      go_wp2
      go_ret
      exact ⟨rfl, below_then (below_then b1 b2) b3⟩
    · by_cases h5 : a0 = 5
      · subst h5
        go_enter Try.func7, Try.ntmps7
        go_wp2_with fail
        refine (awake_any _).mono ?_
        rintro e w21 ⟨rfl, b1⟩
        go_wp2_with fail
        refine (mo_is 5 1 _ (by decide)).mono ?_
        rintro e w22 ⟨rfl, b2⟩
        go_wp2_with fail
        refine (al_is 5 1 true false _ (by decide)).mono ?_
        rintro e w23 ⟨rfl, b3⟩
        go_wp2
        go_ret
        exact ⟨rfl, below_then (below_then b1 b2) b3⟩
      · have e0 : (mo a0 == 0) = false := by rw [beq_eq_false_iff_ne]; exact fun e => h1 ((mo_zero a0).1 e)
        have e1 : (mo a0 == 1) = false := by rw [beq_eq_false_iff_ne]; intro e; rcases (mo_one a0).1 e with e | e <;> contradiction
        have d1 : (a0 == 1) = false := by simpa using h1
        have d4 : (a0 == 4) = false := by simpa using h4
        have d5 : (a0 == 5) = false := by simpa using h5
        clear h1 h4 h5
        go_enter Try.func7, Try.ntmps7
        go_wp2_with fail
        refine (awake_any _).mono ?_
        rintro e w21 ⟨rfl, b1⟩
        go_wp2_with fail
        refine (most_any a0 _).mono ?_
        rintro e w22 ⟨rfl, b2⟩
        go_wp2_with fail
        refine (al_is a0 (mo a0) true false _ rfl).mono ?_
        rintro e w23 ⟨rfl, b3⟩
        go_wp2
        go_ret
        exact ⟨rfl, below_then (below_then b1 b2) b3⟩

/-! ### THE ROW's STEP: WRITTEN OUT: LEAVE IT -/
set_option maxRecDepth 100000 in
theorem lifted (os : Os) (started : os.Started) (H : Type) (enc : TypeId × Value → H) :
    ReturnsInHanded {} Try.checked os 7 .any (Rows.policyLevelsSpec.pre6 enc Try.prog Try.f7 Rows.policyLevelsRow.domain false) (Rows.policyLevelsSpec.post enc Try.prog Try.f7 false true false false) := by
  refine returnsInHanded_of_change (C := Try.checked) own started (by kernel_rfl) Try.func7
    (ChangeSpec.witness6 (enc := enc) (C := Try.checked) false ⟨#[], #[.int .i64 0], []⟩ 8 (by kernel_rfl) (by kernel_rfl) (by kernel_rfl) (by kernel_rfl)) ?_
  intro W base args ds gs before hval0 hW hcnd _
  have hval : ∀ (j : Nat) t v, Try.f7.params[j]? = some t → args[j]? = some v → Value.okWide Try.prog W .any base t v := hval0
  have hW' := hW
  obtain ⟨p, q, hA0, hV, rfl, hfz, hnd⟩ := hW
  have hA : DataW.TrodAll enc Try.prog W 0 (fun _ => true) true Try.f7.params.toList args.toList ds p := hA0
  rw [Try.params7] at hA hval
  obtain ⟨v0, vs0, d0, ds0, p0, q0, hargs, rfl, rfl, h0, r0⟩ := trodAll_cons hA
  obtain ⟨rfl, rfl, rfl⟩ := trodAll_nil r0
  obtain rfl : args = #[v0] := by cases args; simp_all
  obtain ⟨rfl, rfl⟩ := trodVars_none hV
  obtain ⟨a0, rfl, rfl, rfl, w0⟩ := open_int Try.underlying3 (hval 0 3 v0 rfl rfl) h0
  clear hA0 hval0
  simp only [List.append_nil] at hW'
  refine (walk a0 w0 W).mono fun e W' ⟨he, hg⟩ => ?_
  subst he
  exact ⟨_, rfl, _, _, _, [], [], [], hW', (trodAll_cons_mk (shut_bool Try.underlying4 _) trodAll_mk0), (trodAll_cons_mk (shut_int Try.underlying3 w0) trodAll_mk0), rfl, hg.frame _, fun h => by cases h⟩

theorem over : Rows.policyLevelsRow.holds Try.pinned (OpenSpec.ofChange Rows.policyLevelsSpec) :=
  OpenClaim.holds_of_wide 7 Try.f7 rfl rfl rfl rfl rfl rfl rfl ⟨rfl, rfl, rfl, rfl, rfl⟩ rfl rfl rfl rfl rfl (by kernel_rfl) Try.func7 (by kernel_rfl)
    (of_decide_eq_true (by kernel_rfl)) (by unfold Func.isWrapper; first | (rw [if_pos (by decide +kernel)]; kernel_rfl) | (rw [if_neg (by decide +kernel)]; exact ⟨rfl, rfl⟩))
    (fun os started H enc _ => lifted os started H enc)

/-- ████ THE STATEMENT ████ -/
theorem proved : Rows.PolicyLevelsSaid :=
  over
#print axioms proved
end Go.Proofs.Ytoekfngllgmkaaa.policyLevels
