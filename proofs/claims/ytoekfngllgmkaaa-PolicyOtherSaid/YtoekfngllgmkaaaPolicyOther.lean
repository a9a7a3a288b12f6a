/- The statement PolicyOther: what is no policy, and the one without a name, allow what the usual one allows; the usual one has a name always. No condition. -/
import Derived.Test.YtoekfngllgmkaaaRows
import Derived.WalkKit
import Derived.ProofKit
import Derived.OpenShut
import Derived.ShutString
import Derived.Test.YtoekfngllgmkaaaWalksC
namespace Go.Proofs.Ytoekfngllgmkaaa.policyOther
open Go.ChangeShapes Go.WideShapes Go.ChangeAt Go.RowKit
open Go.ChangeMaps (open_string shut_string)
set_option linter.unusedVariables false      -- a walk need not use every 'w<i>' (that an integer argument fits its kind)

theorem own : ownKnob Try.prog.godebug = none := by kernel_rfl

/-! ### STEP 1: THE WALK: the Go text returns true. 'Grown w w'': the world has at most new blocks (Derived/RowKit3.lean). Part the cases AHEAD of 'go_enter' where a test parts the walk; take each callee by a contract of your own. -/
set_option maxRecDepth 100000 in
set_option maxHeartbeats 2000000 in
theorem walk (a0 : Int) (a1 : Bool) (a2 : Bool) (w0 : (Lit.int .i64 a0).wf = true) (w : World) :
    Calls Try.prog 8 #[.int .i64 a0, .bool a1, .bool a2] w fun e w' => e = .returned (.bool true) ∧ Below w.heap.size w w' := by
  by_cases h0 : a0 ≤ 0
  · have HU := Lib.hid (us_out (p := a0) (Or.inl h0))
    have HE : Hid (al a0 a1 a2 = al 7 a1 a2) := by show _ = _; unfold al; rw [HU.out]; rfl
    have d7 : ((7 : Int) == a0) = false := by rw [beq_eq_false_iff_ne]; omega
    have d7n : ((7 : Int) != a0) = true := by rw [bne, d7]; rfl
    go_enter Try.func8, Try.ntmps8
    go_wp2_with fail
    refine (awake_any _).mono ?_
    rintro e w21 ⟨rfl, b1⟩
    go_wp2_with fail
    refine (usual_is a0 7 _ HU.out).mono ?_
    rintro e w' ⟨rfl, rfl⟩
    go_wp2_with fail
    refine (al_is a0 (al 7 a1 a2) a1 a2 _ HE.out).mono ?_
    rintro e w22 ⟨rfl, b2⟩
    go_wp2_with fail
    refine (al_any 7 a1 a2 _).mono ?_
    rintro e w23 ⟨rfl, b3⟩
    go_wp2
    go_ret
    exact ⟨rfl, below_then (below_then b1 b2) b3⟩
  · by_cases h9 : 9 ≤ a0
    · have HU := Lib.hid (us_out (p := a0) (Or.inr h9))
      have HE : Hid (al a0 a1 a2 = al 7 a1 a2) := by show _ = _; unfold al; rw [HU.out]; rfl
      have d7 : ((7 : Int) == a0) = false := by rw [beq_eq_false_iff_ne]; omega
      have d7n : ((7 : Int) != a0) = true := by rw [bne, d7]; rfl
      go_enter Try.func8, Try.ntmps8
      go_wp2_with fail
      refine (awake_any _).mono ?_
      rintro e w21 ⟨rfl, b1⟩
      go_wp2_with fail
      refine (usual_is a0 7 _ HU.out).mono ?_
      rintro e w' ⟨rfl, rfl⟩
      go_wp2_with fail
      refine (al_is a0 (al 7 a1 a2) a1 a2 _ HE.out).mono ?_
      rintro e w22 ⟨rfl, b2⟩
      go_wp2_with fail
      refine (al_any 7 a1 a2 _).mono ?_
      rintro e w23 ⟨rfl, b3⟩
      go_wp2
      go_ret
      exact ⟨rfl, below_then (below_then b1 b2) b3⟩
    · have HU := Lib.hid (us_in (p := a0) (by omega) (by omega))
      go_enter Try.func8, Try.ntmps8
      go_wp2_with fail
      refine (awake_any _).mono ?_
      rintro e w21 ⟨rfl, b1⟩
      go_wp2_with fail
      refine (usual_is a0 a0 _ HU.out).mono ?_
      rintro e w' ⟨rfl, rfl⟩
      go_wp2
      go_ret
      exact ⟨ret_bool (by first | rfl | (simp; omega)), b1⟩

/-! ### THE ROW's STEP: WRITTEN OUT: LEAVE IT -/
set_option maxRecDepth 100000 in
theorem lifted (os : Os) (started : os.Started) (H : Type) (enc : TypeId × Value → H) :
    ReturnsInHanded {} Try.checked os 8 .any (Rows.policyOtherSpec.pre6 enc Try.prog Try.f8 Rows.policyOtherRow.domain false) (Rows.policyOtherSpec.post enc Try.prog Try.f8 false true false false) := by
  refine returnsInHanded_of_change (C := Try.checked) own started (by kernel_rfl) Try.func8
    (ChangeSpec.witness6 (enc := enc) (C := Try.checked) false ⟨#[], #[.int .i64 0, .bool false, .bool false], []⟩ 8 (by kernel_rfl) (by kernel_rfl) (by kernel_rfl) (by kernel_rfl)) ?_
  intro W base args ds gs before hval0 hW hcnd _
  have hval : ∀ (j : Nat) t v, Try.f8.params[j]? = some t → args[j]? = some v → Value.okWide Try.prog W .any base t v := hval0
  have hW' := hW
  obtain ⟨p, q, hA0, hV, rfl, hfz, hnd⟩ := hW
  have hA : DataW.TrodAll enc Try.prog W 0 (fun _ => true) true Try.f8.params.toList args.toList ds p := hA0
  rw [Try.params8] at hA hval
  obtain ⟨v0, vs0, d0, ds0, p0, q0, hargs, rfl, rfl, h0, r0⟩ := trodAll_cons hA
  obtain ⟨v1, vs1, d1, ds1, p1, q1, rfl, rfl, rfl, h1, r1⟩ := trodAll_cons r0
  obtain ⟨v2, vs2, d2, ds2, p2, q2, rfl, rfl, rfl, h2, r2⟩ := trodAll_cons r1
  obtain ⟨rfl, rfl, rfl⟩ := trodAll_nil r2
  obtain rfl : args = #[v0, v1, v2] := by cases args; simp_all
  obtain ⟨rfl, rfl⟩ := trodVars_none hV
  obtain ⟨a0, rfl, rfl, rfl, w0⟩ := open_int Try.underlying3 (hval 0 3 v0 rfl rfl) h0
  obtain ⟨a1, rfl, rfl, rfl⟩ := open_bool Try.underlying4 (hval 1 4 v1 rfl rfl) h1
  obtain ⟨a2, rfl, rfl, rfl⟩ := open_bool Try.underlying4 (hval 2 4 v2 rfl rfl) h2
  clear hA0 hval0
  simp only [List.append_nil] at hW'
  refine (walk a0 a1 a2 w0 W).mono fun e W' ⟨he, hg⟩ => ?_
  subst he
  exact ⟨_, rfl, _, _, _, [], [], [], hW', (trodAll_cons_mk (shut_bool Try.underlying4 _) trodAll_mk0), (trodAll_cons_mk (shut_int Try.underlying3 w0) (trodAll_cons_mk (shut_bool Try.underlying4 _) (trodAll_cons_mk (shut_bool Try.underlying4 _) trodAll_mk0))), rfl, hg.frame _, fun h => by cases h⟩

theorem over : Rows.policyOtherRow.holds Try.pinned (OpenSpec.ofChange Rows.policyOtherSpec) :=
  OpenClaim.holds_of_wide 8 Try.f8 rfl rfl rfl rfl rfl rfl rfl ⟨rfl, rfl, rfl, rfl, rfl⟩ rfl rfl rfl rfl rfl (by kernel_rfl) Try.func8 (by kernel_rfl)
    (of_decide_eq_true (by kernel_rfl)) (by unfold Func.isWrapper; first | (rw [if_pos (by decide +kernel)]; kernel_rfl) | (rw [if_neg (by decide +kernel)]; exact ⟨rfl, rfl⟩))
    (fun os started H enc _ => lifted os started H enc)

/-- ████ THE STATEMENT ████ -/
theorem proved : Rows.PolicyOtherSaid :=
  over
#print axioms proved
end Go.Proofs.Ytoekfngllgmkaaa.policyOther
