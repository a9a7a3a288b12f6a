/- The statement PolicyApart: no two policies that have names allow the same in all ways; levels meet in no order, and with the greatest one each is itself. No condition. -/
import Derived.Test.YtoekfngllgmkaaaRows
import Derived.WalkKit
import Derived.ProofKit
import Derived.OpenShut
import Derived.ShutString
import Derived.Test.YtoekfngllgmkaaaWalksC
namespace Go.Proofs.Ytoekfngllgmkaaa.policyApart
open Go.ChangeShapes Go.WideShapes Go.ChangeAt Go.RowKit
open Go.ChangeMaps (open_string shut_string)
set_option linter.unusedVariables false      -- a walk need not use every 'w<i>' (that an integer argument fits its kind)

theorem own : ownKnob Try.prog.godebug = none := by kernel_rfl

/-! ### STEP 1: THE WALK: the Go text returns true. 'Grown w w'': the world has at most new blocks (Derived/RowKit3.lean). Part the cases AHEAD of 'go_enter' where a test parts the walk; take each callee by a contract of your own. -/
set_option maxRecDepth 100000 in
set_option maxHeartbeats 2000000 in
theorem walk (a0 : Int) (a1 : Int) (a2 : Int) (a3 : Int) (a4 : Int) (w0 : (Lit.int .i64 a0).wf = true) (w1 : (Lit.int .i64 a1).wf = true) (w2 : (Lit.int .i64 a2).wf = true) (w3 : (Lit.int .i64 a3).wf = true) (w4 : (Lit.int .i64 a4).wf = true) (w : World) :
    Calls Try.prog 6 #[.int .i64 a0, .int .i64 a1, .int .i64 a2, .int .i64 a3, .int .i64 a4] w fun e w' => e = .returned (.bool true) ∧ Below w.heap.size w w' := by
  have HC := Lib.hid (mt_comm a3 a2)
  have HS := Lib.hid (mt_assoc a2 a3 a4).symm
  by_cases p1 : 1 ≤ a0
  · by_cases p8 : a0 ≤ 8
    · by_cases q1 : 1 ≤ a1
      · by_cases q8 : a1 ≤ 8
        · by_cases he : a0 = a1
          · subst he
            have H1 := Lib.hid (st_refl a0)
            have H2 := Lib.hid (st_refl a0)
            by_cases l0 : 0 ≤ a2
            · by_cases l3 : a2 < 3
              · have HM2 := Lib.hid (mt_full l0 l3)
                have HMM := Lib.hid (mt_self l0 l3)
                go_enter Try.func6, Try.ntmps6
                go_wp2_with fail
                refine (awake_any _).mono ?_
                rintro e w21 ⟨rfl, b1⟩
                go_wp2_with fail
                refine (st_is a0 a0 true _ H1.out).mono ?_
                rintro e w22 ⟨rfl, b2⟩
                go_wp2_with fail
                refine (st_is a0 a0 true _ H2.out).mono ?_
                rintro e w23 ⟨rfl, b3⟩
                go_wp2_with fail
                refine (meet_any a2 a3 _).mono ?_
                rintro e w' ⟨rfl, rfl⟩
                go_wp2_with fail
                refine (mt_is a3 a2 (mt a2 a3) _ HC.out).mono ?_
                rintro e w' ⟨rfl, rfl⟩
                go_wp2_with fail
                refine (meet_any a2 a3 _).mono ?_
                rintro e w' ⟨rfl, rfl⟩
                go_wp2_with fail
                refine (meet_any (mt a2 a3) a4 _).mono ?_
                rintro e w' ⟨rfl, rfl⟩
                go_wp2_with fail
                refine (meet_any a3 a4 _).mono ?_
                rintro e w' ⟨rfl, rfl⟩
                go_wp2_with fail
                refine (mt_is a2 (mt a3 a4) (mt (mt a2 a3) a4) _ HS.out).mono ?_
                rintro e w' ⟨rfl, rfl⟩
                go_wp2_with fail
                refine (mt_is a2 2 a2 _ HM2.out).mono ?_
                rintro e w' ⟨rfl, rfl⟩
                go_wp2_with fail
                refine (mt_is a2 a2 a2 _ HMM.out).mono ?_
                rintro e w' ⟨rfl, rfl⟩
                go_wp2
                go_ret
                exact ⟨rfl, below_then (below_then b1 b2) b3⟩
              ·
                go_enter Try.func6, Try.ntmps6
                go_wp2_with fail
                refine (awake_any _).mono ?_
                rintro e w21 ⟨rfl, b1⟩
                go_wp2_with fail
                refine (st_is a0 a0 true _ H1.out).mono ?_
                rintro e w22 ⟨rfl, b2⟩
                go_wp2_with fail
                refine (st_is a0 a0 true _ H2.out).mono ?_
                rintro e w23 ⟨rfl, b3⟩
                go_wp2_with fail
                refine (meet_any a2 a3 _).mono ?_
                rintro e w' ⟨rfl, rfl⟩
                go_wp2_with fail
                refine (mt_is a3 a2 (mt a2 a3) _ HC.out).mono ?_
                rintro e w' ⟨rfl, rfl⟩
                go_wp2_with fail
                refine (meet_any a2 a3 _).mono ?_
                rintro e w' ⟨rfl, rfl⟩
                go_wp2_with fail
                refine (meet_any (mt a2 a3) a4 _).mono ?_
                rintro e w' ⟨rfl, rfl⟩
                go_wp2_with fail
                refine (meet_any a3 a4 _).mono ?_
                rintro e w' ⟨rfl, rfl⟩
                go_wp2_with fail
                refine (mt_is a2 (mt a3 a4) (mt (mt a2 a3) a4) _ HS.out).mono ?_
                rintro e w' ⟨rfl, rfl⟩
                go_wp2
                go_ret
                exact ⟨rfl, below_then (below_then b1 b2) b3⟩
            ·
              go_enter Try.func6, Try.ntmps6
              go_wp2_with fail
              refine (awake_any _).mono ?_
              rintro e w21 ⟨rfl, b1⟩
              go_wp2_with fail
              refine (st_is a0 a0 true _ H1.out).mono ?_
              rintro e w22 ⟨rfl, b2⟩
              go_wp2_with fail
              refine (st_is a0 a0 true _ H2.out).mono ?_
              rintro e w23 ⟨rfl, b3⟩
              go_wp2_with fail
              refine (meet_any a2 a3 _).mono ?_
              rintro e w' ⟨rfl, rfl⟩
              go_wp2_with fail
              refine (mt_is a3 a2 (mt a2 a3) _ HC.out).mono ?_
              rintro e w' ⟨rfl, rfl⟩
              go_wp2_with fail
              refine (meet_any a2 a3 _).mono ?_
              rintro e w' ⟨rfl, rfl⟩
              go_wp2_with fail
              refine (meet_any (mt a2 a3) a4 _).mono ?_
              rintro e w' ⟨rfl, rfl⟩
              go_wp2_with fail
              refine (meet_any a3 a4 _).mono ?_
              rintro e w' ⟨rfl, rfl⟩
              go_wp2_with fail
              refine (mt_is a2 (mt a3 a4) (mt (mt a2 a3) a4) _ HS.out).mono ?_
              rintro e w' ⟨rfl, rfl⟩
              go_wp2
              go_ret
              exact ⟨rfl, below_then (below_then b1 b2) b3⟩
          · have hne : (a0 == a1) = false := by simpa using he
            cases h1 : st a0 a1 with
            | false =>
              have H1 := Lib.hid h1
              clear h1 he
              by_cases l0 : 0 ≤ a2
              · by_cases l3 : a2 < 3
                · have HM2 := Lib.hid (mt_full l0 l3)
                  have HMM := Lib.hid (mt_self l0 l3)
                  go_enter Try.func6, Try.ntmps6
                  go_wp2_with fail
                  refine (awake_any _).mono ?_
                  rintro e w21 ⟨rfl, b1⟩
                  go_wp2_with fail
                  refine (st_is a0 a1 false _ H1.out).mono ?_
                  rintro e w22 ⟨rfl, b2⟩
                  go_wp2_with fail
                  refine (meet_any a2 a3 _).mono ?_
                  rintro e w' ⟨rfl, rfl⟩
                  go_wp2_with fail
                  refine (mt_is a3 a2 (mt a2 a3) _ HC.out).mono ?_
                  rintro e w' ⟨rfl, rfl⟩
                  go_wp2_with fail
                  refine (meet_any a2 a3 _).mono ?_
                  rintro e w' ⟨rfl, rfl⟩
                  go_wp2_with fail
                  refine (meet_any (mt a2 a3) a4 _).mono ?_
                  rintro e w' ⟨rfl, rfl⟩
                  go_wp2_with fail
                  refine (meet_any a3 a4 _).mono ?_
                  rintro e w' ⟨rfl, rfl⟩
                  go_wp2_with fail
                  refine (mt_is a2 (mt a3 a4) (mt (mt a2 a3) a4) _ HS.out).mono ?_
                  rintro e w' ⟨rfl, rfl⟩
                  go_wp2_with fail
                  refine (mt_is a2 2 a2 _ HM2.out).mono ?_
                  rintro e w' ⟨rfl, rfl⟩
                  go_wp2_with fail
                  refine (mt_is a2 a2 a2 _ HMM.out).mono ?_
                  rintro e w' ⟨rfl, rfl⟩
                  go_wp2
                  go_ret
                  exact ⟨rfl, below_then b1 b2⟩
                ·
                  go_enter Try.func6, Try.ntmps6
                  go_wp2_with fail
                  refine (awake_any _).mono ?_
                  rintro e w21 ⟨rfl, b1⟩
                  go_wp2_with fail
                  refine (st_is a0 a1 false _ H1.out).mono ?_
                  rintro e w22 ⟨rfl, b2⟩
                  go_wp2_with fail
                  refine (meet_any a2 a3 _).mono ?_
                  rintro e w' ⟨rfl, rfl⟩
                  go_wp2_with fail
                  refine (mt_is a3 a2 (mt a2 a3) _ HC.out).mono ?_
                  rintro e w' ⟨rfl, rfl⟩
                  go_wp2_with fail
                  refine (meet_any a2 a3 _).mono ?_
                  rintro e w' ⟨rfl, rfl⟩
                  go_wp2_with fail
                  refine (meet_any (mt a2 a3) a4 _).mono ?_
                  rintro e w' ⟨rfl, rfl⟩
                  go_wp2_with fail
                  refine (meet_any a3 a4 _).mono ?_
                  rintro e w' ⟨rfl, rfl⟩
                  go_wp2_with fail
                  refine (mt_is a2 (mt a3 a4) (mt (mt a2 a3) a4) _ HS.out).mono ?_
                  rintro e w' ⟨rfl, rfl⟩
                  go_wp2
                  go_ret
                  exact ⟨rfl, below_then b1 b2⟩
              ·
                go_enter Try.func6, Try.ntmps6
                go_wp2_with fail
                refine (awake_any _).mono ?_
                rintro e w21 ⟨rfl, b1⟩
                go_wp2_with fail
                refine (st_is a0 a1 false _ H1.out).mono ?_
                rintro e w22 ⟨rfl, b2⟩
                go_wp2_with fail
                refine (meet_any a2 a3 _).mono ?_
                rintro e w' ⟨rfl, rfl⟩
                go_wp2_with fail
                refine (mt_is a3 a2 (mt a2 a3) _ HC.out).mono ?_
                rintro e w' ⟨rfl, rfl⟩
                go_wp2_with fail
                refine (meet_any a2 a3 _).mono ?_
                rintro e w' ⟨rfl, rfl⟩
                go_wp2_with fail
                refine (meet_any (mt a2 a3) a4 _).mono ?_
                rintro e w' ⟨rfl, rfl⟩
                go_wp2_with fail
                refine (meet_any a3 a4 _).mono ?_
                rintro e w' ⟨rfl, rfl⟩
                go_wp2_with fail
                refine (mt_is a2 (mt a3 a4) (mt (mt a2 a3) a4) _ HS.out).mono ?_
                rintro e w' ⟨rfl, rfl⟩
                go_wp2
                go_ret
                exact ⟨rfl, below_then b1 b2⟩
            | true =>
              have h2 : st a1 a0 = false := by
                cases h2 : st a1 a0 with
                | false => rfl
                | true => exact absurd (al_apart p1 p8 q1 q8 h1 h2) he
              have H1 := Lib.hid h1
              have H2 := Lib.hid h2
              clear h1 h2 he
              by_cases l0 : 0 ≤ a2
              · by_cases l3 : a2 < 3
                · have HM2 := Lib.hid (mt_full l0 l3)
                  have HMM := Lib.hid (mt_self l0 l3)
                  go_enter Try.func6, Try.ntmps6
                  go_wp2_with fail
                  refine (awake_any _).mono ?_
                  rintro e w21 ⟨rfl, b1⟩
                  go_wp2_with fail
                  refine (st_is a0 a1 true _ H1.out).mono ?_
                  rintro e w22 ⟨rfl, b2⟩
                  go_wp2_with fail
                  refine (st_is a1 a0 false _ H2.out).mono ?_
                  rintro e w23 ⟨rfl, b3⟩
                  go_wp2_with fail
                  refine (meet_any a2 a3 _).mono ?_
                  rintro e w' ⟨rfl, rfl⟩
                  go_wp2_with fail
                  refine (mt_is a3 a2 (mt a2 a3) _ HC.out).mono ?_
                  rintro e w' ⟨rfl, rfl⟩
                  go_wp2_with fail
                  refine (meet_any a2 a3 _).mono ?_
                  rintro e w' ⟨rfl, rfl⟩
                  go_wp2_with fail
                  refine (meet_any (mt a2 a3) a4 _).mono ?_
                  rintro e w' ⟨rfl, rfl⟩
                  go_wp2_with fail
                  refine (meet_any a3 a4 _).mono ?_
                  rintro e w' ⟨rfl, rfl⟩
                  go_wp2_with fail
                  refine (mt_is a2 (mt a3 a4) (mt (mt a2 a3) a4) _ HS.out).mono ?_
                  rintro e w' ⟨rfl, rfl⟩
                  go_wp2_with fail
                  refine (mt_is a2 2 a2 _ HM2.out).mono ?_
                  rintro e w' ⟨rfl, rfl⟩
                  go_wp2_with fail
                  refine (mt_is a2 a2 a2 _ HMM.out).mono ?_
                  rintro e w' ⟨rfl, rfl⟩
                  go_wp2
                  go_ret
                  exact ⟨rfl, below_then (below_then b1 b2) b3⟩
                ·
                  go_enter Try.func6, Try.ntmps6
                  go_wp2_with fail
                  refine (awake_any _).mono ?_
                  rintro e w21 ⟨rfl, b1⟩
                  go_wp2_with fail
                  refine (st_is a0 a1 true _ H1.out).mono ?_
                  rintro e w22 ⟨rfl, b2⟩
                  go_wp2_with fail
                  refine (st_is a1 a0 false _ H2.out).mono ?_
                  rintro e w23 ⟨rfl, b3⟩
                  go_wp2_with fail
                  refine (meet_any a2 a3 _).mono ?_
                  rintro e w' ⟨rfl, rfl⟩
                  go_wp2_with fail
                  refine (mt_is a3 a2 (mt a2 a3) _ HC.out).mono ?_
                  rintro e w' ⟨rfl, rfl⟩
                  go_wp2_with fail
                  refine (meet_any a2 a3 _).mono ?_
                  rintro e w' ⟨rfl, rfl⟩
                  go_wp2_with fail
                  refine (meet_any (mt a2 a3) a4 _).mono ?_
                  rintro e w' ⟨rfl, rfl⟩
                  go_wp2_with fail
                  refine (meet_any a3 a4 _).mono ?_
                  rintro e w' ⟨rfl, rfl⟩
                  go_wp2_with fail
                  refine (mt_is a2 (mt a3 a4) (mt (mt a2 a3) a4) _ HS.out).mono ?_
                  rintro e w' ⟨rfl, rfl⟩
                  go_wp2
                  go_ret
                  exact ⟨rfl, below_then (below_then b1 b2) b3⟩
              ·
                go_enter Try.func6, Try.ntmps6
                go_wp2_with fail
                refine (awake_any _).mono ?_
                rintro e w21 ⟨rfl, b1⟩
                go_wp2_with fail
                refine (st_is a0 a1 true _ H1.out).mono ?_
                rintro e w22 ⟨rfl, b2⟩
                go_wp2_with fail
                refine (st_is a1 a0 false _ H2.out).mono ?_
                rintro e w23 ⟨rfl, b3⟩
                go_wp2_with fail
                refine (meet_any a2 a3 _).mono ?_
                rintro e w' ⟨rfl, rfl⟩
                go_wp2_with fail
                refine (mt_is a3 a2 (mt a2 a3) _ HC.out).mono ?_
                rintro e w' ⟨rfl, rfl⟩
                go_wp2_with fail
                refine (meet_any a2 a3 _).mono ?_
                rintro e w' ⟨rfl, rfl⟩
                go_wp2_with fail
                refine (meet_any (mt a2 a3) a4 _).mono ?_
                rintro e w' ⟨rfl, rfl⟩
                go_wp2_with fail
                refine (meet_any a3 a4 _).mono ?_
                rintro e w' ⟨rfl, rfl⟩
                go_wp2_with fail
                refine (mt_is a2 (mt a3 a4) (mt (mt a2 a3) a4) _ HS.out).mono ?_
                rintro e w' ⟨rfl, rfl⟩
                go_wp2
                go_ret
                exact ⟨rfl, below_then (below_then b1 b2) b3⟩
        ·
          go_enter Try.func6, Try.ntmps6
          go_wp2_with fail
          refine (awake_any _).mono ?_
          rintro e w21 ⟨rfl, b1⟩
          go_wp2
          go_ret
          exact ⟨rfl, b1⟩
      ·
        go_enter Try.func6, Try.ntmps6
        go_wp2_with fail
        refine (awake_any _).mono ?_
        rintro e w21 ⟨rfl, b1⟩
        go_wp2
        go_ret
        exact ⟨rfl, b1⟩
    ·
      go_enter Try.func6, Try.ntmps6
      go_wp2_with fail
      refine (awake_any _).mono ?_
      rintro e w21 ⟨rfl, b1⟩
      go_wp2
      go_ret
      exact ⟨rfl, b1⟩
  ·
    go_enter Try.func6, Try.ntmps6
    go_wp2_with fail
    refine (awake_any _).mono ?_
    rintro e w21 ⟨rfl, b1⟩
    go_wp2
    go_ret
    exact ⟨rfl, b1⟩

/-! ### THE ROW's STEP: WRITTEN OUT: LEAVE IT -/
set_option maxRecDepth 100000 in
theorem lifted (os : Os) (started : os.Started) (H : Type) (enc : TypeId × Value → H) :
    ReturnsInHanded {} Try.checked os 6 .any (Rows.policyApartSpec.pre6 enc Try.prog Try.f6 Rows.policyApartRow.domain false) (Rows.policyApartSpec.post enc Try.prog Try.f6 false true false false) := by
  refine returnsInHanded_of_change (C := Try.checked) own started (by kernel_rfl) Try.func6
    (ChangeSpec.witness6 (enc := enc) (C := Try.checked) false ⟨#[], #[.int .i64 0, .int .i64 0, .int .i64 0, .int .i64 0, .int .i64 0], []⟩ 8 (by kernel_rfl) (by kernel_rfl) (by kernel_rfl) (by kernel_rfl)) ?_
  intro W base args ds gs before hval0 hW hcnd _
  have hval : ∀ (j : Nat) t v, Try.f6.params[j]? = some t → args[j]? = some v → Value.okWide Try.prog W .any base t v := hval0
  have hW' := hW
  obtain ⟨p, q, hA0, hV, rfl, hfz, hnd⟩ := hW
  have hA : DataW.TrodAll enc Try.prog W 0 (fun _ => true) true Try.f6.params.toList args.toList ds p := hA0
  rw [Try.params6] at hA hval
  obtain ⟨v0, vs0, d0, ds0, p0, q0, hargs, rfl, rfl, h0, r0⟩ := trodAll_cons hA
  obtain ⟨v1, vs1, d1, ds1, p1, q1, rfl, rfl, rfl, h1, r1⟩ := trodAll_cons r0
  obtain ⟨v2, vs2, d2, ds2, p2, q2, rfl, rfl, rfl, h2, r2⟩ := trodAll_cons r1
  obtain ⟨v3, vs3, d3, ds3, p3, q3, rfl, rfl, rfl, h3, r3⟩ := trodAll_cons r2
  obtain ⟨v4, vs4, d4, ds4, p4, q4, rfl, rfl, rfl, h4, r4⟩ := trodAll_cons r3
  obtain ⟨rfl, rfl, rfl⟩ := trodAll_nil r4
  obtain rfl : args = #[v0, v1, v2, v3, v4] := by cases args; simp_all
  obtain ⟨rfl, rfl⟩ := trodVars_none hV
  obtain ⟨a0, rfl, rfl, rfl, w0⟩ := open_int Try.underlying3 (hval 0 3 v0 rfl rfl) h0
  obtain ⟨a1, rfl, rfl, rfl, w1⟩ := open_int Try.underlying3 (hval 1 3 v1 rfl rfl) h1
  obtain ⟨a2, rfl, rfl, rfl, w2⟩ := open_int Try.underlying3 (hval 2 3 v2 rfl rfl) h2
  obtain ⟨a3, rfl, rfl, rfl, w3⟩ := open_int Try.underlying3 (hval 3 3 v3 rfl rfl) h3
  obtain ⟨a4, rfl, rfl, rfl, w4⟩ := open_int Try.underlying3 (hval 4 3 v4 rfl rfl) h4
  clear hA0 hval0
  simp only [List.append_nil] at hW'
  refine (walk a0 a1 a2 a3 a4 w0 w1 w2 w3 w4 W).mono fun e W' ⟨he, hg⟩ => ?_
  subst he
  exact ⟨_, rfl, _, _, _, [], [], [], hW', (trodAll_cons_mk (shut_bool Try.underlying4 _) trodAll_mk0), (trodAll_cons_mk (shut_int Try.underlying3 w0) (trodAll_cons_mk (shut_int Try.underlying3 w1) (trodAll_cons_mk (shut_int Try.underlying3 w2) (trodAll_cons_mk (shut_int Try.underlying3 w3) (trodAll_cons_mk (shut_int Try.underlying3 w4) trodAll_mk0))))), rfl, hg.frame _, fun h => by cases h⟩

theorem over : Rows.policyApartRow.holds Try.pinned (OpenSpec.ofChange Rows.policyApartSpec) :=
  OpenClaim.holds_of_wide 6 Try.f6 rfl rfl rfl rfl rfl rfl rfl ⟨rfl, rfl, rfl, rfl, rfl⟩ rfl rfl rfl rfl rfl (by kernel_rfl) Try.func6 (by kernel_rfl)
    (of_decide_eq_true (by kernel_rfl)) (by unfold Func.isWrapper; first | (rw [if_pos (by decide +kernel)]; kernel_rfl) | (rw [if_neg (by decide +kernel)]; exact ⟨rfl, rfl⟩))
    (fun os started H enc _ => lifted os started H enc)

/-- ████ THE STATEMENT ████ -/
theorem proved : Rows.PolicyApartSaid :=
  over
#print axioms proved
end Go.Proofs.Ytoekfngllgmkaaa.policyApart
