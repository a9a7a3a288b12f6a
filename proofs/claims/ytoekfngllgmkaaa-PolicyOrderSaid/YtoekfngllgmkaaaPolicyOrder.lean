/- The statement PolicyOrder: each is stricter than itself, and than what one that it is stricter than is stricter than; the first is stricter than all, all are stricter than the last. No condition. -/
import Derived.Test.YtoekfngllgmkaaaRows
import Derived.WalkKit
import Derived.ProofKit
import Derived.OpenShut
import Derived.ShutString
import Derived.Test.YtoekfngllgmkaaaWalksC
namespace Go.Proofs.Ytoekfngllgmkaaa.policyOrder
open Go.ChangeShapes Go.WideShapes Go.ChangeAt Go.RowKit
open Go.ChangeMaps (open_string shut_string)
set_option linter.unusedVariables false      -- a walk need not use every 'w<i>' (that an integer argument fits its kind)

theorem own : ownKnob Try.prog.godebug = none := by kernel_rfl

/-! ### STEP 1: THE WALK: the Go text returns true. 'Grown w w'': the world has at most new blocks (Derived/RowKit3.lean). Part the cases AHEAD of 'go_enter' where a test parts the walk; take each callee by a contract of your own. -/
set_option maxRecDepth 100000 in
set_option maxHeartbeats 2000000 in
theorem walk (a0 : Int) (a1 : Int) (a2 : Int) (a3 : Bool) (a4 : Bool) (w0 : (Lit.int .i64 a0).wf = true) (w1 : (Lit.int .i64 a1).wf = true) (w2 : (Lit.int .i64 a2).wf = true) (w : World) :
    Calls Try.prog 5 #[.int .i64 a0, .int .i64 a1, .int .i64 a2, .bool a3, .bool a4] w fun e w' => e = .returned (.bool true) ∧ Below w.heap.size w w' := by
  have HR := Lib.hid (st_refl a0)
  have HF := Lib.hid (st_first a0)
  have HL := Lib.hid (st_last a0)
  cases ha : st a0 a1 with
  | false =>
    have HA := Lib.hid ha
    clear ha
    cases hb : st a1 a2 with
    | false =>
      have HB := Lib.hid hb
      clear hb
      go_enter Try.func5, Try.ntmps5
      go_wp2_with fail
      refine (awake_any _).mono ?_
      rintro e w21 ⟨rfl, b1⟩
      go_wp2_with fail
      refine (st_is a0 a1 false _ HA.out).mono ?_
      rintro e w22 ⟨rfl, b2⟩
      go_wp2_with fail
      refine (st_is a1 a2 false _ HB.out).mono ?_
      rintro e w23 ⟨rfl, b3⟩
      go_wp2_with fail
      refine (st_is a0 a0 true _ HR.out).mono ?_
      rintro e w24 ⟨rfl, b4⟩
      go_wp2_with fail
      refine (st_is 1 a0 true _ HF.out).mono ?_
      rintro e w25 ⟨rfl, b5⟩
      go_wp2_with fail
      refine (st_is a0 8 true _ HL.out).mono ?_
      rintro e w26 ⟨rfl, b6⟩
      go_wp2
      go_ret
      exact ⟨rfl, below_then (below_then (below_then (below_then (below_then b1 b2) b3) b4) b5) b6⟩
    | true =>
      have HB := Lib.hid hb
      clear hb
      go_enter Try.func5, Try.ntmps5
      go_wp2_with fail
      refine (awake_any _).mono ?_
      rintro e w21 ⟨rfl, b1⟩
      go_wp2_with fail
      refine (st_is a0 a1 false _ HA.out).mono ?_
      rintro e w22 ⟨rfl, b2⟩
      go_wp2_with fail
      refine (st_is a1 a2 true _ HB.out).mono ?_
      rintro e w23 ⟨rfl, b3⟩
      go_wp2_with fail
      refine (st_is a0 a0 true _ HR.out).mono ?_
      rintro e w24 ⟨rfl, b4⟩
      go_wp2_with fail
      refine (st_is 1 a0 true _ HF.out).mono ?_
      rintro e w25 ⟨rfl, b5⟩
      go_wp2_with fail
      refine (st_is a0 8 true _ HL.out).mono ?_
      rintro e w26 ⟨rfl, b6⟩
      go_wp2
      go_ret
      exact ⟨rfl, below_then (below_then (below_then (below_then (below_then b1 b2) b3) b4) b5) b6⟩
  | true =>
    have hle := (st_iff a0 a1).1 ha a3 a4
    have HA := Lib.hid ha
    clear ha
    cases hb : st a1 a2 with
    | false =>
      have HB := Lib.hid hb
      clear hb
      cases hc : st a1 a0 with
      | false =>
        have HC := Lib.hid hc
        clear hc
        go_enter Try.func5, Try.ntmps5
        go_wp2_with fail
        refine (awake_any _).mono ?_
        rintro e w21 ⟨rfl, b1⟩
        go_wp2_with fail
        refine (st_is a0 a1 true _ HA.out).mono ?_
        rintro e w22 ⟨rfl, b2⟩
        go_wp2_with fail
        refine (st_is a1 a2 false _ HB.out).mono ?_
        rintro e w23 ⟨rfl, b3⟩
        go_wp2_with fail
        refine (st_is a1 a0 false _ HC.out).mono ?_
        rintro e w24 ⟨rfl, b4⟩
        go_wp2_with fail
        refine (st_is a0 a0 true _ HR.out).mono ?_
        rintro e w25 ⟨rfl, b5⟩
        go_wp2_with fail
        refine (st_is 1 a0 true _ HF.out).mono ?_
        rintro e w26 ⟨rfl, b6⟩
        go_wp2_with fail
        refine (st_is a0 8 true _ HL.out).mono ?_
        rintro e w27 ⟨rfl, b7⟩
        go_wp2_with fail
        refine (al_any a0 a3 a4 _).mono ?_
        rintro e w28 ⟨rfl, b8⟩
        go_wp2_with fail
        refine (al_any a1 a3 a4 _).mono ?_
        rintro e w29 ⟨rfl, b9⟩
        go_wp2
        go_ret
        exact ⟨ret_bool (by first | rfl | (apply decide_eq_true; omega) | (simp; omega)), below_then (below_then (below_then (below_then (below_then (below_then (below_then (below_then b1 b2) b3) b4) b5) b6) b7) b8) b9⟩
      | true =>
        have HC := Lib.hid hc
        clear hc
        have HE : Hid (al a1 a3 a4 = al a0 a3 a4) := Int.le_antisymm ((st_iff a1 a0).1 HC.out a3 a4) hle
        go_enter Try.func5, Try.ntmps5
        go_wp2_with fail
        refine (awake_any _).mono ?_
        rintro e w21 ⟨rfl, b1⟩
        go_wp2_with fail
        refine (st_is a0 a1 true _ HA.out).mono ?_
        rintro e w22 ⟨rfl, b2⟩
        go_wp2_with fail
        refine (st_is a1 a2 false _ HB.out).mono ?_
        rintro e w23 ⟨rfl, b3⟩
        go_wp2_with fail
        refine (st_is a1 a0 true _ HC.out).mono ?_
        rintro e w24 ⟨rfl, b4⟩
        go_wp2_with fail
        refine (st_is a0 a0 true _ HR.out).mono ?_
        rintro e w25 ⟨rfl, b5⟩
        go_wp2_with fail
        refine (st_is 1 a0 true _ HF.out).mono ?_
        rintro e w26 ⟨rfl, b6⟩
        go_wp2_with fail
        refine (st_is a0 8 true _ HL.out).mono ?_
        rintro e w27 ⟨rfl, b7⟩
        go_wp2_with fail
        refine (al_any a0 a3 a4 _).mono ?_
        rintro e w28 ⟨rfl, b8⟩
        go_wp2_with fail
        refine (al_any a1 a3 a4 _).mono ?_
        rintro e w29 ⟨rfl, b9⟩
        go_wp2_with fail
        refine (al_any a0 a3 a4 _).mono ?_
        rintro e w30 ⟨rfl, b10⟩
        go_wp2_with fail
        refine (al_is a1 (al a0 a3 a4) a3 a4 _ HE.out).mono ?_
        rintro e w31 ⟨rfl, b11⟩
        go_wp2
        go_ret
        exact ⟨ret_bool (by first | rfl | (apply decide_eq_true; omega) | (simp; omega)), below_then (below_then (below_then (below_then (below_then (below_then (below_then (below_then (below_then (below_then b1 b2) b3) b4) b5) b6) b7) b8) b9) b10) b11⟩
    | true =>
      have HB := Lib.hid hb
      clear hb
      have HT := Lib.hid (st_trans HA.out HB.out)
      cases hc : st a1 a0 with
      | false =>
        have HC := Lib.hid hc
        clear hc
        go_enter Try.func5, Try.ntmps5
        go_wp2_with fail
        refine (awake_any _).mono ?_
        rintro e w21 ⟨rfl, b1⟩
        go_wp2_with fail
        refine (st_is a0 a1 true _ HA.out).mono ?_
        rintro e w22 ⟨rfl, b2⟩
        go_wp2_with fail
        refine (st_is a1 a2 true _ HB.out).mono ?_
        rintro e w23 ⟨rfl, b3⟩
        go_wp2_with fail
        refine (st_is a1 a0 false _ HC.out).mono ?_
        rintro e w24 ⟨rfl, b4⟩
        go_wp2_with fail
        refine (st_is a0 a0 true _ HR.out).mono ?_
        rintro e w25 ⟨rfl, b5⟩
        go_wp2_with fail
        refine (st_is a0 a2 true _ HT.out).mono ?_
        rintro e w26 ⟨rfl, b6⟩
        go_wp2_with fail
        refine (st_is 1 a0 true _ HF.out).mono ?_
        rintro e w27 ⟨rfl, b7⟩
        go_wp2_with fail
        refine (st_is a0 8 true _ HL.out).mono ?_
        rintro e w28 ⟨rfl, b8⟩
        go_wp2_with fail
        refine (al_any a0 a3 a4 _).mono ?_
        rintro e w29 ⟨rfl, b9⟩
        go_wp2_with fail
        refine (al_any a1 a3 a4 _).mono ?_
        rintro e w30 ⟨rfl, b10⟩
        go_wp2
        go_ret
        exact ⟨ret_bool (by first | rfl | (apply decide_eq_true; omega) | (simp; omega)), below_then (below_then (below_then (below_then (below_then (below_then (below_then (below_then (below_then b1 b2) b3) b4) b5) b6) b7) b8) b9) b10⟩
      | true =>
        have HC := Lib.hid hc
        clear hc
        have HE : Hid (al a1 a3 a4 = al a0 a3 a4) := Int.le_antisymm ((st_iff a1 a0).1 HC.out a3 a4) hle
        go_enter Try.func5, Try.ntmps5
        go_wp2_with fail
        refine (awake_any _).mono ?_
        rintro e w21 ⟨rfl, b1⟩
        go_wp2_with fail
        refine (st_is a0 a1 true _ HA.out).mono ?_
        rintro e w22 ⟨rfl, b2⟩
        go_wp2_with fail
        refine (st_is a1 a2 true _ HB.out).mono ?_
        rintro e w23 ⟨rfl, b3⟩
        go_wp2_with fail
        refine (st_is a1 a0 true _ HC.out).mono ?_
        rintro e w24 ⟨rfl, b4⟩
        go_wp2_with fail
        refine (st_is a0 a0 true _ HR.out).mono ?_
        rintro e w25 ⟨rfl, b5⟩
        go_wp2_with fail
        refine (st_is a0 a2 true _ HT.out).mono ?_
        rintro e w26 ⟨rfl, b6⟩
        go_wp2_with fail
        refine (st_is 1 a0 true _ HF.out).mono ?_
        rintro e w27 ⟨rfl, b7⟩
        go_wp2_with fail
        refine (st_is a0 8 true _ HL.out).mono ?_
        rintro e w28 ⟨rfl, b8⟩
        go_wp2_with fail
        refine (al_any a0 a3 a4 _).mono ?_
        rintro e w29 ⟨rfl, b9⟩
        go_wp2_with fail
        refine (al_any a1 a3 a4 _).mono ?_
        rintro e w30 ⟨rfl, b10⟩
        go_wp2_with fail
        refine (al_any a0 a3 a4 _).mono ?_
        rintro e w31 ⟨rfl, b11⟩
        go_wp2_with fail
        refine (al_is a1 (al a0 a3 a4) a3 a4 _ HE.out).mono ?_
        rintro e w32 ⟨rfl, b12⟩
        go_wp2
        go_ret
        exact ⟨ret_bool (by first | rfl | (apply decide_eq_true; omega) | (simp; omega)), below_then (below_then (below_then (below_then (below_then (below_then (below_then (below_then (below_then (below_then (below_then b1 b2) b3) b4) b5) b6) b7) b8) b9) b10) b11) b12⟩

/-! ### THE ROW's STEP: WRITTEN OUT: LEAVE IT -/
set_option maxRecDepth 100000 in
theorem lifted (os : Os) (started : os.Started) (H : Type) (enc : TypeId × Value → H) :
    ReturnsInHanded {} Try.checked os 5 .any (Rows.policyOrderSpec.pre6 enc Try.prog Try.f5 Rows.policyOrderRow.domain false) (Rows.policyOrderSpec.post enc Try.prog Try.f5 false true false false) := by
  refine returnsInHanded_of_change (C := Try.checked) own started (by kernel_rfl) Try.func5
    (ChangeSpec.witness6 (enc := enc) (C := Try.checked) false ⟨#[], #[.int .i64 0, .int .i64 0, .int .i64 0, .bool false, .bool false], []⟩ 8 (by kernel_rfl) (by kernel_rfl) (by kernel_rfl) (by kernel_rfl)) ?_
  intro W base args ds gs before hval0 hW hcnd _
  have hval : ∀ (j : Nat) t v, Try.f5.params[j]? = some t → args[j]? = some v → Value.okWide Try.prog W .any base t v := hval0
  have hW' := hW
  obtain ⟨p, q, hA0, hV, rfl, hfz, hnd⟩ := hW
  have hA : DataW.TrodAll enc Try.prog W 0 (fun _ => true) true Try.f5.params.toList args.toList ds p := hA0
  rw [Try.params5] at hA hval
  obtain ⟨v0, vs0, d0, ds0, p0, q0, hargs, rfl, rfl, h0, r0⟩ := trodAll_cons hA
  obtain ⟨v1, vs1, d1, ds1, p1, q1, rfl, rfl, rfl, h1, r1⟩ := trodAll_cons r0
  obtain ⟨v2, vs2, d2, ds2, p2, q2, rfl, rfl, rfl, h2, r2⟩ := trodAll_cons r1
  obtain ⟨v3, vs3, d3, ds3, p3, q3, rfl, rfl, rfl, h3, r3⟩ := trodAll_cons r2
  obtain ⟨v4, vs4, d4, ds4, p4, q4, rfl, rfl, rfl, h4, r4⟩ := trodAll_cons r3
  obtain ⟨rfl, rfl, rfl⟩ := trodAll_nil r4
  obtain rfl : args = #[v0, v1, v2, v3, v4] := by cases args; simp_all
  obtain ⟨rfl, rfl⟩ := trodVars_none hV
  obtain ⟨a0, rfl, rfl, rfl, w0⟩ := open_int Try.underlying3 (hval 0 3 v0 rfl rfl) h0
  obtain ⟨a1, rfl, rfl, rfl, w1⟩ := open_int Try.underlying3 (hval 1 3 v1 rfl rfl) h1
  obtain ⟨a2, rfl, rfl, rfl, w2⟩ := open_int Try.underlying3 (hval 2 3 v2 rfl rfl) h2
  obtain ⟨a3, rfl, rfl, rfl⟩ := open_bool Try.underlying4 (hval 3 4 v3 rfl rfl) h3
  obtain ⟨a4, rfl, rfl, rfl⟩ := open_bool Try.underlying4 (hval 4 4 v4 rfl rfl) h4
  clear hA0 hval0
  simp only [List.append_nil] at hW'
  refine (walk a0 a1 a2 a3 a4 w0 w1 w2 W).mono fun e W' ⟨he, hg⟩ => ?_
  subst he
  exact ⟨_, rfl, _, _, _, [], [], [], hW', (trodAll_cons_mk (shut_bool Try.underlying4 _) trodAll_mk0), (trodAll_cons_mk (shut_int Try.underlying3 w0) (trodAll_cons_mk (shut_int Try.underlying3 w1) (trodAll_cons_mk (shut_int Try.underlying3 w2) (trodAll_cons_mk (shut_bool Try.underlying4 _) (trodAll_cons_mk (shut_bool Try.underlying4 _) trodAll_mk0))))), rfl, hg.frame _, fun h => by cases h⟩

theorem over : Rows.policyOrderRow.holds Try.pinned (OpenSpec.ofChange Rows.policyOrderSpec) :=
  OpenClaim.holds_of_wide 5 Try.f5 rfl rfl rfl rfl rfl rfl rfl ⟨rfl, rfl, rfl, rfl, rfl⟩ rfl rfl rfl rfl rfl (by kernel_rfl) Try.func5 (by kernel_rfl)
    (of_decide_eq_true (by kernel_rfl)) (by unfold Func.isWrapper; first | (rw [if_pos (by decide +kernel)]; kernel_rfl) | (rw [if_neg (by decide +kernel)]; exact ⟨rfl, rfl⟩))
    (fun os started H enc _ => lifted os started H enc)

/-- ████ THE STATEMENT ████ -/
theorem proved : Rows.PolicyOrderSaid :=
  over
#print axioms proved
end Go.Proofs.Ytoekfngllgmkaaa.policyOrder
