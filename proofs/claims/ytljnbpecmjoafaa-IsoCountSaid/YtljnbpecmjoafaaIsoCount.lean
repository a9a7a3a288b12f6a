/- The statement IsoCount: there are no more characters than bytes, and of two texts, the first one plain, there are those of both. No condition. -/
import Derived.Test.YtljnbpecmjoafaaRows
import Derived.WalkKit
import Derived.ProofKit
import Derived.OpenShut
import Derived.ShutString
import Derived.Test.YtljnbpecmjoafaaWalksE
namespace Go.Proofs.Ytljnbpecmjoafaa.isoCount
open Go.ChangeShapes Go.WideShapes Go.ChangeAt Go.RowKit
open Go.ChangeMaps (open_string shut_string)
set_option linter.unusedVariables false      -- a walk need not use every 'w<i>' (that an integer argument fits its kind)

theorem own : ownKnob Try.prog.godebug = none := by kernel_rfl

/-! ### STEP 1: THE WALK: the Go text returns true. 'Grown w w'': the world has at most new blocks (Derived/RowKit3.lean). Part the cases AHEAD of 'go_enter' where a test parts the walk; take each callee by a contract of your own. -/
theorem walk (a0 : ByteArray) (a1 : ByteArray) (w0 : a0.size ≤ maxLen) (w1 : a1.size ≤ maxLen) (w : World) :
    Calls Try.prog 8 #[.string a0, .string a1] w fun e w' => e = .returned (.bool true) ∧ Below w.heap.size w w' := by
  have hn := cn_le a0
  have hn1 := cn_le a1
  by_cases h : a0.size ≤ 300
  · by_cases h2 : a1.size ≤ 300
    · cases hp : pl a0 with
      | true =>
        have hq : pl (a0 ++ a1) = pl a1 := by rw [pl_app, hp, Bool.true_and]
        by_cases hz : a0.size = 0
        · have hc' : ((a0.size : Int) == 0) = true := by rw [hz]; rfl
          have he' : a0.toList.isEmpty = true := (empty_iff a0).2 hz
          clear hz
          go_enter Try.func8, Try.ntmps8
          go_wp2_with fail
          refine (awake_any _).mono ?_
          rintro e w21 ⟨rfl, b1⟩
          go_wp2_with fail
          refine (count_pl a0 _ (by omega) hp).mono ?_
          rintro e w22 ⟨rfl, b2⟩
          go_wp2_with fail
          refine (plain_is a0 true _ hp).mono ?_
          rintro e w23 ⟨rfl, b3⟩
          go_wp2_with fail
          refine (count_app a0 a1 _ (by omega) (by omega) hp).mono ?_
          rintro e w24 ⟨rfl, b4⟩
          go_wp2_with fail
          refine (count_of a1 _ (by omega)).mono ?_
          rintro e w25 ⟨rfl, b5⟩
          go_wp2_with fail
          refine (plain_is (a0 ++ a1) (pl a1) _ hq).mono ?_
          rintro e w26 ⟨rfl, b6⟩
          go_wp2_with fail
          refine (plain_is a0 true _ hp).mono ?_
          rintro e w27 ⟨rfl, b7⟩
          go_wp2_with fail
          refine (plain_is a1 (pl a1) _ rfl).mono ?_
          rintro e w28 ⟨rfl, b8⟩
          go_wp2
          go_ret
          exact ⟨rfl, below_then (below_then (below_then (below_then (below_then (below_then (below_then b1 b2) b3) b4) b5) b6) b7) b8⟩
        · have hc' : ((a0.size : Int) == 0) = false := beq_eq_false_iff_ne.2 (by omega)
          have he' : a0.toList.isEmpty = false := by
            cases e : a0.toList.isEmpty with
            | false => rfl
            | true => exact absurd ((empty_iff a0).1 e) hz
          clear hz
          go_enter Try.func8, Try.ntmps8
          go_wp2_with fail
          refine (awake_any _).mono ?_
          rintro e w21 ⟨rfl, b1⟩
          go_wp2_with fail
          refine (count_pl a0 _ (by omega) hp).mono ?_
          rintro e w22 ⟨rfl, b2⟩
          go_wp2_with fail
          refine (plain_is a0 true _ hp).mono ?_
          rintro e w23 ⟨rfl, b3⟩
          go_wp2_with fail
          refine (count_app a0 a1 _ (by omega) (by omega) hp).mono ?_
          rintro e w24 ⟨rfl, b4⟩
          go_wp2_with fail
          refine (count_of a1 _ (by omega)).mono ?_
          rintro e w25 ⟨rfl, b5⟩
          go_wp2_with fail
          refine (plain_is (a0 ++ a1) (pl a1) _ hq).mono ?_
          rintro e w26 ⟨rfl, b6⟩
          go_wp2_with fail
          refine (plain_is a0 true _ hp).mono ?_
          rintro e w27 ⟨rfl, b7⟩
          go_wp2_with fail
          refine (plain_is a1 (pl a1) _ rfl).mono ?_
          rintro e w28 ⟨rfl, b8⟩
          go_wp2
          go_ret
          exact ⟨rfl, below_then (below_then (below_then (below_then (below_then (below_then (below_then b1 b2) b3) b4) b5) b6) b7) b8⟩
      | false =>
        have hq : pl (a0 ++ a1) = false := by rw [pl_app, hp, Bool.false_and]
        have hz : ¬ a0.size = 0 := fun e => by
          rw [pl_empty a0 e] at hp; cases hp
        have hc' : ((cn a0 : Int) == 0) = false := by
          have : ¬ cn a0 = 0 := fun e => hz (by have := cn_zero a0 e; rw [this]; rfl)
          exact beq_eq_false_iff_ne.2 (by omega)
        have he' : a0.toList.isEmpty = false := by
          cases e : a0.toList.isEmpty with
          | false => rfl
          | true => exact absurd ((empty_iff a0).1 e) hz
        clear hz
        go_enter Try.func8, Try.ntmps8
        go_wp2_with fail
        refine (awake_any _).mono ?_
        rintro e w21 ⟨rfl, b1⟩
        go_wp2_with fail
        refine (count_of a0 _ (by omega)).mono ?_
        rintro e w22 ⟨rfl, b2⟩
        go_wp2_with fail
        refine (plain_is a0 false _ hp).mono ?_
        rintro e w23 ⟨rfl, b3⟩
        go_wp2_with fail
        refine (plain_is (a0 ++ a1) false _ hq).mono ?_
        rintro e w24 ⟨rfl, b4⟩
        go_wp2_with fail
        refine (plain_is a0 false _ hp).mono ?_
        rintro e w25 ⟨rfl, b5⟩
        go_wp2
        go_ret
        exact ⟨rfl, below_then (below_then (below_then (below_then b1 b2) b3) b4) b5⟩
    ·
      go_enter Try.func8, Try.ntmps8
      go_wp2_with fail
      refine (awake_any _).mono ?_
      rintro e w21 ⟨rfl, b1⟩
      go_wp2
      go_ret
      exact ⟨rfl, b1⟩
  ·
    go_enter Try.func8, Try.ntmps8
    go_wp2_with fail
    refine (awake_any _).mono ?_
    rintro e w21 ⟨rfl, b1⟩
    go_wp2
    go_ret
    exact ⟨rfl, b1⟩

/-! ### THE ROW's STEP: WRITTEN OUT: LEAVE IT -/
set_option maxRecDepth 100000 in
theorem lifted (os : Os) (started : os.Started) (H : Type) (enc : TypeId × Value → H) :
    ReturnsInHanded {} Try.checked os 8 .any (Rows.isoCountSpec.pre6 enc Try.prog Try.f8 Rows.isoCountRow.domain false) (Rows.isoCountSpec.post enc Try.prog Try.f8 false true false false) := by
  refine returnsInHanded_of_change (C := Try.checked) own started (by kernel_rfl) Try.func8
    (ChangeSpec.witness6 (enc := enc) (C := Try.checked) false ⟨#[], #[.string ByteArray.empty, .string ByteArray.empty], []⟩ 8 (by kernel_rfl) (by kernel_rfl) (by kernel_rfl) (by kernel_rfl)) ?_
  intro W base args ds gs before hval0 hW hcnd _
  have hval : ∀ (j : Nat) t v, Try.f8.params[j]? = some t → args[j]? = some v → Value.okWide Try.prog W .any base t v := hval0
  have hW' := hW
  obtain ⟨p, q, hA0, hV, rfl, hfz, hnd⟩ := hW
  have hA : DataW.TrodAll enc Try.prog W 0 (fun _ => true) true Try.f8.params.toList args.toList ds p := hA0
  rw [Try.params8] at hA hval
  obtain ⟨v0, vs0, d0, ds0, p0, q0, hargs, rfl, rfl, h0, r0⟩ := trodAll_cons hA
  obtain ⟨v1, vs1, d1, ds1, p1, q1, rfl, rfl, rfl, h1, r1⟩ := trodAll_cons r0
  obtain ⟨rfl, rfl, rfl⟩ := trodAll_nil r1
  obtain rfl : args = #[v0, v1] := by cases args; simp_all
  obtain ⟨rfl, rfl⟩ := trodVars_none hV
  obtain ⟨a0, rfl, rfl, rfl, w0⟩ := open_string Try.underlying9 (hval 0 9 v0 rfl rfl) h0
  obtain ⟨a1, rfl, rfl, rfl, w1⟩ := open_string Try.underlying9 (hval 1 9 v1 rfl rfl) h1
  clear hA0 hval0
  simp only [List.append_nil] at hW'
  refine (walk a0 a1 w0 w1 W).mono fun e W' ⟨he, hg⟩ => ?_
  subst he
  exact ⟨_, rfl, _, _, _, [], [], [], hW', (trodAll_cons_mk (shut_bool Try.underlying4 _) trodAll_mk0), (trodAll_cons_mk (shut_string Try.underlying9 w0) (trodAll_cons_mk (shut_string Try.underlying9 w1) trodAll_mk0)), rfl, hg.frame _, fun h => by cases h⟩

theorem over : Rows.isoCountRow.holds Try.pinned (OpenSpec.ofChange Rows.isoCountSpec) :=
  OpenClaim.holds_of_wide 8 Try.f8 rfl rfl rfl rfl rfl rfl rfl ⟨rfl, rfl, rfl, rfl, rfl⟩ rfl rfl rfl rfl rfl (by kernel_rfl) Try.func8 (by kernel_rfl)
    (of_decide_eq_true (by kernel_rfl)) (by unfold Func.isWrapper; first | (rw [if_pos (by decide +kernel)]; kernel_rfl) | (rw [if_neg (by decide +kernel)]; exact ⟨rfl, rfl⟩))
    (fun os started H enc _ => lifted os started H enc)

/-- ████ THE STATEMENT ████ -/
theorem proved : Rows.IsoCountSaid :=
  over
#print axioms proved
end Go.Proofs.Ytljnbpecmjoafaa.isoCount
