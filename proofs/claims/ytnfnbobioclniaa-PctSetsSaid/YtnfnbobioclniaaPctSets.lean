/- The walk of PctSets, and the statement. No condition. -/
import Derived.Test.YtnfnbobioclniaaRows
import Derived.WalkKit
import Derived.ProofKit
import Derived.OpenShut
import Derived.ShutString
import Derived.Test.YtnfnbobioclniaaWalksK
namespace Go.Proofs.Ytnfnbobioclniaa.pctSets
open Go.ChangeShapes Go.WideShapes Go.ChangeAt Go.RowKit
open Go.ChangeMaps (open_string shut_string)
set_option linter.unusedVariables false      -- a walk need not use every 'w<i>' (that an integer argument fits its kind)

theorem own : ownKnob Try.prog.godebug = none := by kernel_rfl

/-! ### STEP 1: THE WALK: the Go text returns true. 'Grown w w'': the world has at most new blocks (Derived/RowKit3.lean). Part the cases AHEAD of 'go_enter' where a test parts the walk; take each callee by a contract of your own. -/
set_option maxRecDepth 100000 in
set_option maxHeartbeats 2000000 in
theorem walk (a0 : Int) (w0 : (Lit.int .u8 a0).wf = true) (w : World) :
    Calls Try.prog 6 #[.int .u8 a0] w fun e w' => e = .returned (.bool true) ∧ Below w.heap.size w w' := by
  obtain ⟨c, rfl⟩ := byte_of w0
  have hcu := c.toNat_lt
  obtain ⟨f1, f2, f3, f4⟩ := inS_chain c
  have h5 : inS 5 c = false := inS_other 5 c (by omega)
  have h6 : inS (-1) c = false := inS_other (-1) c (by omega)
  have HI : Hid (∀ (set : Int) (b : Bool) (w : World), inS set c = b → Calls Try.prog 13 #[.int .i64 set, .int .u8 c.toNat] w fun e w' => e = .returned (.bool b) ∧ Below w.heap.size w w') := fun set b w h => in_is set c b w h
  by_cases hp : plainC c = true
  · have h4 : inS 4 c = false := f4 hp
    have h3 : inS 3 c = false := by cases h : inS 3 c with
      | false => rfl
      | true => rw [f3 h] at h4; cases h4
    have h2 : inS 2 c = false := by cases h : inS 2 c with
      | false => rfl
      | true => rw [f2 h] at h3; cases h3
    have h0 : inS 0 c = false := by cases h : inS 0 c with
      | false => rfl
      | true => rw [(f1 h).2] at h2; cases h2
    have h1 : inS 1 c = false := plain_1 c hp
    have h0 := Lib.hid h0
    have h1 := Lib.hid h1
    have h2 := Lib.hid h2
    have h3 := Lib.hid h3
    have h4 := Lib.hid h4
    have h5 := Lib.hid h5
    have h6 := Lib.hid h6
    have hR := plainC_yes c hp
    clear f1 f2 f3 f4 hp
    rcases hR with ⟨r1, r2⟩ | ⟨r1, r2⟩ | ⟨r1, r2⟩ | hR
    ·
      go_enter Try.func6, Try.ntmps6
      go_wp2_with fail
      refine (awake_any _).mono ?_
      rintro e w21 ⟨rfl, b1⟩
      go_wp2_with fail
      refine (HI.out (0) false _ h0.out).mono ?_
      rintro e w22 ⟨rfl, b2⟩
      go_wp2_with fail
      refine (HI.out (2) false _ h2.out).mono ?_
      rintro e w23 ⟨rfl, b3⟩
      go_wp2_with fail
      refine (HI.out (3) false _ h3.out).mono ?_
      rintro e w24 ⟨rfl, b4⟩
      go_wp2_with fail
      refine (HI.out (4) false _ h4.out).mono ?_
      rintro e w25 ⟨rfl, b5⟩
      go_wp2_with fail
      refine (HI.out (1) false _ h1.out).mono ?_
      rintro e w26 ⟨rfl, b6⟩
      go_wp2_with fail
      refine (HI.out (5) false _ h5.out).mono ?_
      rintro e w27 ⟨rfl, b7⟩
      go_wp2_with fail
      refine (HI.out (-1) false _ h6.out).mono ?_
      rintro e w28 ⟨rfl, b8⟩
      go_wp2
      go_ret
      exact ⟨ret_bool (by first | rfl | (simp; omega)), below_then (below_then (below_then (below_then (below_then (below_then (below_then b1 b2) b3) b4) b5) b6) b7) b8⟩
    ·
      go_enter Try.func6, Try.ntmps6
      go_wp2_with fail
      refine (awake_any _).mono ?_
      rintro e w21 ⟨rfl, b1⟩
      go_wp2_with fail
      refine (HI.out (0) false _ h0.out).mono ?_
      rintro e w22 ⟨rfl, b2⟩
      go_wp2_with fail
      refine (HI.out (2) false _ h2.out).mono ?_
      rintro e w23 ⟨rfl, b3⟩
      go_wp2_with fail
      refine (HI.out (3) false _ h3.out).mono ?_
      rintro e w24 ⟨rfl, b4⟩
      go_wp2_with fail
      refine (HI.out (4) false _ h4.out).mono ?_
      rintro e w25 ⟨rfl, b5⟩
      go_wp2_with fail
      refine (HI.out (1) false _ h1.out).mono ?_
      rintro e w26 ⟨rfl, b6⟩
      go_wp2_with fail
      refine (HI.out (5) false _ h5.out).mono ?_
      rintro e w27 ⟨rfl, b7⟩
      go_wp2_with fail
      refine (HI.out (-1) false _ h6.out).mono ?_
      rintro e w28 ⟨rfl, b8⟩
      go_wp2
      go_ret
      exact ⟨ret_bool (by first | rfl | (simp; omega)), below_then (below_then (below_then (below_then (below_then (below_then (below_then b1 b2) b3) b4) b5) b6) b7) b8⟩
    ·
      go_enter Try.func6, Try.ntmps6
      go_wp2_with fail
      refine (awake_any _).mono ?_
      rintro e w21 ⟨rfl, b1⟩
      go_wp2_with fail
      refine (HI.out (0) false _ h0.out).mono ?_
      rintro e w22 ⟨rfl, b2⟩
      go_wp2_with fail
      refine (HI.out (2) false _ h2.out).mono ?_
      rintro e w23 ⟨rfl, b3⟩
      go_wp2_with fail
      refine (HI.out (3) false _ h3.out).mono ?_
      rintro e w24 ⟨rfl, b4⟩
      go_wp2_with fail
      refine (HI.out (4) false _ h4.out).mono ?_
      rintro e w25 ⟨rfl, b5⟩
      go_wp2_with fail
      refine (HI.out (1) false _ h1.out).mono ?_
      rintro e w26 ⟨rfl, b6⟩
      go_wp2_with fail
      refine (HI.out (5) false _ h5.out).mono ?_
      rintro e w27 ⟨rfl, b7⟩
      go_wp2_with fail
      refine (HI.out (-1) false _ h6.out).mono ?_
      rintro e w28 ⟨rfl, b8⟩
      go_wp2
      go_ret
      exact ⟨ret_bool (by first | rfl | (simp; omega)), below_then (below_then (below_then (below_then (below_then (below_then (below_then b1 b2) b3) b4) b5) b6) b7) b8⟩
    · rcases hR with rfl | rfl | rfl | rfl
      ·
        go_enter Try.func6, Try.ntmps6
        go_wp2_with fail
        refine (awake_any _).mono ?_
        rintro e w21 ⟨rfl, b1⟩
        go_wp2_with fail
        refine (in_is (0) 37 false _ (by decide)).mono ?_
        rintro e w22 ⟨rfl, b2⟩
        go_wp2_with fail
        refine (in_is (2) 37 false _ (by decide)).mono ?_
        rintro e w23 ⟨rfl, b3⟩
        go_wp2_with fail
        refine (in_is (3) 37 false _ (by decide)).mono ?_
        rintro e w24 ⟨rfl, b4⟩
        go_wp2_with fail
        refine (in_is (4) 37 false _ (by decide)).mono ?_
        rintro e w25 ⟨rfl, b5⟩
        go_wp2_with fail
        refine (in_is (1) 37 false _ (by decide)).mono ?_
        rintro e w26 ⟨rfl, b6⟩
        go_wp2_with fail
        refine (in_is (5) 37 false _ (by decide)).mono ?_
        rintro e w27 ⟨rfl, b7⟩
        go_wp2_with fail
        refine (in_is (-1) 37 false _ (by decide)).mono ?_
        rintro e w28 ⟨rfl, b8⟩
        go_wp2
        go_ret
        exact ⟨ret_bool (by first | rfl | (simp; omega)), below_then (below_then (below_then (below_then (below_then (below_then (below_then b1 b2) b3) b4) b5) b6) b7) b8⟩
      ·
        go_enter Try.func6, Try.ntmps6
        go_wp2_with fail
        refine (awake_any _).mono ?_
        rintro e w21 ⟨rfl, b1⟩
        go_wp2_with fail
        refine (in_is (0) 45 false _ (by decide)).mono ?_
        rintro e w22 ⟨rfl, b2⟩
        go_wp2_with fail
        refine (in_is (2) 45 false _ (by decide)).mono ?_
        rintro e w23 ⟨rfl, b3⟩
        go_wp2_with fail
        refine (in_is (3) 45 false _ (by decide)).mono ?_
        rintro e w24 ⟨rfl, b4⟩
        go_wp2_with fail
        refine (in_is (4) 45 false _ (by decide)).mono ?_
        rintro e w25 ⟨rfl, b5⟩
        go_wp2_with fail
        refine (in_is (1) 45 false _ (by decide)).mono ?_
        rintro e w26 ⟨rfl, b6⟩
        go_wp2_with fail
        refine (in_is (5) 45 false _ (by decide)).mono ?_
        rintro e w27 ⟨rfl, b7⟩
        go_wp2_with fail
        refine (in_is (-1) 45 false _ (by decide)).mono ?_
        rintro e w28 ⟨rfl, b8⟩
        go_wp2
        go_ret
        exact ⟨ret_bool (by first | rfl | (simp; omega)), below_then (below_then (below_then (below_then (below_then (below_then (below_then b1 b2) b3) b4) b5) b6) b7) b8⟩
      ·
        go_enter Try.func6, Try.ntmps6
        go_wp2_with fail
        refine (awake_any _).mono ?_
        rintro e w21 ⟨rfl, b1⟩
        go_wp2_with fail
        refine (in_is (0) 46 false _ (by decide)).mono ?_
        rintro e w22 ⟨rfl, b2⟩
        go_wp2_with fail
        refine (in_is (2) 46 false _ (by decide)).mono ?_
        rintro e w23 ⟨rfl, b3⟩
        go_wp2_with fail
        refine (in_is (3) 46 false _ (by decide)).mono ?_
        rintro e w24 ⟨rfl, b4⟩
        go_wp2_with fail
        refine (in_is (4) 46 false _ (by decide)).mono ?_
        rintro e w25 ⟨rfl, b5⟩
        go_wp2_with fail
        refine (in_is (1) 46 false _ (by decide)).mono ?_
        rintro e w26 ⟨rfl, b6⟩
        go_wp2_with fail
        refine (in_is (5) 46 false _ (by decide)).mono ?_
        rintro e w27 ⟨rfl, b7⟩
        go_wp2_with fail
        refine (in_is (-1) 46 false _ (by decide)).mono ?_
        rintro e w28 ⟨rfl, b8⟩
        go_wp2
        go_ret
        exact ⟨ret_bool (by first | rfl | (simp; omega)), below_then (below_then (below_then (below_then (below_then (below_then (below_then b1 b2) b3) b4) b5) b6) b7) b8⟩
      ·
        go_enter Try.func6, Try.ntmps6
        go_wp2_with fail
        refine (awake_any _).mono ?_
        rintro e w21 ⟨rfl, b1⟩
        go_wp2_with fail
        refine (in_is (0) 95 false _ (by decide)).mono ?_
        rintro e w22 ⟨rfl, b2⟩
        go_wp2_with fail
        refine (in_is (2) 95 false _ (by decide)).mono ?_
        rintro e w23 ⟨rfl, b3⟩
        go_wp2_with fail
        refine (in_is (3) 95 false _ (by decide)).mono ?_
        rintro e w24 ⟨rfl, b4⟩
        go_wp2_with fail
        refine (in_is (4) 95 false _ (by decide)).mono ?_
        rintro e w25 ⟨rfl, b5⟩
        go_wp2_with fail
        refine (in_is (1) 95 false _ (by decide)).mono ?_
        rintro e w26 ⟨rfl, b6⟩
        go_wp2_with fail
        refine (in_is (5) 95 false _ (by decide)).mono ?_
        rintro e w27 ⟨rfl, b7⟩
        go_wp2_with fail
        refine (in_is (-1) 95 false _ (by decide)).mono ?_
        rintro e w28 ⟨rfl, b8⟩
        go_wp2
        go_ret
        exact ⟨ret_bool (by first | rfl | (simp; omega)), below_then (below_then (below_then (below_then (below_then (below_then (below_then b1 b2) b3) b4) b5) b6) b7) b8⟩
  · have hR := plainC_no c (by simpa using hp)
    obtain ⟨q1, q2, q3, q4, hR⟩ := hR
    have hC : (inS 0 c = true ∧ inS 1 c = true ∧ inS 2 c = true ∧ inS 3 c = true ∧ inS 4 c = true) ∨ (inS 0 c = false ∧ inS 2 c = true ∧ inS 3 c = true ∧ inS 4 c = true) ∨ (inS 0 c = false ∧ inS 2 c = false ∧ inS 3 c = true ∧ inS 4 c = true) ∨ (inS 0 c = false ∧ inS 2 c = false ∧ inS 3 c = false) := by
      cases e0 : inS 0 c with
      | true => exact Or.inl ⟨rfl, (f1 e0).1, (f1 e0).2, f2 (f1 e0).2, f3 (f2 (f1 e0).2)⟩
      | false =>
        cases e2 : inS 2 c with
        | true => exact Or.inr (Or.inl ⟨rfl, rfl, f2 e2, f3 (f2 e2)⟩)
        | false =>
          cases e3 : inS 3 c with
          | true => exact Or.inr (Or.inr (Or.inl ⟨rfl, rfl, rfl, f3 e3⟩))
          | false => exact Or.inr (Or.inr (Or.inr ⟨rfl, rfl, rfl⟩))
    clear f1 f2 f3 f4 hp
    have h5 := Lib.hid h5
    have h6 := Lib.hid h6
    rcases hC with ⟨h0, h1, h2, h3, h4⟩ | ⟨h0, h2, h3, h4⟩ | ⟨h0, h2, h3, h4⟩ | ⟨h0, h2, h3⟩
    ·
      have h0 := Lib.hid h0
      have h1 := Lib.hid h1
      have h2 := Lib.hid h2
      have h3 := Lib.hid h3
      have h4 := Lib.hid h4
      rcases hR with r1 | ⟨r1, r2⟩ | ⟨r1, r2⟩ | ⟨r1, r2⟩ | ⟨r1, r2⟩ | ⟨r1, r2⟩ | r1
      all_goals
        go_enter Try.func6, Try.ntmps6
        go_wp2_with fail
        refine (awake_any _).mono ?_
        rintro e w21 ⟨rfl, b1⟩
        go_wp2_with fail
        refine (HI.out (0) true _ h0.out).mono ?_
        rintro e w22 ⟨rfl, b2⟩
        go_wp2_with fail
        refine (HI.out (2) true _ h2.out).mono ?_
        rintro e w23 ⟨rfl, b3⟩
        go_wp2_with fail
        refine (HI.out (3) true _ h3.out).mono ?_
        rintro e w24 ⟨rfl, b4⟩
        go_wp2_with fail
        refine (HI.out (1) true _ h1.out).mono ?_
        rintro e w25 ⟨rfl, b5⟩
        go_wp2_with fail
        refine (HI.out (4) true _ h4.out).mono ?_
        rintro e w26 ⟨rfl, b6⟩
        go_wp2_with fail
        refine (HI.out (5) false _ h5.out).mono ?_
        rintro e w27 ⟨rfl, b7⟩
        go_wp2_with fail
        refine (HI.out (-1) false _ h6.out).mono ?_
        rintro e w28 ⟨rfl, b8⟩
        go_wp2
        go_ret
        exact ⟨ret_bool (by first | rfl | (simp; omega)), below_then (below_then (below_then (below_then (below_then (below_then (below_then b1 b2) b3) b4) b5) b6) b7) b8⟩
    ·
      have h0 := Lib.hid h0
      have h2 := Lib.hid h2
      have h3 := Lib.hid h3
      have h4 := Lib.hid h4
      rcases hR with r1 | ⟨r1, r2⟩ | ⟨r1, r2⟩ | ⟨r1, r2⟩ | ⟨r1, r2⟩ | ⟨r1, r2⟩ | r1
      all_goals
        go_enter Try.func6, Try.ntmps6
        go_wp2_with fail
        refine (awake_any _).mono ?_
        rintro e w21 ⟨rfl, b1⟩
        go_wp2_with fail
        refine (HI.out (0) false _ h0.out).mono ?_
        rintro e w22 ⟨rfl, b2⟩
        go_wp2_with fail
        refine (HI.out (2) true _ h2.out).mono ?_
        rintro e w23 ⟨rfl, b3⟩
        go_wp2_with fail
        refine (HI.out (3) true _ h3.out).mono ?_
        rintro e w24 ⟨rfl, b4⟩
        go_wp2_with fail
        refine (HI.out (4) true _ h4.out).mono ?_
        rintro e w25 ⟨rfl, b5⟩
        go_wp2_with fail
        refine (HI.out (5) false _ h5.out).mono ?_
        rintro e w26 ⟨rfl, b6⟩
        go_wp2_with fail
        refine (HI.out (-1) false _ h6.out).mono ?_
        rintro e w27 ⟨rfl, b7⟩
        go_wp2
        go_ret
        exact ⟨ret_bool (by first | rfl | (simp; omega)), below_then (below_then (below_then (below_then (below_then (below_then b1 b2) b3) b4) b5) b6) b7⟩
    ·
      have h0 := Lib.hid h0
      have h2 := Lib.hid h2
      have h3 := Lib.hid h3
      have h4 := Lib.hid h4
      rcases hR with r1 | ⟨r1, r2⟩ | ⟨r1, r2⟩ | ⟨r1, r2⟩ | ⟨r1, r2⟩ | ⟨r1, r2⟩ | r1
      all_goals
        go_enter Try.func6, Try.ntmps6
        go_wp2_with fail
        refine (awake_any _).mono ?_
        rintro e w21 ⟨rfl, b1⟩
        go_wp2_with fail
        refine (HI.out (0) false _ h0.out).mono ?_
        rintro e w22 ⟨rfl, b2⟩
        go_wp2_with fail
        refine (HI.out (2) false _ h2.out).mono ?_
        rintro e w23 ⟨rfl, b3⟩
        go_wp2_with fail
        refine (HI.out (3) true _ h3.out).mono ?_
        rintro e w24 ⟨rfl, b4⟩
        go_wp2_with fail
        refine (HI.out (4) true _ h4.out).mono ?_
        rintro e w25 ⟨rfl, b5⟩
        go_wp2_with fail
        refine (HI.out (5) false _ h5.out).mono ?_
        rintro e w26 ⟨rfl, b6⟩
        go_wp2_with fail
        refine (HI.out (-1) false _ h6.out).mono ?_
        rintro e w27 ⟨rfl, b7⟩
        go_wp2
        go_ret
        exact ⟨ret_bool (by first | rfl | (simp; omega)), below_then (below_then (below_then (below_then (below_then (below_then b1 b2) b3) b4) b5) b6) b7⟩
    ·
      have h0 := Lib.hid h0
      have h2 := Lib.hid h2
      have h3 := Lib.hid h3
      rcases hR with r1 | ⟨r1, r2⟩ | ⟨r1, r2⟩ | ⟨r1, r2⟩ | ⟨r1, r2⟩ | ⟨r1, r2⟩ | r1
      all_goals
        go_enter Try.func6, Try.ntmps6
        go_wp2_with fail
        refine (awake_any _).mono ?_
        rintro e w21 ⟨rfl, b1⟩
        go_wp2_with fail
        refine (HI.out (0) false _ h0.out).mono ?_
        rintro e w22 ⟨rfl, b2⟩
        go_wp2_with fail
        refine (HI.out (2) false _ h2.out).mono ?_
        rintro e w23 ⟨rfl, b3⟩
        go_wp2_with fail
        refine (HI.out (3) false _ h3.out).mono ?_
        rintro e w24 ⟨rfl, b4⟩
        go_wp2_with fail
        refine (HI.out (5) false _ h5.out).mono ?_
        rintro e w25 ⟨rfl, b5⟩
        go_wp2_with fail
        refine (HI.out (-1) false _ h6.out).mono ?_
        rintro e w26 ⟨rfl, b6⟩
        go_wp2
        go_ret
        exact ⟨ret_bool (by first | rfl | (simp; omega)), below_then (below_then (below_then (below_then (below_then b1 b2) b3) b4) b5) b6⟩

/-! ### THE ROW's STEP: WRITTEN OUT: LEAVE IT -/
set_option maxRecDepth 100000 in
theorem lifted (os : Os) (started : os.Started) (H : Type) (enc : TypeId × Value → H) :
    ReturnsInHanded {} Try.checked os 6 .any (Rows.pctSetsSpec.pre6 enc Try.prog Try.f6 Rows.pctSetsRow.domain false) (Rows.pctSetsSpec.post enc Try.prog Try.f6 false true false false) := by
  refine returnsInHanded_of_change (C := Try.checked) own started (by kernel_rfl) Try.func6
    (ChangeSpec.witness6 (enc := enc) (C := Try.checked) false ⟨#[], #[.int .u8 0], []⟩ 8 (by kernel_rfl) (by kernel_rfl) (by kernel_rfl) (by kernel_rfl)) ?_
  intro W base args ds gs before hval0 hW hcnd _
  have hval : ∀ (j : Nat) t v, Try.f6.params[j]? = some t → args[j]? = some v → Value.okWide Try.prog W .any base t v := hval0
  have hW' := hW
  obtain ⟨p, q, hA0, hV, rfl, hfz, hnd⟩ := hW
  have hA : DataW.TrodAll enc Try.prog W 0 (fun _ => true) true Try.f6.params.toList args.toList ds p := hA0
  rw [Try.params6] at hA hval
  obtain ⟨v0, vs0, d0, ds0, p0, q0, hargs, rfl, rfl, h0, r0⟩ := trodAll_cons hA
  obtain ⟨rfl, rfl, rfl⟩ := trodAll_nil r0
  obtain rfl : args = #[v0] := by cases args; simp_all
  obtain ⟨rfl, rfl⟩ := trodVars_none hV
  obtain ⟨a0, rfl, rfl, rfl, w0⟩ := open_int Try.underlying5 (hval 0 5 v0 rfl rfl) h0
  clear hA0 hval0
  simp only [List.append_nil] at hW'
  refine (walk a0 w0 W).mono fun e W' ⟨he, hg⟩ => ?_
  subst he
  exact ⟨_, rfl, _, _, _, [], [], [], hW', (trodAll_cons_mk (shut_bool Try.underlying4 _) trodAll_mk0), (trodAll_cons_mk (shut_int Try.underlying5 w0) trodAll_mk0), rfl, hg.frame _, fun h => by cases h⟩

theorem over : Rows.pctSetsRow.holds Try.pinned (OpenSpec.ofChange Rows.pctSetsSpec) :=
  OpenClaim.holds_of_wide 6 Try.f6 rfl rfl rfl rfl rfl rfl rfl ⟨rfl, rfl, rfl, rfl, rfl⟩ rfl rfl rfl rfl rfl (by kernel_rfl) Try.func6 (by kernel_rfl)
    (of_decide_eq_true (by kernel_rfl)) (by unfold Func.isWrapper; first | (rw [if_pos (by decide +kernel)]; kernel_rfl) | (rw [if_neg (by decide +kernel)]; exact ⟨rfl, rfl⟩))
    (fun os started H enc _ => lifted os started H enc)

/-- ████ THE STATEMENT ████ -/
theorem proved : Rows.PctSetsSaid :=
  over
#print axioms proved
end Go.Proofs.Ytnfnbobioclniaa.pctSets
