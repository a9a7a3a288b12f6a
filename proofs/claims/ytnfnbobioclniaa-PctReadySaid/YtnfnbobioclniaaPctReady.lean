/- The walk of PctReady, and the statement. No condition. -/
import Derived.Test.YtnfnbobioclniaaRows
import Derived.WalkKit
import Derived.ProofKit
import Derived.OpenShut
import Derived.ShutString
import Derived.Test.YtnfnbobioclniaaWalksJ
namespace Go.Proofs.Ytnfnbobioclniaa.pctReady
open Go.ChangeShapes Go.WideShapes Go.ChangeAt Go.RowKit
open Go.ChangeMaps (open_string shut_string)
set_option linter.unusedVariables false      -- a walk need not use every 'w<i>' (that an integer argument fits its kind)

theorem own : ownKnob Try.prog.godebug = none := by kernel_rfl

/-! ### STEP 1: THE WALK: the Go text returns true. 'Grown w w'': the world has at most new blocks (Derived/RowKit3.lean). Part the cases AHEAD of 'go_enter' where a test parts the walk; take each callee by a contract of your own. -/
set_option maxRecDepth 100000 in
set_option maxHeartbeats 2000000 in
theorem walk (a0 : ByteArray) (a1 : Int) (w0 : a0.size ≤ maxLen) (w1 : (Lit.int .i64 a1).wf = true) (w : World) :
    Calls Try.prog 4 #[.string a0, .int .i64 a1] w fun e w' => e = .returned (.bool true) ∧ Below w.heap.size w w' := by
  by_cases h : a0.size ≤ 600
  · have hl := encL_len a1 a0.data.toList
    rw [size_len] at hl
    have he := enc_enc a1 a0.data.toList
    obtain ⟨e, hE⟩ : ∃ e : ByteArray, e = ⟨(encL a1 a0.data.toList).toArray⟩ := ⟨_, rfl⟩
    have he1 : e.data.toList = encL a1 a0.data.toList := by rw [hE]
    have hes : e.size = (encL a1 a0.data.toList).length := by rw [← size_len, he1]
    rw [← hes] at hl
    rw [← he1] at he
    by_cases hs : e = a0
    · have hq : (encL a1 a0.data.toList == a0.data.toList) = true := by rw [← he1, hs]; simp
      subst hs
      clear hE hes he1
      go_enter Try.func4, Try.ntmps4
      go_wp2_with fail
      refine (awake_any _).mono ?_
      rintro e w21 ⟨rfl, b1⟩
      go_wp2_with fail
      refine (enc_is e e a1 _ (by omega) he).mono ?_
      rintro e w22 ⟨rfl, b2⟩
      go_wp2_with fail
      refine (ready_is e a1 true _ (by omega) (by rw [he]; simp)).mono ?_
      rintro e w23 ⟨rfl, b3⟩
      go_wp2_with fail
      refine (ready_is e a1 true _ (by omega) (by rw [he]; simp)).mono ?_
      rintro e w24 ⟨rfl, b4⟩
      go_wp2_with fail
      refine (enc_is e e a1 _ (by omega) he).mono ?_
      rintro e w25 ⟨rfl, b5⟩
      go_wp2
      go_ret
      exact ⟨ret_bool (by first | rfl | (simp; omega)), below_then (below_then (below_then (below_then b1 b2) b3) b4) b5⟩
    · have hq : (encL a1 a0.data.toList == a0.data.toList) = false := by
        rw [beq_eq_false_iff_ne, ← he1]; exact fun h' => hs (ext_list h')
      have hn := beq_no hs
      clear hE hes
      go_enter Try.func4, Try.ntmps4
      go_wp2_with fail
      refine (awake_any _).mono ?_
      rintro e w21 ⟨rfl, b1⟩
      go_wp2_with fail
      refine (enc_is a0 e a1 _ (by omega) he1.symm).mono ?_
      rintro e w22 ⟨rfl, b2⟩
      go_wp2_with fail
      refine (ready_is e a1 true _ (by omega) (by rw [he]; simp)).mono ?_
      rintro e w23 ⟨rfl, b3⟩
      go_wp2_with fail
      refine (ready_is a0 a1 false _ (by omega) hq).mono ?_
      rintro e w24 ⟨rfl, b4⟩
      go_wp2_with fail
      refine (enc_is e e a1 _ (by omega) he).mono ?_
      rintro e w25 ⟨rfl, b5⟩
      go_wp2
      go_ret
      exact ⟨ret_bool (by first | rfl | (simp; omega)), below_then (below_then (below_then (below_then b1 b2) b3) b4) b5⟩
  ·
    go_enter Try.func4, Try.ntmps4
    go_wp2_with fail
    refine (awake_any _).mono ?_
    rintro e w21 ⟨rfl, b1⟩
    go_wp2
    go_ret
    exact ⟨rfl, b1⟩

/-! ### THE ROW's STEP: WRITTEN OUT: LEAVE IT -/
set_option maxRecDepth 100000 in
theorem lifted (os : Os) (started : os.Started) (H : Type) (enc : TypeId × Value → H) :
    ReturnsInHanded {} Try.checked os 4 .any (Rows.pctReadySpec.pre6 enc Try.prog Try.f4 Rows.pctReadyRow.domain false) (Rows.pctReadySpec.post enc Try.prog Try.f4 false true false false) := by
  refine returnsInHanded_of_change (C := Try.checked) own started (by kernel_rfl) Try.func4
    (ChangeSpec.witness6 (enc := enc) (C := Try.checked) false ⟨#[], #[.string ByteArray.empty, .int .i64 0], []⟩ 8 (by kernel_rfl) (by kernel_rfl) (by kernel_rfl) (by kernel_rfl)) ?_
  intro W base args ds gs before hval0 hW hcnd _
  have hval : ∀ (j : Nat) t v, Try.f4.params[j]? = some t → args[j]? = some v → Value.okWide Try.prog W .any base t v := hval0
  have hW' := hW
  obtain ⟨p, q, hA0, hV, rfl, hfz, hnd⟩ := hW
  have hA : DataW.TrodAll enc Try.prog W 0 (fun _ => true) true Try.f4.params.toList args.toList ds p := hA0
  rw [Try.params4] at hA hval
  obtain ⟨v0, vs0, d0, ds0, p0, q0, hargs, rfl, rfl, h0, r0⟩ := trodAll_cons hA
  obtain ⟨v1, vs1, d1, ds1, p1, q1, rfl, rfl, rfl, h1, r1⟩ := trodAll_cons r0
  obtain ⟨rfl, rfl, rfl⟩ := trodAll_nil r1
  obtain rfl : args = #[v0, v1] := by cases args; simp_all
  obtain ⟨rfl, rfl⟩ := trodVars_none hV
  obtain ⟨a0, rfl, rfl, rfl, w0⟩ := open_string Try.underlying9 (hval 0 9 v0 rfl rfl) h0
  obtain ⟨a1, rfl, rfl, rfl, w1⟩ := open_int Try.underlying3 (hval 1 3 v1 rfl rfl) h1
  clear hA0 hval0
  simp only [List.append_nil] at hW'
  refine (walk a0 a1 w0 w1 W).mono fun e W' ⟨he, hg⟩ => ?_
  subst he
  exact ⟨_, rfl, _, _, _, [], [], [], hW', (trodAll_cons_mk (shut_bool Try.underlying4 _) trodAll_mk0), (trodAll_cons_mk (shut_string Try.underlying9 w0) (trodAll_cons_mk (shut_int Try.underlying3 w1) trodAll_mk0)), rfl, hg.frame _, fun h => by cases h⟩

theorem over : Rows.pctReadyRow.holds Try.pinned (OpenSpec.ofChange Rows.pctReadySpec) :=
  OpenClaim.holds_of_wide 4 Try.f4 rfl rfl rfl rfl rfl rfl rfl ⟨rfl, rfl, rfl, rfl, rfl⟩ rfl rfl rfl rfl rfl (by kernel_rfl) Try.func4 (by kernel_rfl)
    (of_decide_eq_true (by kernel_rfl)) (by unfold Func.isWrapper; first | (rw [if_pos (by decide +kernel)]; kernel_rfl) | (rw [if_neg (by decide +kernel)]; exact ⟨rfl, rfl⟩))
    (fun os started H enc _ => lifted os started H enc)

/-- ████ THE STATEMENT ████ -/
theorem proved : Rows.PctReadySaid :=
  over
#print axioms proved
end Go.Proofs.Ytnfnbobioclniaa.pctReady
