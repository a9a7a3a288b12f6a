/- The statement IsoByte: each byte alone is made wide to one character, and back; two texts are made wide as one just if they are the same. No condition. -/
import Derived.Test.YtljnbpecmjoafaaRows
import Derived.WalkKit
import Derived.ProofKit
import Derived.OpenShut
import Derived.ShutString
import Derived.Test.YtljnbpecmjoafaaWalksE
namespace Go.Proofs.Ytljnbpecmjoafaa.isoByte
open Go.ChangeShapes Go.WideShapes Go.ChangeAt Go.RowKit
open Go.ChangeMaps (open_string shut_string)
set_option linter.unusedVariables false      -- a walk need not use every 'w<i>' (that an integer argument fits its kind)

theorem own : ownKnob Try.prog.godebug = none := by kernel_rfl

/-! ### STEP 1: THE WALK: the Go text returns true. 'Grown w w'': the world has at most new blocks (Derived/RowKit3.lean). Part the cases AHEAD of 'go_enter' where a test parts the walk; take each callee by a contract of your own. -/
set_option maxRecDepth 100000 in
set_option maxHeartbeats 800000 in
theorem walk (a0 : Int) (a1 : ByteArray) (a2 : ByteArray) (w0 : (Lit.int .u8 a0).wf = true) (w1 : a1.size ≤ maxLen) (w2 : a2.size ≤ maxLen) (w : World) :
    Calls Try.prog 7 #[.int .u8 a0, .string a1, .string a2] w fun e w' => e = .returned (.bool true) ∧ Below w.heap.size w w' := by
  obtain ⟨c, rfl⟩ := byte_of w0
  have hcv := conv_one c
  have hcu := c.toNat_lt
  have hsz : (⟨#[c]⟩ : ByteArray).size ≤ 1000 := by show 1 ≤ 1000; omega
  have b0 := fun w1 : World => (Below.refl w1.heap.size w1).alloc (Nat.le_refl _) (.cells #[.int .u8 (c.toNat : Int)] 5)
  by_cases h : a1.size ≤ 600
  · by_cases h2 : a2.size ≤ 600
    · by_cases hc : c.toNat < 128
      · have hl : (widB ⟨#[c]⟩).size = 1 := by rw [one_wid, if_pos hc]
        by_cases he : a1 = a2
        · subst he
          go_enter Try.func7, Try.ntmps7
          go_wp2_with fail
          refine (awake_any _).mono ?_
          rintro e w21 ⟨rfl, b1⟩
          go_wp2_with fail
          refine (wide_any ⟨#[c]⟩ _ (by omega)).mono ?_
          rintro e w22 ⟨rfl, b2⟩
          go_wp2_with fail
          refine (narrow_back ⟨#[c]⟩ _ hsz).mono ?_
          rintro e w23 ⟨rfl, b3⟩
          go_wp2_with fail
          refine (count_wid ⟨#[c]⟩ _ hsz).mono ?_
          rintro e w24 ⟨rfl, b4⟩
          go_wp2_with fail
          refine (wide_any a1 _ (by omega)).mono ?_
          rintro e w25 ⟨rfl, b5⟩
          go_wp2_with fail
          refine (wide_any a1 _ (by omega)).mono ?_
          rintro e w26 ⟨rfl, b6⟩
          go_wp2
          go_ret
          exact ⟨ret_bool (by first | rfl | (simp; omega)), below_then (below_then (below_then (below_then (below_then (below_then b1 (b0 _)) b2) b3) b4) b5) b6⟩
        · have n1 := beq_no he
          have n2 := beq_no (fun e => he (wid_inj e))
          go_enter Try.func7, Try.ntmps7
          go_wp2_with fail
          refine (awake_any _).mono ?_
          rintro e w21 ⟨rfl, b1⟩
          go_wp2_with fail
          refine (wide_any ⟨#[c]⟩ _ (by omega)).mono ?_
          rintro e w22 ⟨rfl, b2⟩
          go_wp2_with fail
          refine (narrow_back ⟨#[c]⟩ _ hsz).mono ?_
          rintro e w23 ⟨rfl, b3⟩
          go_wp2_with fail
          refine (count_wid ⟨#[c]⟩ _ hsz).mono ?_
          rintro e w24 ⟨rfl, b4⟩
          go_wp2_with fail
          refine (wide_any a1 _ (by omega)).mono ?_
          rintro e w25 ⟨rfl, b5⟩
          go_wp2_with fail
          refine (wide_any a2 _ (by omega)).mono ?_
          rintro e w26 ⟨rfl, b6⟩
          go_wp2
          go_ret
          exact ⟨ret_bool (by first | rfl | (simp; omega)), below_then (below_then (below_then (below_then (below_then (below_then b1 (b0 _)) b2) b3) b4) b5) b6⟩
      · have hl : (widB ⟨#[c]⟩).size = 2 := by rw [one_wid, if_neg hc]
        by_cases he : a1 = a2
        · subst he
          go_enter Try.func7, Try.ntmps7
          go_wp2_with fail
          refine (awake_any _).mono ?_
          rintro e w21 ⟨rfl, b1⟩
          go_wp2_with fail
          refine (wide_any ⟨#[c]⟩ _ (by omega)).mono ?_
          rintro e w22 ⟨rfl, b2⟩
          go_wp2_with fail
          refine (narrow_back ⟨#[c]⟩ _ hsz).mono ?_
          rintro e w23 ⟨rfl, b3⟩
          go_wp2_with fail
          refine (count_wid ⟨#[c]⟩ _ hsz).mono ?_
          rintro e w24 ⟨rfl, b4⟩
          go_wp2_with fail
          refine (wide_any a1 _ (by omega)).mono ?_
          rintro e w25 ⟨rfl, b5⟩
          go_wp2_with fail
          refine (wide_any a1 _ (by omega)).mono ?_
          rintro e w26 ⟨rfl, b6⟩
          go_wp2
          go_ret
          exact ⟨ret_bool (by first | rfl | (simp; omega)), below_then (below_then (below_then (below_then (below_then (below_then b1 (b0 _)) b2) b3) b4) b5) b6⟩
        · have n1 := beq_no he
          have n2 := beq_no (fun e => he (wid_inj e))
          go_enter Try.func7, Try.ntmps7
          go_wp2_with fail
          refine (awake_any _).mono ?_
          rintro e w21 ⟨rfl, b1⟩
          go_wp2_with fail
          refine (wide_any ⟨#[c]⟩ _ (by omega)).mono ?_
          rintro e w22 ⟨rfl, b2⟩
          go_wp2_with fail
          refine (narrow_back ⟨#[c]⟩ _ hsz).mono ?_
          rintro e w23 ⟨rfl, b3⟩
          go_wp2_with fail
          refine (count_wid ⟨#[c]⟩ _ hsz).mono ?_
          rintro e w24 ⟨rfl, b4⟩
          go_wp2_with fail
          refine (wide_any a1 _ (by omega)).mono ?_
          rintro e w25 ⟨rfl, b5⟩
          go_wp2_with fail
          refine (wide_any a2 _ (by omega)).mono ?_
          rintro e w26 ⟨rfl, b6⟩
          go_wp2
          go_ret
          exact ⟨ret_bool (by first | rfl | (simp; omega)), below_then (below_then (below_then (below_then (below_then (below_then b1 (b0 _)) b2) b3) b4) b5) b6⟩
    · 
      go_enter Try.func7, Try.ntmps7
      go_wp2_with fail
      refine (awake_any _).mono ?_
      rintro e w21 ⟨rfl, b1⟩
      go_wp2
      go_ret
      exact ⟨rfl, b1⟩
  ·
    go_enter Try.func7, Try.ntmps7
    go_wp2_with fail
    refine (awake_any _).mono ?_
    rintro e w21 ⟨rfl, b1⟩
    go_wp2
    go_ret
    exact ⟨rfl, b1⟩

/-! ### THE ROW's STEP: WRITTEN OUT: LEAVE IT -/
set_option maxRecDepth 100000 in
theorem lifted (os : Os) (started : os.Started) (H : Type) (enc : TypeId × Value → H) :
    ReturnsInHanded {} Try.checked os 7 .any (Rows.isoByteSpec.pre6 enc Try.prog Try.f7 Rows.isoByteRow.domain false) (Rows.isoByteSpec.post enc Try.prog Try.f7 false true false false) := by
  refine returnsInHanded_of_change (C := Try.checked) own started (by kernel_rfl) Try.func7
    (ChangeSpec.witness6 (enc := enc) (C := Try.checked) false ⟨#[], #[.int .u8 0, .string ByteArray.empty, .string ByteArray.empty], []⟩ 8 (by kernel_rfl) (by kernel_rfl) (by kernel_rfl) (by kernel_rfl)) ?_
  intro W base args ds gs before hval0 hW hcnd _
  have hval : ∀ (j : Nat) t v, Try.f7.params[j]? = some t → args[j]? = some v → Value.okWide Try.prog W .any base t v := hval0
  have hW' := hW
  obtain ⟨p, q, hA0, hV, rfl, hfz, hnd⟩ := hW
  have hA : DataW.TrodAll enc Try.prog W 0 (fun _ => true) true Try.f7.params.toList args.toList ds p := hA0
  rw [Try.params7] at hA hval
  obtain ⟨v0, vs0, d0, ds0, p0, q0, hargs, rfl, rfl, h0, r0⟩ := trodAll_cons hA
  obtain ⟨v1, vs1, d1, ds1, p1, q1, rfl, rfl, rfl, h1, r1⟩ := trodAll_cons r0
  obtain ⟨v2, vs2, d2, ds2, p2, q2, rfl, rfl, rfl, h2, r2⟩ := trodAll_cons r1
  obtain ⟨rfl, rfl, rfl⟩ := trodAll_nil r2
  obtain rfl : args = #[v0, v1, v2] := by cases args; simp_all
  obtain ⟨rfl, rfl⟩ := trodVars_none hV
  obtain ⟨a0, rfl, rfl, rfl, w0⟩ := open_int Try.underlying5 (hval 0 5 v0 rfl rfl) h0
  obtain ⟨a1, rfl, rfl, rfl, w1⟩ := open_string Try.underlying9 (hval 1 9 v1 rfl rfl) h1
  obtain ⟨a2, rfl, rfl, rfl, w2⟩ := open_string Try.underlying9 (hval 2 9 v2 rfl rfl) h2
  clear hA0 hval0
  simp only [List.append_nil] at hW'
  refine (walk a0 a1 a2 w0 w1 w2 W).mono fun e W' ⟨he, hg⟩ => ?_
  subst he
  exact ⟨_, rfl, _, _, _, [], [], [], hW', (trodAll_cons_mk (shut_bool Try.underlying4 _) trodAll_mk0), (trodAll_cons_mk (shut_int Try.underlying5 w0) (trodAll_cons_mk (shut_string Try.underlying9 w1) (trodAll_cons_mk (shut_string Try.underlying9 w2) trodAll_mk0))), rfl, hg.frame _, fun h => by cases h⟩

theorem over : Rows.isoByteRow.holds Try.pinned (OpenSpec.ofChange Rows.isoByteSpec) :=
  OpenClaim.holds_of_wide 7 Try.f7 rfl rfl rfl rfl rfl rfl rfl ⟨rfl, rfl, rfl, rfl, rfl⟩ rfl rfl rfl rfl rfl (by kernel_rfl) Try.func7 (by kernel_rfl)
    (of_decide_eq_true (by kernel_rfl)) (by unfold Func.isWrapper; first | (rw [if_pos (by decide +kernel)]; kernel_rfl) | (rw [if_neg (by decide +kernel)]; exact ⟨rfl, rfl⟩))
    (fun os started H enc _ => lifted os started H enc)

/-- ████ THE STATEMENT ████ -/
theorem proved : Rows.IsoByteSaid :=
  over
#print axioms proved
end Go.Proofs.Ytljnbpecmjoafaa.isoByte
