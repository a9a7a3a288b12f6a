/- The statement DeciRead: what is read is from 0 to the most, and shown it is the digits without zeros ahead; with a digit behind it is ten times as much, and that. No condition. -/
import Derived.Test.YtnfefjjpifokpaaRows
import Derived.WalkKit
import Derived.ProofKit
import Derived.OpenShut
import Derived.ShutString
import Derived.Test.YtnfefjjpifokpaaWalksH
namespace Go.Proofs.Ytnfefjjpifokpaa.deciRead
open Go.ChangeShapes Go.WideShapes Go.ChangeAt Go.RowKit
open Go.ChangeMaps (open_string shut_string)
set_option linter.unusedVariables false      -- a walk need not use every 'w<i>' (that an integer argument fits its kind)

theorem own : ownKnob Try.prog.godebug = none := by kernel_rfl

/-! ### STEP 1: THE WALK: the Go text returns true. 'Grown w w'': the world has at most new blocks (Derived/RowKit3.lean). Part the cases AHEAD of 'go_enter' where a test parts the walk; take each callee by a contract of your own. -/
set_option maxRecDepth 100000 in
set_option maxHeartbeats 800000 in
theorem walk (a0 : ByteArray) (a1 : Int) (w0 : a0.size ≤ maxLen) (w1 : (Lit.int .i64 a1).wf = true) (w : World) :
    Calls Try.prog 6 #[.string a0, .int .i64 a1] w fun e w' => e = .returned (.bool true) ∧ Below w.heap.size w w' := by
  obtain ⟨n1, n2⟩ := wf_i64 w1
  by_cases h : a0.size ≤ 15
  · by_cases h0 : 0 ≤ a1
    · by_cases h9 : a1 ≤ 9
      · cases hp : plainD a0.data.toList with
        | false =>
          have EN := Lib.hid (read_small_no (m := 4611686018427387904) hp)
          have HP := Lib.hid hp
          clear hp
          go_enter Try.func6, Try.ntmps6
          go_wp2_with fail
          refine (awake_any _).mono ?_
          rintro e w21 ⟨rfl, b1⟩
          go_wp2_with fail
          refine (read_is a0 4611686018427387904 0 false _ (by omega) (by decide) (by decide) EN.out.1 EN.out.2).mono ?_
          rintro e w' ⟨rfl, rfl⟩
          go_wp2_with fail
          refine (plain_is a0 false _ (by omega) HP.out).mono ?_
          rintro e w' ⟨rfl, rfl⟩
          go_wp2
          go_ret
          exact ⟨rfl, b1⟩
        | true =>
          obtain ⟨v, hv⟩ : ∃ v : Nat, v = val a0.data.toList := ⟨_, rfl⟩
          have EN := Lib.hid (read_small hp (by omega) hv)
          have hv15 := val_small hp h hv
          obtain ⟨d, rfl⟩ : ∃ d : Nat, a1 = (d : Int) := ⟨a1.toNat, by omega⟩
          have E2 := Lib.hid (read_small2 hp (by omega) hv (show d < 10 by omega))
          have hone := sh_one (show d < 10 by omega)
          have hsz2 : (a0 ++ shB d).size ≤ 1048576 := by rw [app_size, hone]; omega
          obtain ⟨k, hk⟩ : ∃ k : Nat, k = a0.size - (shB v).size := ⟨_, rfl⟩
          have HT := Lib.hid (tail_is hp hv hk)
          have hle : (shB v).size ≤ a0.size := HT.out.1
          have hks : (a0.size : Int) - ((shB v).size : Int) = (k : Int) := by omega
          have hk2 : k ≤ a0.size := by omega
          have hx : a0.extract k a0.size = shB v := HT.out.2
          have HX := Lib.hid hx
          clear hk hp hv HT hx
          go_enter Try.func6, Try.ntmps6
          go_wp2_with fail
          refine (awake_any _).mono ?_
          rintro e w21 ⟨rfl, b1⟩
          go_wp2_with fail
          refine (read_is a0 4611686018427387904 v true _ (by omega) (by decide) (by decide) EN.out.1 EN.out.2).mono ?_
          rintro e w' ⟨rfl, rfl⟩
          go_wp2_with fail
          refine (show_of d _ (by omega) (by omega)).mono ?_
          rintro e w22 ⟨rfl, b2⟩
          go_wp2_with fail
          refine (read_is (a0 ++ shB d) 4611686018427387904 (10 * (v : Int) + (d : Int)) true _ hsz2 (by decide) (by decide) E2.out.1 E2.out.2).mono ?_
          rintro e w' ⟨rfl, rfl⟩
          go_wp2_with fail
          refine (show_of v _ (by omega) (by omega)).mono ?_
          rintro e w23 ⟨rfl, b3⟩
          go_wp2
          go_ret
          exact ⟨ret_bool (by rw [HX.out]; simp), below_then (below_then b1 b2) b3⟩
      ·
        go_enter Try.func6, Try.ntmps6
        go_wp2_with fail
        refine (awake_any _).mono ?_
        rintro e w21 ⟨rfl, b1⟩
        go_wp2
        go_ret
        exact ⟨rfl, b1⟩
    ·
      go_enter Try.func6, Try.ntmps6
      go_wp2_with fail
      refine (awake_any _).mono ?_
      rintro e w21 ⟨rfl, b1⟩
      go_wp2
      go_ret
      exact ⟨rfl, b1⟩
  ·
    go_enter Try.func6, Try.ntmps6
    go_wp2_with fail
    refine (awake_any _).mono ?_
    rintro e w21 ⟨rfl, b1⟩
    go_wp2
    go_ret
    exact ⟨rfl, b1⟩

/-! ### THE ROW's STEP: WRITTEN OUT: LEAVE IT -/
set_option maxRecDepth 100000 in
theorem lifted (os : Os) (started : os.Started) (H : Type) (enc : TypeId × Value → H) :
    ReturnsInHanded {} Try.checked os 6 .any (Rows.deciReadSpec.pre6 enc Try.prog Try.f6 Rows.deciReadRow.domain false) (Rows.deciReadSpec.post enc Try.prog Try.f6 false true false false) := by
  refine returnsInHanded_of_change (C := Try.checked) own started (by kernel_rfl) Try.func6
    (ChangeSpec.witness6 (enc := enc) (C := Try.checked) false ⟨#[], #[.string ByteArray.empty, .int .i64 0], []⟩ 8 (by kernel_rfl) (by kernel_rfl) (by kernel_rfl) (by kernel_rfl)) ?_
  intro W base args ds gs before hval0 hW hcnd _
  have hval : ∀ (j : Nat) t v, Try.f6.params[j]? = some t → args[j]? = some v → Value.okWide Try.prog W .any base t v := hval0
  have hW' := hW
  obtain ⟨p, q, hA0, hV, rfl, hfz, hnd⟩ := hW
  have hA : DataW.TrodAll enc Try.prog W 0 (fun _ => true) true Try.f6.params.toList args.toList ds p := hA0
  rw [Try.params6] at hA hval
  obtain ⟨v0, vs0, d0, ds0, p0, q0, hargs, rfl, rfl, h0, r0⟩ := trodAll_cons hA
  obtain ⟨v1, vs1, d1, ds1, p1, q1, rfl, rfl, rfl, h1, r1⟩ := trodAll_cons r0
  obtain ⟨rfl, rfl, rfl⟩ := trodAll_nil r1
  obtain rfl : args = #[v0, v1] := by cases args; simp_all
  obtain ⟨rfl, rfl⟩ := trodVars_none hV
  obtain ⟨a0, rfl, rfl, rfl, w0⟩ := open_string Try.underlying9 (hval 0 9 v0 rfl rfl) h0
  obtain ⟨a1, rfl, rfl, rfl, w1⟩ := open_int Try.underlying3 (hval 1 3 v1 rfl rfl) h1
  clear hA0 hval0
  simp only [List.append_nil] at hW'
  refine (walk a0 a1 w0 w1 W).mono fun e W' ⟨he, hg⟩ => ?_
  subst he
  exact ⟨_, rfl, _, _, _, [], [], [], hW', (trodAll_cons_mk (shut_bool Try.underlying4 _) trodAll_mk0), (trodAll_cons_mk (shut_string Try.underlying9 w0) (trodAll_cons_mk (shut_int Try.underlying3 w1) trodAll_mk0)), rfl, hg.frame _, fun h => by cases h⟩

theorem over : Rows.deciReadRow.holds Try.pinned (OpenSpec.ofChange Rows.deciReadSpec) :=
  OpenClaim.holds_of_wide 6 Try.f6 rfl rfl rfl rfl rfl rfl rfl ⟨rfl, rfl, rfl, rfl, rfl⟩ rfl rfl rfl rfl rfl (by kernel_rfl) Try.func6 (by kernel_rfl)
    (of_decide_eq_true (by kernel_rfl)) (by unfold Func.isWrapper; first | (rw [if_pos (by decide +kernel)]; kernel_rfl) | (rw [if_neg (by decide +kernel)]; exact ⟨rfl, rfl⟩))
    (fun os started H enc _ => lifted os started H enc)

/-- ████ THE STATEMENT ████ -/
theorem proved : Rows.DeciReadSaid :=
  over
#print axioms proved
end Go.Proofs.Ytnfefjjpifokpaa.deciRead
