/- The statement DeciBack: what is shown is read, up to each number that is no less, with any zeros ahead, and up to no lesser one. No condition. -/
import Derived.Test.YtnfefjjpifokpaaRows
import Derived.WalkKit
import Derived.ProofKit
import Derived.OpenShut
import Derived.ShutString
import Derived.Test.YtnfefjjpifokpaaWalksH
namespace Go.Proofs.Ytnfefjjpifokpaa.deciBack
open Go.ChangeShapes Go.WideShapes Go.ChangeAt Go.RowKit
open Go.ChangeMaps (open_string shut_string)
set_option linter.unusedVariables false      -- a walk need not use every 'w<i>' (that an integer argument fits its kind)

theorem own : ownKnob Try.prog.godebug = none := by kernel_rfl

/-! ### STEP 1: THE WALK: the Go text returns true. 'Grown w w'': the world has at most new blocks (Derived/RowKit3.lean). Part the cases AHEAD of 'go_enter' where a test parts the walk; take each callee by a contract of your own. -/
set_option maxRecDepth 100000 in
set_option maxHeartbeats 800000 in
theorem walk (a0 : Int) (a1 : Int) (a2 : Int) (w0 : (Lit.int .i64 a0).wf = true) (w1 : (Lit.int .i64 a1).wf = true) (w2 : (Lit.int .i64 a2).wf = true) (w : World) :
    Calls Try.prog 4 #[.int .i64 a0, .int .i64 a1, .int .i64 a2] w fun e w' => e = .returned (.bool true) ∧ Below w.heap.size w w' := by
  obtain ⟨n1, n2⟩ := wf_i64 w0
  obtain ⟨m1, m2⟩ := wf_i64 w1
  by_cases hz0 : 0 ≤ a2
  · by_cases hz : a2 ≤ 60
    · have hs20 : (shB a0).size ≤ 20 := by rw [sh_size]; exact (showL_len n1 n2).2
      by_cases hn : a0 < 0
      · have hp : plainD (shB a0).data.toList = false := by rw [sh_list]; exact plain_neg hn
        have EN := Lib.hid (read_small_no (m := a1) hp)
        have HP := Lib.hid hp
        clear hp
        go_enter Try.func4, Try.ntmps4
        go_wp2_with fail
        refine (awake_any _).mono ?_
        rintro e w21 ⟨rfl, b1⟩
        go_wp2_with fail
        refine (show_of a0 _ n1 n2).mono ?_
        rintro e w22 ⟨rfl, b2⟩
        go_wp2_with fail
        refine (read_is (shB a0) a1 0 false _ (by omega) m1 m2 EN.out.1 EN.out.2).mono ?_
        rintro e w' ⟨rfl, rfl⟩
        go_wp2_with fail
        refine (plain_is (shB a0) false _ (by omega) HP.out).mono ?_
        rintro e w' ⟨rfl, rfl⟩
        go_wp2
        go_ret
        exact ⟨rfl, below_then b1 b2⟩
      · obtain ⟨z, rfl⟩ : ∃ z : Nat, a2 = (z : Int) := ⟨a2.toNat, by omega⟩
        have hL := Lib.hid (back_val (n := a0) (by omega))
        go_enter Try.func4, Try.ntmps4
        go_wp2_with fail
        refine (awake_any _).mono ?_
        rintro e w21 ⟨rfl, b1⟩
        go_wp2_with fail
        refine (show_of a0 _ n1 n2).mono ?_
        rintro e w22 ⟨rfl, b2⟩
        go_wp2_with fail
        have hz48 : (⟨#[48]⟩ : ByteArray).size = 1 := rfl
        go_loop [8, 11] (fun s i => ∃ (j : Nat) (t : ByteArray), j ≤ z ∧ i = .int .i64 j ∧ s = .string t ∧ t.size ≤ j + 20 ∧ Hid (t.data.toList = List.replicate j 48 ++ showL a0)) (fun _ i => z - (intOf i).toNat)
        case atStart => exact ⟨0, shB a0, Nat.zero_le _, rfl, rfl, by omega, sh_list a0⟩
        case round =>
          obtain ⟨j, t, hj, rfl, rfl, hts, HT⟩ := hrel
          by_cases hlt : j < z
          · go_wp2_with fail
            go_round
            case rel => exact ⟨j + 1, ⟨#[48]⟩ ++ t, by omega, by go_num, rfl, by rw [app_size, hz48]; omega, by show _ = _; rw [app_list, HT.out]; rfl⟩
            case measure => simp [intOf]; omega
          · obtain ⟨hv, hp⟩ := hL.out j t HT.out
            by_cases hle : a0 ≤ a1
            · have hok : readOK t.data.toList a1 = true := by unfold readOK; rw [hp, decide_eq_true (by omega)]; rfl
              have EN := Lib.hid ((readN_yes hok).1.trans hv)
              have HOK := Lib.hid hok
              have HP := Lib.hid hp
              clear hok hv hp
              go_wp2_with fail
              refine (read_is t a1 a0 true _ (by omega) m1 m2 EN.out HOK.out).mono ?_
              rintro e w' ⟨rfl, rfl⟩
              go_wp2_with fail
              refine (plain_is t true _ (by omega) HP.out).mono ?_
              rintro e w' ⟨rfl, rfl⟩
              go_wp2
              go_ret
              exact ⟨ret_bool (by first | rfl | (simp; omega)), below_then b1 b2⟩
            · have hok : readOK t.data.toList a1 = false := by unfold readOK; rw [hp, decide_eq_false (by omega)]; rfl
              have EN := Lib.hid (readN_no hok)
              have HOK := Lib.hid hok
              have HP := Lib.hid hp
              clear hok hv hp
              go_wp2_with fail
              refine (read_is t a1 0 false _ (by omega) m1 m2 EN.out HOK.out).mono ?_
              rintro e w' ⟨rfl, rfl⟩
              go_wp2_with fail
              refine (plain_is t true _ (by omega) HP.out).mono ?_
              rintro e w' ⟨rfl, rfl⟩
              go_wp2
              go_ret
              exact ⟨ret_bool (by first | rfl | (simp; omega)), below_then b1 b2⟩
    ·
      go_enter Try.func4, Try.ntmps4
      go_wp2_with fail
      refine (awake_any _).mono ?_
      rintro e w21 ⟨rfl, b1⟩
      go_wp2
      go_ret
      exact ⟨rfl, b1⟩
  ·
    go_enter Try.func4, Try.ntmps4
    go_wp2_with fail
    refine (awake_any _).mono ?_
    rintro e w21 ⟨rfl, b1⟩
    go_wp2
    go_ret
    exact ⟨rfl, b1⟩

/-! ### THE ROW's STEP: WRITTEN OUT: LEAVE IT -/
set_option maxRecDepth 100000 in
theorem lifted (os : Os) (started : os.Started) (H : Type) (enc : TypeId × Value → H) :
    ReturnsInHanded {} Try.checked os 4 .any (Rows.deciBackSpec.pre6 enc Try.prog Try.f4 Rows.deciBackRow.domain false) (Rows.deciBackSpec.post enc Try.prog Try.f4 false true false false) := by
  refine returnsInHanded_of_change (C := Try.checked) own started (by kernel_rfl) Try.func4
    (ChangeSpec.witness6 (enc := enc) (C := Try.checked) false ⟨#[], #[.int .i64 0, .int .i64 0, .int .i64 0], []⟩ 8 (by kernel_rfl) (by kernel_rfl) (by kernel_rfl) (by kernel_rfl)) ?_
  intro W base args ds gs before hval0 hW hcnd _
  have hval : ∀ (j : Nat) t v, Try.f4.params[j]? = some t → args[j]? = some v → Value.okWide Try.prog W .any base t v := hval0
  have hW' := hW
  obtain ⟨p, q, hA0, hV, rfl, hfz, hnd⟩ := hW
  have hA : DataW.TrodAll enc Try.prog W 0 (fun _ => true) true Try.f4.params.toList args.toList ds p := hA0
  rw [Try.params4] at hA hval
  obtain ⟨v0, vs0, d0, ds0, p0, q0, hargs, rfl, rfl, h0, r0⟩ := trodAll_cons hA
  obtain ⟨v1, vs1, d1, ds1, p1, q1, rfl, rfl, rfl, h1, r1⟩ := trodAll_cons r0
  obtain ⟨v2, vs2, d2, ds2, p2, q2, rfl, rfl, rfl, h2, r2⟩ := trodAll_cons r1
  obtain ⟨rfl, rfl, rfl⟩ := trodAll_nil r2
  obtain rfl : args = #[v0, v1, v2] := by cases args; simp_all
  obtain ⟨rfl, rfl⟩ := trodVars_none hV
  obtain ⟨a0, rfl, rfl, rfl, w0⟩ := open_int Try.underlying3 (hval 0 3 v0 rfl rfl) h0
  obtain ⟨a1, rfl, rfl, rfl, w1⟩ := open_int Try.underlying3 (hval 1 3 v1 rfl rfl) h1
  obtain ⟨a2, rfl, rfl, rfl, w2⟩ := open_int Try.underlying3 (hval 2 3 v2 rfl rfl) h2
  clear hA0 hval0
  simp only [List.append_nil] at hW'
  refine (walk a0 a1 a2 w0 w1 w2 W).mono fun e W' ⟨he, hg⟩ => ?_
  subst he
  exact ⟨_, rfl, _, _, _, [], [], [], hW', (trodAll_cons_mk (shut_bool Try.underlying4 _) trodAll_mk0), (trodAll_cons_mk (shut_int Try.underlying3 w0) (trodAll_cons_mk (shut_int Try.underlying3 w1) (trodAll_cons_mk (shut_int Try.underlying3 w2) trodAll_mk0))), rfl, hg.frame _, fun h => by cases h⟩

theorem over : Rows.deciBackRow.holds Try.pinned (OpenSpec.ofChange Rows.deciBackSpec) :=
  OpenClaim.holds_of_wide 4 Try.f4 rfl rfl rfl rfl rfl rfl rfl ⟨rfl, rfl, rfl, rfl, rfl⟩ rfl rfl rfl rfl rfl (by kernel_rfl) Try.func4 (by kernel_rfl)
    (of_decide_eq_true (by kernel_rfl)) (by unfold Func.isWrapper; first | (rw [if_pos (by decide +kernel)]; kernel_rfl) | (rw [if_neg (by decide +kernel)]; exact ⟨rfl, rfl⟩))
    (fun os started H enc _ => lifted os started H enc)

/-- ████ THE STATEMENT ████ -/
theorem proved : Rows.DeciBackSaid :=
  over
#print axioms proved
end Go.Proofs.Ytnfefjjpifokpaa.deciBack
