/- The statement DeciShow: what is shown begins by no 0, but 0 itself, and has digits alone, behind a minus that tells the sign; ten times as much has a 0 behind. No condition. -/
import Derived.Test.YtnfefjjpifokpaaRows
import Derived.WalkKit
import Derived.ProofKit
import Derived.OpenShut
import Derived.ShutString
import Derived.Test.YtnfefjjpifokpaaWalksI
namespace Go.Proofs.Ytnfefjjpifokpaa.deciShow
open Go.ChangeShapes Go.WideShapes Go.ChangeAt Go.RowKit
open Go.ChangeMaps (open_string shut_string)
set_option linter.unusedVariables false      -- a walk need not use every 'w<i>' (that an integer argument fits its kind)

theorem own : ownKnob Try.prog.godebug = none := by kernel_rfl

/-! ### STEP 1: THE WALK: the Go text returns true. 'Grown w w'': the world has at most new blocks (Derived/RowKit3.lean). Part the cases AHEAD of 'go_enter' where a test parts the walk; take each callee by a contract of your own. -/
set_option maxRecDepth 100000 in
set_option maxHeartbeats 2000000 in
theorem walk (a0 : Int) (a1 : Int) (w0 : (Lit.int .i64 a0).wf = true) (w1 : (Lit.int .i64 a1).wf = true) (w : World) :
    Calls Try.prog 8 #[.int .i64 a0, .int .i64 a1] w fun e w' => e = .returned (.bool true) ∧ Below w.heap.size w w' := by
  obtain ⟨n1, n2⟩ := wf_i64 w0
  have hpos := dg_pos a0
  have hdl := dg_le n1 n2
  have HPL := Lib.hid (dg_plain a0)
  by_cases hn : a0 < 0
  · have hne : a0 ≠ 0 := by omega
    have hne0 : (a0 == 0) = false := by simpa using hne
    have hsz : (shB a0).size = (dgB a0).size + 1 := by rw [← size_len, sh_neg_list hn, List.length_cons, size_len]
    have hps : 0 < (shB a0).size := by omega
    have hem : (shB a0).toList.isEmpty = false := empty_no (by omega)
    have hed : (dgB a0).toList.isEmpty = false := empty_no (by omega)
    have h45 : ((((shB a0)[0]'hps).toNat : Int) == 45) = true := by rw [sh_neg_head hn hps]; rfl
    have hx := sh_neg_ext hn
    have h48 : ((((dgB a0)[0]'hpos).toNat : Int) == 48) = false := by have := dg_head hne hpos; rw [beq_eq_false_iff_ne]; omega
    have hss : (shB a0).size ≤ 20 := by omega
    clear hsz
    have h48n : ((((dgB a0)[0]'hpos).toNat : Int) != 48) = true := by rw [bne, h48]; rfl
    by_cases hbig : a0 < -576460752303423488
    ·
      by_cases hi : a1 < 0
      ·
        go_enter Try.func8, Try.ntmps8
        go_wp2_with fail
        refine (awake_any _).mono ?_
        rintro e w21 ⟨rfl, b1⟩
        go_wp2_with fail
        refine (show_of a0 _ n1 n2).mono ?_
        rintro e w22 ⟨rfl, b2⟩
        go_wp2_with fail
        refine (plain_is (dgB a0) true _ (by omega) HPL.out).mono ?_
        rintro e w' ⟨rfl, rfl⟩
        go_wp2
        go_ret
        exact ⟨ret_bool (by first | rfl | (simp; omega)), below_then b1 b2⟩

      · by_cases hi2 : a1 < ((dgB a0).size : Int)
        · obtain ⟨p, rfl⟩ : ∃ p : Nat, a1 = (p : Int) := ⟨a1.toNat, by omega⟩
          have hp : p < (dgB a0).size := by omega
          obtain ⟨c1, c2⟩ := dg_at a0 p hp
          go_enter Try.func8, Try.ntmps8
          go_wp2_with fail
          refine (awake_any _).mono ?_
          rintro e w21 ⟨rfl, b1⟩
          go_wp2_with fail
          refine (show_of a0 _ n1 n2).mono ?_
          rintro e w22 ⟨rfl, b2⟩
          go_wp2_with fail
          refine (plain_is (dgB a0) true _ (by omega) HPL.out).mono ?_
          rintro e w' ⟨rfl, rfl⟩
          go_wp2
          go_ret
          exact ⟨ret_bool (by first | rfl | (simp; omega)), below_then b1 b2⟩
        ·
          go_enter Try.func8, Try.ntmps8
          go_wp2_with fail
          refine (awake_any _).mono ?_
          rintro e w21 ⟨rfl, b1⟩
          go_wp2_with fail
          refine (show_of a0 _ n1 n2).mono ?_
          rintro e w22 ⟨rfl, b2⟩
          go_wp2_with fail
          refine (plain_is (dgB a0) true _ (by omega) HPL.out).mono ?_
          rintro e w' ⟨rfl, rfl⟩
          go_wp2
          go_ret
          exact ⟨ret_bool (by first | rfl | (simp; omega)), below_then b1 b2⟩

    ·
      by_cases hi : a1 < 0
      ·
        go_enter Try.func8, Try.ntmps8
        go_wp2_with fail
        refine (awake_any _).mono ?_
        rintro e w21 ⟨rfl, b1⟩
        go_wp2_with fail
        refine (show_of a0 _ n1 n2).mono ?_
        rintro e w22 ⟨rfl, b2⟩
        go_wp2_with fail
        refine (show_ten a0 _ (by omega) (by omega) hne).mono ?_
        rintro e w23 ⟨rfl, b3⟩
        go_wp2_with fail
        refine (plain_is (dgB a0) true _ (by omega) HPL.out).mono ?_
        rintro e w' ⟨rfl, rfl⟩
        go_wp2
        go_ret
        exact ⟨ret_bool (by first | rfl | (simp; omega)), below_then (below_then b1 b2) b3⟩

      · by_cases hi2 : a1 < ((dgB a0).size : Int)
        · obtain ⟨p, rfl⟩ : ∃ p : Nat, a1 = (p : Int) := ⟨a1.toNat, by omega⟩
          have hp : p < (dgB a0).size := by omega
          obtain ⟨c1, c2⟩ := dg_at a0 p hp
          go_enter Try.func8, Try.ntmps8
          go_wp2_with fail
          refine (awake_any _).mono ?_
          rintro e w21 ⟨rfl, b1⟩
          go_wp2_with fail
          refine (show_of a0 _ n1 n2).mono ?_
          rintro e w22 ⟨rfl, b2⟩
          go_wp2_with fail
          refine (show_ten a0 _ (by omega) (by omega) hne).mono ?_
          rintro e w23 ⟨rfl, b3⟩
          go_wp2_with fail
          refine (plain_is (dgB a0) true _ (by omega) HPL.out).mono ?_
          rintro e w' ⟨rfl, rfl⟩
          go_wp2
          go_ret
          exact ⟨ret_bool (by first | rfl | (simp; omega)), below_then (below_then b1 b2) b3⟩
        ·
          go_enter Try.func8, Try.ntmps8
          go_wp2_with fail
          refine (awake_any _).mono ?_
          rintro e w21 ⟨rfl, b1⟩
          go_wp2_with fail
          refine (show_of a0 _ n1 n2).mono ?_
          rintro e w22 ⟨rfl, b2⟩
          go_wp2_with fail
          refine (show_ten a0 _ (by omega) (by omega) hne).mono ?_
          rintro e w23 ⟨rfl, b3⟩
          go_wp2_with fail
          refine (plain_is (dgB a0) true _ (by omega) HPL.out).mono ?_
          rintro e w' ⟨rfl, rfl⟩
          go_wp2
          go_ret
          exact ⟨ret_bool (by first | rfl | (simp; omega)), below_then (below_then b1 b2) b3⟩

  · have hsd := sh_dg hn
    have hed : (dgB a0).toList.isEmpty = false := empty_no (by omega)
    obtain ⟨e1, e2⟩ := dg_at a0 0 hpos
    have h45 : ((((dgB a0)[0]'hpos).toNat : Int) == 45) = false := by rw [beq_eq_false_iff_ne]; omega
    by_cases hne : a0 = 0
    · subst hne
      have h48 : ((((dgB 0)[0]'hpos).toNat : Int) == 48) = true := by have := dg_zero; simp only [this]; rfl
      have h48n : ((((dgB 0)[0]'hpos).toNat : Int) != 48) = false := by rw [bne, h48]; rfl
      have hq : (dgB 0).toList = [48] := by rw [toList_data, dg_zero]
      by_cases hi : a1 < 0
      ·
        go_enter Try.func8, Try.ntmps8
        go_wp2_with fail
        refine (awake_any _).mono ?_
        rintro e w21 ⟨rfl, b1⟩
        go_wp2_with fail
        refine (show_of 0 _ n1 n2).mono ?_
        rintro e w22 ⟨rfl, b2⟩
        go_wp2_with fail
        refine (plain_is (dgB 0) true _ (by omega) HPL.out).mono ?_
        rintro e w' ⟨rfl, rfl⟩
        go_wp2
        go_ret
        exact ⟨ret_bool (by first | rfl | (simp; omega)), below_then b1 b2⟩

      · by_cases hi2 : a1 < ((dgB 0).size : Int)
        · obtain ⟨p, rfl⟩ : ∃ p : Nat, a1 = (p : Int) := ⟨a1.toNat, by omega⟩
          have hp : p < (dgB 0).size := by omega
          obtain ⟨c1, c2⟩ := dg_at 0 p hp
          go_enter Try.func8, Try.ntmps8
          go_wp2_with fail
          refine (awake_any _).mono ?_
          rintro e w21 ⟨rfl, b1⟩
          go_wp2_with fail
          refine (show_of 0 _ n1 n2).mono ?_
          rintro e w22 ⟨rfl, b2⟩
          go_wp2_with fail
          refine (plain_is (dgB 0) true _ (by omega) HPL.out).mono ?_
          rintro e w' ⟨rfl, rfl⟩
          go_wp2
          go_ret
          exact ⟨ret_bool (by first | rfl | (simp; omega)), below_then b1 b2⟩
        ·
          go_enter Try.func8, Try.ntmps8
          go_wp2_with fail
          refine (awake_any _).mono ?_
          rintro e w21 ⟨rfl, b1⟩
          go_wp2_with fail
          refine (show_of 0 _ n1 n2).mono ?_
          rintro e w22 ⟨rfl, b2⟩
          go_wp2_with fail
          refine (plain_is (dgB 0) true _ (by omega) HPL.out).mono ?_
          rintro e w' ⟨rfl, rfl⟩
          go_wp2
          go_ret
          exact ⟨ret_bool (by first | rfl | (simp; omega)), below_then b1 b2⟩

    · have hne0 : (a0 == 0) = false := by simpa using hne
      have h48 : ((((dgB a0)[0]'hpos).toNat : Int) == 48) = false := by have := dg_head hne hpos; rw [beq_eq_false_iff_ne]; omega
      have h48n : ((((dgB a0)[0]'hpos).toNat : Int) != 48) = true := by rw [bne, h48]; rfl
      by_cases hbig : 576460752303423488 < a0
      ·
        by_cases hi : a1 < 0
        ·
          go_enter Try.func8, Try.ntmps8
          go_wp2_with fail
          refine (awake_any _).mono ?_
          rintro e w21 ⟨rfl, b1⟩
          go_wp2_with fail
          refine (show_of a0 _ n1 n2).mono ?_
          rintro e w22 ⟨rfl, b2⟩
          go_wp2_with fail
          refine (plain_is (dgB a0) true _ (by omega) HPL.out).mono ?_
          rintro e w' ⟨rfl, rfl⟩
          go_wp2
          go_ret
          exact ⟨ret_bool (by first | rfl | (simp; omega)), below_then b1 b2⟩

        · by_cases hi2 : a1 < ((dgB a0).size : Int)
          · obtain ⟨p, rfl⟩ : ∃ p : Nat, a1 = (p : Int) := ⟨a1.toNat, by omega⟩
            have hp : p < (dgB a0).size := by omega
            obtain ⟨c1, c2⟩ := dg_at a0 p hp
            go_enter Try.func8, Try.ntmps8
            go_wp2_with fail
            refine (awake_any _).mono ?_
            rintro e w21 ⟨rfl, b1⟩
            go_wp2_with fail
            refine (show_of a0 _ n1 n2).mono ?_
            rintro e w22 ⟨rfl, b2⟩
            go_wp2_with fail
            refine (plain_is (dgB a0) true _ (by omega) HPL.out).mono ?_
            rintro e w' ⟨rfl, rfl⟩
            go_wp2
            go_ret
            exact ⟨ret_bool (by first | rfl | (simp; omega)), below_then b1 b2⟩
          ·
            go_enter Try.func8, Try.ntmps8
            go_wp2_with fail
            refine (awake_any _).mono ?_
            rintro e w21 ⟨rfl, b1⟩
            go_wp2_with fail
            refine (show_of a0 _ n1 n2).mono ?_
            rintro e w22 ⟨rfl, b2⟩
            go_wp2_with fail
            refine (plain_is (dgB a0) true _ (by omega) HPL.out).mono ?_
            rintro e w' ⟨rfl, rfl⟩
            go_wp2
            go_ret
            exact ⟨ret_bool (by first | rfl | (simp; omega)), below_then b1 b2⟩

      ·
        by_cases hi : a1 < 0
        ·
          go_enter Try.func8, Try.ntmps8
          go_wp2_with fail
          refine (awake_any _).mono ?_
          rintro e w21 ⟨rfl, b1⟩
          go_wp2_with fail
          refine (show_of a0 _ n1 n2).mono ?_
          rintro e w22 ⟨rfl, b2⟩
          go_wp2_with fail
          refine (show_ten a0 _ (by omega) (by omega) hne).mono ?_
          rintro e w23 ⟨rfl, b3⟩
          go_wp2_with fail
          refine (plain_is (dgB a0) true _ (by omega) HPL.out).mono ?_
          rintro e w' ⟨rfl, rfl⟩
          go_wp2
          go_ret
          exact ⟨ret_bool (by first | rfl | (simp; omega)), below_then (below_then b1 b2) b3⟩

        · by_cases hi2 : a1 < ((dgB a0).size : Int)
          · obtain ⟨p, rfl⟩ : ∃ p : Nat, a1 = (p : Int) := ⟨a1.toNat, by omega⟩
            have hp : p < (dgB a0).size := by omega
            obtain ⟨c1, c2⟩ := dg_at a0 p hp
            go_enter Try.func8, Try.ntmps8
            go_wp2_with fail
            refine (awake_any _).mono ?_
            rintro e w21 ⟨rfl, b1⟩
            go_wp2_with fail
            refine (show_of a0 _ n1 n2).mono ?_
            rintro e w22 ⟨rfl, b2⟩
            go_wp2_with fail
            refine (show_ten a0 _ (by omega) (by omega) hne).mono ?_
            rintro e w23 ⟨rfl, b3⟩
            go_wp2_with fail
            refine (plain_is (dgB a0) true _ (by omega) HPL.out).mono ?_
            rintro e w' ⟨rfl, rfl⟩
            go_wp2
            go_ret
            exact ⟨ret_bool (by first | rfl | (simp; omega)), below_then (below_then b1 b2) b3⟩
          ·
            go_enter Try.func8, Try.ntmps8
            go_wp2_with fail
            refine (awake_any _).mono ?_
            rintro e w21 ⟨rfl, b1⟩
            go_wp2_with fail
            refine (show_of a0 _ n1 n2).mono ?_
            rintro e w22 ⟨rfl, b2⟩
            go_wp2_with fail
            refine (show_ten a0 _ (by omega) (by omega) hne).mono ?_
            rintro e w23 ⟨rfl, b3⟩
            go_wp2_with fail
            refine (plain_is (dgB a0) true _ (by omega) HPL.out).mono ?_
            rintro e w' ⟨rfl, rfl⟩
            go_wp2
            go_ret
            exact ⟨ret_bool (by first | rfl | (simp; omega)), below_then (below_then b1 b2) b3⟩


/-! ### THE ROW's STEP: WRITTEN OUT: LEAVE IT -/
set_option maxRecDepth 100000 in
theorem lifted (os : Os) (started : os.Started) (H : Type) (enc : TypeId × Value → H) :
    ReturnsInHanded {} Try.checked os 8 .any (Rows.deciShowSpec.pre6 enc Try.prog Try.f8 Rows.deciShowRow.domain false) (Rows.deciShowSpec.post enc Try.prog Try.f8 false true false false) := by
  refine returnsInHanded_of_change (C := Try.checked) own started (by kernel_rfl) Try.func8
    (ChangeSpec.witness6 (enc := enc) (C := Try.checked) false ⟨#[], #[.int .i64 0, .int .i64 0], []⟩ 8 (by kernel_rfl) (by kernel_rfl) (by kernel_rfl) (by kernel_rfl)) ?_
  intro W base args ds gs before hval0 hW hcnd _
  have hval : ∀ (j : Nat) t v, Try.f8.params[j]? = some t → args[j]? = some v → Value.okWide Try.prog W .any base t v := hval0
  have hW' := hW
  obtain ⟨p, q, hA0, hV, rfl, hfz, hnd⟩ := hW
  have hA : DataW.TrodAll enc Try.prog W 0 (fun _ => true) true Try.f8.params.toList args.toList ds p := hA0
  rw [Try.params8] at hA hval
  obtain ⟨v0, vs0, d0, ds0, p0, q0, hargs, rfl, rfl, h0, r0⟩ := trodAll_cons hA
  obtain ⟨v1, vs1, d1, ds1, p1, q1, rfl, rfl, rfl, h1, r1⟩ := trodAll_cons r0
  obtain ⟨rfl, rfl, rfl⟩ := trodAll_nil r1
  obtain rfl : args = #[v0, v1] := by cases args; simp_all
  obtain ⟨rfl, rfl⟩ := trodVars_none hV
  obtain ⟨a0, rfl, rfl, rfl, w0⟩ := open_int Try.underlying3 (hval 0 3 v0 rfl rfl) h0
  obtain ⟨a1, rfl, rfl, rfl, w1⟩ := open_int Try.underlying3 (hval 1 3 v1 rfl rfl) h1
  clear hA0 hval0
  simp only [List.append_nil] at hW'
  refine (walk a0 a1 w0 w1 W).mono fun e W' ⟨he, hg⟩ => ?_
  subst he
  exact ⟨_, rfl, _, _, _, [], [], [], hW', (trodAll_cons_mk (shut_bool Try.underlying4 _) trodAll_mk0), (trodAll_cons_mk (shut_int Try.underlying3 w0) (trodAll_cons_mk (shut_int Try.underlying3 w1) trodAll_mk0)), rfl, hg.frame _, fun h => by cases h⟩

theorem over : Rows.deciShowRow.holds Try.pinned (OpenSpec.ofChange Rows.deciShowSpec) :=
  OpenClaim.holds_of_wide 8 Try.f8 rfl rfl rfl rfl rfl rfl rfl ⟨rfl, rfl, rfl, rfl, rfl⟩ rfl rfl rfl rfl rfl (by kernel_rfl) Try.func8 (by kernel_rfl)
    (of_decide_eq_true (by kernel_rfl)) (by unfold Func.isWrapper; first | (rw [if_pos (by decide +kernel)]; kernel_rfl) | (rw [if_neg (by decide +kernel)]; exact ⟨rfl, rfl⟩))
    (fun os started H enc _ => lifted os started H enc)

/-- ████ THE STATEMENT ████ -/
theorem proved : Rows.DeciShowSaid :=
  over
#print axioms proved
end Go.Proofs.Ytnfefjjpifokpaa.deciShow
