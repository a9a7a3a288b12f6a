/- The walks of layer 15 as the document has it, and of its example (awake): for all arguments. -/
import Derived.Test.YtoekfngllgmkaaaWalksB
namespace Go.Proofs.Ytoekfngllgmkaaa
open Go.RowKit

theorem al_u {p u : Int} (h : us p = u) (s d : Bool) : al p s d = pick (row u) s d := by subst h; rfl
theorem us_self {p : Int} {u : Int} (h : us p = u) (h7 : u ≠ 7) : p = u := by
  unfold us at h; split at h <;> omega

theorem refal_lit (u : Int) (hu : u = 1 ∨ u = 2 ∨ u = 3 ∨ u = 4 ∨ u = 5 ∨ u = 6 ∨ u = 8) (s d : Bool) (w : World) : Calls Try.prog 14 #[.int .i64 u, .bool s, .bool d] w fun e w' => e = .returned (.int .i64 (pick (row u) s d)) ∧ w = w' := by
  rcases hu with rfl | rfl | rfl | rfl | rfl | rfl | rfl <;> cases s <;> cases d
  all_goals
    go_enter Try.func14, Try.ntmps14
    go_wp2_with fail
    refine (refusual_is _ _ _ rfl).mono ?_
    rintro e w' ⟨rfl, rfl⟩
    have e1 : us 1 = 1 := rfl
    have e2 : us 2 = 2 := rfl
    have e3 : us 3 = 3 := rfl
    have e4 : us 4 = 4 := rfl
    have e5 : us 5 = 5 := rfl
    have e6 : us 6 = 6 := rfl
    have e8 : us 8 = 8 := rfl
    go_wp2
    go_ret
    exact ⟨rfl, rfl⟩
theorem refal_7 (p : Int) (h : us p = 7) (s d : Bool) (w : World) : Calls Try.prog 14 #[.int .i64 p, .bool s, .bool d] w fun e w' => e = .returned (.int .i64 (pick (row 7) s d)) ∧ w = w' := by
  have h3 : (p == 3) = false := by rw [beq_eq_false_iff_ne]; intro e; subst e; revert h; decide
  have h6 : (p == 6) = false := by rw [beq_eq_false_iff_ne]; intro e; subst e; revert h; decide
  have h6n : (p != 6) = true := by rw [bne, h6]; rfl
  have H := Lib.hid h
  clear h
  cases s <;> cases d
  all_goals
    go_enter Try.func14, Try.ntmps14
    go_wp2_with fail
    refine (refusual_is p 7 _ H.out).mono ?_
    rintro e w' ⟨rfl, rfl⟩
    go_wp2
    go_ret
    exact ⟨rfl, rfl⟩
theorem refal_any (p : Int) (s d : Bool) (w : World) : Calls Try.prog 14 #[.int .i64 p, .bool s, .bool d] w fun e w' => e = .returned (.int .i64 (al p s d)) ∧ w = w' := by
  by_cases h7 : us p = 7
  · rw [al_u h7]; exact refal_7 p h7 s d w
  · have hp := us_self rfl h7
    have hu := us_cases p
    rw [al_u hp.symm]
    exact refal_lit p (by omega) s d w

theorem refmost_any (p : Int) (w : World) : Calls Try.prog 18 #[.int .i64 p] w fun e w' => e = .returned (.int .i64 (mo p)) ∧ w = w' := by
  have h0 := (al_lo p true false).1
  have h1 := al_most p false false
  have h2 := al_most p true true
  have h3 := al_most p false true
  unfold mo at h1 h2 h3
  by_cases hc : 0 < al p true false
  all_goals
    go_enter Try.func18, Try.ntmps18
    go_wp2
    refine wp_loop_rounds 5 ?_
    iterate 4
      rw [rounds_succ]
      go_wp2_with fail
      refine (refal_any p _ _ _).mono ?_
      rintro e w' ⟨rfl, rfl⟩
      go_wp2_with fail
    rw [rounds_succ]
    go_wp2
    go_ret
    exact ⟨ret_int (by unfold mo; omega), rfl⟩

theorem refstrict_yes {p q : Int} (h0 : al p true false ≤ al q true false) (h1 : al p false false ≤ al q false false) (h2 : al p true true ≤ al q true true) (h3 : al p false true ≤ al q false true) (w : World) : Calls Try.prog 10 #[.int .i64 p, .int .i64 q] w fun e w' => e = .returned (.bool true) ∧ w = w' := by
  go_enter Try.func10, Try.ntmps10
  go_wp2
  refine wp_loop_rounds 5 ?_
  iterate 4
    rw [rounds_succ]
    go_wp2_with fail
    refine (refal_any p _ _ _).mono ?_
    rintro e w' ⟨rfl, rfl⟩
    go_wp2_with fail
    refine (refal_any q _ _ _).mono ?_
    rintro e w' ⟨rfl, rfl⟩
    go_wp2_with fail
  rw [rounds_succ]
  go_wp2
  go_ret
  exact ⟨rfl, rfl⟩

theorem refstrict_no0 {p q : Int} (h0 : al q true false < al p true false) (w : World) : Calls Try.prog 10 #[.int .i64 p, .int .i64 q] w fun e w' => e = .returned (.bool false) ∧ w = w' := by
  go_enter Try.func10, Try.ntmps10
  go_wp2
  refine wp_loop_rounds 5 ?_
  iterate 1
    rw [rounds_succ]
    go_wp2_with fail
    refine (refal_any p _ _ _).mono ?_
    rintro e w' ⟨rfl, rfl⟩
    go_wp2_with fail
    refine (refal_any q _ _ _).mono ?_
    rintro e w' ⟨rfl, rfl⟩
    go_wp2_with fail
  go_ret
  exact ⟨rfl, rfl⟩

theorem refstrict_no1 {p q : Int} (h0 : al p true false ≤ al q true false) (h1 : al q false false < al p false false) (w : World) : Calls Try.prog 10 #[.int .i64 p, .int .i64 q] w fun e w' => e = .returned (.bool false) ∧ w = w' := by
  go_enter Try.func10, Try.ntmps10
  go_wp2
  refine wp_loop_rounds 5 ?_
  iterate 2
    rw [rounds_succ]
    go_wp2_with fail
    refine (refal_any p _ _ _).mono ?_
    rintro e w' ⟨rfl, rfl⟩
    go_wp2_with fail
    refine (refal_any q _ _ _).mono ?_
    rintro e w' ⟨rfl, rfl⟩
    go_wp2_with fail
  go_ret
  exact ⟨rfl, rfl⟩

theorem refstrict_no2 {p q : Int} (h0 : al p true false ≤ al q true false) (h1 : al p false false ≤ al q false false) (h2 : al q true true < al p true true) (w : World) : Calls Try.prog 10 #[.int .i64 p, .int .i64 q] w fun e w' => e = .returned (.bool false) ∧ w = w' := by
  go_enter Try.func10, Try.ntmps10
  go_wp2
  refine wp_loop_rounds 5 ?_
  iterate 3
    rw [rounds_succ]
    go_wp2_with fail
    refine (refal_any p _ _ _).mono ?_
    rintro e w' ⟨rfl, rfl⟩
    go_wp2_with fail
    refine (refal_any q _ _ _).mono ?_
    rintro e w' ⟨rfl, rfl⟩
    go_wp2_with fail
  go_ret
  exact ⟨rfl, rfl⟩

theorem refstrict_no3 {p q : Int} (h0 : al p true false ≤ al q true false) (h1 : al p false false ≤ al q false false) (h2 : al p true true ≤ al q true true) (h3 : al q false true < al p false true) (w : World) : Calls Try.prog 10 #[.int .i64 p, .int .i64 q] w fun e w' => e = .returned (.bool false) ∧ w = w' := by
  go_enter Try.func10, Try.ntmps10
  go_wp2
  refine wp_loop_rounds 5 ?_
  iterate 4
    rw [rounds_succ]
    go_wp2_with fail
    refine (refal_any p _ _ _).mono ?_
    rintro e w' ⟨rfl, rfl⟩
    go_wp2_with fail
    refine (refal_any q _ _ _).mono ?_
    rintro e w' ⟨rfl, rfl⟩
    go_wp2_with fail
  go_ret
  exact ⟨rfl, rfl⟩

theorem refstrict_any (p q : Int) (w : World) : Calls Try.prog 10 #[.int .i64 p, .int .i64 q] w fun e w' => e = .returned (.bool (st p q)) ∧ w = w' := by
  unfold st
  by_cases h0 : al p true false ≤ al q true false
  · by_cases h1 : al p false false ≤ al q false false
    · by_cases h2 : al p true true ≤ al q true true
      · by_cases h3 : al p false true ≤ al q false true
        · rw [decide_eq_true h0, decide_eq_true h1, decide_eq_true h2, decide_eq_true h3]
          exact refstrict_yes h0 h1 h2 h3 w
        · rw [decide_eq_false h3, Bool.and_false]
          exact refstrict_no3 h0 h1 h2 (by omega) w
      · rw [decide_eq_false h2, Bool.and_false, Bool.false_and]
        exact refstrict_no2 h0 h1 (by omega) w
    · rw [decide_eq_false h1, Bool.and_false, Bool.false_and, Bool.false_and]
      exact refstrict_no1 h0 (by omega) w
  · rw [decide_eq_false h0, Bool.false_and, Bool.false_and, Bool.false_and]
    exact refstrict_no0 (by omega) w

theorem al_is (p n : Int) (s d : Bool) (w : World) (h : al p s d = n) : Calls Try.prog 13 #[.int .i64 p, .bool s, .bool d] w fun e w' => e = .returned (.int .i64 n) ∧ Below w.heap.size w w' := by subst h; exact al_any p s d w
theorem st_is (p q : Int) (b : Bool) (w : World) (h : st p q = b) : Calls Try.prog 19 #[.int .i64 p, .int .i64 q] w fun e w' => e = .returned (.bool b) ∧ Below w.heap.size w w' := by subst h; exact strict_any p q w
theorem mt_is (a b n : Int) (w : World) (h : mt a b = n) : Calls Try.prog 15 #[.int .i64 a, .int .i64 b] w fun e w' => e = .returned (.int .i64 n) ∧ w = w' := by subst h; exact meet_any a b w
theorem mo_is (p n : Int) (w : World) (h : mo p = n) : Calls Try.prog 17 #[.int .i64 p] w fun e w' => e = .returned (.int .i64 n) ∧ Below w.heap.size w w' := by subst h; exact most_any p w

theorem awake_any (w : World) : Calls Try.prog 9 #[] w fun e w' => e = .returned (.bool true) ∧ Below w.heap.size w w' := by
  go_enter Try.func9, Try.ntmps9
  go_wp2_with fail
  refine (al_is 7 2 true false _ (by decide)).mono ?_
  rintro e w1 ⟨rfl, b1⟩
  go_wp2_with fail
  refine (al_is 7 1 false false _ (by decide)).mono ?_
  rintro e w2 ⟨rfl, b2⟩
  go_wp2_with fail
  refine (al_is 7 0 false true _ (by decide)).mono ?_
  rintro e w3 ⟨rfl, b3⟩
  go_wp2_with fail
  refine (usual_is 0 7 _ (by decide)).mono ?_
  rintro e w4 ⟨rfl, rfl⟩
  go_wp2_with fail
  refine (mt_is 1 2 1 _ (by decide)).mono ?_
  rintro e w4 ⟨rfl, rfl⟩
  go_wp2_with fail
  refine (mo_is 7 2 _ (by decide)).mono ?_
  rintro e w4 ⟨rfl, b4⟩
  go_wp2_with fail
  refine (st_is 1 7 true _ (by decide)).mono ?_
  rintro e w5 ⟨rfl, b5⟩
  go_wp2_with fail
  refine (st_is 7 1 false _ (by decide)).mono ?_
  rintro e w6 ⟨rfl, b6⟩
  go_wp2
  go_ret
  exact ⟨rfl, below_then (below_then (below_then (below_then (below_then b1 b2) b3) b4) b5) b6⟩
end Go.Proofs.Ytoekfngllgmkaaa
