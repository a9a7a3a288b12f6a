/- The walks of layer 15's loops: the most that a policy allows, and whether one is stricter: for all policies. -/
import Derived.Test.YtoekfngllgmkaaaWalksA
import Derived.LoopN
import Derived.Deep.QuietTactic
import Derived.BigQuiet
namespace Go.Proofs.Ytoekfngllgmkaaa
open Go.RowKit

def Rowed (p x0 x1 x2 x3 : Int) : Prop := ∀ w : World, Calls Try.prog 20 #[.int .i64 p] w fun e w' => e = .returned (.agg #[.int .i64 x0, .int .i64 x1, .int .i64 x2, .int .i64 x3]) ∧ Below w.heap.size w w'
theorem rowed (p : Int) : Rowed p (al p true false) (al p false false) (al p true true) (al p false true) := fun w => allowed_any p w

theorem most_row {p x0 x1 x2 x3 : Int} (HA : Rowed p x0 x1 x2 x3) (h0 : 0 ≤ x0) (h1 : x1 ≤ x0) (h2 : x2 ≤ x0) (h3 : x3 ≤ x0) (w : World) : Calls Try.prog 17 #[.int .i64 p] w fun e w' => e = .returned (.int .i64 x0) ∧ Below w.heap.size w w' := by
  have k0 := pick0
  have k1 := pick1
  have k2 := pick2
  have k3 := pick3
  go_enter Try.func17, Try.ntmps17
  go_wp2_with fail
  refine (HA _).mono ?_
  rintro e w1 ⟨rfl, b1⟩
  go_wp2
  refine wp_loop_rounds 5 ?_
  iterate 5
    all_goals
      rw [rounds_succ]
      go_wp2
  all_goals
    go_ret
    exact ⟨ret_int (by omega), b1⟩
theorem most_any (p : Int) (w : World) : Calls Try.prog 17 #[.int .i64 p] w fun e w' => e = .returned (.int .i64 (mo p)) ∧ Below w.heap.size w w' :=
  most_row (rowed p) (al_lo p true false).1 (al_most p false false) (al_most p true true) (al_most p false true) w

theorem st_below {w w1 w2 : World} (b1 : Below w.heap.size w w1) (b2 : Below w1.heap.size w1 w2) (o o' : Obj) : Below w.heap.size w ((w2.alloc o).alloc o') :=
  ((below_then b1 b2).alloc (by have := b1.size; have := b2.size; omega) o).alloc (by have := b1.size; have := b2.size; simp; omega) o'

theorem strict_yes {p q x0 x1 x2 x3 y0 y1 y2 y3 : Int} (HA : Rowed p x0 x1 x2 x3) (HB : Rowed q y0 y1 y2 y3) (h0 : x0 ≤ y0) (h1 : x1 ≤ y1) (h2 : x2 ≤ y2) (h3 : x3 ≤ y3) (w : World) : Calls Try.prog 19 #[.int .i64 p, .int .i64 q] w fun e w' => e = .returned (.bool true) ∧ Below w.heap.size w w' := by
  go_enter Try.func19, Try.ntmps19
  go_wp2_with fail
  refine (HA _).mono ?_
  rintro e w1 ⟨rfl, b1⟩
  go_wp2_with fail
  refine (HB _).mono ?_
  rintro e w2 ⟨rfl, b2⟩
  go_wp2
  refine wp_loop_rounds 5 ?_
  rw [rounds_succ]
  go_wp2
  go_quiet (fail)
  go_wp2
  rw [rounds_succ]
  go_wp2
  go_quiet (fail)
  go_wp2
  rw [rounds_succ]
  go_wp2
  go_quiet (fail)
  go_wp2
  rw [rounds_succ]
  go_wp2
  go_quiet (fail)
  go_wp2
  rw [rounds_succ]
  go_wp2
  go_ret
  exact ⟨rfl, by repeat (first | exact st_below b1 b2 _ _ | apply below_drewN)⟩

theorem strict_no0 {p q x0 x1 x2 x3 y0 y1 y2 y3 : Int} (HA : Rowed p x0 x1 x2 x3) (HB : Rowed q y0 y1 y2 y3) (h0 : y0 < x0) (w : World) : Calls Try.prog 19 #[.int .i64 p, .int .i64 q] w fun e w' => e = .returned (.bool false) ∧ Below w.heap.size w w' := by
  go_enter Try.func19, Try.ntmps19
  go_wp2_with fail
  refine (HA _).mono ?_
  rintro e w1 ⟨rfl, b1⟩
  go_wp2_with fail
  refine (HB _).mono ?_
  rintro e w2 ⟨rfl, b2⟩
  go_wp2
  refine wp_loop_rounds 5 ?_
  rw [rounds_succ]
  go_wp2
  go_quiet (fail)
  go_wp2
  go_ret
  exact ⟨rfl, by repeat (first | exact st_below b1 b2 _ _ | apply below_drewN)⟩

theorem strict_no1 {p q x0 x1 x2 x3 y0 y1 y2 y3 : Int} (HA : Rowed p x0 x1 x2 x3) (HB : Rowed q y0 y1 y2 y3) (h0 : x0 ≤ y0) (h1 : y1 < x1) (w : World) : Calls Try.prog 19 #[.int .i64 p, .int .i64 q] w fun e w' => e = .returned (.bool false) ∧ Below w.heap.size w w' := by
  go_enter Try.func19, Try.ntmps19
  go_wp2_with fail
  refine (HA _).mono ?_
  rintro e w1 ⟨rfl, b1⟩
  go_wp2_with fail
  refine (HB _).mono ?_
  rintro e w2 ⟨rfl, b2⟩
  go_wp2
  refine wp_loop_rounds 5 ?_
  rw [rounds_succ]
  go_wp2
  go_quiet (fail)
  go_wp2
  rw [rounds_succ]
  go_wp2
  go_quiet (fail)
  go_wp2
  go_ret
  exact ⟨rfl, by repeat (first | exact st_below b1 b2 _ _ | apply below_drewN)⟩

theorem strict_no2 {p q x0 x1 x2 x3 y0 y1 y2 y3 : Int} (HA : Rowed p x0 x1 x2 x3) (HB : Rowed q y0 y1 y2 y3) (h0 : x0 ≤ y0) (h1 : x1 ≤ y1) (h2 : y2 < x2) (w : World) : Calls Try.prog 19 #[.int .i64 p, .int .i64 q] w fun e w' => e = .returned (.bool false) ∧ Below w.heap.size w w' := by
  go_enter Try.func19, Try.ntmps19
  go_wp2_with fail
  refine (HA _).mono ?_
  rintro e w1 ⟨rfl, b1⟩
  go_wp2_with fail
  refine (HB _).mono ?_
  rintro e w2 ⟨rfl, b2⟩
  go_wp2
  refine wp_loop_rounds 5 ?_
  rw [rounds_succ]
  go_wp2
  go_quiet (fail)
  go_wp2
  rw [rounds_succ]
  go_wp2
  go_quiet (fail)
  go_wp2
  rw [rounds_succ]
  go_wp2
  go_quiet (fail)
  go_wp2
  go_ret
  exact ⟨rfl, by repeat (first | exact st_below b1 b2 _ _ | apply below_drewN)⟩

theorem strict_no3 {p q x0 x1 x2 x3 y0 y1 y2 y3 : Int} (HA : Rowed p x0 x1 x2 x3) (HB : Rowed q y0 y1 y2 y3) (h0 : x0 ≤ y0) (h1 : x1 ≤ y1) (h2 : x2 ≤ y2) (h3 : y3 < x3) (w : World) : Calls Try.prog 19 #[.int .i64 p, .int .i64 q] w fun e w' => e = .returned (.bool false) ∧ Below w.heap.size w w' := by
  go_enter Try.func19, Try.ntmps19
  go_wp2_with fail
  refine (HA _).mono ?_
  rintro e w1 ⟨rfl, b1⟩
  go_wp2_with fail
  refine (HB _).mono ?_
  rintro e w2 ⟨rfl, b2⟩
  go_wp2
  refine wp_loop_rounds 5 ?_
  rw [rounds_succ]
  go_wp2
  go_quiet (fail)
  go_wp2
  rw [rounds_succ]
  go_wp2
  go_quiet (fail)
  go_wp2
  rw [rounds_succ]
  go_wp2
  go_quiet (fail)
  go_wp2
  rw [rounds_succ]
  go_wp2
  go_quiet (fail)
  go_wp2
  go_ret
  exact ⟨rfl, by repeat (first | exact st_below b1 b2 _ _ | apply below_drewN)⟩

theorem strict_any (p q : Int) (w : World) : Calls Try.prog 19 #[.int .i64 p, .int .i64 q] w fun e w' => e = .returned (.bool (st p q)) ∧ Below w.heap.size w w' := by
  unfold st
  by_cases h0 : al p true false ≤ al q true false
  · by_cases h1 : al p false false ≤ al q false false
    · by_cases h2 : al p true true ≤ al q true true
      · by_cases h3 : al p false true ≤ al q false true
        · rw [decide_eq_true h0, decide_eq_true h1, decide_eq_true h2, decide_eq_true h3]
          exact strict_yes (rowed p) (rowed q) h0 h1 h2 h3 w
        · rw [decide_eq_false h3, Bool.and_false]
          exact strict_no3 (rowed p) (rowed q) h0 h1 h2 (by omega) w
      · rw [decide_eq_false h2, Bool.and_false, Bool.false_and]
        exact strict_no2 (rowed p) (rowed q) h0 h1 (by omega) w
    · rw [decide_eq_false h1, Bool.and_false, Bool.false_and, Bool.false_and]
      exact strict_no1 (rowed p) (rowed q) h0 (by omega) w
  · rw [decide_eq_false h0, Bool.false_and, Bool.false_and, Bool.false_and]
    exact strict_no0 (rowed p) (rowed q) (by omega) w
end Go.Proofs.Ytoekfngllgmkaaa
