/- The walks of layer 15's small functions: the usual policy, its row, what it allows, the lesser level: for all arguments. -/
import Derived.Test.YtoekfngllgmkaaaRows
import Derived.Test.YtoekfngllgmkaaaPure
import Derived.WalkKit
import Derived.WalkLawsBesides
import Derived.WalkSmall
import Derived.Lib.Hide
import Derived.Outline
namespace Go.Proofs.Ytoekfngllgmkaaa
open Go.RowKit

theorem ret_bool {a b : Bool} (h : a = b) : Ending.returned (.bool a) = .returned (.bool b) := by rw [h]
theorem ret_int {k : IntKind} {a b : Int} (h : a = b) : Ending.returned (.int k a) = .returned (.int k b) := by rw [h]
theorem below_then {a b c : World} (h : Below a.heap.size a b) (k : Below b.heap.size b c) : Below a.heap.size a c := h.trans (k.mono h.size)

theorem usual_is (p u : Int) (w : World) (h : us p = u) : Calls Try.prog 11 #[.int .i64 p] w fun e w' => e = .returned (.int .i64 u) ∧ w = w' := by
  subst h
  by_cases h1 : p ≤ 0
  · have hu := Lib.hid (us_out (p := p) (Or.inl h1))
    go_enter Try.func11, Try.ntmps11
    go_wp2
    go_ret
    exact ⟨ret_int hu.out.symm, rfl⟩
  · by_cases h2 : 9 ≤ p
    · have hu := Lib.hid (us_out (p := p) (Or.inr h2))
      go_enter Try.func11, Try.ntmps11
      go_wp2
      go_ret
      exact ⟨ret_int hu.out.symm, rfl⟩
    · have hu := Lib.hid (us_in (p := p) (by omega) (by omega))
      go_enter Try.func11, Try.ntmps11
      go_wp2
      go_ret
      exact ⟨ret_int hu.out.symm, rfl⟩
theorem refusual_is (p u : Int) (w : World) (h : us p = u) : Calls Try.prog 12 #[.int .i64 p] w fun e w' => e = .returned (.int .i64 u) ∧ w = w' := by
  subst h
  by_cases h1 : p < 1
  · have hu := Lib.hid (us_out (p := p) (by omega))
    go_enter Try.func12, Try.ntmps12
    go_wp2
    go_ret
    exact ⟨ret_int hu.out.symm, rfl⟩
  · by_cases h2 : 8 < p
    · have hu := Lib.hid (us_out (p := p) (by omega))
      go_enter Try.func12, Try.ntmps12
      go_wp2
      go_ret
      exact ⟨ret_int hu.out.symm, rfl⟩
    · have hu := Lib.hid (us_in (p := p) (by omega) (by omega))
      go_enter Try.func12, Try.ntmps12
      go_wp2
      go_ret
      exact ⟨ret_int hu.out.symm, rfl⟩

def rowV (p : Int) : Value := .agg #[.int .i64 (al p true false), .int .i64 (al p false false), .int .i64 (al p true true), .int .i64 (al p false true)]

theorem idx1 (w : World) : (Instr.index 34 (.agg #[.int .i64 0, .int .i64 0, .int .i64 0, .int .i64 0, .int .i64 0, .int .i64 0, .int .i64 0, .int .i64 0, .int .i64 2, .int .i64 2, .int .i64 0, .int .i64 0, .int .i64 2, .int .i64 0, .int .i64 2, .int .i64 0, .int .i64 1, .int .i64 1, .int .i64 1, .int .i64 1, .int .i64 1, .int .i64 1, .int .i64 0, .int .i64 0, .int .i64 2, .int .i64 1, .int .i64 2, .int .i64 1, .int .i64 2, .int .i64 1, .int .i64 2, .int .i64 0, .int .i64 2, .int .i64 2, .int .i64 2, .int .i64 2]) (.int .i64 1)).run Try.prog w = .ok (.agg #[.int .i64 0, .int .i64 0, .int .i64 0, .int .i64 0]) w := by kernel_rfl
theorem idx2 (w : World) : (Instr.index 34 (.agg #[.int .i64 0, .int .i64 0, .int .i64 0, .int .i64 0, .int .i64 0, .int .i64 0, .int .i64 0, .int .i64 0, .int .i64 2, .int .i64 2, .int .i64 0, .int .i64 0, .int .i64 2, .int .i64 0, .int .i64 2, .int .i64 0, .int .i64 1, .int .i64 1, .int .i64 1, .int .i64 1, .int .i64 1, .int .i64 1, .int .i64 0, .int .i64 0, .int .i64 2, .int .i64 1, .int .i64 2, .int .i64 1, .int .i64 2, .int .i64 1, .int .i64 2, .int .i64 0, .int .i64 2, .int .i64 2, .int .i64 2, .int .i64 2]) (.int .i64 2)).run Try.prog w = .ok (.agg #[.int .i64 2, .int .i64 2, .int .i64 0, .int .i64 0]) w := by kernel_rfl
theorem idx3 (w : World) : (Instr.index 34 (.agg #[.int .i64 0, .int .i64 0, .int .i64 0, .int .i64 0, .int .i64 0, .int .i64 0, .int .i64 0, .int .i64 0, .int .i64 2, .int .i64 2, .int .i64 0, .int .i64 0, .int .i64 2, .int .i64 0, .int .i64 2, .int .i64 0, .int .i64 1, .int .i64 1, .int .i64 1, .int .i64 1, .int .i64 1, .int .i64 1, .int .i64 0, .int .i64 0, .int .i64 2, .int .i64 1, .int .i64 2, .int .i64 1, .int .i64 2, .int .i64 1, .int .i64 2, .int .i64 0, .int .i64 2, .int .i64 2, .int .i64 2, .int .i64 2]) (.int .i64 3)).run Try.prog w = .ok (.agg #[.int .i64 2, .int .i64 0, .int .i64 2, .int .i64 0]) w := by kernel_rfl
theorem idx4 (w : World) : (Instr.index 34 (.agg #[.int .i64 0, .int .i64 0, .int .i64 0, .int .i64 0, .int .i64 0, .int .i64 0, .int .i64 0, .int .i64 0, .int .i64 2, .int .i64 2, .int .i64 0, .int .i64 0, .int .i64 2, .int .i64 0, .int .i64 2, .int .i64 0, .int .i64 1, .int .i64 1, .int .i64 1, .int .i64 1, .int .i64 1, .int .i64 1, .int .i64 0, .int .i64 0, .int .i64 2, .int .i64 1, .int .i64 2, .int .i64 1, .int .i64 2, .int .i64 1, .int .i64 2, .int .i64 0, .int .i64 2, .int .i64 2, .int .i64 2, .int .i64 2]) (.int .i64 4)).run Try.prog w = .ok (.agg #[.int .i64 1, .int .i64 1, .int .i64 1, .int .i64 1]) w := by kernel_rfl
theorem idx5 (w : World) : (Instr.index 34 (.agg #[.int .i64 0, .int .i64 0, .int .i64 0, .int .i64 0, .int .i64 0, .int .i64 0, .int .i64 0, .int .i64 0, .int .i64 2, .int .i64 2, .int .i64 0, .int .i64 0, .int .i64 2, .int .i64 0, .int .i64 2, .int .i64 0, .int .i64 1, .int .i64 1, .int .i64 1, .int .i64 1, .int .i64 1, .int .i64 1, .int .i64 0, .int .i64 0, .int .i64 2, .int .i64 1, .int .i64 2, .int .i64 1, .int .i64 2, .int .i64 1, .int .i64 2, .int .i64 0, .int .i64 2, .int .i64 2, .int .i64 2, .int .i64 2]) (.int .i64 5)).run Try.prog w = .ok (.agg #[.int .i64 1, .int .i64 1, .int .i64 0, .int .i64 0]) w := by kernel_rfl
theorem idx6 (w : World) : (Instr.index 34 (.agg #[.int .i64 0, .int .i64 0, .int .i64 0, .int .i64 0, .int .i64 0, .int .i64 0, .int .i64 0, .int .i64 0, .int .i64 2, .int .i64 2, .int .i64 0, .int .i64 0, .int .i64 2, .int .i64 0, .int .i64 2, .int .i64 0, .int .i64 1, .int .i64 1, .int .i64 1, .int .i64 1, .int .i64 1, .int .i64 1, .int .i64 0, .int .i64 0, .int .i64 2, .int .i64 1, .int .i64 2, .int .i64 1, .int .i64 2, .int .i64 1, .int .i64 2, .int .i64 0, .int .i64 2, .int .i64 2, .int .i64 2, .int .i64 2]) (.int .i64 6)).run Try.prog w = .ok (.agg #[.int .i64 2, .int .i64 1, .int .i64 2, .int .i64 1]) w := by kernel_rfl
theorem idx7 (w : World) : (Instr.index 34 (.agg #[.int .i64 0, .int .i64 0, .int .i64 0, .int .i64 0, .int .i64 0, .int .i64 0, .int .i64 0, .int .i64 0, .int .i64 2, .int .i64 2, .int .i64 0, .int .i64 0, .int .i64 2, .int .i64 0, .int .i64 2, .int .i64 0, .int .i64 1, .int .i64 1, .int .i64 1, .int .i64 1, .int .i64 1, .int .i64 1, .int .i64 0, .int .i64 0, .int .i64 2, .int .i64 1, .int .i64 2, .int .i64 1, .int .i64 2, .int .i64 1, .int .i64 2, .int .i64 0, .int .i64 2, .int .i64 2, .int .i64 2, .int .i64 2]) (.int .i64 7)).run Try.prog w = .ok (.agg #[.int .i64 2, .int .i64 1, .int .i64 2, .int .i64 0]) w := by kernel_rfl
theorem idx8 (w : World) : (Instr.index 34 (.agg #[.int .i64 0, .int .i64 0, .int .i64 0, .int .i64 0, .int .i64 0, .int .i64 0, .int .i64 0, .int .i64 0, .int .i64 2, .int .i64 2, .int .i64 0, .int .i64 0, .int .i64 2, .int .i64 0, .int .i64 2, .int .i64 0, .int .i64 1, .int .i64 1, .int .i64 1, .int .i64 1, .int .i64 1, .int .i64 1, .int .i64 0, .int .i64 0, .int .i64 2, .int .i64 1, .int .i64 2, .int .i64 1, .int .i64 2, .int .i64 1, .int .i64 2, .int .i64 0, .int .i64 2, .int .i64 2, .int .i64 2, .int .i64 2]) (.int .i64 8)).run Try.prog w = .ok (.agg #[.int .i64 2, .int .i64 2, .int .i64 2, .int .i64 2]) w := by kernel_rfl

theorem rowV_of {p u : Int} (h : us p = u) : rowV p = .agg #[.int .i64 (row u).1, .int .i64 (row u).2.1, .int .i64 (row u).2.2.1, .int .i64 (row u).2.2.2] := by
  subst h; rfl

theorem allowed_1 (p : Int) (w : World) (h : us p = 1) : Calls Try.prog 20 #[.int .i64 p] w fun e w' => e = .returned (rowV p) ∧ Below w.heap.size w w' := by
  have hr := rowV_of h
  have HR : Hid (rowV p = .agg #[.int .i64 0, .int .i64 0, .int .i64 0, .int .i64 0]) := hr
  clear hr
  have hi := idx1
  go_enter Try.func20, Try.ntmps20
  go_wp2_with fail
  refine (usual_is p 1 _ h).mono ?_
  rintro e w' ⟨rfl, rfl⟩
  clear h
  go_wp2
  refine bodyPost_ret (v := .agg #[.int .i64 0, .int .i64 0, .int .i64 0, .int .i64 0]) (by simp [results, Try.results20, go_sem]) rfl ⟨by rw [HR.out], ?_⟩
  exact (Below.refl _ _).alloc (Nat.le_refl _) _

theorem allowed_2 (p : Int) (w : World) (h : us p = 2) : Calls Try.prog 20 #[.int .i64 p] w fun e w' => e = .returned (rowV p) ∧ Below w.heap.size w w' := by
  have hr := rowV_of h
  have HR : Hid (rowV p = .agg #[.int .i64 2, .int .i64 2, .int .i64 0, .int .i64 0]) := hr
  clear hr
  have hi := idx2
  go_enter Try.func20, Try.ntmps20
  go_wp2_with fail
  refine (usual_is p 2 _ h).mono ?_
  rintro e w' ⟨rfl, rfl⟩
  clear h
  go_wp2
  refine bodyPost_ret (v := .agg #[.int .i64 2, .int .i64 2, .int .i64 0, .int .i64 0]) (by simp [results, Try.results20, go_sem]) rfl ⟨by rw [HR.out], ?_⟩
  exact (Below.refl _ _).alloc (Nat.le_refl _) _

theorem allowed_3 (p : Int) (w : World) (h : us p = 3) : Calls Try.prog 20 #[.int .i64 p] w fun e w' => e = .returned (rowV p) ∧ Below w.heap.size w w' := by
  have hr := rowV_of h
  have HR : Hid (rowV p = .agg #[.int .i64 2, .int .i64 0, .int .i64 2, .int .i64 0]) := hr
  clear hr
  have hi := idx3
  go_enter Try.func20, Try.ntmps20
  go_wp2_with fail
  refine (usual_is p 3 _ h).mono ?_
  rintro e w' ⟨rfl, rfl⟩
  clear h
  go_wp2
  refine bodyPost_ret (v := .agg #[.int .i64 2, .int .i64 0, .int .i64 2, .int .i64 0]) (by simp [results, Try.results20, go_sem]) rfl ⟨by rw [HR.out], ?_⟩
  exact (Below.refl _ _).alloc (Nat.le_refl _) _

theorem allowed_4 (p : Int) (w : World) (h : us p = 4) : Calls Try.prog 20 #[.int .i64 p] w fun e w' => e = .returned (rowV p) ∧ Below w.heap.size w w' := by
  have hr := rowV_of h
  have HR : Hid (rowV p = .agg #[.int .i64 1, .int .i64 1, .int .i64 1, .int .i64 1]) := hr
  clear hr
  have hi := idx4
  go_enter Try.func20, Try.ntmps20
  go_wp2_with fail
  refine (usual_is p 4 _ h).mono ?_
  rintro e w' ⟨rfl, rfl⟩
  clear h
  go_wp2
  refine bodyPost_ret (v := .agg #[.int .i64 1, .int .i64 1, .int .i64 1, .int .i64 1]) (by simp [results, Try.results20, go_sem]) rfl ⟨by rw [HR.out], ?_⟩
  exact (Below.refl _ _).alloc (Nat.le_refl _) _

theorem allowed_5 (p : Int) (w : World) (h : us p = 5) : Calls Try.prog 20 #[.int .i64 p] w fun e w' => e = .returned (rowV p) ∧ Below w.heap.size w w' := by
  have hr := rowV_of h
  have HR : Hid (rowV p = .agg #[.int .i64 1, .int .i64 1, .int .i64 0, .int .i64 0]) := hr
  clear hr
  have hi := idx5
  go_enter Try.func20, Try.ntmps20
  go_wp2_with fail
  refine (usual_is p 5 _ h).mono ?_
  rintro e w' ⟨rfl, rfl⟩
  clear h
  go_wp2
  refine bodyPost_ret (v := .agg #[.int .i64 1, .int .i64 1, .int .i64 0, .int .i64 0]) (by simp [results, Try.results20, go_sem]) rfl ⟨by rw [HR.out], ?_⟩
  exact (Below.refl _ _).alloc (Nat.le_refl _) _

theorem allowed_6 (p : Int) (w : World) (h : us p = 6) : Calls Try.prog 20 #[.int .i64 p] w fun e w' => e = .returned (rowV p) ∧ Below w.heap.size w w' := by
  have hr := rowV_of h
  have HR : Hid (rowV p = .agg #[.int .i64 2, .int .i64 1, .int .i64 2, .int .i64 1]) := hr
  clear hr
  have hi := idx6
  go_enter Try.func20, Try.ntmps20
  go_wp2_with fail
  refine (usual_is p 6 _ h).mono ?_
  rintro e w' ⟨rfl, rfl⟩
  clear h
  go_wp2
  refine bodyPost_ret (v := .agg #[.int .i64 2, .int .i64 1, .int .i64 2, .int .i64 1]) (by simp [results, Try.results20, go_sem]) rfl ⟨by rw [HR.out], ?_⟩
  exact (Below.refl _ _).alloc (Nat.le_refl _) _

theorem allowed_7 (p : Int) (w : World) (h : us p = 7) : Calls Try.prog 20 #[.int .i64 p] w fun e w' => e = .returned (rowV p) ∧ Below w.heap.size w w' := by
  have hr := rowV_of h
  have HR : Hid (rowV p = .agg #[.int .i64 2, .int .i64 1, .int .i64 2, .int .i64 0]) := hr
  clear hr
  have hi := idx7
  go_enter Try.func20, Try.ntmps20
  go_wp2_with fail
  refine (usual_is p 7 _ h).mono ?_
  rintro e w' ⟨rfl, rfl⟩
  clear h
  go_wp2
  refine bodyPost_ret (v := .agg #[.int .i64 2, .int .i64 1, .int .i64 2, .int .i64 0]) (by simp [results, Try.results20, go_sem]) rfl ⟨by rw [HR.out], ?_⟩
  exact (Below.refl _ _).alloc (Nat.le_refl _) _

theorem allowed_8 (p : Int) (w : World) (h : us p = 8) : Calls Try.prog 20 #[.int .i64 p] w fun e w' => e = .returned (rowV p) ∧ Below w.heap.size w w' := by
  have hr := rowV_of h
  have HR : Hid (rowV p = .agg #[.int .i64 2, .int .i64 2, .int .i64 2, .int .i64 2]) := hr
  clear hr
  have hi := idx8
  go_enter Try.func20, Try.ntmps20
  go_wp2_with fail
  refine (usual_is p 8 _ h).mono ?_
  rintro e w' ⟨rfl, rfl⟩
  clear h
  go_wp2
  refine bodyPost_ret (v := .agg #[.int .i64 2, .int .i64 2, .int .i64 2, .int .i64 2]) (by simp [results, Try.results20, go_sem]) rfl ⟨by rw [HR.out], ?_⟩
  exact (Below.refl _ _).alloc (Nat.le_refl _) _

theorem allowed_any (p : Int) (w : World) : Calls Try.prog 20 #[.int .i64 p] w fun e w' => e = .returned (rowV p) ∧ Below w.heap.size w w' := by
  rcases us_cases p with h | h | h | h | h | h | h | h
  · exact allowed_1 p w h
  · exact allowed_2 p w h
  · exact allowed_3 p w h
  · exact allowed_4 p w h
  · exact allowed_5 p w h
  · exact allowed_6 p w h
  · exact allowed_7 p w h
  · exact allowed_8 p w h

/-- One level out of a row. -/
theorem pick0 (a b c d : Int) (w : World) : (Instr.index 32 (.agg #[.int .i64 a, .int .i64 b, .int .i64 c, .int .i64 d]) (.int .i64 0)).run Try.prog w = .ok (.int .i64 a) w := by kernel_rfl
theorem pick1 (a b c d : Int) (w : World) : (Instr.index 32 (.agg #[.int .i64 a, .int .i64 b, .int .i64 c, .int .i64 d]) (.int .i64 1)).run Try.prog w = .ok (.int .i64 b) w := by kernel_rfl
theorem pick2 (a b c d : Int) (w : World) : (Instr.index 32 (.agg #[.int .i64 a, .int .i64 b, .int .i64 c, .int .i64 d]) (.int .i64 2)).run Try.prog w = .ok (.int .i64 c) w := by kernel_rfl
theorem pick3 (a b c d : Int) (w : World) : (Instr.index 32 (.agg #[.int .i64 a, .int .i64 b, .int .i64 c, .int .i64 d]) (.int .i64 3)).run Try.prog w = .ok (.int .i64 d) w := by kernel_rfl

theorem al_any (p : Int) (s d : Bool) (w : World) : Calls Try.prog 13 #[.int .i64 p, .bool s, .bool d] w fun e w' => e = .returned (.int .i64 (al p s d)) ∧ Below w.heap.size w w' := by
  have k0 := pick0
  have k1 := pick1
  have k2 := pick2
  have k3 := pick3
  have o1 : bits BinOp.or IntKind.i64 0 1 = 1 := by decide
  have o2 : bits BinOp.or IntKind.i64 0 2 = 2 := by decide
  have o3 : bits BinOp.or IntKind.i64 1 2 = 3 := by decide
  cases s <;> cases d
  all_goals
    go_enter Try.func13, Try.ntmps13
    go_wp2_with fail
    refine (allowed_any p _).mono ?_
    rintro e w1 ⟨rfl, b1⟩
    unfold rowV
    go_wp2
    go_ret
    exact ⟨rfl, b1⟩

theorem meet_any (a b : Int) (w : World) : Calls Try.prog 15 #[.int .i64 a, .int .i64 b] w fun e w' => e = .returned (.int .i64 (mt a b)) ∧ w = w' := by
  by_cases h1 : a < 0
  · have e : Hid (mt a b = 0) := by show _ = _; unfold mt; rw [if_pos (by omega)]
    go_enter Try.func15, Try.ntmps15
    go_wp2
    go_ret
    exact ⟨ret_int e.out.symm, rfl⟩
  · by_cases h2 : b < 0
    · have e : Hid (mt a b = 0) := by show _ = _; unfold mt; rw [if_pos (by omega)]
      go_enter Try.func15, Try.ntmps15
      go_wp2
      go_ret
      exact ⟨ret_int e.out.symm, rfl⟩
    · by_cases h3 : 3 ≤ a
      · have e : Hid (mt a b = 0) := by show _ = _; unfold mt; rw [if_pos (by omega)]
        go_enter Try.func15, Try.ntmps15
        go_wp2
        go_ret
        exact ⟨ret_int e.out.symm, rfl⟩
      · by_cases h4 : 3 ≤ b
        · have e : Hid (mt a b = 0) := by show _ = _; unfold mt; rw [if_pos (by omega)]
          go_enter Try.func15, Try.ntmps15
          go_wp2
          go_ret
          exact ⟨ret_int e.out.symm, rfl⟩
        · by_cases h5 : a < b
          · have e : Hid (mt a b = a) := by show _ = _; unfold mt; rw [if_neg (by omega), if_pos h5]
            go_enter Try.func15, Try.ntmps15
            go_wp2
            go_ret
            exact ⟨ret_int e.out.symm, rfl⟩
          · have e : Hid (mt a b = b) := by show _ = _; unfold mt; rw [if_neg (by omega), if_neg h5]
            go_enter Try.func15, Try.ntmps15
            go_wp2
            all_goals
              go_ret
              exact ⟨ret_int (by have := e.out; omega), rfl⟩
theorem refmeet_any (a b : Int) (w : World) : Calls Try.prog 16 #[.int .i64 a, .int .i64 b] w fun e w' => e = .returned (.int .i64 (mt a b)) ∧ w = w' := by
  by_cases h1 : a < 0
  · have e : Hid (mt a b = 0) := by show _ = _; unfold mt; rw [if_pos (by omega)]
    go_enter Try.func16, Try.ntmps16
    go_wp2
    go_ret
    exact ⟨ret_int e.out.symm, rfl⟩
  · by_cases h2 : b < 0
    · have e : Hid (mt a b = 0) := by show _ = _; unfold mt; rw [if_pos (by omega)]
      go_enter Try.func16, Try.ntmps16
      go_wp2
      go_ret
      exact ⟨ret_int e.out.symm, rfl⟩
    · by_cases h3 : 2 < a
      · have e : Hid (mt a b = 0) := by show _ = _; unfold mt; rw [if_pos (by omega)]
        go_enter Try.func16, Try.ntmps16
        go_wp2
        go_ret
        exact ⟨ret_int e.out.symm, rfl⟩
      · by_cases h4 : 2 < b
        · have e : Hid (mt a b = 0) := by show _ = _; unfold mt; rw [if_pos (by omega)]
          go_enter Try.func16, Try.ntmps16
          go_wp2
          go_ret
          exact ⟨ret_int e.out.symm, rfl⟩
        · by_cases h5 : a < b
          · have e : Hid (mt a b = a) := by show _ = _; unfold mt; rw [if_neg (by omega), if_pos h5]
            go_enter Try.func16, Try.ntmps16
            go_wp2
            go_ret
            exact ⟨ret_int e.out.symm, rfl⟩
          · have e : Hid (mt a b = b) := by show _ = _; unfold mt; rw [if_neg (by omega), if_neg h5]
            go_enter Try.func16, Try.ntmps16
            go_wp2
            go_ret
            exact ⟨ret_int e.out.symm, rfl⟩
end Go.Proofs.Ytoekfngllgmkaaa
