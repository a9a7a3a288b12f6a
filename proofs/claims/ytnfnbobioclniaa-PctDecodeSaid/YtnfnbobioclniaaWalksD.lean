/- The walks of layer 1's worth of a digit to the base of 16, the program's and the document's: for every byte. -/
import Derived.Test.YtnfnbobioclniaaWalksC
namespace Go.Proofs.Ytnfnbobioclniaa
open Go.RowKit

/-- What a digit to the base of 16 is worth; -1, if it is none. -/
def hexN (n : Nat) : Int := if 48 ≤ n ∧ n ≤ 57 then (n : Int) - 48 else if 97 ≤ n ∧ n ≤ 102 then (n : Int) - 87 else if 65 ≤ n ∧ n ≤ 70 then (n : Int) - 55 else -1

theorem or32 : ∀ n : Fin 256, bits BinOp.or IntKind.u8 (n.val : Int) 32 = ((n.val ||| 32 : Nat) : Int) := by decide +kernel
theorem hex_let : ∀ n : Fin 256, ¬ (48 ≤ n.val ∧ n.val ≤ 57) → 97 ≤ (n.val ||| 32) → (n.val ||| 32) ≤ 102 → hexN n.val = ((n.val ||| 32 : Nat) : Int) - 87 ∧ 65 ≤ n.val := by decide +kernel
theorem hex_not : ∀ n : Fin 256, ¬ (48 ≤ n.val ∧ n.val ≤ 57) → ¬ (97 ≤ (n.val ||| 32) ∧ (n.val ||| 32) ≤ 102) → hexN n.val = -1 := by decide +kernel

theorem ret_int {k : IntKind} {a b : Int} (h : a = b) : Ending.returned (.int k a) = .returned (.int k b) := by rw [h]

theorem hex_any (c : UInt8) (w : World) : Calls Try.prog 29 #[.int .u8 c.toNat] w fun e w' => e = .returned (.int .i64 (hexN c.toNat)) ∧ w = w' := by
  have hn : c.toNat < 256 := c.toNat_lt
  have h1 := or32 ⟨c.toNat, hn⟩
  have h2 := hex_let ⟨c.toNat, hn⟩
  have h3 := hex_not ⟨c.toNat, hn⟩
  simp only at h1 h2 h3
  obtain ⟨n, hnn⟩ : ∃ n, n = c.toNat := ⟨_, rfl⟩
  rw [← hnn] at h1 h2 h3 hn ⊢
  clear hnn
  obtain ⟨o, ho⟩ : ∃ o, o = n ||| 32 := ⟨_, rfl⟩
  rw [← ho] at h1 h2 h3
  clear ho
  by_cases d1 : 48 ≤ n ∧ n ≤ 57
  · have e : Hid (hexN n = (n : Int) - 48) := by show _ = _; unfold hexN; rw [if_pos d1]
    obtain ⟨d1, d2⟩ := d1
    clear h1 h2 h3
    go_enter Try.func29, Try.ntmps29
    go_wp2
    go_ret
    exact ⟨ret_int (by rw [e.out]), rfl⟩
  · by_cases d3 : 97 ≤ o ∧ o ≤ 102
    · have e := Lib.hid (h2 d1 d3.1 d3.2).1
      have d5 := (h2 d1 d3.1 d3.2).2
      obtain ⟨d3, d4⟩ := d3
      clear h2 h3
      go_enter Try.func29, Try.ntmps29
      go_wp2
      go_ret
      exact ⟨ret_int (by rw [e.out]; omega), rfl⟩
    · have e := Lib.hid (h3 d1 d3)
      clear h2 h3
      by_cases dd : 48 ≤ n
      all_goals
        by_cases d6 : 97 ≤ o
        all_goals
          go_enter Try.func29, Try.ntmps29
          go_wp2
          go_ret
          exact ⟨ret_int (by rw [e.out]), rfl⟩
theorem refhex_any (c : UInt8) (w : World) : Calls Try.prog 35 #[.int .u8 c.toNat] w fun e w' => e = .returned (.int .i64 (hexN c.toNat)) ∧ w = w' := by
  have hn : c.toNat < 256 := c.toNat_lt
  obtain ⟨n, hnn⟩ : ∃ n, n = c.toNat := ⟨_, rfl⟩
  rw [← hnn] at hn ⊢
  clear hnn
  by_cases a1 : n < 48
  · have e : Hid (hexN n = -1) := by show _ = _; unfold hexN; rw [if_neg (by omega), if_neg (by omega), if_neg (by omega)]
    go_enter Try.func35, Try.ntmps35
    go_wp2
    go_ret
    exact ⟨ret_int (by rw [e.out]), rfl⟩
  · by_cases a2 : n ≤ 57
    · have e : Hid (hexN n = (n : Int) - 48) := by show _ = _; unfold hexN; rw [if_pos (by omega)]
      go_enter Try.func35, Try.ntmps35
      go_wp2
      go_ret
      exact ⟨ret_int (by rw [e.out]), rfl⟩
    · by_cases a3 : n < 65
      · have e : Hid (hexN n = -1) := by show _ = _; unfold hexN; rw [if_neg (by omega), if_neg (by omega), if_neg (by omega)]
        go_enter Try.func35, Try.ntmps35
        go_wp2
        go_ret
        exact ⟨ret_int (by rw [e.out]), rfl⟩
      · by_cases a4 : n ≤ 70
        · have e : Hid (hexN n = (n : Int) - 55) := by show _ = _; unfold hexN; rw [if_neg (by omega), if_neg (by omega), if_pos (by omega)]
          go_enter Try.func35, Try.ntmps35
          go_wp2
          go_ret
          exact ⟨ret_int (by rw [e.out]; omega), rfl⟩
        · by_cases a5 : n < 97
          · have e : Hid (hexN n = -1) := by show _ = _; unfold hexN; rw [if_neg (by omega), if_neg (by omega), if_neg (by omega)]
            go_enter Try.func35, Try.ntmps35
            go_wp2
            go_ret
            exact ⟨ret_int (by rw [e.out]), rfl⟩
          · by_cases a6 : n ≤ 102
            · have e : Hid (hexN n = (n : Int) - 87) := by show _ = _; unfold hexN; rw [if_neg (by omega), if_pos (by omega)]
              go_enter Try.func35, Try.ntmps35
              go_wp2
              go_ret
              exact ⟨ret_int (by rw [e.out]; omega), rfl⟩
            · have e : Hid (hexN n = -1) := by show _ = _; unfold hexN; rw [if_neg (by omega), if_neg (by omega), if_neg (by omega)]
              go_enter Try.func35, Try.ntmps35
              go_wp2
              go_ret
              exact ⟨ret_int (by rw [e.out]), rfl⟩
end Go.Proofs.Ytnfnbobioclniaa
