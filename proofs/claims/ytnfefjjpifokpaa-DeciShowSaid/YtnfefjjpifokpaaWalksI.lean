/- What is shown, byte by byte. -/
import Derived.Test.YtnfefjjpifokpaaWalksH
namespace Go.Proofs.Ytnfefjjpifokpaa
open Go.RowKit

/-- A number's digits, without its sign. -/
def dgB (n : Int) : ByteArray := ⟨(digs n.natAbs).toArray⟩
theorem dg_list (n : Int) : (dgB n).data.toList = digs n.natAbs := by unfold dgB; simp
theorem dg_size (n : Int) : (dgB n).size = (digs n.natAbs).length := by rw [← size_len, dg_list]
theorem dg_pos (n : Int) : 0 < (dgB n).size := by rw [dg_size]; exact digs_pos _
theorem dg_le {n : Int} (h1 : -9223372036854775808 ≤ n) (h2 : n ≤ 9223372036854775807) : (dgB n).size ≤ 19 := by rw [dg_size]; exact digs_len_19 (by omega)
theorem dg_plain (n : Int) : plainD (dgB n).data.toList = true := by rw [dg_list]; exact plain_digs _
theorem dg_at (n : Int) (p : Nat) (h : p < (dgB n).size) : 48 ≤ ((dgB n)[p]'h).toNat ∧ ((dgB n)[p]'h).toNat ≤ 57 := by
  have h2 := (digs_facts n.natAbs).2.1
  rw [← dg_list, List.all_eq_true] at h2
  exact (isD_iff _).1 (h2 _ (Array.getElem_mem_toList (xs := (dgB n).data) h))
theorem dg_head {n : Int} (h : n ≠ 0) (h0 : 0 < (dgB n).size) : ((dgB n)[0]'h0).toNat ≠ 48 := by
  have h4 := (digs_facts n.natAbs).2.2.2 (by omega)
  rw [← dg_list, cons_of (dgB n) h0, List.head?_cons] at h4
  intro e
  exact h4 (by rw [show (dgB n)[0] = 48 from UInt8.toNat_inj.1 e])
theorem sh_dg {n : Int} (h : ¬ n < 0) : shB n = dgB n := by
  apply ext_list; rw [sh_list, dg_list]; unfold showL; rw [if_neg h]
theorem sh_neg_list {n : Int} (h : n < 0) : (shB n).data.toList = 45 :: (dgB n).data.toList := by rw [sh_list, dg_list, showL_neg h]
theorem sh_neg_ext {n : Int} (h : n < 0) : (shB n).extract 1 (shB n).size = dgB n := by
  apply ext_list; rw [ext1_list, sh_neg_list h]; rfl
theorem sh_neg_head {n : Int} (h : n < 0) (h0 : 0 < (shB n).size) : ((shB n)[0]'h0).toNat = 45 := by
  have e := cons_of (shB n) h0
  rw [sh_neg_list h] at e
  have := (List.cons.inj e).1
  rw [← this]; rfl
theorem sh_ten {n : Int} (h : n ≠ 0) : shB (10 * n) = shB n ++ ⟨#[48]⟩ := by
  apply ext_list
  rw [app_list, sh_list, sh_list]
  show _ = showL n ++ [48]
  by_cases hn : n < 0
  · rw [showL_neg hn, showL_neg (by omega), show (10 * n).natAbs = 10 * n.natAbs by omega, digs_ten (by omega)]; rfl
  · rw [showL_nonneg (by omega), showL_nonneg (by omega), show (10 * n).toNat = 10 * n.toNat by omega, digs_ten (by omega)]
theorem show_ten (n : Int) (w : World) (h1 : -922337203685477580 ≤ n) (h2 : n ≤ 922337203685477580) (h : n ≠ 0) : Calls Try.prog 13 #[.int .i64 (10 * n)] w fun e w' => e = .returned (.string (shB n ++ ⟨#[48]⟩)) ∧ Below w.heap.size w w' := by
  have := show_of (10 * n) w (by omega) (by omega)
  rw [sh_ten h] at this
  exact this
theorem dg_zero : dgB 0 = ⟨#[48]⟩ := by unfold dgB; rw [show (0 : Int).natAbs = 0 from rfl, digs_zero]
end Go.Proofs.Ytnfefjjpifokpaa
