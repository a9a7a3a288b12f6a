/- What layer 2's functions answer, in the forms in which the statements ask. -/
import Derived.Test.YtnfefjjpifokpaaWalksF
namespace Go.Proofs.Ytnfefjjpifokpaa
open Go.RowKit

theorem wf_i64 {a : Int} (h : (Lit.int .i64 a).wf = true) : -9223372036854775808 ≤ a ∧ a ≤ 9223372036854775807 := by
  have h1 : IntKind.i64.min = -9223372036854775808 := by rfl
  have h2 : IntKind.i64.max = 9223372036854775807 := by rfl
  unfold Lit.wf at h
  rw [Bool.and_eq_true, h1, h2] at h
  exact ⟨of_decide_eq_true h.1, of_decide_eq_true h.2⟩

theorem readN_yes {l : List UInt8} {most : Int} (h : readOK l most = true) : readN l most = (val l : Int) ∧ (val l : Int) ≤ most := by
  unfold readN; rw [h]
  unfold readOK at h
  rw [Bool.and_eq_true] at h
  exact ⟨rfl, of_decide_eq_true h.2⟩
theorem readN_no {l : List UInt8} {most : Int} (h : readOK l most = false) : readN l most = 0 := by unfold readN; rw [h]; rfl
theorem readOK_mono {l : List UInt8} {a b : Int} (h : readOK l a = true) (hab : a ≤ b) : readOK l b = true := by
  unfold readOK at h ⊢
  rw [Bool.and_eq_true] at h
  have := of_decide_eq_true h.2
  rw [h.1, decide_eq_true (by omega)]; rfl
theorem readOK_up {l : List UInt8} {a b : Int} (h : readOK l a = false) (hb : readOK l b = true) : a < (val l : Int) := by
  unfold readOK at h hb
  rw [Bool.and_eq_true] at hb
  rw [hb.1, Bool.true_and] at h
  have := of_decide_eq_false h
  omega

theorem sh_list (n : Int) : (shB n).data.toList = showL n := by unfold shB; simp
theorem sh_size (n : Int) : (shB n).size = (showL n).length := by rw [← size_len, sh_list]
theorem sh_inj {a b : Int} (h : shB a = shB b) : a = b := showL_inj (by rw [← sh_list, ← sh_list, h])
theorem sh_plain {n : Int} (h : 0 ≤ n) : plainD (shB n).data.toList = true := by rw [sh_list, showL_nonneg h]; exact plain_digs _
theorem sh_val {n : Int} (h : 0 ≤ n) : (val (shB n).data.toList : Int) = n := by rw [sh_list, showL_nonneg h, val_digs]; omega
end Go.Proofs.Ytnfefjjpifokpaa
