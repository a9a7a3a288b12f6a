/- What layer 4's functions answer, in the forms in which the statements ask: made wide and narrow again, plain texts, two texts one behind the other. -/
import Derived.Test.YtljnbpecmjoafaaWalksD
namespace Go.Proofs.Ytljnbpecmjoafaa
open Go.RowKit

def pl (s : ByteArray) : Bool := plainL s.data.toList
def ft (s : ByteArray) : Bool := fits s.data.toList

theorem app_list (a b : ByteArray) : (a ++ b).data.toList = a.data.toList ++ b.data.toList := by simp [ByteArray.data_append]
theorem mk_list (s : ByteArray) : (⟨s.data.toList.toArray⟩ : ByteArray) = s := by cases s; simp
theorem ext_list {a b : ByteArray} (h : a.data.toList = b.data.toList) : a = b := by rw [← mk_list a, ← mk_list b, h]
theorem wid_list (s : ByteArray) : (widB s).data.toList = wideL s.data.toList := by simp [widB]
theorem wid_size (s : ByteArray) : s.size ≤ (widB s).size ∧ (widB s).size ≤ 2 * s.size := by
  have := wide_len s.data.toList
  rw [← size_len s, ← size_len (widB s), wid_list]
  exact ⟨this.1, this.2.1⟩
theorem nar_list (s : ByteArray) (h : ft s = true) : (narB s).data.toList = nar s.data.toList := by unfold narB; unfold ft at h; rw [h]; simp
theorem nar_wid (s : ByteArray) : narB (widB s) = s := by rw [← mk_list s]; simp only [widB]; exact narB_wide _
theorem ft_wid (s : ByteArray) : ft (widB s) = true := by unfold ft; rw [wid_list]; exact fits_wide _
theorem wid_nar (s : ByteArray) (h : ft s = true) : widB (narB s) = s := by
  apply ext_list; rw [wid_list, nar_list s h]; exact wide_of_fits h
theorem wid_app (a b : ByteArray) : widB (a ++ b) = widB a ++ widB b := by
  apply ext_list; rw [wid_list, app_list, app_list, wid_list, wid_list, wideL_append]
theorem wid_inj {a b : ByteArray} (h : widB a = widB b) : a = b := by
  apply ext_list; apply wideL_inj; rw [← wid_list, ← wid_list, h]
theorem wid_plain {s : ByteArray} (h : pl s = true) : widB s = s := by apply ext_list; rw [wid_list]; exact wide_plain _ h
theorem wid_not {s : ByteArray} (h : pl s = false) : widB s ≠ s := by
  intro e
  have := (wide_self s.data.toList).1 (by rw [← wid_list, e])
  unfold pl at h; rw [h] at this; cases this

theorem toList_data (s : ByteArray) : s.toList = s.data.toList := by
  have h : ∀ (n i : Nat) (r : List UInt8), s.size - i = n → ByteArray.toList.loop s i r = r.reverse ++ s.data.toList.drop i := by
    intro n
    induction n with
    | zero =>
      intro i r h
      rw [ByteArray.toList.loop, if_neg (by omega), List.drop_eq_nil_of_le (by rw [size_len]; omega), List.append_nil]
    | succ n ih =>
      intro i r h
      have hi : i < s.size := by omega
      rw [ByteArray.toList.loop, if_pos hi, ih (i + 1) _ (by omega), List.reverse_cons, List.append_assoc, List.singleton_append]
      have hd : s.data.toList.drop i = s.get! i :: s.data.toList.drop (i + 1) := by
        rw [List.drop_eq_getElem_cons (by rw [size_len]; exact hi), getD_data]
        simp [List.getD, hi]
      rw [hd]
  have := h (s.size - 0) 0 [] rfl
  simpa [ByteArray.toList] using this

theorem beq_no {a b : ByteArray} (h : a ≠ b) : (a.toList == b.toList) = false := by
  rw [beq_eq_false_iff_ne, toList_data, toList_data]
  exact fun e => h (ext_list e)

/-! ### The contracts, in the forms that the statements want -/
theorem narrow_of (s : ByteArray) (w : World) (hs : s.size ≤ 1048576) : Calls Try.prog 10 #[.string s] w fun e w' => e = .returned (.tuple #[.string (narB s), .bool (ft s)]) ∧ Below w.heap.size w w' := narrow_any s w hs
theorem narrow_back (s : ByteArray) (w : World) (hs : s.size ≤ 1000) : Calls Try.prog 10 #[.string (widB s)] w fun e w' => e = .returned (.tuple #[.string s, .bool true]) ∧ Below w.heap.size w w' := by
  have h := narrow_of (widB s) w (by have := (wid_size s).2; omega)
  rw [nar_wid, ft_wid] at h; exact h
theorem narrow_yes (s : ByteArray) (w : World) (hs : s.size ≤ 1000) (h : ft s = true) : Calls Try.prog 10 #[.string s] w fun e w' => e = .returned (.tuple #[.string (narB s), .bool true]) ∧ Below w.heap.size w w' := by
  have := narrow_of s w (by omega)
  rw [h] at this; exact this
theorem narrow_no (s : ByteArray) (w : World) (hs : s.size ≤ 1000) (h : ft s = false) : Calls Try.prog 10 #[.string s] w fun e w' => e = .returned (.tuple #[.string (narB s), .bool false]) ∧ Below w.heap.size w w' := by
  have := narrow_of s w (by omega)
  rw [h] at this; exact this
theorem wide_back (s : ByteArray) (w : World) (hs : (narB s).size ≤ 1000) (h : ft s = true) : Calls Try.prog 13 #[.string (narB s)] w fun e w' => e = .returned (.string s) ∧ Below w.heap.size w w' := by
  have := wide_any (narB s) w (by omega)
  rw [wid_nar s h] at this; exact this
theorem count_wid (s : ByteArray) (w : World) (hs : s.size ≤ 1000) : Calls Try.prog 15 #[.string (widB s)] w fun e w' => e = .returned (.int .i64 s.size) ∧ Below w.heap.size w w' := by
  have := count_any (widB s) w (by have := (wid_size s).2; omega)
  rw [wid_list, rn_wideL, List.length_map, size_len] at this; exact this
theorem nar_len (s : ByteArray) (h : ft s = true) : (narB s).size = (rn s.data.toList).length := by
  rw [← size_len, nar_list s h, len_nar]
theorem count_nar (s : ByteArray) (w : World) (hs : s.size ≤ 1000) (h : ft s = true) : Calls Try.prog 15 #[.string s] w fun e w' => e = .returned (.int .i64 (narB s).size) ∧ Below w.heap.size w w' := by
  rw [nar_len s h]; exact count_any s w (by omega)
theorem nar_le (s : ByteArray) (h : ft s = true) : (narB s).size ≤ s.size := by rw [nar_len s h]; exact rn_le_size s

theorem wide_pl (s : ByteArray) (w : World) (hs : s.size ≤ 1000) (h : pl s = true) : Calls Try.prog 13 #[.string s] w fun e w' => e = .returned (.string s) ∧ Below w.heap.size w w' := by
  have := wide_any s w (by omega)
  rw [wid_plain h] at this; exact this
theorem narrow_pl (s : ByteArray) (w : World) (hs : s.size ≤ 1000) (h : pl s = true) : Calls Try.prog 10 #[.string s] w fun e w' => e = .returned (.tuple #[.string s, .bool true]) ∧ Below w.heap.size w w' := by
  have := narrow_back s w hs
  rw [wid_plain h] at this; exact this
theorem count_pl (s : ByteArray) (w : World) (hs : s.size ≤ 1000) (h : pl s = true) : Calls Try.prog 15 #[.string s] w fun e w' => e = .returned (.int .i64 s.size) ∧ Below w.heap.size w w' := by
  have := count_wid s w hs
  rw [wid_plain h] at this; exact this
theorem plain_is (s : ByteArray) (b : Bool) (w : World) (h : pl s = b) : Calls Try.prog 17 #[.string s] w fun e w' => e = .returned (.bool b) ∧ Below w.heap.size w w' := by
  subst h; exact plain_any s w
theorem pl_wid (s : ByteArray) : pl (widB s) = pl s := by unfold pl; rw [wid_list, plain_wide]
theorem pl_app (a b : ByteArray) : pl (a ++ b) = (pl a && pl b) := by unfold pl; rw [app_list, plain_append]

theorem app_size (a b : ByteArray) : (a ++ b).size = a.size + b.size := by rw [← size_len, app_list, List.length_append, size_len, size_len]
theorem wide_app (a b : ByteArray) (w : World) (ha : a.size ≤ 1000) (hb : b.size ≤ 1000) : Calls Try.prog 13 #[.string (a ++ b)] w fun e w' => e = .returned (.string (widB a ++ widB b)) ∧ Below w.heap.size w w' := by
  have := wide_any (a ++ b) w (by rw [app_size]; omega)
  rw [wid_app] at this; exact this
theorem narrow_app (a b : ByteArray) (w : World) (ha : a.size ≤ 500) (hb : b.size ≤ 500) (h : ft a = true) (k : ft b = true) : Calls Try.prog 10 #[.string (a ++ b)] w fun e w' => e = .returned (.tuple #[.string (narB a ++ narB b), .bool true]) ∧ Below w.heap.size w w' := by
  have h1 := nar_append h k
  have f : ft (a ++ b) = true := by unfold ft; rw [app_list]; exact h1.1
  have e : narB (a ++ b) = narB a ++ narB b := by apply ext_list; rw [nar_list _ f, app_list, app_list, nar_list _ h, nar_list _ k]; exact h1.2
  have := narrow_yes (a ++ b) w (by rw [app_size]; omega) f
  rw [e] at this; exact this

def cn (s : ByteArray) : Nat := (rn s.data.toList).length
theorem cn_le (s : ByteArray) : cn s ≤ s.size := rn_le_size s
theorem cn_zero (s : ByteArray) (h : cn s = 0) : s = ⟨#[]⟩ := by
  have := (rn_zero s.data.toList).1 h
  exact ext_list (by rw [this])
theorem count_of (s : ByteArray) (w : World) (hs : s.size ≤ 1000) : Calls Try.prog 15 #[.string s] w fun e w' => e = .returned (.int .i64 (cn s)) ∧ Below w.heap.size w w' := count_any s w (by omega)
theorem count_app (a b : ByteArray) (w : World) (ha : a.size ≤ 500) (hb : b.size ≤ 500) (h : pl a = true) : Calls Try.prog 15 #[.string (a ++ b)] w fun e w' => e = .returned (.int .i64 ((a.size : Int) + (cn b : Int))) ∧ Below w.heap.size w w' := by
  have := count_any (a ++ b) w (by rw [app_size]; omega)
  rw [app_list, rn_plain_append _ _ h, List.length_append, List.length_map, size_len] at this
  exact this

theorem empty_iff (s : ByteArray) : s.toList.isEmpty = true ↔ s.size = 0 := by
  rw [toList_data, List.isEmpty_iff, ← size_len, List.length_eq_zero_iff]
theorem pl_empty (s : ByteArray) (h : s.size = 0) : pl s = true := by
  rw [← size_len, List.length_eq_zero_iff] at h
  unfold pl; rw [h]; rfl

theorem byte_of {a : Int} (h : (Lit.int .u8 a).wf = true) : ∃ c : UInt8, a = (c.toNat : Int) := by
  have hb : 0 ≤ a ∧ a < 256 := by
    have h1 : IntKind.u8.min = 0 := by rfl
    have h2 : IntKind.u8.max = 255 := by rfl
    unfold Lit.wf at h
    rw [Bool.and_eq_true, h1, h2] at h
    exact ⟨of_decide_eq_true h.1, by have := of_decide_eq_true h.2; omega⟩
  refine ⟨UInt8.ofNat a.toNat, ?_⟩
  have : (UInt8.ofNat a.toNat).toNat = a.toNat := by simp; omega
  rw [this]; omega
theorem conv_one (c : UInt8) (w1 : World) : (convert 29 9 (.slice (some ⟨w1.heap.size, 0, none⟩) 1 1)).run Try.prog (w1.alloc (.cells #[.int .u8 (c.toNat : Int)] 5)) = .ok (.string ⟨#[c]⟩) (w1.alloc (.cells #[.int .u8 (c.toNat : Int)] 5)) :=
  run_convert_bytes_back (P := Try.prog) _ 29 9 5 ⟨w1.heap.size, 0, none⟩ 1 [c] Try.underlying29 Try.underlying5 Try.underlying9 (fun j hj => by
    match j, hj with
    | 0, _ => simp [Addr.add])

/-- One byte alone. -/
theorem one_wid (c : UInt8) : (widB ⟨#[c]⟩).size = if c.toNat < 128 then 1 else 2 := by
  rw [← size_len, wid_list]
  show (wideL [c]).length = _
  unfold wideL wideL encB
  split <;> rfl
end Go.Proofs.Ytljnbpecmjoafaa
