/- The walks of layer 2's digits and plain digits, the program's and the document's: for every byte, and every text of at most 1048576 bytes. -/
import Derived.Test.YtnfefjjpifokpaaRows
import Derived.Test.YtnfefjjpifokpaaPure
import Derived.WalkKit
import Derived.WalkLawsBesides
import Derived.WalkSmall
import Derived.WalkSpells
import Derived.Lib.OthersKept
import Derived.Lib.Hide
import Derived.Outline
import Derived.Laws.IdiomStrings
namespace Go.Proofs.Ytnfefjjpifokpaa
open Go.RowKit

theorem ret_bool {a b : Bool} (h : a = b) : Ending.returned (.bool a) = .returned (.bool b) := by rw [h]
theorem ret_int {k : IntKind} {a b : Int} (h : a = b) : Ending.returned (.int k a) = .returned (.int k b) := by rw [h]
theorem size_len (s : ByteArray) : s.data.toList.length = s.size := by rw [Array.length_toList]; rfl
theorem take_snoc (s : ByteArray) (k : Nat) (h : k < s.size) : s.data.toList.take (k + 1) = s.data.toList.take k ++ [s[k]] := by
  rw [List.take_succ_eq_append_getElem (by simpa using h)]; rfl
theorem below_then {a b c : World} (h : Below a.heap.size a b) (k : Below b.heap.size b c) : Below a.heap.size a c := h.trans (k.mono h.size)

theorem getD_data (s : ByteArray) (i : Nat) : s.get! i = s.data.toList.getD i 0 := by
  have : s.get! i = s.data[i]! := rfl
  rw [this]
  by_cases h : i < s.data.size
  · rw [getElem!_pos s.data i h, List.getD, Array.getElem?_toList, Array.getElem?_eq_getElem h]; rfl
  · rw [getElem!_neg s.data i h, List.getD, Array.getElem?_toList, Array.getElem?_eq_none (by omega)]; rfl
theorem toList_data (s : ByteArray) : s.toList = s.data.toList := by
  have h : ∀ (n i : Nat) (r : List UInt8), s.size - i = n → ByteArray.toList.loop s i r = r.reverse ++ s.data.toList.drop i := by
    intro n
    induction n with
    | zero =>
      intro i r h
      rw [ByteArray.toList.loop, if_neg (by omega), List.drop_eq_nil_of_le (by rw [size_len]; omega), List.append_nil]
    | succ n ih =>
      intro i r h
      have hi : i < s.size := by omega
      rw [ByteArray.toList.loop, if_pos hi, ih (i + 1) _ (by omega), List.reverse_cons, List.append_assoc, List.singleton_append]
      have hd : s.data.toList.drop i = s.get! i :: s.data.toList.drop (i + 1) := by
        rw [List.drop_eq_getElem_cons (by rw [size_len]; exact hi), getD_data]
        simp [List.getD, hi]
      rw [hd]
  have := h (s.size - 0) 0 [] rfl
  simpa [ByteArray.toList] using this
theorem mk_list (s : ByteArray) : (⟨s.data.toList.toArray⟩ : ByteArray) = s := by cases s; simp
theorem ext_list {a b : ByteArray} (h : a.data.toList = b.data.toList) : a = b := by rw [← mk_list a, ← mk_list b, h]
theorem app_list (a b : ByteArray) : (a ++ b).data.toList = a.data.toList ++ b.data.toList := by simp [ByteArray.data_append]
theorem app_size (a b : ByteArray) : (a ++ b).size = a.size + b.size := by rw [← size_len, app_list, List.length_append, size_len, size_len]
theorem beq_no {a b : ByteArray} (h : a ≠ b) : (a.toList == b.toList) = false := by
  rw [beq_eq_false_iff_ne, toList_data, toList_data]
  exact fun e => h (ext_list e)

theorem digit_yes (c : UInt8) (w : World) (h : isD c = true) : Calls Try.prog 18 #[.int .u8 c.toNat] w fun e w' => e = .returned (.bool true) ∧ w = w' := by
  obtain ⟨h1, h2⟩ := (isD_iff c).1 h
  clear h
  go_enter Try.func18, Try.ntmps18
  go_wp2
  go_ret
  exact ⟨ret_bool (by first | rfl | (simp; omega)), rfl⟩
theorem digit_no (c : UInt8) (w : World) (h : isD c = false) : Calls Try.prog 18 #[.int .u8 c.toNat] w fun e w' => e = .returned (.bool false) ∧ w = w' := by
  have h' : ¬ (48 ≤ c.toNat ∧ c.toNat ≤ 57) := fun e => by rw [(isD_iff c).2 e] at h; cases h
  by_cases h1 : 48 ≤ c.toNat
  · have h2 : ¬ c.toNat ≤ 57 := fun e => h' ⟨h1, e⟩
    clear h h'
    go_enter Try.func18, Try.ntmps18
    go_wp2
    go_ret
    exact ⟨ret_bool (by first | rfl | (simp; omega)), rfl⟩
  · clear h h'
    go_enter Try.func18, Try.ntmps18
    go_wp2
    go_ret
    exact ⟨ret_bool (by first | rfl | (simp; omega)), rfl⟩
theorem refdigit_yes (c : UInt8) (w : World) (h : isD c = true) : Calls Try.prog 16 #[.int .u8 c.toNat] w fun e w' => e = .returned (.bool true) ∧ w = w' := by
  obtain ⟨h1, h2⟩ := (isD_iff c).1 h
  clear h
  go_enter Try.func16, Try.ntmps16
  go_wp2
  go_ret
  exact ⟨ret_bool (by first | rfl | (simp; omega)), rfl⟩
theorem refdigit_no (c : UInt8) (w : World) (h : isD c = false) : Calls Try.prog 16 #[.int .u8 c.toNat] w fun e w' => e = .returned (.bool false) ∧ w = w' := by
  have h' : ¬ (48 ≤ c.toNat ∧ c.toNat ≤ 57) := fun e => by rw [(isD_iff c).2 e] at h; cases h
  by_cases h1 : 48 ≤ c.toNat
  · have h2 : ¬ c.toNat ≤ 57 := fun e => h' ⟨h1, e⟩
    clear h h'
    go_enter Try.func16, Try.ntmps16
    go_wp2
    go_ret
    exact ⟨ret_bool (by first | rfl | (simp; omega)), rfl⟩
  · clear h h'
    go_enter Try.func16, Try.ntmps16
    go_wp2
    go_ret
    exact ⟨ret_bool (by first | rfl | (simp; omega)), rfl⟩

/-- Are all bytes digits, up to k; what the loop holds. -/
theorem all_take_end (s : ByteArray) (k : Nat) (h : ¬ k < s.size) : s.data.toList.take k = s.data.toList := List.take_of_length_le (by rw [size_len]; omega)

set_option maxRecDepth 100000 in
theorem plain_any (s : ByteArray) (w : World) (hs : s.size ≤ 1048576) :
    Calls Try.prog 15 #[.string s] w fun e w' => e = .returned (.bool (plainD s.data.toList)) ∧ w = w' := by
  go_enter Try.func15, Try.ntmps15
  go_wp2
  go_loop [6] (fun i => ∃ k : Nat, k ≤ s.size ∧ i = .int .i64 k ∧ Hid ((s.data.toList.take k).all isD = true)) (fun i => s.size - (intOf i).toNat)
  case atStart => exact ⟨0, Nat.zero_le _, rfl, rfl⟩
  case round =>
    obtain ⟨k, hk, rfl, hc⟩ := hrel
    by_cases hp : k < s.size
    · have HT := Lib.hid (take_snoc s k hp)
      cases hr : isD (s[k]'hp) with
      | false =>
        have HD := Lib.hid (show s.data.toList = s.data.toList.take k ++ s[k] :: s.data.toList.drop (k + 1) from by
          rw [← List.singleton_append, ← List.append_assoc, ← take_snoc s k hp, List.take_append_drop])
        have HR := Lib.hid hr
        clear hr
        go_wp2_with (go_at_call 18; refine (digit_no _ _ HR.out).mono ?_; rintro e w' ⟨rfl, rfl⟩)
        go_ret
        exact ⟨ret_bool (by unfold plainD; rw [HD.out, List.all_append, List.all_cons, HR.out]; simp), rfl⟩
      | true =>
        have HR := Lib.hid hr
        clear hr
        go_wp2_with (go_at_call 18; refine (digit_yes _ _ HR.out).mono ?_; rintro e w' ⟨rfl, rfl⟩)
        go_round
        case rel => exact ⟨k + 1, by omega, by go_num, by
                      show List.all _ _ = true
                      rw [HT.out, List.all_append, hc.out]; simp [HR.out]⟩
        case measure => simp [intOf]; omega
    · have HE := Lib.hid (all_take_end s k hp)
      go_wp2
      go_ret
      have h := hc.out
      rw [HE.out] at h
      exact ⟨ret_bool (by unfold plainD; rw [h, Bool.true_and, toList_data]), rfl⟩

set_option maxRecDepth 100000 in
theorem refplain_any (s : ByteArray) (w : World) (hs : s.size ≤ 1048576) :
    Calls Try.prog 12 #[.string s] w fun e w' => e = .returned (.bool (plainD s.data.toList)) ∧ w = w' := by
  go_enter Try.func12, Try.ntmps12
  go_wp2
  go_loop [3] (fun i => ∃ k : Nat, k ≤ s.size ∧ i = .int .i64 k ∧ Hid ((s.data.toList.take k).all isD = true)) (fun i => s.size - (intOf i).toNat)
  case atStart => exact ⟨0, Nat.zero_le _, rfl, rfl⟩
  case round =>
    obtain ⟨k, hk, rfl, hc⟩ := hrel
    by_cases hp : k < s.size
    · have HT := Lib.hid (take_snoc s k hp)
      cases hr : isD (s[k]'hp) with
      | false =>
        have HD := Lib.hid (show s.data.toList = s.data.toList.take k ++ s[k] :: s.data.toList.drop (k + 1) from by
          rw [← List.singleton_append, ← List.append_assoc, ← take_snoc s k hp, List.take_append_drop])
        have HR := Lib.hid hr
        clear hr
        go_wp2_with (go_at_call 16; refine (refdigit_no _ _ HR.out).mono ?_; rintro e w' ⟨rfl, rfl⟩)
        go_ret
        exact ⟨ret_bool (by unfold plainD; rw [HD.out, List.all_append, List.all_cons, HR.out]; simp), rfl⟩
      | true =>
        have HR := Lib.hid hr
        clear hr
        go_wp2_with (go_at_call 16; refine (refdigit_yes _ _ HR.out).mono ?_; rintro e w' ⟨rfl, rfl⟩)
        go_round
        case rel => exact ⟨k + 1, by omega, by go_num, by
                      show List.all _ _ = true
                      rw [HT.out, List.all_append, hc.out]; simp [HR.out]⟩
        case measure => simp [intOf]; omega
    · have HE := Lib.hid (all_take_end s k hp)
      go_wp2
      go_ret
      have h := hc.out
      rw [HE.out] at h
      exact ⟨ret_bool (by unfold plainD; rw [h, Bool.true_and, ← size_len]; cases s.data.toList <;> simp), rfl⟩
end Go.Proofs.Ytnfefjjpifokpaa
