/- The walks of layer 4's small functions: how many characters, are all plain, a character as a byte; each for every text of at most 1048576 bytes, or every text. -/
import Derived.Test.YtljnbpecmjoafaaRows
import Derived.Test.YtljnbpecmjoafaaPure
import Derived.WalkKit
import Derived.WalkLawsBesides
import Derived.WalkSmall
import Derived.Lib.OthersKept
import Derived.Lib.Hide
import Derived.Outline
import Derived.StillTailTactics
import Derived.Laws.Cover4
import Derived.Laws.IdiomStrings
namespace Go.Proofs.Ytljnbpecmjoafaa
open Go.RowKit

theorem getD_data (s : ByteArray) (i : Nat) : s.get! i = s.data.toList.getD i 0 := by
  have : s.get! i = s.data[i]! := rfl
  rw [this]
  by_cases h : i < s.data.size
  · rw [getElem!_pos s.data i h, List.getD, Array.getElem?_toList, Array.getElem?_eq_getElem h]; rfl
  · rw [getElem!_neg s.data i h, List.getD, Array.getElem?_toList, Array.getElem?_eq_none (by omega)]; rfl

theorem getD_drop (l : List UInt8) (p k : Nat) : (l.drop p).getD k 0 = l.getD (p + k) 0 := by
  simp [List.getD, List.getElem?_drop]

theorem decode_drop (s : ByteArray) (pos : Nat) : Utf8.decode s pos = decL (s.data.toList.drop pos) := by
  unfold decL
  rw [Lib.decode_at, getD_drop, getD_drop, getD_drop, getD_drop, getD_data, getD_data, getD_data, getD_data]
  simp

theorem drop_ne (s : ByteArray) (pos : Nat) (h : pos < s.size) : s.data.toList.drop pos ≠ [] := by
  intro e
  have : (s.data.toList.drop pos).length = 0 := by rw [e]; rfl
  rw [List.length_drop, Array.length_toList] at this
  have hs : s.data.size = s.size := rfl
  omega
theorem drop_end (s : ByteArray) (pos : Nat) (h : ¬ pos < s.size) : s.data.toList.drop pos = [] := by
  apply List.drop_eq_nil_of_le
  rw [Array.length_toList]
  have hs : s.data.size = s.size := rfl
  omega

/-- One step of the range, over the rest of the text. -/
theorem rest_step (s : ByteArray) (pos : Nat) (h : pos < s.size) :
    rn (s.data.toList.drop pos) = (Utf8.decode s pos).1 :: rn (s.data.toList.drop (pos + (Utf8.decode s pos).2)) ∧ pos < pos + (Utf8.decode s pos).2 := by
  rw [decode_drop]
  have := decL_width (s.data.toList.drop pos)
  refine ⟨?_, by omega⟩
  rw [rn_cons _ (drop_ne s pos h), List.drop_drop]

theorem ret_bool {a b : Bool} (h : a = b) : Ending.returned (.bool a) = .returned (.bool b) := by rw [h]
theorem ret_int {k : IntKind} {a b : Int} (h : a = b) : Ending.returned (.int k a) = .returned (.int k b) := by rw [h]

theorem size_len (s : ByteArray) : s.data.toList.length = s.size := by rw [Array.length_toList]; rfl
theorem rn_le_size (s : ByteArray) : (rn s.data.toList).length ≤ s.size := by rw [← size_len]; exact rn_le _

/-- How many characters a text has: that of the program. -/
theorem count_any (s : ByteArray) (w : World) (hs : s.size ≤ 1048576) :
    Calls Try.prog 15 #[.string s] w fun e w' => e = .returned (.int .i64 (rn s.data.toList).length) ∧ Below w.heap.size w w' := by
  have hlen := rn_le_size s
  go_enter Try.func15, Try.ntmps15
  go_wp2
  go_loopw [3] (fun n wr => ∃ (pos k : Nat), wr = w.iter s pos ∧ n = .int .i64 k ∧ k ≤ s.size ∧ k + (rn (s.data.toList.drop pos)).length = (rn s.data.toList).length) (fun _ wr => s.size - wr.iterPos w.heap.size)
  case atStart => exact ⟨0, 0, rfl, rfl, by omega, by simp⟩
  case round =>
    obtain ⟨pos, k, rfl, rfl, hk, hc⟩ := hrel
    have HC := Lib.hid hc
    clear hc
    by_cases hp : pos < s.size
    · have hnx : ∀ ty, (Instr.next (.pointer (some ⟨w.heap.size, 0, none⟩)) true ty).run Try.prog (w.iter s pos) = _ := fun ty => run_next_any w s pos ty hp
      have HS := Lib.hid (rest_step s pos hp)
      go_wp2
      have hs1 := HS.out
      have hc := HC.out
      rw [hs1.1, List.length_cons] at hc
      go_roundw
      case rel => exact ⟨pos + (Utf8.decode s pos).2, k + 1, rfl, by go_num, by omega, by omega⟩
      case measure => simp; omega
    · have hnx : ∀ ty, (Instr.next (.pointer (some ⟨w.heap.size, 0, none⟩)) true ty).run Try.prog (w.iter s pos) = _ := fun ty => run_next_end w s pos ty hp
      go_wp2
      go_ret
      have hc := HC.out
      rw [drop_end s pos hp, rn_nil] at hc
      exact ⟨ret_int (by simp at hc; omega), (Below.refl _ _).alloc (Nat.le_refl _) _⟩

/-- How many characters a text has: that of the document. -/
theorem refcount_any (s : ByteArray) (w : World) (hs : s.size ≤ 1048576) :
    Calls Try.prog 16 #[.string s] w fun e w' => e = .returned (.int .i64 (rn s.data.toList).length) ∧ Below w.heap.size w w' := by
  have hlen := rn_le_size s
  go_enter Try.func16, Try.ntmps16
  go_wp2
  go_loopw [3] (fun n wr => ∃ (pos k : Nat), wr = w.iter s pos ∧ n = .int .i64 k ∧ k ≤ s.size ∧ k + (rn (s.data.toList.drop pos)).length = (rn s.data.toList).length) (fun _ wr => s.size - wr.iterPos w.heap.size)
  case atStart => exact ⟨0, 0, rfl, rfl, by omega, by simp⟩
  case round =>
    obtain ⟨pos, k, rfl, rfl, hk, hc⟩ := hrel
    have HC := Lib.hid hc
    clear hc
    by_cases hp : pos < s.size
    · have hnx : ∀ ty, (Instr.next (.pointer (some ⟨w.heap.size, 0, none⟩)) true ty).run Try.prog (w.iter s pos) = _ := fun ty => run_next_any w s pos ty hp
      have HS := Lib.hid (rest_step s pos hp)
      go_wp2
      have hs1 := HS.out
      have hc := HC.out
      rw [hs1.1, List.length_cons] at hc
      go_roundw
      case rel => exact ⟨pos + (Utf8.decode s pos).2, k + 1, rfl, by go_num, by omega, by omega⟩
      case measure => simp; omega
    · have hnx : ∀ ty, (Instr.next (.pointer (some ⟨w.heap.size, 0, none⟩)) true ty).run Try.prog (w.iter s pos) = _ := fun ty => run_next_end w s pos ty hp
      go_wp2
      go_ret
      have hc := HC.out
      rw [drop_end s pos hp, rn_nil] at hc
      exact ⟨ret_int (by simp at hc; omega), (Below.refl _ _).alloc (Nat.le_refl _) _⟩


set_option maxRecDepth 100000 in
/-- Are all bytes below 128: that of the program. -/
theorem plain_any (s : ByteArray) (w : World) :
    Calls Try.prog 17 #[.string s] w fun e w' => e = .returned (.bool (plainL s.data.toList)) ∧ Below w.heap.size w w' := by
  go_enter Try.func17, Try.ntmps17
  go_wp2
  go_loopw [4] (fun _ wr => ∃ (pos : Nat), wr = w.iter s pos ∧ Hid (((rn (s.data.toList.drop pos)).all fun r => decide (r < 128)) = plainL s.data.toList)) (fun _ wr => s.size - wr.iterPos w.heap.size)
  case atStart => exact ⟨0, rfl, plain_rn s.data.toList⟩
  case round =>
    obtain ⟨pos, rfl, hc⟩ := hrel
    by_cases hp : pos < s.size
    · have hnx : ∀ ty, (Instr.next (.pointer (some ⟨w.heap.size, 0, none⟩)) true ty).run Try.prog (w.iter s pos) = _ := fun ty => run_next_any w s pos ty hp
      have HS := Lib.hid (rest_step s pos hp)
      by_cases hr : 128 ≤ (Utf8.decode s pos).1
      · go_wp2
        go_ret
        have hs1 := HS.out
        have hc := hc.out
        rw [hs1.1, List.all_cons, decide_eq_false (by omega)] at hc
        exact ⟨ret_bool (by rw [← hc]; rfl), (Below.refl _ _).alloc (Nat.le_refl _) _⟩
      · go_wp2
        have hs1 := HS.out
        have hc := hc.out
        rw [hs1.1, List.all_cons, decide_eq_true (by omega), Bool.true_and] at hc
        go_roundw
        case rel => exact ⟨pos + (Utf8.decode s pos).2, rfl, hc⟩
        case measure => simp; omega
    · have hnx : ∀ ty, (Instr.next (.pointer (some ⟨w.heap.size, 0, none⟩)) true ty).run Try.prog (w.iter s pos) = _ := fun ty => run_next_end w s pos ty hp
      go_wp2
      go_ret
      have hc := hc.out
      rw [drop_end s pos hp, rn_nil] at hc
      exact ⟨ret_bool (by rw [← hc]; rfl), (Below.refl _ _).alloc (Nat.le_refl _) _⟩

theorem take_snoc (s : ByteArray) (k : Nat) (h : k < s.size) : s.data.toList.take (k + 1) = s.data.toList.take k ++ [s[k]] := by
  rw [List.take_succ_eq_append_getElem (by simpa using h)]; rfl

set_option maxRecDepth 100000 in
/-- Are all bytes below 128: that of the document. -/
theorem refplain_any (s : ByteArray) (w : World) (hs : s.size ≤ 1048576) :
    Calls Try.prog 12 #[.string s] w fun e w' => e = .returned (.bool (plainL s.data.toList)) ∧ w = w' := by
  go_enter Try.func12, Try.ntmps12
  go_wp2
  go_loop [3] (fun i => ∃ k : Nat, k ≤ s.size ∧ i = .int .i64 k ∧ Hid (plainL (s.data.toList.take k) = true)) (fun i => s.size - (intOf i).toNat)
  case atStart => exact ⟨0, Nat.zero_le _, rfl, rfl⟩
  case round =>
    obtain ⟨k, hk, rfl, hc⟩ := hrel
    by_cases hp : k < s.size
    · have HT := Lib.hid (take_snoc s k hp)
      by_cases hr : 128 ≤ (s[k]'hp).toNat
      · have HD := Lib.hid (show s.data.toList = s.data.toList.take k ++ s[k] :: s.data.toList.drop (k + 1) from by
          rw [← List.singleton_append, ← List.append_assoc, ← take_snoc s k hp, List.take_append_drop])
        go_wp2
        go_ret
        exact ⟨ret_bool (by rw [HD.out, plain_append]; simp [plainL]; omega), rfl⟩
      · go_wp2
        go_round
        case rel => exact ⟨k + 1, by omega, by go_num, by
                      show plainL _ = true
                      rw [HT.out, plain_append, hc.out]; simp [plainL]; omega⟩
        case measure => simp [intOf]; omega
    · go_wp2
      go_ret
      have h := hc.out
      rw [List.take_of_length_le (by rw [size_len]; omega)] at h
      exact ⟨ret_bool (by rw [h]), rfl⟩

def u8s (l : List UInt8) : List Value := l.map fun b => Value.int .u8 b.toNat

/-- 'string(b)' of a slice that the call owns. -/
theorem run_convert_owned {P : Program} {w : World} {base : Nat} {e : TypeId} {v : Value} {l : List UInt8} (src dst : TypeId) (hs : P.underlying src = some (.slice e)) (he : P.underlying e = some (.int .u8)) (hd : P.underlying dst = some .string)
    (h : w.ownsRow base e 1 v l.length (u8s l)) : (convert src dst v).run P w = .ok (.string ⟨l.toArray⟩) w := by
  rcases h.2 with ⟨rfl, h0⟩ | ⟨g, cap, cur, rfl, r⟩
  · have : l = [] := List.length_eq_zero_iff.1 h0
    subst this
    rw [run_convert_bytes_string w src dst e none _ _ hs he hd]
    simp [Conv.bytesToString]
    rfl
  · refine run_convert_bytes_back w src dst e ⟨g, 0, none⟩ cap l hs he hd fun j hj => ?_
    exact h.cells (g := g) rfl j _ (by simp [u8s, hj])

/-- A character as a byte. -/
theorem byteOf_yes (r : Nat) (w : World) (h : r ≤ 255) : Calls Try.prog 18 #[.int .i32 r] w fun e w' => e = .returned (.iface 5 (.int .u8 r)) ∧ w = w' := by
  go_enter Try.func18, Try.ntmps18
  go_wp2
  go_ret
  exact ⟨rfl, rfl⟩
theorem byteOf_no (r : Nat) (w : World) (h : ¬ r ≤ 255) : Calls Try.prog 18 #[.int .i32 r] w fun e w' => e = .returned .nilIface ∧ w = w' := by
  have h' : (255 : Int) < (r : Int) := by omega
  go_enter Try.func18, Try.ntmps18
  go_wp2
  go_ret
  exact ⟨rfl, rfl⟩

theorem Try.info5 : (Try.prog.info? 5).map (fun i => (i.zero, i.size, i.bytes)) = some (some (.int .u8 0), 1, 1) := by kernel_rfl

end Go.Proofs.Ytljnbpecmjoafaa
