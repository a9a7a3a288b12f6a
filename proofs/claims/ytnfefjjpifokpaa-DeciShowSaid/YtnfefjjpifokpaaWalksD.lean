/- The walk of layer 2's showing of numbers as the document has it: for every number. -/
import Derived.Test.YtnfefjjpifokpaaWalksC
namespace Go.Proofs.Ytnfefjjpifokpaa
open Go.RowKit

/-- Where the document's showing stands: the digits made so far, and what is left of the number. -/
def RefSt (n : Int) (t : ByteArray) (m : Int) : Prop :=
  (digR n.natAbs = t.data.toList.reverse ++ digR m.natAbs ∧ (m = 0 → t.size = 0)) ∨ (m = 0 ∧ digR n.natAbs = t.data.toList.reverse)

theorem ref_size {n : Int} {t : ByteArray} {m : Int} (h : RefSt n t m) (h1 : -9223372036854775808 ≤ n) (h2 : n ≤ 9223372036854775807) : t.size ≤ 19 := by
  have hl := digs_len_19 (n := n.natAbs) (by omega)
  rw [← digR_len] at hl
  rcases h with ⟨h, _⟩ | ⟨_, h⟩
  · rw [h, List.length_append, List.length_reverse, size_len] at hl; omega
  · rw [h, List.length_reverse, size_len] at hl; omega

theorem one_list (c : UInt8) : (⟨#[c]⟩ : ByteArray).data.toList = [c] := rfl
theorem empty_iff (s : ByteArray) : s.toList.isEmpty = true ↔ s.size = 0 := by
  rw [toList_data, List.isEmpty_iff, ← size_len, List.length_eq_zero_iff]
theorem empty_no {s : ByteArray} (h : s.size ≠ 0) : s.toList.isEmpty = false := by
  cases e : s.toList.isEmpty with
  | false => rfl
  | true => exact absurd ((empty_iff s).1 e) h

theorem ret_str {t : ByteArray} {l : List UInt8} (h : t.data.toList = l) : Ending.returned (.string t) = .returned (.string ⟨l.toArray⟩) := by rw [← h, mk_list]

def szOf : Value → Nat | .string t => t.size | _ => 0

theorem conv_dig (d : Nat) (hd : d < 10) (w1 : World) : (convert 33 9 (.slice (some ⟨w1.heap.size, 0, none⟩) 1 1)).run Try.prog (w1.alloc (.cells #[.int .u8 (48 + (d : Int))] 5)) = .ok (.string ⟨#[dig d]⟩) (w1.alloc (.cells #[.int .u8 (48 + (d : Int))] 5)) := by
  have e : ((dig d).toNat : Int) = 48 + (d : Int) := by rw [dig_toNat hd]; rfl
  exact run_convert_bytes_back (P := Try.prog) _ 33 9 5 ⟨w1.heap.size, 0, none⟩ 1 [dig d] Try.underlying33 Try.underlying5 Try.underlying9 (fun j hj => by
    match j, hj with
    | 0, _ => simp [Addr.add, e])

theorem ref_step {n : Int} {t : ByteArray} {m : Int} {d : Nat} (h : digR n.natAbs = t.data.toList.reverse ++ digR m.natAbs) (hd : d = m.natAbs % 10) : RefSt n (⟨#[dig d]⟩ ++ t) (m.tdiv 10) := by
  have e : (⟨#[dig d]⟩ ++ t : ByteArray).data.toList.reverse = t.data.toList.reverse ++ [dig d] := by rw [app_list, one_list]; simp
  subst hd
  by_cases hz : m.tdiv 10 = 0
  · right; exact ⟨hz, by rw [e]; exact digR_last h hz⟩
  · left; exact ⟨by rw [e]; exact digR_more h hz, fun e => absurd e hz⟩

set_option maxRecDepth 100000 in
set_option maxHeartbeats 400000 in
theorem refshow_any (n : Int) (w : World) (h1 : -9223372036854775808 ≤ n) (h2 : n ≤ 9223372036854775807) :
    Calls Try.prog 14 #[.int .i64 n] w fun e w' => e = .returned (.string ⟨(showL n).toArray⟩) ∧ Below w.heap.size w w' := by
  go_enter Try.func14, Try.ntmps14
  go_wp2
  go_loopw [3, 4] (fun s m' wr => ∃ (t : ByteArray) (m : Int), s = .string t ∧ m' = .int .i64 m ∧ -9223372036854775808 ≤ m ∧ m ≤ 9223372036854775807 ∧ Hid (RefSt n t m) ∧ Below w.heap.size w wr) (fun s m' _ => 2 * (intOf m').natAbs + (1 - szOf s))
  case atStart => exact ⟨⟨#[]⟩, n, rfl, rfl, h1, h2, Or.inl ⟨rfl, fun _ => rfl⟩, Below.refl _ _⟩
  case round =>
    obtain ⟨t, m, rfl, rfl, hm1, hm2, HS, HB⟩ := hrel
    have hts := ref_size HS.out h1 h2
    have htd := tdiv_abs m
    obtain ⟨d, hd0⟩ : ∃ d, d = m.natAbs % 10 := ⟨_, rfl⟩
    have hd9 : d < 10 := by omega
    have ht := tmod_abs m
    rw [← hd0] at ht
    have HD := Lib.hid hd0
    clear hd0
    have hcv := conv_dig d hd9
    have hone : (⟨#[dig d]⟩ : ByteArray).size = 1 := rfl
    have hbsz := HB.size
    by_cases hz : m = 0
    · by_cases hts0 : t.size = 0
      · have he : t.toList.isEmpty = true := (empty_iff t).2 hts0
        have HL : Hid (RefSt n (⟨#[dig d]⟩ ++ t) (m.tdiv 10)) := by
          have hd0 := HD.out
          rcases HS.out with ⟨h, _⟩ | ⟨_, h⟩
          · exact ref_step h hd0
          · have := digR_pos n.natAbs
            rw [h, List.length_reverse, size_len] at this; omega
        have htd0 : m.tdiv 10 = 0 := by subst hz; rfl
        rw [htd0] at HL
        have hd0 : d = 0 := by have := HD.out; omega
        subst hz
        subst hd0
        have hsz0 := Lib.hid hts0
        clear htd hts0 ht HD htd0
        have hcv' : ∀ w1 : World, (convert 33 9 (.slice (some ⟨w1.heap.size, 0, none⟩) 1 1)).run Try.prog (w1.alloc (.cells #[.int .u8 48] 5)) = .ok (.string ⟨#[dig 0]⟩) (w1.alloc (.cells #[.int .u8 48] 5)) := fun w1 => hcv w1
        clear hcv
        go_wp2
        go_roundw
        case rel => exact ⟨_, _, rfl, rfl, by omega, by omega, HL, HB.alloc hbsz _⟩
        case measure => have := hsz0.out; simp only [szOf, intOf]; rw [app_size]; show _ < _; omega
      · have he : t.toList.isEmpty = false := empty_no hts0
        have HT : Hid (digR n.natAbs = t.data.toList.reverse) := by
          rcases HS.out with ⟨_, h⟩ | ⟨_, h⟩
          · exact absurd (h hz) hts0
          · exact h
        subst hz
        clear htd ht HD hcv
        have hmin : (⟨#[45]⟩ : ByteArray).size = 1 := rfl
        by_cases hneg : n < 0
        · go_wp2
          go_ret
          exact ⟨ret_str (by rw [showL_neg hneg, app_list, one_list]; unfold digs; rw [HT.out]; simp), HB⟩
        · go_wp2
          go_ret
          exact ⟨ret_str (by unfold showL; rw [if_neg (by omega)]; unfold digs; rw [HT.out]; simp), HB⟩
    · have hmz : (m == 0) = false := by simpa using hz
      have hl : digR n.natAbs = t.data.toList.reverse ++ digR m.natAbs := by
        rcases HS.out with ⟨h, _⟩ | ⟨h, _⟩
        · exact h
        · exact absurd h hz
      have HL := Lib.hid (ref_step hl HD.out)
      clear hl
      rcases ht with ht | ht
      · have hneg : ¬ m.tmod 10 < 0 := by omega
        go_wp2
        go_roundw
        case rel => exact ⟨_, _, rfl, rfl, by omega, by omega, HL, HB.alloc hbsz _⟩
        case measure => simp only [szOf, intOf]; rw [app_size, hone]; omega
      · by_cases hneg : m.tmod 10 < 0
        · go_wp2
          go_roundw
          case rel => exact ⟨_, _, rfl, rfl, by omega, by omega, HL, HB.alloc hbsz _⟩
          case measure => simp only [szOf, intOf]; rw [app_size, hone]; omega
        · have hd0 : d = 0 := by omega
          subst hd0
          have hcv' : ∀ w1 : World, (convert 33 9 (.slice (some ⟨w1.heap.size, 0, none⟩) 1 1)).run Try.prog (w1.alloc (.cells #[.int .u8 48] 5)) = .ok (.string ⟨#[dig 0]⟩) (w1.alloc (.cells #[.int .u8 48] 5)) := fun w1 => hcv w1
          clear hcv
          go_wp2
          go_roundw
          case rel => exact ⟨_, _, rfl, rfl, by omega, by omega, HL, HB.alloc hbsz _⟩
          case measure => simp only [szOf, intOf]; rw [app_size, hone]; omega
end Go.Proofs.Ytnfefjjpifokpaa
