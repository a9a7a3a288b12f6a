/- What layer 2's functions answer of short texts, and what is shown behind them. -/
import Derived.Test.YtnfefjjpifokpaaWalksG
namespace Go.Proofs.Ytnfefjjpifokpaa
open Go.RowKit

theorem read_small_no {l : List UInt8} {m : Int} (hp : plainD l = false) : readN l m = 0 ∧ readOK l m = false := by
  have h : readOK l m = false := by unfold readOK; rw [hp]; rfl
  exact ⟨readN_no h, h⟩
theorem val_small {s : ByteArray} {v : Nat} (hp : plainD s.data.toList = true) (h : s.size ≤ 15) (hv : v = val s.data.toList) : v < 1000000000000000 := by
  have h1 := plain_lt hp
  rw [size_len] at h1
  have h2 : 10 ^ s.size ≤ 10 ^ 15 := Nat.pow_le_pow_right (by omega) h
  have h3 : (10 : Nat) ^ 15 = 1000000000000000 := by decide
  omega
theorem read_small {s : ByteArray} {v : Nat} (hp : plainD s.data.toList = true) (h : s.size ≤ 15) (hv : v = val s.data.toList) : readN s.data.toList 4611686018427387904 = (v : Int) ∧ readOK s.data.toList 4611686018427387904 = true := by
  have h1 := val_small hp h hv
  have h2 : readOK s.data.toList 4611686018427387904 = true := by unfold readOK; rw [hp, decide_eq_true (by omega)]; rfl
  exact ⟨by rw [(readN_yes h2).1, hv], h2⟩
theorem sh_dig {d : Nat} (h : d < 10) : (shB d).data.toList = [dig d] := by
  rw [sh_list, showL_nonneg (by omega)]
  exact digs_one h
theorem sh_one {d : Nat} (h : d < 10) : (shB d).size = 1 := by rw [← size_len, sh_dig h]; rfl
theorem read_small2 {s : ByteArray} {v d : Nat} (hp : plainD s.data.toList = true) (h : s.size ≤ 15) (hv : v = val s.data.toList) (hd : d < 10) :
    readN (s ++ shB d).data.toList 4611686018427387904 = 10 * (v : Int) + (d : Int) ∧ readOK (s ++ shB d).data.toList 4611686018427387904 = true := by
  have h1 := val_small hp h hv
  have hl : (s ++ shB d).data.toList = s.data.toList ++ [dig d] := by rw [app_list, sh_dig hd]
  have hp2 := plain_snoc hp (isD_dig hd)
  have hv2 : val (s.data.toList ++ [dig d]) = 10 * v + d := by rw [val_snoc, valD_dig hd, hv]
  have h2 : readOK (s ++ shB d).data.toList 4611686018427387904 = true := by rw [hl]; unfold readOK; rw [hp2, hv2, decide_eq_true (by omega)]; rfl
  exact ⟨by rw [(readN_yes h2).1, hl, hv2]; omega, h2⟩
theorem ext_from (s : ByteArray) (k : Nat) : (s.extract k s.size).data.toList = s.data.toList.drop k := by
  rw [ByteArray.data_extract, Array.toList_extract]
  show (s.data.toList.drop k).take (s.size - k) = _
  apply List.take_of_length_le
  rw [List.length_drop, size_len]; omega
theorem tail_is {s : ByteArray} {v k : Nat} (hp : plainD s.data.toList = true) (hv : v = val s.data.toList) (hk : k = s.size - (shB v).size) : (shB v).size ≤ s.size ∧ s.extract k s.size = shB v := by
  have hl : (shB v).data.toList = strip s.data.toList := by
    rw [sh_list, showL_nonneg (by omega)]
    show digs v = _
    rw [hv]; exact digs_val hp
  have hp' := hp
  unfold plainD at hp'
  rw [Bool.and_eq_true] at hp'
  obtain ⟨_, _, _, _, h5, h6⟩ := strip_facts s.data.toList hp'.1 (by intro e; rw [e] at hp'; simp at hp')
  have hs : (shB v).size = (strip s.data.toList).length := by rw [← size_len, hl]
  rw [size_len] at h5 h6
  refine ⟨by omega, ext_list ?_⟩
  rw [ext_from, hl, hk, hs]
  exact h6.symm
theorem back_val {n : Int} (h : 0 ≤ n) : ∀ (j : Nat) (t : ByteArray), t.data.toList = List.replicate j 48 ++ showL n → (val t.data.toList : Int) = n ∧ plainD t.data.toList = true := by
  intro j t ht
  rw [ht, showL_nonneg h]
  exact ⟨by rw [val_zeros, val_digs]; omega, plain_zeros _ _ (plain_digs _)⟩
end Go.Proofs.Ytnfefjjpifokpaa
