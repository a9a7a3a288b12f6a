/- The plain laws of layer 3's sets, and of a text's end. -/
import Derived.Test.YtnfnbobioclniaaWalksJ
namespace Go.Proofs.Ytnfnbobioclniaa
open Go.RowKit

def plainC (c : UInt8) : Bool := (decide (97 ≤ c.toNat) && decide (c.toNat ≤ 122)) || (decide (65 ≤ c.toNat) && decide (c.toNat ≤ 90)) || (decide (48 ≤ c.toNat) && decide (c.toNat ≤ 57)) || c == 37 || c == 45 || c == 46 || c == 95
theorem all_bytes (p : UInt8 → Bool) (h : ∀ n : Fin 256, p (UInt8.ofNat n.val) = true) (c : UInt8) : p c = true := by
  have := h ⟨c.toNat, c.toNat_lt⟩
  simpa using this
theorem chain_all : ∀ n : Fin 256, ((!inS 0 (UInt8.ofNat n.val) || (inS 1 (UInt8.ofNat n.val) && inS 2 (UInt8.ofNat n.val))) && (!inS 2 (UInt8.ofNat n.val) || inS 3 (UInt8.ofNat n.val)) && (!inS 3 (UInt8.ofNat n.val) || inS 4 (UInt8.ofNat n.val)) && (!plainC (UInt8.ofNat n.val) || (!inS 4 (UInt8.ofNat n.val) && !inS 1 (UInt8.ofNat n.val)))) = true := by decide +kernel
theorem chain_c (c : UInt8) : ((!inS 0 c || (inS 1 c && inS 2 c)) && (!inS 2 c || inS 3 c) && (!inS 3 c || inS 4 c) && (!plainC c || (!inS 4 c && !inS 1 c))) = true :=
  all_bytes (fun c => ((!inS 0 c || (inS 1 c && inS 2 c)) && (!inS 2 c || inS 3 c) && (!inS 3 c || inS 4 c) && (!plainC c || (!inS 4 c && !inS 1 c)))) chain_all c
theorem inS_chain (c : UInt8) : (inS 0 c = true → inS 1 c = true ∧ inS 2 c = true) ∧ (inS 2 c = true → inS 3 c = true) ∧ (inS 3 c = true → inS 4 c = true) ∧ (plainC c = true → inS 4 c = false) := by
  have h := chain_c c
  revert h
  cases inS 0 c <;> cases inS 1 c <;> cases inS 2 c <;> cases inS 3 c <;> cases inS 4 c <;> cases plainC c <;> simp
theorem plain_1 (c : UInt8) (hp : plainC c = true) : inS 1 c = false := by
  have h := chain_c c
  revert h hp
  cases inS 0 c <;> cases inS 1 c <;> cases inS 2 c <;> cases inS 3 c <;> cases inS 4 c <;> cases plainC c <;> simp
theorem plainC_yes (c : UInt8) (h : plainC c = true) : (97 ≤ c.toNat ∧ c.toNat ≤ 122) ∨ (65 ≤ c.toNat ∧ c.toNat ≤ 90) ∨ (48 ≤ c.toNat ∧ c.toNat ≤ 57) ∨ c = 37 ∨ c = 45 ∨ c = 46 ∨ c = 95 := by
  unfold plainC at h
  simp only [Bool.or_eq_true, Bool.and_eq_true, decide_eq_true_eq, beq_iff_eq] at h
  rcases h with (((((h | h) | h) | h) | h) | h) | h
  · exact Or.inl h
  · exact Or.inr (Or.inl h)
  · exact Or.inr (Or.inr (Or.inl h))
  · exact Or.inr (Or.inr (Or.inr (Or.inl h)))
  · exact Or.inr (Or.inr (Or.inr (Or.inr (Or.inl h))))
  · exact Or.inr (Or.inr (Or.inr (Or.inr (Or.inr (Or.inl h)))))
  · exact Or.inr (Or.inr (Or.inr (Or.inr (Or.inr (Or.inr h)))))
theorem byte_ne' {c k : UInt8} (h : c ≠ k) : ((c.toNat : Int) == (k.toNat : Int)) = false := by
  rw [beq_eq_false_iff_ne]; intro e; exact h (UInt8.toNat_inj.1 (by omega))
theorem byte_ne {c : UInt8} (h : c ≠ 37) : ((c.toNat : Int) == 37) = false := byte_ne' (k := 37) h
theorem nat_ne {c k : UInt8} (h : c ≠ k) : c.toNat ≠ k.toNat := fun e => h (UInt8.toNat_inj.1 e)
theorem plainC_no (c : UInt8) (h : plainC c = false) : ((c.toNat : Int) == 37) = false ∧ ((c.toNat : Int) == 45) = false ∧ ((c.toNat : Int) == 46) = false ∧ ((c.toNat : Int) == 95) = false ∧
    (c.toNat ≤ 36 ∨ (38 ≤ c.toNat ∧ c.toNat ≤ 44) ∨ (47 ≤ c.toNat ∧ c.toNat ≤ 47) ∨ (58 ≤ c.toNat ∧ c.toNat ≤ 64) ∨ (91 ≤ c.toNat ∧ c.toNat ≤ 94) ∨ (96 ≤ c.toNat ∧ c.toNat ≤ 96) ∨ 123 ≤ c.toNat) := by
  unfold plainC at h
  simp only [Bool.or_eq_false_iff, Bool.and_eq_false_iff, decide_eq_false_iff_not, beq_eq_false_iff_ne, ne_eq] at h
  obtain ⟨⟨⟨⟨⟨⟨h1, h2⟩, h3⟩, h4⟩, h5⟩, h6⟩, h7⟩ := h
  have g4 : c.toNat ≠ 37 := nat_ne (k := 37) h4
  have g5 : c.toNat ≠ 45 := nat_ne (k := 45) h5
  have g6 : c.toNat ≠ 46 := nat_ne (k := 46) h6
  have g7 : c.toNat ≠ 95 := nat_ne (k := 95) h7
  exact ⟨byte_ne' (k := 37) h4, byte_ne' (k := 45) h5, byte_ne' (k := 46) h6, byte_ne' (k := 95) h7, by omega⟩

theorem ends_get : ∀ (n : Nat) (l : List UInt8), l.length ≤ n → (0 < l.length → l.getD (l.length - 1) 0 ≠ 37) → (1 < l.length → l.getD (l.length - 2) 0 ≠ 37) → endsL l = false := by
  intro n
  induction n with
  | zero => intro l h _ _; have e : l = [] := List.eq_nil_of_length_eq_zero (by omega); subst e; rfl
  | succ n ih =>
    intro l h h1 h2
    match l, h, h1, h2 with
    | [], _, _, _ => rfl
    | [a], _, h1, _ => rw [endsL]; simpa using h1
    | [a, b], _, h1, h2 =>
      rw [endsL]
      have e1 : b ≠ 37 := by simpa using h1
      have e2 : a ≠ 37 := by simpa using h2
      simp [e1, e2]
    | x :: b :: c :: l, h, h1, h2 =>
      rw [endsL]
      refine ih (b :: c :: l) (by simp at h ⊢; omega) (fun _ => ?_) (fun _ => ?_)
      · have := h1 (by simp)
        simpa using this
      · have := h2 (by simp)
        show (b :: c :: l).getD l.length 0 ≠ 37
        exact this
theorem getD_at (s : ByteArray) (k : Nat) (h : k < s.size) : s.data.toList.getD k 0 = s[k] := by
  have h' : k < s.data.size := h
  rw [List.getD, Array.getElem?_toList, Array.getElem?_eq_getElem h']; rfl
theorem ends_no (s : ByteArray) (h1 : (h : 0 < s.size) → (s[s.size - 1]'(by omega)) ≠ 37) (h2 : (h : 1 < s.size) → (s[s.size - 2]'(by omega)) ≠ 37) : endsL s.data.toList = false := by
  refine ends_get _ _ (Nat.le_refl _) (fun h => ?_) (fun h => ?_)
  · rw [size_len] at h ⊢
    rw [getD_at s _ (by omega)]; exact h1 h
  · rw [size_len] at h ⊢
    rw [getD_at s _ (by omega)]; exact h2 h
theorem dec_app_str (s t : ByteArray) (h : endsL s.data.toList = false) : decL (s ++ t).data.toList = decL s.data.toList ++ decL t.data.toList := by
  rw [app_list, dec_app _ _ h]
end Go.Proofs.Ytnfnbobioclniaa
