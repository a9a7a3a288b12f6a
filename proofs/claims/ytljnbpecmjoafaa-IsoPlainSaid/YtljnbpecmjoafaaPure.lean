/- The plain law of layer 4: bytes made wide to characters and characters made narrow to bytes, over lists of bytes, with the model's own decoding of UTF-8; no program in sight. No condition. -/
import Derived.Lib.DecodeN
namespace Go.Proofs.Ytljnbpecmjoafaa

/-- The bytes of the character of a byte's number. -/
def encB (b : UInt8) : List UInt8 := if b.toNat < 128 then [b] else [UInt8.ofNat (192 + b.toNat / 64), UInt8.ofNat (128 + b.toNat % 64)]

def wideL : List UInt8 → List UInt8
  | [] => []
  | b :: l => encB b ++ wideL l

/-- The first character of a text, and its width. -/
def decL (l : List UInt8) : Nat × Nat := Lib.decodeN l.length (l.getD 0 0).toNat (l.getD 1 0).toNat (l.getD 2 0).toNat (l.getD 3 0).toNat

theorem decL_width (l : List UInt8) : 1 ≤ (decL l).2 := by
  unfold decL Lib.decodeN
  repeat' split
  all_goals (dsimp only; omega)

theorem decL_ge (l : List UInt8) (h : 1 ≤ l.length) : (decL l).2 ≤ l.length := by
  unfold decL Lib.decodeN
  repeat' split
  all_goals (dsimp only; omega)

theorem decL_le (l : List UInt8) : (decL l).1 ≤ 1114111 := by
  have h0 := (l.getD 0 0).toNat_lt
  unfold decL Lib.decodeN
  repeat' split
  all_goals (dsimp only; omega)

theorem decL_lo (c : UInt8) (t : List UInt8) (h : c.toNat < 128) : decL (c :: t) = (c.toNat, 1) := by
  unfold decL Lib.decodeN
  simp [h]

theorem decL_hi (c : UInt8) (t : List UInt8) (h : ¬ c.toNat < 128) : 128 ≤ (decL (c :: t)).1 := by
  unfold decL Lib.decodeN
  simp only [List.getD_cons_zero]
  repeat' split
  all_goals (dsimp only; omega)

theorem decL_encB (b : UInt8) (r : List UInt8) : decL (encB b ++ r) = (b.toNat, (encB b).length) := by
  have h0 := b.toNat_lt
  unfold encB
  split
  · rename_i h; exact decL_lo b r h
  · rename_i h
    have e0 : (UInt8.ofNat (192 + b.toNat / 64)).toNat = 192 + b.toNat / 64 := by simp; omega
    have e1 : (UInt8.ofNat (128 + b.toNat % 64)).toNat = 128 + b.toNat % 64 := by simp; omega
    unfold decL Lib.decodeN
    simp only [List.cons_append, List.nil_append, List.getD_cons_zero, List.getD_cons_succ, List.length_cons]
    rw [e0, e1, if_neg (by omega), if_pos ⟨by omega, by omega, by omega⟩, if_pos (by omega)]
    apply Prod.ext
    · simp only; omega
    · rfl

theorem decL_byte (l : List UInt8) (hl : l ≠ []) (h : (decL l).1 ≤ 255) : l = encB (UInt8.ofNat (decL l).1) ++ l.drop (decL l).2 := by
  match l, hl with
  | c :: t, _ =>
    by_cases hc : c.toNat < 128
    · rw [decL_lo c t hc]
      have : (UInt8.ofNat c.toNat) = c := by simp
      simp only [this]
      unfold encB
      simp [hc]
    · revert h
      have h0 := c.toNat_lt
      unfold decL Lib.decodeN
      simp only [List.getD_cons_zero]
      rw [if_neg hc]
      split
      · rename_i h2
        obtain ⟨h2, h3, h4⟩ := h2
        match t with
        | [] => simp at h3
        | d :: u =>
          simp only [List.getD_cons_succ, List.getD_cons_zero] at h4 ⊢
          have h5 := d.toNat_lt
          split
          · rename_i h6
            intro h7
            simp only at h7
            have e0 : (UInt8.ofNat (c.toNat % 32 * 64 + d.toNat % 64)).toNat = c.toNat % 32 * 64 + d.toNat % 64 := by simp; omega
            unfold encB
            rw [e0, if_neg (by omega)]
            have ec : UInt8.ofNat (192 + (c.toNat % 32 * 64 + d.toNat % 64) / 64) = c := by
              apply UInt8.toNat_inj.1; simp; omega
            have ed : UInt8.ofNat (128 + (c.toNat % 32 * 64 + d.toNat % 64) % 64) = d := by
              apply UInt8.toNat_inj.1; simp; omega
            rw [ec, ed]
            simp
          · intro h7; simp at h7
      · split
        · split <;> (intro h7; dsimp only at h7; omega)
        · split
          · split <;> (intro h7; dsimp only at h7; omega)
          · intro h7; simp at h7

/-- The characters of a text. -/
def rn (l : List UInt8) : List Nat :=
  match l with
  | [] => []
  | c :: t => (decL (c :: t)).1 :: rn ((c :: t).drop (decL (c :: t)).2)
termination_by l.length
decreasing_by
  have := decL_width (c :: t)
  simp only [List.length_drop, List.length_cons]
  omega

theorem rn_nil : rn [] = [] := by rw [rn]
theorem rn_cons (l : List UInt8) (h : l ≠ []) : rn l = (decL l).1 :: rn (l.drop (decL l).2) := by
  match l, h with
  | c :: t, _ => rw [rn]

theorem drop_lt (l : List UInt8) (h : l ≠ []) : (l.drop (decL l).2).length < l.length := by
  have := decL_width l
  have : 0 < l.length := List.length_pos_iff.2 h
  simp only [List.length_drop]; omega

theorem rn_wideL : ∀ l : List UInt8, rn (wideL l) = l.map UInt8.toNat
  | [] => by rw [wideL, rn_nil]; rfl
  | b :: l => by
    have hne : encB b ++ wideL l ≠ [] := by unfold encB; split <;> simp
    rw [wideL, rn_cons _ hne, decL_encB]
    simp only [List.drop_left, List.map_cons]
    rw [rn_wideL l]

theorem wideL_inj {x y : List UInt8} (h : wideL x = wideL y) : x = y := by
  have : x.map UInt8.toNat = y.map UInt8.toNat := by rw [← rn_wideL, ← rn_wideL, h]
  exact (List.map_inj_right (fun a b e => UInt8.toNat_inj.1 e)).1 this

theorem wideL_append : ∀ x y : List UInt8, wideL (x ++ y) = wideL x ++ wideL y
  | [], y => rfl
  | b :: x, y => by simp [wideL, wideL_append x y]

/-- All characters are those of bytes. -/
def fits (l : List UInt8) : Bool := (rn l).all fun r => decide (r ≤ 255)
def nar (l : List UInt8) : List UInt8 := (rn l).map UInt8.ofNat
def plainL (l : List UInt8) : Bool := l.all fun b => decide (b.toNat < 128)

theorem nar_wide (l : List UInt8) : nar (wideL l) = l := by
  unfold nar; rw [rn_wideL, List.map_map]
  conv => rhs; rw [← List.map_id l]
  apply List.map_congr_left
  intro a _; simp
theorem fits_wide (l : List UInt8) : fits (wideL l) = true := by
  unfold fits; rw [rn_wideL]; simp only [List.all_map, List.all_eq_true]
  intro a _; have := a.toNat_lt; simp; omega

theorem wide_nar (n : Nat) : ∀ l : List UInt8, l.length ≤ n → fits l = true → wideL (nar l) = l := by
  induction n with
  | zero => intro l h _; match l with | [] => unfold nar; rw [rn_nil]; rfl
  | succ n ih =>
    intro l h hf
    by_cases hl : l = []
    · subst hl; unfold nar; rw [rn_nil]; rfl
    · have hd := drop_lt l hl
      unfold fits at hf
      rw [rn_cons l hl, List.all_cons, Bool.and_eq_true] at hf
      have h1 : (decL l).1 ≤ 255 := of_decide_eq_true hf.1
      have ih' := ih (l.drop (decL l).2) (by omega) hf.2
      unfold nar at ih' ⊢
      rw [rn_cons l hl, List.map_cons, wideL, ih']
      exact (decL_byte l hl h1).symm

theorem wide_of_fits {l : List UInt8} (h : fits l = true) : wideL (nar l) = l := wide_nar l.length l (Nat.le_refl _) h

theorem len_nar (l : List UInt8) : (nar l).length = (rn l).length := by unfold nar; simp

theorem rn_length (n : Nat) : ∀ l : List UInt8, l.length ≤ n → (rn l).length ≤ l.length := by
  induction n with
  | zero => intro l h; match l with | [] => rw [rn_nil]; exact Nat.le_refl _
  | succ n ih =>
    intro l h
    by_cases hl : l = []
    · subst hl; rw [rn_nil]; exact Nat.le_refl _
    · have hd := drop_lt l hl
      have := ih (l.drop (decL l).2) (by omega)
      rw [rn_cons l hl, List.length_cons]; omega
theorem rn_le (l : List UInt8) : (rn l).length ≤ l.length := rn_length l.length l (Nat.le_refl _)
theorem rn_zero (l : List UInt8) : (rn l).length = 0 ↔ l = [] := by
  constructor
  · intro h
    by_cases hl : l = []
    · exact hl
    · rw [rn_cons l hl] at h; simp at h
  · intro h; subst h; rw [rn_nil]; rfl

theorem rn_plain_append : ∀ (l r : List UInt8), plainL l = true → rn (l ++ r) = l.map UInt8.toNat ++ rn r
  | [], r, _ => rfl
  | c :: t, r, h => by
    unfold plainL at h
    rw [List.all_cons, Bool.and_eq_true] at h
    have hc : c.toNat < 128 := of_decide_eq_true h.1
    rw [List.cons_append, rn_cons _ (by simp), decL_lo c _ hc]
    simp only [List.drop_succ_cons, List.drop_zero, List.map_cons, List.cons_append]
    rw [rn_plain_append t r h.2]
theorem rn_plain (l : List UInt8) (h : plainL l = true) : rn l = l.map UInt8.toNat := by
  have := rn_plain_append l [] h
  rw [List.append_nil, rn_nil, List.append_nil] at this
  exact this

theorem rn_lo (n : Nat) : ∀ l : List UInt8, l.length ≤ n → ((rn l).all fun r => decide (r < 128)) = plainL l := by
  induction n with
  | zero => intro l h; match l with | [] => rw [rn_nil]; rfl
  | succ n ih =>
    intro l h
    match l with
    | [] => rw [rn_nil]; rfl
    | c :: t =>
      by_cases hc : c.toNat < 128
      · rw [rn_cons _ (by simp), decL_lo c t hc]
        simp only [List.drop_succ_cons, List.drop_zero, List.all_cons]
        rw [ih t (by simpa using h)]
        unfold plainL
        rw [List.all_cons]
      · rw [rn_cons _ (by simp)]
        have := decL_hi c t hc
        unfold plainL
        rw [List.all_cons, List.all_cons, decide_eq_false (by omega), decide_eq_false hc]
        rfl
theorem plain_rn (l : List UInt8) : ((rn l).all fun r => decide (r < 128)) = plainL l := rn_lo l.length l (Nat.le_refl _)

theorem plain_append (x y : List UInt8) : plainL (x ++ y) = (plainL x && plainL y) := by unfold plainL; rw [List.all_append]

theorem wide_plain : ∀ l : List UInt8, plainL l = true → wideL l = l
  | [], _ => rfl
  | c :: t, h => by
    unfold plainL at h
    rw [List.all_cons, Bool.and_eq_true] at h
    have hc : c.toNat < 128 := of_decide_eq_true h.1
    rw [wideL, wide_plain t h.2]; unfold encB; rw [if_pos hc]; rfl

theorem wide_len : ∀ l : List UInt8, l.length ≤ (wideL l).length ∧ (wideL l).length ≤ 2 * l.length ∧ (plainL l = false → l.length < (wideL l).length)
  | [] => by simp [wideL, plainL]
  | c :: t => by
    obtain ⟨h1, h2, h3⟩ := wide_len t
    unfold plainL at h3 ⊢
    rw [wideL, List.length_append, List.length_cons, List.all_cons]
    unfold encB
    by_cases hc : c.toNat < 128
    · rw [if_pos hc, decide_eq_true hc]; simp only [List.length_cons, List.length_nil, Bool.true_and]
      refine ⟨by omega, by omega, fun h => ?_⟩
      have := h3 h; omega
    · rw [if_neg hc]; simp only [List.length_cons, List.length_nil]
      exact ⟨by omega, by omega, fun _ => by omega⟩

theorem wide_self (l : List UInt8) : (wideL l = l) ↔ plainL l = true := by
  constructor
  · intro h
    cases hp : plainL l with
    | true => rfl
    | false =>
      have := (wide_len l).2.2 hp
      rw [h] at this; omega
  · exact wide_plain l

theorem plain_encB (b : UInt8) : plainL (encB b) = decide (b.toNat < 128) := by
  have h0 := b.toNat_lt
  unfold encB
  by_cases hc : b.toNat < 128
  · rw [if_pos hc]; simp [plainL, hc]
  · rw [if_neg hc]
    have e0 : (UInt8.ofNat (192 + b.toNat / 64)).toNat = 192 + b.toNat / 64 := by simp; omega
    unfold plainL
    rw [List.all_cons, e0, decide_eq_false (by omega), decide_eq_false hc]; rfl
theorem plain_wide : ∀ l : List UInt8, plainL (wideL l) = plainL l
  | [] => rfl
  | c :: t => by
    rw [wideL, plain_append, plain_wide t, plain_encB]
    unfold plainL; rw [List.all_cons]

theorem nar_plain (l : List UInt8) (h : plainL l = true) : fits l = true ∧ nar l = l ∧ (rn l).length = l.length := by
  have hw := wide_plain l h
  refine ⟨?_, ?_, ?_⟩
  · have := fits_wide l; rwa [hw] at this
  · have := nar_wide l; rwa [hw] at this
  · rw [rn_plain l h]; simp

theorem nar_append {a b : List UInt8} (ha : fits a = true) (hb : fits b = true) : fits (a ++ b) = true ∧ nar (a ++ b) = nar a ++ nar b := by
  have e : a ++ b = wideL (nar a ++ nar b) := by rw [wideL_append, wide_of_fits ha, wide_of_fits hb]
  rw [e]
  exact ⟨fits_wide _, nar_wide _⟩

end Go.Proofs.Ytljnbpecmjoafaa
