/- The plain laws of layer 3's encoding and decoding, over lists of bytes; and the walk of its example (awake). -/
import Derived.Test.YtnfnbobioclniaaWalksI
namespace Go.Proofs.Ytnfnbobioclniaa
open Go.RowKit

theorem enc_is (s t : ByteArray) (set : Int) (w : World) (hs : s.size ≤ 20000) (h : encL set s.data.toList = t.data.toList) :
    Calls Try.prog 14 #[.string s, .int .i64 set] w fun e w' => e = .returned (.string t) ∧ Below w.heap.size w w' := by
  have := encode_any s set w hs
  rw [h, mk_list] at this; exact this
theorem dec_is (s t : ByteArray) (w : World) (hs : s.size ≤ 20000) (h : decL s.data.toList = t.data.toList) :
    Calls Try.prog 16 #[.string s] w fun e w' => e = .returned (.string t) ∧ Below w.heap.size w w' := by
  have := decode_any s w hs
  rw [h, mk_list] at this; exact this
theorem ready_is (s : ByteArray) (set : Int) (b : Bool) (w : World) (hs : s.size ≤ 20000) (h : (encL set s.data.toList == s.data.toList) = b) :
    Calls Try.prog 18 #[.string s, .int .i64 set] w fun e w' => e = .returned (.bool b) ∧ Below w.heap.size w w' := ready_enc s set w hs b (by rw [toList_data]; exact h)
theorem in_is (set : Int) (c : UInt8) (b : Bool) (w : World) (h : inS set c = b) : Calls Try.prog 13 #[.int .i64 set, .int .u8 c.toNat] w fun e w' => e = .returned (.bool b) ∧ Below w.heap.size w w' := by
  subst h; exact in_of set c w

theorem below_then {a b c : World} (h : Below a.heap.size a b) (k : Below b.heap.size b c) : Below a.heap.size a c := h.trans (k.mono h.size)
theorem byte_of {a : Int} (h : (Lit.int .u8 a).wf = true) : ∃ c : UInt8, a = (c.toNat : Int) := by
  have hb : 0 ≤ a ∧ a < 256 := by
    have h1 : IntKind.u8.min = 0 := by rfl
    have h2 : IntKind.u8.max = 255 := by rfl
    unfold Lit.wf at h
    rw [Bool.and_eq_true, h1, h2] at h
    exact ⟨of_decide_eq_true h.1, by have := of_decide_eq_true h.2; omega⟩
  refine ⟨UInt8.ofNat a.toNat, ?_⟩
  have : (UInt8.ofNat a.toNat).toNat = a.toNat := by simp; omega
  rw [this]; omega
theorem awake_any (w : World) : Calls Try.prog 10 #[] w fun e w' => e = .returned (.bool true) ∧ Below w.heap.size w w' := by
  go_enter Try.func10, Try.ntmps10
  go_wp2_with fail
  refine (enc_is ⟨#[32, 195, 169]⟩ ⟨#[37, 50, 48, 37, 67, 51, 37, 65, 57]⟩ 3 _ (by decide) (by decide)).mono ?_
  rintro e w1 ⟨rfl, b1⟩
  go_wp2_with fail
  refine (dec_is ⟨#[37, 50, 48, 37, 67, 51, 37, 65, 57]⟩ ⟨#[32, 195, 169]⟩ _ (by decide) (by decide)).mono ?_
  rintro e w2 ⟨rfl, b2⟩
  go_wp2_with fail
  refine (ready_is ⟨#[37, 50, 48, 37, 67, 51, 37, 65, 57]⟩ 4 true _ (by decide) (by decide)).mono ?_
  rintro e w3 ⟨rfl, b3⟩
  go_wp2_with fail
  refine (ready_is ⟨#[97, 32, 98]⟩ 1 false _ (by decide) (by decide)).mono ?_
  rintro e w4 ⟨rfl, b4⟩
  go_wp2_with fail
  refine (in_is 4 47 true _ (by decide)).mono ?_
  rintro e w5 ⟨rfl, b5⟩
  go_wp2_with fail
  refine (in_is 3 47 false _ (by decide)).mono ?_
  rintro e w6 ⟨rfl, b6⟩
  go_wp2
  go_ret
  exact ⟨rfl, below_then (below_then (below_then (below_then (below_then b1 b2) b3) b4) b5) b6⟩

/-! ### The plain laws -/
theorem encL_cons (set : Int) (c : UInt8) (l : List UInt8) : encL set (c :: l) = encC set c ++ encL set l := by unfold encL; rw [List.flatMap_cons]
theorem encL_ready (set : Int) (l : List UInt8) (h : readyL set l = true) : encL set l = l := by
  induction l with
  | nil => rfl
  | cons c l ih =>
    rw [readyL_cons] at h
    simp only [Bool.and_eq_true, Bool.not_eq_true'] at h
    rw [encL_cons, ih h.2]; unfold encC; rw [if_neg (by simp [h.1])]; rfl
theorem encL_longer (set : Int) (l : List UInt8) (h : readyL set l = false) : l.length < (encL set l).length := by
  induction l with
  | nil => cases h
  | cons c l ih =>
    rw [readyL_cons] at h
    rw [encL_cons, List.length_append, List.length_cons]
    have h1 := encC_len set c
    have h2 := encL_len set l
    cases hi : inS set c with
    | true => unfold encC; rw [if_pos hi]; simp; omega
    | false =>
      rw [hi] at h
      have := ih (by simpa using h)
      omega
theorem ready_eq (set : Int) (l : List UInt8) : (encL set l == l) = readyL set l := by
  cases h : readyL set l with
  | true => rw [encL_ready set l h]; simp
  | false =>
    rw [beq_eq_false_iff_ne]; intro e
    have := encL_longer set l h
    rw [e] at this; omega
theorem inS_other (set : Int) (c : UInt8) (h : set < 0 ∨ 4 < set) : inS set c = false := by
  unfold inS; rw [if_neg (by omega), if_neg (by omega), if_neg (by omega), if_neg (by omega), if_neg (by omega)]
theorem inS_plain (set : Int) (x : UInt8) (h : x ∈ (37 :: digs : List UInt8)) : inS set x = false := by
  by_cases h0 : set < 0 ∨ 4 < set
  · exact inS_other set x h0
  · have hs : set = 0 ∨ set = 1 ∨ set = 2 ∨ set = 3 ∨ set = 4 := by omega
    rcases hs with rfl | rfl | rfl | rfl | rfl
    · exact (by decide : ∀ x ∈ (37 :: digs : List UInt8), inS 0 x = false) x h
    · exact (by decide : ∀ x ∈ (37 :: digs : List UInt8), inS 1 x = false) x h
    · exact (by decide : ∀ x ∈ (37 :: digs : List UInt8), inS 2 x = false) x h
    · exact (by decide : ∀ x ∈ (37 :: digs : List UInt8), inS 3 x = false) x h
    · exact (by decide : ∀ x ∈ (37 :: digs : List UInt8), inS 4 x = false) x h
theorem hd_mem : ∀ n : Fin 16, hd n.val ∈ (37 :: digs : List UInt8) := by decide
theorem hd_mem' (n : Nat) (h : n < 16) : hd n ∈ (37 :: digs : List UInt8) := hd_mem ⟨n, h⟩
theorem ready_enc_c (set : Int) (c : UInt8) : readyL set (encC set c) = true := by
  have hc := c.toNat_lt
  unfold encC
  split
  · rw [readyL_cons, readyL_cons, readyL_cons, inS_plain set 37 (by decide), inS_plain set _ (hd_mem' _ (by omega)), inS_plain set _ (hd_mem' _ (by omega))]; rfl
  · rename_i h
    rw [readyL_cons]; simp [h, readyL]
theorem ready_encL (set : Int) (l : List UInt8) : readyL set (encL set l) = true := by
  induction l with
  | nil => rfl
  | cons c l ih => rw [encL_cons, readyL_app, ready_enc_c, ih]; rfl
theorem enc_enc (set : Int) (l : List UInt8) : encL set (encL set l) = encL set l := encL_ready set _ (ready_encL set l)

theorem hexN_hd : ∀ n : Fin 16, hexN (hd n.val).toNat = n.val := by decide
theorem val_hd (c : UInt8) : val (hd (c.toNat / 16)) (hd (c.toNat % 16)) = c ∧ 0 ≤ hexN (hd (c.toNat / 16)).toNat ∧ 0 ≤ hexN (hd (c.toNat % 16)).toNat := by
  have hc := c.toNat_lt
  have h1 := hexN_hd ⟨c.toNat / 16, by omega⟩
  have h2 := hexN_hd ⟨c.toNat % 16, by omega⟩
  simp only at h1 h2
  refine ⟨?_, by omega, by omega⟩
  apply UInt8.toNat_inj.1
  have := val_toNat (hd (c.toNat / 16)) (hd (c.toNat % 16)) (by omega) (by omega)
  omega
theorem dec_encC (set : Int) (c : UInt8) (l : List UInt8) (hi : inS set c = true) : decL (encC set c ++ l) = c :: decL l := by
  obtain ⟨h1, h2, h3⟩ := val_hd c
  unfold encC
  rw [if_pos hi]
  show decL (37 :: hd (c.toNat / 16) :: hd (c.toNat % 16) :: l) = _
  rw [decL_esc _ _ _ _ (by unfold esc; rw [decide_eq_true h2, decide_eq_true h3]; rfl), h1]
theorem hexN_in (set : Int) (a : UInt8) (h : 0 ≤ hexN a.toNat) : inS set a = false := by
  have hl : low a = false ∧ hasL [32, 34, 60, 62, 96] a = false ∧ hasL [32, 34, 35, 39, 60, 62] a = false ∧ hasL [63, 94, 96, 123, 125] a = false ∧ hasL [47, 58, 59, 61, 64, 91, 92, 93, 124] a = false := by
    have := (by decide +kernel : ∀ n : Fin 256, 0 ≤ hexN (UInt8.ofNat n.val).toNat → low (UInt8.ofNat n.val) = false ∧ hasL [32, 34, 60, 62, 96] (UInt8.ofNat n.val) = false ∧ hasL [32, 34, 35, 39, 60, 62] (UInt8.ofNat n.val) = false ∧ hasL [63, 94, 96, 123, 125] (UInt8.ofNat n.val) = false ∧ hasL [47, 58, 59, 61, 64, 91, 92, 93, 124] (UInt8.ofNat n.val) = false) ⟨a.toNat, a.toNat_lt⟩
    simp only [UInt8.ofNat_toNat] at this
    exact this h
  obtain ⟨l1, l2, l3, l4, l5⟩ := hl
  unfold inS in3 in2
  simp [l1, l2, l3, l4, l5]
theorem encC_no (set : Int) (c : UInt8) (h : inS set c = false) : encC set c = [c] := by unfold encC; rw [if_neg (by simp [h])]
theorem esc_37 {c a b : UInt8} (h : esc c a b = true) : c = 37 ∧ 0 ≤ hexN a.toNat ∧ 0 ≤ hexN b.toNat := by
  unfold esc at h
  simpa using h
theorem esc_ne {c a b : UInt8} (h : c ≠ 37) : esc c a b = false := by unfold esc; simp [h]
theorem esc_a {c a b : UInt8} (h : hexN a.toNat < 0) : esc c a b = false := by unfold esc; simp; intro _ h'; omega
theorem esc_b {c a b : UInt8} (h : hexN b.toNat < 0) : esc c a b = false := by unfold esc; simp; intro _ _; omega
/-- The head of what is encoded. -/
theorem enc_head (set : Int) (a : UInt8) (l : List UInt8) : ∃ x l', encC set a ++ l = x :: l' ∧ (x = 37 ∨ (x = a ∧ l' = l)) := by
  unfold encC
  split
  · exact ⟨37, _, rfl, Or.inl rfl⟩
  · exact ⟨a, l, rfl, Or.inr ⟨rfl, rfl⟩⟩
theorem hex37 : hexN (37 : UInt8).toNat < 0 := by decide
theorem dec_enc_n (set : Int) : ∀ (n : Nat) (l : List UInt8), l.length ≤ n → decL (encL set l) = decL l := by
  intro n
  induction n with
  | zero => intro l h; have e : l = [] := List.eq_nil_of_length_eq_zero (by omega); subst e; rfl
  | succ n ih =>
    intro l h
    match l, h with
    | [], _ => rfl
    | c :: l, h =>
      have hl : l.length ≤ n := by simpa using h
      cases hi : inS set c with
      | true =>
        have hc : c ≠ 37 := fun e => by rw [e, inS_plain set 37 (by decide)] at hi; cases hi
        rw [encL_cons, dec_encC set c _ hi, ih l hl, decL_stay c l (fun a b l' _ => esc_ne hc)]
      | false =>
        rw [encL_cons, encC_no set c hi]
        show decL (c :: encL set l) = _
        by_cases he : ∃ a b l', l = a :: b :: l' ∧ esc c a b = true
        · obtain ⟨a, b, l', rfl, he⟩ := he
          obtain ⟨h37, ha, hb⟩ := esc_37 he
          rw [encL_cons, encL_cons, encC_no set a (hexN_in set a ha), encC_no set b (hexN_in set b hb)]
          show decL (c :: a :: b :: encL set l') = _
          rw [decL_esc _ _ _ _ he, decL_esc _ _ _ _ he, ih l' (by simp at hl; omega)]
        · have hn : ∀ a b l', l = a :: b :: l' → esc c a b = false := fun a b l' e => by
            cases h' : esc c a b with
            | false => rfl
            | true => exact absurd ⟨a, b, l', e, h'⟩ he
          rw [decL_stay c l hn, ← ih l hl]
          refine decL_stay c _ fun x y l' e => ?_
          match l, hn, e with
          | [], _, e => cases e
          | [a], _, e =>
            rw [encL_cons] at e
            obtain ⟨x', l1, e1, h1⟩ := enc_head set a (encL set [])
            rw [e1] at e
            rcases h1 with rfl | ⟨rfl, rfl⟩
            · cases e; exact esc_a hex37
            · cases e
          | a :: b :: l2, hn, e =>
            rw [encL_cons] at e
            obtain ⟨x', l1, e1, h1⟩ := enc_head set a (encL set (b :: l2))
            rw [e1] at e
            rcases h1 with rfl | ⟨rfl, rfl⟩
            · cases e; exact esc_a hex37
            · rw [encL_cons] at e
              obtain ⟨y', l3, e3, h3⟩ := enc_head set b (encL set l2)
              rw [e3] at e
              rcases h3 with rfl | ⟨rfl, rfl⟩
              · cases e; exact esc_b hex37
              · cases e; exact hn _ _ l2 rfl
theorem dec_enc (set : Int) (l : List UInt8) : decL (encL set l) = decL l := dec_enc_n set _ l (Nat.le_refl _)

def plainL (l : List UInt8) : Bool := l.all (· != 37)
theorem plainL_app (a b : List UInt8) : plainL (a ++ b) = (plainL a && plainL b) := by unfold plainL; rw [List.all_append]
theorem plainL_cons (a : UInt8) (b : List UInt8) : plainL (a :: b) = ((a != 37) && plainL b) := by unfold plainL; rw [List.all_cons]
theorem dec_plain (l : List UInt8) (h : plainL l = true) : decL l = l := by
  induction l with
  | nil => rfl
  | cons c l ih =>
    rw [plainL_cons] at h
    simp only [Bool.and_eq_true, bne_iff_ne, ne_eq] at h
    rw [decL_stay c l (fun a b l' _ => esc_ne h.1), ih h.2]
theorem dec_len_n : ∀ (n : Nat) (l : List UInt8), l.length ≤ n → (decL l).length ≤ l.length := by
  intro n
  induction n with
  | zero => intro l h; have e : l = [] := List.eq_nil_of_length_eq_zero (by omega); subst e; exact Nat.le_refl _
  | succ n ih =>
    intro l h
    match l, h with
    | [], _ => exact Nat.le_refl _
    | [_], _ => exact Nat.le_refl _
    | [_, _], _ => exact Nat.le_refl _
    | c :: a :: b :: l, h =>
      cases he : esc c a b with
      | true => rw [decL_esc _ _ _ _ he]; have := ih l (by simp at h; omega); simp; omega
      | false =>
        rw [decL, if_neg (by simp [he])]
        have := ih (a :: b :: l) (by simp at h ⊢; omega)
        simp at this ⊢; omega
theorem dec_len (l : List UInt8) : (decL l).length ≤ l.length := dec_len_n _ l (Nat.le_refl _)
/-- Does a text end so that what follows may be taken with it? -/
def endsL : List UInt8 → Bool
  | [] => false
  | [a] => a == 37
  | [a, b] => a == 37 || b == 37
  | _ :: b :: c :: l => endsL (b :: c :: l)
theorem dec_app_n (m : List UInt8) : ∀ (n : Nat) (l : List UInt8), l.length ≤ n → endsL l = false → decL (l ++ m) = decL l ++ decL m := by
  intro n
  induction n with
  | zero => intro l h _; have e : l = [] := List.eq_nil_of_length_eq_zero (by omega); subst e; rfl
  | succ n ih =>
    intro l h he
    match l, h, he with
    | [], _, _ => rfl
    | [a], _, he =>
      have ha : a ≠ 37 := by unfold endsL at he; simpa using he
      show decL (a :: m) = a :: decL m
      exact decL_stay a m fun _ _ _ _ => esc_ne ha
    | [a, b], _, he =>
      have hab : a ≠ 37 ∧ b ≠ 37 := by unfold endsL at he; simpa using he
      show decL (a :: b :: m) = a :: b :: decL m
      rw [decL_stay a _ fun _ _ _ _ => esc_ne hab.1, decL_stay b _ fun _ _ _ _ => esc_ne hab.2]
    | c :: a :: b :: l, h, he =>
      rw [endsL] at he
      show decL (c :: a :: b :: (l ++ m)) = _
      cases hc : esc c a b with
      | true =>
        rw [decL_esc _ _ _ _ hc, decL_esc _ _ _ _ hc, ih l (by simp at h; omega) ?_]; rfl
        match l, he with
        | [], _ => rfl
        | [x], he => rw [endsL, endsL] at he; rw [endsL]; simp at he ⊢; exact he.2
        | [x, y], he => rw [endsL, endsL] at he; exact he
        | x :: y :: z :: l, he => rw [endsL, endsL] at he; exact he
      | false =>
        rw [decL, if_neg (by simp [hc]), decL, if_neg (by simp [hc])]
        have := ih (a :: b :: l) (by simp at h ⊢; omega) he
        rw [List.cons_append, List.cons_append] at this
        rw [this]; rfl
theorem dec_app (l m : List UInt8) (h : endsL l = false) : decL (l ++ m) = decL l ++ decL m := dec_app_n m _ l (Nat.le_refl _) h
end Go.Proofs.Ytnfnbobioclniaa
