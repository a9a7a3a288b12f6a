/- The plain law of layer 2: numbers in digits, over lists of bytes; no program in sight. No condition. -/
import GoSem.Op.String
namespace Go.Proofs.Ytnfefjjpifokpaa

def dig (d : Nat) : UInt8 := UInt8.ofNat (48 + d)
def isD (c : UInt8) : Bool := decide (48 ≤ c.toNat) && decide (c.toNat ≤ 57)
def valD (c : UInt8) : Nat := c.toNat - 48
def plainD (l : List UInt8) : Bool := l.all isD && !l.isEmpty
def val (l : List UInt8) : Nat := l.foldl (fun a c => 10 * a + valD c) 0

/-- A number's digits, the last one first. -/
def digR (n : Nat) : List UInt8 := dig (n % 10) :: (if n / 10 = 0 then [] else digR (n / 10))
termination_by n
decreasing_by omega
/-- A number's digits. -/
def digs (n : Nat) : List UInt8 := (digR n).reverse
/-- A number in digits, with its sign. -/
def showL (n : Int) : List UInt8 := if n < 0 then 45 :: digs n.natAbs else digs n.natAbs
/-- Is a text read up to 'most'? And as what? -/
def readOK (l : List UInt8) (most : Int) : Bool := plainD l && decide ((val l : Int) ≤ most)
def readN (l : List UInt8) (most : Int) : Int := if readOK l most then (val l : Int) else 0

theorem dig_toNat {d : Nat} (h : d < 10) : (dig d).toNat = 48 + d := by unfold dig; simp; omega
theorem isD_dig {d : Nat} (h : d < 10) : isD (dig d) = true := by unfold isD; rw [dig_toNat h]; simp; omega
theorem valD_dig {d : Nat} (h : d < 10) : valD (dig d) = d := by unfold valD; rw [dig_toNat h]; omega
theorem isD_iff (c : UInt8) : isD c = true ↔ 48 ≤ c.toNat ∧ c.toNat ≤ 57 := by unfold isD; simp
theorem valD_lt {c : UInt8} (h : isD c = true) : valD c < 10 := by rw [isD_iff] at h; unfold valD; omega
theorem dig_valD {c : UInt8} (h : isD c = true) : dig (valD c) = c := by
  have := (isD_iff c).1 h
  apply UInt8.toNat_inj.1
  rw [dig_toNat (valD_lt h)]; unfold valD; omega

theorem digR_step (n : Nat) : digR n = dig (n % 10) :: (if n / 10 = 0 then [] else digR (n / 10)) := by rw [digR]
theorem digs_step (n : Nat) : digs n = (if n / 10 = 0 then [] else digs (n / 10)) ++ [dig (n % 10)] := by
  unfold digs; rw [digR_step, List.reverse_cons]; split <;> simp

theorem foldl_val (l : List UInt8) : ∀ a : Nat, l.foldl (fun a c => 10 * a + valD c) a = a * 10 ^ l.length + val l := by
  induction l with
  | nil => intro a; simp [val]
  | cons c l ih =>
    intro a
    unfold val
    rw [List.foldl_cons, List.foldl_cons, ih, ih, List.length_cons, Nat.pow_succ, Nat.add_mul, Nat.add_mul]
    have e : 10 * a * 10 ^ l.length = a * (10 ^ l.length * 10) := by rw [Nat.mul_comm 10 a, Nat.mul_assoc, Nat.mul_comm 10]
    have e2 : 10 * 0 * 10 ^ l.length = 0 := by simp
    omega
theorem val_append (a b : List UInt8) : val (a ++ b) = val a * 10 ^ b.length + val b := by
  unfold val; rw [List.foldl_append, foldl_val]; rfl
theorem val_snoc (a : List UInt8) (c : UInt8) : val (a ++ [c]) = 10 * val a + valD c := by
  unfold val; rw [List.foldl_append]; rfl
theorem val_cons (c : UInt8) (l : List UInt8) : val (c :: l) = valD c * 10 ^ l.length + val l := by
  have := val_append [c] l
  rw [List.singleton_append] at this
  rw [this]
  have : val [c] = valD c := by unfold val; simp
  rw [this]
theorem val_nil : val [] = 0 := rfl

theorem val_lt : ∀ l : List UInt8, l.all isD = true → val l < 10 ^ l.length
  | [], _ => by simp [val]
  | c :: l, h => by
    rw [List.all_cons, Bool.and_eq_true] at h
    have h1 := valD_lt h.1
    have h2 := val_lt l h.2
    rw [val_cons, List.length_cons, Nat.pow_succ]
    have : valD c * 10 ^ l.length ≤ 9 * 10 ^ l.length := Nat.mul_le_mul_right _ (by omega)
    omega

theorem head_app {a b : List UInt8} (h : a ≠ []) : (a ++ b).head? = a.head? := by
  match a, h with
  | c :: t, _ => rfl

theorem digs_facts (n : Nat) : val (digs n) = n ∧ (digs n).all isD = true ∧ digs n ≠ [] ∧ (n ≠ 0 → (digs n).head? ≠ some 48) := by
  induction n using Nat.strongRecOn with
  | _ n ih =>
    rw [digs_step]
    by_cases h : n / 10 = 0
    · rw [if_pos h, List.nil_append]
      have hm : n % 10 = n := by omega
      refine ⟨?_, ?_, by simp, ?_⟩
      · have := valD_dig (show n % 10 < 10 by omega)
        unfold val; simp only [List.foldl_cons, List.foldl_nil]; omega
      · simp [isD_dig (show n % 10 < 10 by omega)]
      · intro h0 e
        simp only [List.head?_cons, Option.some.injEq] at e
        have := congrArg UInt8.toNat e
        rw [dig_toNat (by omega)] at this
        have e48 : (48 : UInt8).toNat = 48 := rfl
        omega
    · rw [if_neg h]
      obtain ⟨h1, h2, h3, h4⟩ := ih (n / 10) (by omega)
      refine ⟨?_, ?_, by simp, ?_⟩
      · rw [val_snoc, h1, valD_dig (by omega)]; omega
      · rw [List.all_append, h2]; simp [isD_dig (show n % 10 < 10 by omega)]
      · intro h0
        rw [head_app h3]
        exact h4 h

theorem plain_digs (n : Nat) : plainD (digs n) = true := by
  obtain ⟨_, h2, h3, _⟩ := digs_facts n
  unfold plainD; rw [h2]
  cases hd : digs n with
  | nil => exact absurd hd h3
  | cons _ _ => rfl
theorem val_digs (n : Nat) : val (digs n) = n := (digs_facts n).1
theorem digs_inj {a b : Nat} (h : digs a = digs b) : a = b := by rw [← val_digs a, ← val_digs b, h]

/-- Digits without a 0 ahead are those of their number. -/
theorem digs_unique (l : List UInt8) : ∀ n, l.length ≤ n → l.all isD = true → l ≠ [] → (l.length ≠ 1 → l.head? ≠ some 48) → digs (val l) = l := by
  intro n
  induction n generalizing l with
  | zero => intro h _ h3 _; match l with | [] => exact absurd rfl h3
  | succ n ih =>
    intro h ha hne hh
    obtain ⟨l', c, rfl⟩ : ∃ l' c, l = l' ++ [c] := ⟨l.dropLast, l.getLast hne, (List.dropLast_concat_getLast hne).symm⟩
    rw [List.all_append, Bool.and_eq_true] at ha
    have hc : isD c = true := by simpa using ha.2
    have h1 := valD_lt hc
    rw [digs_step, val_snoc]
    have e1 : (10 * val l' + valD c) / 10 = val l' := by omega
    have e2 : (10 * val l' + valD c) % 10 = valD c := by omega
    rw [e1, e2, dig_valD hc]
    by_cases hl : l' = []
    · subst hl; simp [val]
    · have hh' : l'.head? ≠ some 48 := by
        have := hh (by
          have := List.length_pos_iff.2 hl
          simp only [List.length_append, List.length_cons, List.length_nil]; omega)
        rwa [head_app hl] at this
      have hv : val l' ≠ 0 := by
        match l', hl with
        | d :: t, _ =>
          simp only [List.head?_cons, ne_eq, Option.some.injEq] at hh'
          have hd : isD d = true := by
            have := ha.1; rw [List.all_cons, Bool.and_eq_true] at this; exact this.1
          have hd2 := (isD_iff d).1 hd
          have : valD d ≠ 0 := by
            intro e
            apply hh'
            apply UInt8.toNat_inj.1
            have e48 : (48 : UInt8).toNat = 48 := rfl
            rw [e48]; unfold valD at e; omega
          rw [val_cons]
          have : 0 < valD d * 10 ^ t.length := Nat.mul_pos (by omega) (Nat.pow_pos (by omega))
          omega
      rw [if_neg hv]
      rw [ih l' (by simp at h; omega) ha.1 hl (fun _ => hh')]

/-- Without the noughts ahead, but for the last byte. -/
def strip : List UInt8 → List UInt8
  | [] => []
  | [c] => [c]
  | c :: d :: t => if c = 48 then strip (d :: t) else c :: d :: t

theorem strip_facts : ∀ l : List UInt8, l.all isD = true → l ≠ [] → val (strip l) = val l ∧ (strip l).all isD = true ∧ strip l ≠ [] ∧ ((strip l).length ≠ 1 → (strip l).head? ≠ some 48) ∧ (strip l).length ≤ l.length ∧ strip l = l.drop (l.length - (strip l).length)
  | [], _, h => absurd rfl h
  | [c], h, _ => by simpa [strip] using h
  | c :: d :: t, h, _ => by
    unfold strip
    by_cases hc : c = 48
    · rw [if_pos hc]
      have h' : (d :: t).all isD = true := by rw [List.all_cons, Bool.and_eq_true] at h; exact h.2
      obtain ⟨h1, h2, h3, h4, h5, h6⟩ := strip_facts (d :: t) h' (by simp)
      refine ⟨?_, h2, h3, h4, by simp at h5 ⊢; omega, ?_⟩
      · rw [h1, val_cons c, hc]; simp [valD]
      · have e : (c :: d :: t).length - (strip (d :: t)).length = ((d :: t).length - (strip (d :: t)).length) + 1 := by
          simp only [List.length_cons] at h5 ⊢; omega
        rw [e, List.drop_succ_cons]; exact h6
    · rw [if_neg hc]
      refine ⟨rfl, h, by simp, fun _ => by simpa using hc, Nat.le_refl _, by simp⟩

theorem digs_val {l : List UInt8} (h : plainD l = true) : digs (val l) = strip l := by
  unfold plainD at h
  rw [Bool.and_eq_true] at h
  have hne : l ≠ [] := by intro e; subst e; simp at h
  obtain ⟨h1, h2, h3, h4, _⟩ := strip_facts l h.1 hne
  rw [← h1]
  exact digs_unique (strip l) _ (Nat.le_refl _) h2 h3 h4

theorem digs_lt {n k : Nat} (h : (digs n).length ≤ k) : n < 10 ^ k := by
  have := val_lt (digs n) (digs_facts n).2.1
  rw [val_digs] at this
  exact Nat.lt_of_lt_of_le this (Nat.pow_le_pow_right (by omega) h)
theorem digs_ge {n : Nat} (h : n ≠ 0) : 10 ^ ((digs n).length - 1) ≤ n := by
  obtain ⟨h1, h2, h3, h4⟩ := digs_facts n
  have h4 := h4 h
  match hd : digs n, h3 with
  | c :: t, _ =>
    rw [hd] at h1 h2 h4
    rw [List.all_cons, Bool.and_eq_true] at h2
    have hd2 := (isD_iff c).1 h2.1
    have : 1 ≤ valD c := by
      simp only [List.head?_cons, ne_eq, Option.some.injEq] at h4
      have : c.toNat ≠ 48 := fun e => h4 (UInt8.toNat_inj.1 e)
      unfold valD; omega
    rw [val_cons] at h1
    have h5 : 1 * 10 ^ t.length ≤ valD c * 10 ^ t.length := Nat.mul_le_mul_right _ this
    simp only [List.length_cons, Nat.add_sub_cancel]
    omega
theorem digs_len_mono {a b : Nat} (h : a ≤ b) : (digs a).length ≤ (digs b).length := by
  by_cases h0 : a = 0
  · subst h0
    have : digs 0 = [48] := by rw [digs_step]; rfl
    rw [this]
    have := List.length_pos_iff.2 (digs_facts b).2.2.1
    simp only [List.length_cons, List.length_nil]; omega
  · have h1 := digs_ge h0
    have h2 := digs_lt (n := b) (Nat.le_refl _)
    have h3 : 10 ^ ((digs a).length - 1) < 10 ^ (digs b).length := by omega
    have := (Nat.pow_lt_pow_iff_right (a := 10) (by omega)).1 h3
    omega
theorem digs_len_le {n k : Nat} (h : n < 10 ^ k) (hk : 1 ≤ k) : (digs n).length ≤ k := by
  by_cases h0 : n = 0
  · subst h0
    have : digs 0 = [48] := by rw [digs_step]; rfl
    rw [this]; simpa using hk
  · have h1 := digs_ge h0
    have h3 : 10 ^ ((digs n).length - 1) < 10 ^ k := by omega
    have := (Nat.pow_lt_pow_iff_right (a := 10) (by omega)).1 h3
    omega
theorem digs_pos (n : Nat) : 1 ≤ (digs n).length := List.length_pos_iff.2 (digs_facts n).2.2.1
theorem digs_len_19 {n : Nat} (h : n < 9223372036854775809) : (digs n).length ≤ 19 := digs_len_le (by omega) (by omega)

theorem digs_ten {n : Nat} (h : n ≠ 0) : digs (10 * n) = digs n ++ [48] := by
  rw [digs_step]
  have e1 : 10 * n / 10 = n := by omega
  have e2 : 10 * n % 10 = 0 := by omega
  rw [e1, e2, if_neg h]; rfl
theorem digs_zero : digs 0 = [48] := by rw [digs_step]; rfl
theorem digs_one {d : Nat} (h : d < 10) : digs d = [dig d] := by
  rw [digs_step, if_pos (by omega)]
  have : d % 10 = d := by omega
  rw [this]; rfl

/-- Of digits of one length, the order of texts is that of numbers. -/
theorem less_val : ∀ a b : List UInt8, a.all isD = true → b.all isD = true → a.length = b.length → Op.bytesLess a b = decide (val a < val b)
  | [], [], _, _, _ => rfl
  | c :: a, d :: b, ha, hb, hl => by
    rw [List.all_cons, Bool.and_eq_true] at ha hb
    have hl' : a.length = b.length := by simpa using hl
    have ih := less_val a b ha.2 hb.2 hl'
    have hva := val_lt a ha.2
    have hvb := val_lt b hb.2
    have hc := (isD_iff c).1 ha.1
    have hd := (isD_iff d).1 hb.1
    unfold Op.bytesLess
    rw [ih, val_cons, val_cons, ← hl']
    rw [← hl'] at hvb
    by_cases h1 : c.toNat < d.toNat
    · have h2 : decide (c < d) = true := decide_eq_true (UInt8.lt_iff_toNat_lt.2 h1)
      rw [h2, Bool.true_or]
      symm; apply decide_eq_true
      have : (valD c + 1) * 10 ^ a.length ≤ valD d * 10 ^ a.length := Nat.mul_le_mul_right _ (by unfold valD; omega)
      rw [Nat.add_mul] at this
      omega
    · have h2 : decide (c < d) = false := decide_eq_false (fun e => h1 (UInt8.lt_iff_toNat_lt.1 e))
      rw [h2, Bool.false_or]
      by_cases h3 : c = d
      · subst h3
        simp
      · have h4 : (c == d) = false := by simpa using h3
        rw [h4, Bool.false_and]
        symm; apply decide_eq_false
        have : d.toNat < c.toNat := by
          have : c.toNat ≠ d.toNat := fun e => h3 (UInt8.toNat_inj.1 e)
          omega
        have : (valD d + 1) * 10 ^ a.length ≤ valD c * 10 ^ a.length := Nat.mul_le_mul_right _ (by unfold valD; omega)
        rw [Nat.add_mul] at this
        omega

/-- What the document's reading asks: without noughts ahead, no longer than the bound's digits, and no greater text. -/
theorem ref_cmp {l : List UInt8} (h : plainD l = true) (m : Nat) :
    (decide ((strip l).length > (digs m).length) || (decide ((strip l).length = (digs m).length) && !(Op.bytesLess (strip l) (digs m) || strip l == digs m))) = !decide (val l ≤ m) := by
  have hs := digs_val h
  rw [← hs]
  have ha := (digs_facts (val l)).2.1
  have hb := (digs_facts m).2.1
  by_cases h1 : val l ≤ m
  · have hle := digs_len_mono h1
    rw [decide_eq_true h1, decide_eq_false (by omega), Bool.false_or]
    by_cases h2 : (digs (val l)).length = (digs m).length
    · rw [decide_eq_true h2, less_val _ _ ha hb h2, val_digs, val_digs, Bool.true_and]
      by_cases h3 : val l = m
      · rw [h3]; simp
      · rw [decide_eq_true (by omega)]; rfl
    · rw [decide_eq_false h2]; rfl
  · have hle := digs_len_mono (show m ≤ val l by omega)
    rw [decide_eq_false h1]
    by_cases h2 : (digs (val l)).length = (digs m).length
    · rw [decide_eq_true h2, less_val _ _ ha hb h2, val_digs, val_digs, decide_eq_false (show ¬ val l < m by omega), Bool.false_or]
      have : (digs (val l) == digs m) = false := by
        rw [beq_eq_false_iff_ne]
        intro e
        have := digs_inj e; omega
      rw [this]; simp
    · rw [decide_eq_true (show (digs (val l)).length > (digs m).length by omega)]; rfl

/-! ### What is shown, and read -/
theorem showL_nonneg {n : Int} (h : 0 ≤ n) : showL n = digs n.toNat := by
  unfold showL; rw [if_neg (by omega)]
  congr 1; omega
theorem showL_neg {n : Int} (h : n < 0) : showL n = 45 :: digs n.natAbs := by unfold showL; rw [if_pos h]
theorem plain_neg {n : Int} (h : n < 0) : plainD (showL n) = false := by rw [showL_neg h]; rfl

theorem val_zeros (k : Nat) (l : List UInt8) : val (List.replicate k 48 ++ l) = val l := by
  induction k with
  | zero => simp
  | succ k ih => rw [List.replicate_succ, List.cons_append, val_cons, ih]; simp [valD]
theorem plain_zeros (k : Nat) (l : List UInt8) (h : plainD l = true) : plainD (List.replicate k 48 ++ l) = true := by
  unfold plainD at h ⊢
  rw [Bool.and_eq_true] at h
  rw [List.all_append, h.1]
  have h2 : l.isEmpty = false := by simpa using h.2
  have h3 : (List.replicate k (48 : UInt8)).all isD = true := by
    rw [List.all_eq_true]; intro x hx; rw [List.eq_of_mem_replicate hx]; rfl
  rw [h3]
  have : l ≠ [] := by intro e; subst e; simp at h2
  simp [this]

theorem showL_inj {a b : Int} (h : showL a = showL b) : a = b := by
  by_cases ha : a < 0
  · by_cases hb : b < 0
    · rw [showL_neg ha, showL_neg hb] at h
      have := digs_inj (List.cons.inj h).2
      omega
    · have h1 := plain_neg ha
      rw [h, showL_nonneg (by omega), plain_digs] at h1
      cases h1
  · by_cases hb : b < 0
    · have h1 := plain_neg hb
      rw [← h, showL_nonneg (by omega), plain_digs] at h1
      cases h1
    · rw [showL_nonneg (by omega), showL_nonneg (by omega)] at h
      have := digs_inj h; omega

theorem showL_len {n : Int} (h1 : -9223372036854775808 ≤ n) (h2 : n ≤ 9223372036854775807) : 1 ≤ (showL n).length ∧ (showL n).length ≤ 20 := by
  unfold showL
  have := digs_len_19 (n := n.natAbs) (by omega)
  have := digs_pos n.natAbs
  split
  · simp only [List.length_cons]; omega
  · omega

theorem showL_mono {a b : Int} (h0 : 0 ≤ a) (h : a ≤ b) : (showL a).length ≤ (showL b).length := by
  rw [showL_nonneg h0, showL_nonneg (by omega)]
  exact digs_len_mono (by omega)

theorem plain_snoc {l : List UInt8} {c : UInt8} (h : plainD l = true) (hc : isD c = true) : plainD (l ++ [c]) = true := by
  unfold plainD at h ⊢
  rw [Bool.and_eq_true] at h
  rw [List.all_append, h.1]
  simp [hc]

theorem plain_lt {l : List UInt8} (h : plainD l = true) : val l < 10 ^ l.length := by
  unfold plainD at h
  rw [Bool.and_eq_true] at h
  exact val_lt l h.1

/-- A row of which the first and the last j are exchanged. -/
def revP (xs : List UInt8) (j : Nat) : List UInt8 := (List.range xs.length).map fun p => if p < j ∨ xs.length - j ≤ p then xs.getD (xs.length - 1 - p) 0 else xs.getD p 0

theorem revP_len (xs : List UInt8) (j : Nat) : (revP xs j).length = xs.length := by unfold revP; simp
theorem revP_at (xs : List UInt8) (j p : Nat) (hp : p < xs.length) : (revP xs j).getD p 0 = if p < j ∨ xs.length - j ≤ p then xs.getD (xs.length - 1 - p) 0 else xs.getD p 0 := by
  unfold revP
  simp [List.getD, hp]
theorem revP_zero (xs : List UInt8) : revP xs 0 = xs := by
  apply List.ext_getElem
  · exact revP_len _ _
  · intro p h1 h2
    have := revP_at xs 0 p h2
    rw [if_neg (by omega)] at this
    simpa [List.getD, h1, h2] using this
theorem revP_step (xs : List UInt8) (j k : Nat) (h : j + k + 1 = xs.length) (hjk : j < k) :
    ((revP xs j).set j ((revP xs j).getD k 0)).set k ((revP xs j).getD j 0) = revP xs (j + 1) := by
  apply List.ext_getElem
  · simp [revP_len]
  · intro p h1 h2
    have hp : p < xs.length := by rw [revP_len] at h2; exact h2
    have e2 : (revP xs (j + 1))[p] = (revP xs (j + 1)).getD p 0 := by simp [List.getD, h2]
    have e1 : ∀ h', (revP xs j)[p]'h' = (revP xs j).getD p 0 := fun h' => by simp [List.getD, h']
    rw [e2, revP_at xs (j + 1) p hp, List.getElem_set]
    by_cases hk : k = p
    · subst hk
      rw [if_pos rfl, if_pos (by omega), revP_at xs j j (by omega), if_neg (by omega)]
      congr 1; omega
    · rw [if_neg hk, List.getElem_set]
      by_cases hj : j = p
      · subst hj
        rw [if_pos rfl, if_pos (by omega), revP_at xs j k (by omega), if_neg (by omega)]
        congr 1; omega
      · rw [if_neg hj, e1, revP_at xs j p hp]
        by_cases hc : p < j ∨ xs.length - j ≤ p
        · rw [if_pos hc, if_pos (by omega)]
        · rw [if_neg hc, if_neg (by omega)]
theorem revP_end (xs : List UInt8) (j k : Nat) (h : j + k + 1 = xs.length) (hjk : ¬ j < k) : revP xs j = xs.reverse := by
  apply List.ext_getElem
  · simp [revP_len]
  · intro p h1 h2
    have hp : p < xs.length := by simpa using h2
    have := revP_at xs j p hp
    rw [List.getElem_reverse]
    have e : (revP xs j)[p] = (revP xs j).getD p 0 := by simp [List.getD, h1]
    rw [e, this]
    by_cases hc : p < j ∨ xs.length - j ≤ p
    · rw [if_pos hc]; simp [List.getD, show xs.length - 1 - p < xs.length by omega]
    · rw [if_neg hc]
      have : xs.length - 1 - p = p := by omega
      simp [List.getD, hp, this]

theorem tdiv_abs (m : Int) : (m.tdiv 10).natAbs = m.natAbs / 10 := by rw [Int.natAbs_tdiv]; rfl
theorem digR_more {N : Nat} {ds : List UInt8} {m : Int} (h : digR N = ds ++ digR m.natAbs) (hz : m.tdiv 10 ≠ 0) : digR N = (ds ++ [dig (m.natAbs % 10)]) ++ digR (m.tdiv 10).natAbs := by
  have := tdiv_abs m
  rw [h, digR_step m.natAbs, if_neg (by omega), this]; simp
theorem digR_last {N : Nat} {ds : List UInt8} {m : Int} (h : digR N = ds ++ digR m.natAbs) (hz : m.tdiv 10 = 0) : digR N = ds ++ [dig (m.natAbs % 10)] := by
  have := tdiv_abs m
  rw [h, digR_step m.natAbs, if_pos (by omega)]
theorem digR_len (N : Nat) : (digR N).length = (digs N).length := by unfold digs; simp
theorem digR_pos (N : Nat) : 1 ≤ (digR N).length := by rw [digR_len]; exact digs_pos N

/-- What is turned round at the end. -/
def outL (n : Int) : List UInt8 := if n < 0 then digR n.natAbs ++ [45] else digR n.natAbs
theorem outL_rev (n : Int) : (outL n).reverse = showL n := by
  unfold outL showL digs
  split <;> simp
theorem outL_neg {n : Int} (h : n < 0) : outL n = digR n.natAbs ++ [45] := by unfold outL; rw [if_pos h]
theorem outL_pos {n : Int} (h : ¬ n < 0) : outL n = digR n.natAbs := by unfold outL; rw [if_neg h]
theorem outL_len {n : Int} (h1 : -9223372036854775808 ≤ n) (h2 : n ≤ 9223372036854775807) : 1 ≤ (outL n).length ∧ (outL n).length ≤ 20 := by
  have := showL_len h1 h2
  rw [← outL_rev] at this
  simpa using this
end Go.Proofs.Ytnfefjjpifokpaa
