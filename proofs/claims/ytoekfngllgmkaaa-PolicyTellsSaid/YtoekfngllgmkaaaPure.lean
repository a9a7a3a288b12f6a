/- The plain law of layer 15: what policies allow, as a table; no program in sight. No condition. -/
namespace Go.Proofs.Ytoekfngllgmkaaa

/-- The policy that counts. -/
def us (p : Int) : Int := if p ≤ 0 ∨ 9 ≤ p then 7 else p
/-- What policy u allows: the same; another origin; down; both. -/
def row (u : Int) : Int × Int × Int × Int :=
  if u = 1 then (0, 0, 0, 0) else if u = 2 then (2, 2, 0, 0) else if u = 3 then (2, 0, 2, 0) else if u = 4 then (1, 1, 1, 1)
  else if u = 5 then (1, 1, 0, 0) else if u = 6 then (2, 1, 2, 1) else if u = 7 then (2, 1, 2, 0) else (2, 2, 2, 2)
def pick (r : Int × Int × Int × Int) (s d : Bool) : Int :=
  match s, d with
  | true, false => r.1
  | false, false => r.2.1
  | true, true => r.2.2.1
  | false, true => r.2.2.2
def al (p : Int) (s d : Bool) : Int := pick (row (us p)) s d
def mt (a b : Int) : Int := if a < 0 ∨ b < 0 ∨ 2 < a ∨ 2 < b then 0 else if a < b then a else b
def mo (p : Int) : Int := al p true false
def st (p q : Int) : Bool := decide (al p true false ≤ al q true false) && decide (al p false false ≤ al q false false) && decide (al p true true ≤ al q true true) && decide (al p false true ≤ al q false true)

theorem us_cases (p : Int) : us p = 1 ∨ us p = 2 ∨ us p = 3 ∨ us p = 4 ∨ us p = 5 ∨ us p = 6 ∨ us p = 7 ∨ us p = 8 := by
  unfold us; split <;> omega
theorem us_us (p : Int) : us (us p) = us p := by
  have := us_cases p
  generalize us p = u at this
  unfold us; split <;> omega
theorem al_us (p : Int) (s d : Bool) : al (us p) s d = al p s d := by unfold al; rw [us_us]
theorem us_lo (p : Int) : 1 ≤ us p ∧ us p ≤ 8 := by have := us_cases p; omega
theorem us_in {p : Int} (h1 : 1 ≤ p) (h2 : p ≤ 8) : us p = p := by unfold us; rw [if_neg (by omega)]
theorem us_out {p : Int} (h : p ≤ 0 ∨ 9 ≤ p) : us p = 7 := by unfold us; rw [if_pos h]
/-- Whatever holds of the eight rows holds of each policy. -/
theorem al_by {p : Int} (Q : (Bool → Bool → Int) → Prop) (h : ∀ u : Int, (u = 1 ∨ u = 2 ∨ u = 3 ∨ u = 4 ∨ u = 5 ∨ u = 6 ∨ u = 7 ∨ u = 8) → Q (pick (row u))) : Q (al p) := by
  have := h (us p) (us_cases p)
  exact this

theorem al_lo (p : Int) (s d : Bool) : 0 ≤ al p s d ∧ al p s d ≤ 2 := by
  refine al_by (p := p) (fun f => 0 ≤ f s d ∧ f s d ≤ 2) fun u hu => ?_
  rcases hu with rfl | rfl | rfl | rfl | rfl | rfl | rfl | rfl <;> revert s d <;> decide
theorem al_same (p : Int) (s d : Bool) : al p s d ≤ al p true d := by
  refine al_by (p := p) (fun f => f s d ≤ f true d) fun u hu => ?_
  rcases hu with rfl | rfl | rfl | rfl | rfl | rfl | rfl | rfl <;> revert s d <;> decide
theorem al_down (p : Int) (s d : Bool) : al p s d ≤ al p s false := by
  refine al_by (p := p) (fun f => f s d ≤ f s false) fun u hu => ?_
  rcases hu with rfl | rfl | rfl | rfl | rfl | rfl | rfl | rfl <;> revert s d <;> decide
theorem al_most (p : Int) (s d : Bool) : al p s d ≤ mo p := Int.le_trans (al_same p s d) (al_down p true d)

theorem st_iff (p q : Int) : st p q = true ↔ ∀ s d, al p s d ≤ al q s d := by
  unfold st
  simp only [Bool.and_eq_true, decide_eq_true_eq]
  constructor
  · rintro ⟨⟨⟨h1, h2⟩, h3⟩, h4⟩ s d
    cases s <;> cases d <;> assumption
  · intro h; exact ⟨⟨⟨h _ _, h _ _⟩, h _ _⟩, h _ _⟩
theorem st_refl (p : Int) : st p p = true := (st_iff p p).2 fun _ _ => Int.le_refl _
theorem st_trans {p q k : Int} (h1 : st p q = true) (h2 : st q k = true) : st p k = true := (st_iff p k).2 fun s d => Int.le_trans ((st_iff p q).1 h1 s d) ((st_iff q k).1 h2 s d)
theorem al_one (s d : Bool) : al 1 s d = 0 := by revert s d; decide
theorem al_eight (s d : Bool) : al 8 s d = 2 := by revert s d; decide
theorem st_first (p : Int) : st 1 p = true := (st_iff 1 p).2 fun s d => by rw [al_one]; exact (al_lo p s d).1
theorem st_last (p : Int) : st p 8 = true := (st_iff p 8).2 fun s d => by rw [al_eight]; exact (al_lo p s d).2

/-- No two policies that have names allow the same in all ways. -/
theorem al_apart {p q : Int} (hp1 : 1 ≤ p) (hp2 : p ≤ 8) (hq1 : 1 ≤ q) (hq2 : q ≤ 8) (h1 : st p q = true) (h2 : st q p = true) : p = q := by
  have h : ∀ s d, al p s d = al q s d := fun s d => Int.le_antisymm ((st_iff p q).1 h1 s d) ((st_iff q p).1 h2 s d)
  have a := h true false
  have b := h false false
  have c := h true true
  have e := h false true
  unfold al at a b c e
  rw [us_in hp1 hp2, us_in hq1 hq2] at a b c e
  have hp : p = 1 ∨ p = 2 ∨ p = 3 ∨ p = 4 ∨ p = 5 ∨ p = 6 ∨ p = 7 ∨ p = 8 := by omega
  have hq : q = 1 ∨ q = 2 ∨ q = 3 ∨ q = 4 ∨ q = 5 ∨ q = 6 ∨ q = 7 ∨ q = 8 := by omega
  rcases hp with rfl | rfl | rfl | rfl | rfl | rfl | rfl | rfl <;> rcases hq with rfl | rfl | rfl | rfl | rfl | rfl | rfl | rfl <;> revert a b c e <;> decide

theorem mt_comm (a b : Int) : mt a b = mt b a := by unfold mt; split <;> split <;> (try split) <;> (try split) <;> omega
theorem mt_assoc (a b c : Int) : mt (mt a b) c = mt a (mt b c) := by
  unfold mt; repeat' split
  all_goals omega
theorem mt_full {a : Int} (h1 : 0 ≤ a) (h2 : a < 3) : mt a 2 = a := by
  unfold mt; repeat' split
  all_goals omega
theorem mt_self {a : Int} (h1 : 0 ≤ a) (h2 : a < 3) : mt a a = a := by
  unfold mt; repeat' split
  all_goals omega
theorem mo_zero (p : Int) : mo p = 0 ↔ p = 1 := by
  constructor
  · intro h
    have h2 : us p = 1 := by
      unfold mo al at h
      rcases us_cases p with e | e | e | e | e | e | e | e <;> rw [e] at h ⊢ <;> revert h <;> decide
    unfold us at h2; split at h2 <;> omega
  · rintro rfl; decide
theorem mo_one (p : Int) : mo p = 1 ↔ (p = 4 ∨ p = 5) := by
  constructor
  · intro h
    have h2 : us p = 4 ∨ us p = 5 := by
      unfold mo al at h
      rcases us_cases p with e | e | e | e | e | e | e | e <;> rw [e] at h ⊢ <;> revert h <;> decide
    unfold us at h2; split at h2 <;> omega
  · rintro (rfl | rfl) <;> decide
end Go.Proofs.Ytoekfngllgmkaaa
