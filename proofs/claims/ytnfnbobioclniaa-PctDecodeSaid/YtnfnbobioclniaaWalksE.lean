/- The walks of layer 3's sets by the document's words: for every set and byte. -/
import Derived.Test.YtnfnbobioclniaaWalksB
import Derived.Test.YtnfnbobioclniaaWalksD
namespace Go.Proofs.Ytnfnbobioclniaa
open Go.RowKit

theorem size_len (s : ByteArray) : s.data.toList.length = s.size := by rw [Array.length_toList]; rfl
theorem take_snoc (s : ByteArray) (k : Nat) (h : k < s.size) : s.data.toList.take (k + 1) = s.data.toList.take k ++ [s[k]] := by
  rw [List.take_succ_eq_append_getElem (by simpa using h)]; rfl
theorem all_take_end (s : ByteArray) (k : Nat) (h : ¬ k < s.size) : s.data.toList.take k = s.data.toList := List.take_of_length_le (by rw [size_len]; omega)

set_option maxRecDepth 100000 in
theorem member_any (s : ByteArray) (c : UInt8) (w : World) (hs : s.size ≤ 1048576) :
    Calls Try.prog 19 #[.string s, .int .u8 c.toNat] w fun e w' => e = .returned (.bool (hasL s.data.toList c)) ∧ w = w' := by
  go_enter Try.func19, Try.ntmps19
  go_wp2
  go_loop [5] (fun i => ∃ k : Nat, k ≤ s.size ∧ i = .int .i64 k ∧ Hid (hasL (s.data.toList.take k) c = false)) (fun i => s.size - (intOf i).toNat)
  case atStart => exact ⟨0, Nat.zero_le _, rfl, rfl⟩
  case round =>
    obtain ⟨k, hk, rfl, hc⟩ := hrel
    by_cases hp : k < s.size
    · have HT := Lib.hid (take_snoc s k hp)
      by_cases hr : (s[k]'hp) = c
      · have HD := Lib.hid (show s.data.toList = s.data.toList.take k ++ s[k] :: s.data.toList.drop (k + 1) from by
          rw [← List.singleton_append, ← List.append_assoc, ← take_snoc s k hp, List.take_append_drop])
        have he : (((s[k]'hp).toNat : Int) == (c.toNat : Int)) = true := by rw [hr]; simp
        have HR := Lib.hid hr
        clear hr
        go_wp2
        go_ret
        exact ⟨ret_bool (by unfold hasL; rw [HD.out, List.any_append, List.any_cons, HR.out]; simp), rfl⟩
      · have he : (((s[k]'hp).toNat : Int) == (c.toNat : Int)) = false := by
          rw [beq_eq_false_iff_ne]; intro e; exact hr (UInt8.toNat_inj.1 (by omega))
        have HR := Lib.hid (show ((s[k]'hp) == c) = false by simpa using hr)
        clear hr
        go_wp2
        go_round
        case rel => exact ⟨k + 1, by omega, by go_num, by
                      show _ = _
                      have h := hc.out
                      unfold hasL at h ⊢
                      rw [HT.out, List.any_append, h]; simp [HR.out]⟩
        case measure => simp [intOf]; omega
    · have HE := Lib.hid (all_take_end s k hp)
      go_wp2
      go_ret
      have h := hc.out
      rw [HE.out] at h
      exact ⟨ret_bool (by rw [h]), rfl⟩
theorem member_is (s : ByteArray) (c : UInt8) (b : Bool) (w : World) (hs : s.size ≤ 1048576) (h : hasL s.data.toList c = b) :
    Calls Try.prog 19 #[.string s, .int .u8 c.toNat] w fun e w' => e = .returned (.bool b) ∧ w = w' := by subst h; exact member_any s c w hs

theorem hasL_app (a b : List UInt8) (c : UInt8) : hasL (a ++ b) c = (hasL a c || hasL b c) := by unfold hasL; rw [List.any_append]

theorem refin_lit (set : Int) (s : ByteArray) (c : UInt8) (w : World) (hl : low c = false) (h : (set = 0 ∧ s = ⟨#[]⟩) ∨ (set = 1 ∧ s = ⟨#[32, 34, 60, 62, 96]⟩) ∨ (set = 2 ∧ s = ⟨#[32, 34, 35, 39, 60, 62]⟩) ∨ (set = 3 ∧ s = ⟨#[32, 34, 35, 39, 60, 62, 63, 94, 96, 123, 125]⟩) ∨ (set = 4 ∧ s = ⟨#[32, 34, 35, 39, 60, 62, 63, 94, 96, 123, 125, 47, 58, 59, 61, 64, 91, 92, 93, 124]⟩)) (b : Bool) (hb : hasL s.data.toList c = b) :
    Calls Try.prog 11 #[.int .i64 set, .int .u8 c.toNat] w fun e w' => e = .returned (.bool b) ∧ w = w' := by
  have l1 : ¬ c.toNat ≤ 31 := by unfold low at hl; rw [Bool.or_eq_false_iff] at hl; have := of_decide_eq_false hl.1; omega
  have l2 : ¬ 127 ≤ c.toNat := by unfold low at hl; rw [Bool.or_eq_false_iff] at hl; have := of_decide_eq_false hl.2; omega
  clear hl
  have HB := Lib.hid hb
  clear hb
  rcases h with ⟨rfl, rfl⟩ | ⟨rfl, rfl⟩ | ⟨rfl, rfl⟩ | ⟨rfl, rfl⟩ | ⟨rfl, rfl⟩
  all_goals
    go_enter Try.func11, Try.ntmps11
    go_wp2_with fail
    refine (member_is _ c b _ (by decide) HB.out).mono ?_
    rintro e w' ⟨rfl, rfl⟩
    go_wp2
    go_ret
    exact ⟨rfl, rfl⟩
theorem refin_low (set : Int) (c : UInt8) (w : World) (h0 : 0 ≤ set) (h4 : set ≤ 4) (hl : low c = true) :
    Calls Try.prog 11 #[.int .i64 set, .int .u8 c.toNat] w fun e w' => e = .returned (.bool true) ∧ w = w' := by
  by_cases l1 : c.toNat ≤ 31
  · clear hl
    go_enter Try.func11, Try.ntmps11
    go_wp2
    go_ret
    exact ⟨rfl, rfl⟩
  · have l2 : 127 ≤ c.toNat := by
      unfold low at hl
      rw [decide_eq_false (show ¬ c.toNat < 32 by omega), Bool.false_or] at hl
      have := of_decide_eq_true hl; omega
    clear hl
    go_enter Try.func11, Try.ntmps11
    go_wp2
    go_ret
    exact ⟨rfl, rfl⟩
theorem refin_out (set : Int) (c : UInt8) (w : World) (h : set < 0 ∨ 4 < set) :
    Calls Try.prog 11 #[.int .i64 set, .int .u8 c.toNat] w fun e w' => e = .returned (.bool false) ∧ w = w' := by
  rcases h with h | h
  all_goals
    go_enter Try.func11, Try.ntmps11
    go_wp2
    go_ret
    exact ⟨rfl, rfl⟩
theorem inS_low {set : Int} {c : UInt8} (h0 : 0 ≤ set) (h4 : set ≤ 4) (hl : low c = true) : inS set c = true := by
  have h : set = 0 ∨ set = 1 ∨ set = 2 ∨ set = 3 ∨ set = 4 := by omega
  rcases h with rfl | rfl | rfl | rfl | rfl <;> simp [inS, in2, in3, hl]
theorem refin_any (set : Int) (c : UInt8) (w : World) :
    Calls Try.prog 11 #[.int .i64 set, .int .u8 c.toNat] w fun e w' => e = .returned (.bool (inS set c)) ∧ w = w' := by
  by_cases h0 : 0 ≤ set
  · by_cases h4 : set ≤ 4
    · cases hl : low c with
      | true => rw [inS_low h0 h4 hl]; exact refin_low set c w h0 h4 hl
      | false =>
        have h : set = 0 ∨ set = 1 ∨ set = 2 ∨ set = 3 ∨ set = 4 := by omega
        rcases h with rfl | rfl | rfl | rfl | rfl
        · exact refin_lit 0 ⟨#[]⟩ c w hl (by simp) _ (by simp [inS, hl, hasL])
        · exact refin_lit 1 ⟨#[32, 34, 60, 62, 96]⟩ c w hl (by simp) _ (by simp [inS, hl])
        · exact refin_lit 2 ⟨#[32, 34, 35, 39, 60, 62]⟩ c w hl (by simp) _ (by simp [inS, in2, hl])
        · exact refin_lit 3 ⟨#[32, 34, 35, 39, 60, 62, 63, 94, 96, 123, 125]⟩ c w hl (by simp) _ (by
            have := hasL_app [32, 34, 35, 39, 60, 62] [63, 94, 96, 123, 125] c
            simpa [inS, in3, in2, hl] using this)
        · exact refin_lit 4 ⟨#[32, 34, 35, 39, 60, 62, 63, 94, 96, 123, 125, 47, 58, 59, 61, 64, 91, 92, 93, 124]⟩ c w hl (by simp) _ (by
            have h1 := hasL_app [32, 34, 35, 39, 60, 62] [63, 94, 96, 123, 125] c
            have h2 := hasL_app ([32, 34, 35, 39, 60, 62] ++ [63, 94, 96, 123, 125]) [47, 58, 59, 61, 64, 91, 92, 93, 124] c
            rw [h1] at h2
            simpa [inS, in3, in2, hl] using h2)
    · have e : inS set c = false := by unfold inS; rw [if_neg (by omega), if_neg (by omega), if_neg (by omega), if_neg (by omega), if_neg (by omega)]
      rw [e]; exact refin_out set c w (by omega)
  · have e : inS set c = false := by unfold inS; rw [if_neg (by omega), if_neg (by omega), if_neg (by omega), if_neg (by omega), if_neg (by omega)]
    rw [e]; exact refin_out set c w (by omega)
end Go.Proofs.Ytnfnbobioclniaa
