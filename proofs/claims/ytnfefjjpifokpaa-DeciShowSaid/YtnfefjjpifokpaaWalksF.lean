/- The walk of layer 2's example (awake): it answers true, always; and what the functions answer, in the forms in which the statements ask. -/
import Derived.Test.YtnfefjjpifokpaaWalksE
namespace Go.Proofs.Ytnfefjjpifokpaa
open Go.RowKit

theorem read_is (s : ByteArray) (most n : Int) (b : Bool) (w : World) (hs : s.size ≤ 1048576) (hm1 : -9223372036854775808 ≤ most) (hm2 : most ≤ 9223372036854775807) (hn : readN s.data.toList most = n) (hb : readOK s.data.toList most = b) :
    Calls Try.prog 10 #[.string s, .int .i64 most] w fun e w' => e = .returned (.tuple #[.int .i64 n, .bool b]) ∧ w = w' := by
  subst hn; subst hb
  exact read_any s most w hs hm1 hm2
theorem refread_is (s : ByteArray) (most n : Int) (b : Bool) (w : World) (hs : s.size ≤ 1048576) (hm1 : -9223372036854775808 ≤ most) (hm2 : most ≤ 9223372036854775807) (hn : readN s.data.toList most = n) (hb : readOK s.data.toList most = b) :
    Calls Try.prog 11 #[.string s, .int .i64 most] w fun e w' => e = .returned (.tuple #[.int .i64 n, .bool b]) ∧ Below w.heap.size w w' := by
  subst hn; subst hb
  exact refread_any s most w hs hm1 hm2
theorem plain_is (s : ByteArray) (b : Bool) (w : World) (hs : s.size ≤ 1048576) (hb : plainD s.data.toList = b) : Calls Try.prog 15 #[.string s] w fun e w' => e = .returned (.bool b) ∧ w = w' := by
  subst hb; exact plain_any s w hs

/-- A number, shown. -/
def shB (n : Int) : ByteArray := ⟨(showL n).toArray⟩
theorem show_of (n : Int) (w : World) (h1 : -9223372036854775808 ≤ n) (h2 : n ≤ 9223372036854775807) : Calls Try.prog 13 #[.int .i64 n] w fun e w' => e = .returned (.string (shB n)) ∧ Below w.heap.size w w' := show_any n w h1 h2
theorem refshow_of (n : Int) (w : World) (h1 : -9223372036854775808 ≤ n) (h2 : n ≤ 9223372036854775807) : Calls Try.prog 14 #[.int .i64 n] w fun e w' => e = .returned (.string (shB n)) ∧ Below w.heap.size w w' := refshow_any n w h1 h2
theorem show_is (n : Int) (t : ByteArray) (w : World) (h1 : -9223372036854775808 ≤ n) (h2 : n ≤ 9223372036854775807) (ht : shB n = t) : Calls Try.prog 13 #[.int .i64 n] w fun e w' => e = .returned (.string t) ∧ Below w.heap.size w w' := by
  subst ht; exact show_of n w h1 h2

theorem sh120 : shB (-120) = ⟨#[45, 49, 50, 48]⟩ := by
  unfold shB showL
  rw [if_pos (by decide)]
  have : digs (val [49, 50, 48]) = [49, 50, 48] := digs_unique _ 3 (by decide) (by decide) (by decide) (by decide)
  have hv : val [49, 50, 48] = (-120 : Int).natAbs := by decide
  rw [← hv, this]
theorem sh0 : shB 0 = ⟨#[48]⟩ := by
  unfold shB showL
  rw [if_neg (by decide)]
  show (⟨(digs 0).toArray⟩ : ByteArray) = _
  rw [digs_zero]

theorem awake_any (w : World) : Calls Try.prog 9 #[] w fun e w' => e = .returned (.bool true) ∧ Below w.heap.size w w' := by
  go_enter Try.func9, Try.ntmps9
  go_wp2_with fail
  refine (read_is ⟨#[48, 48, 56, 48]⟩ 65535 80 true _ (by decide) (by decide) (by decide) (by decide) (by decide)).mono ?_
  rintro e w1 ⟨rfl, rfl⟩
  go_wp2_with fail
  refine (read_is ⟨#[54, 53, 53, 51, 54]⟩ 65535 0 false _ (by decide) (by decide) (by decide) (by decide) (by decide)).mono ?_
  rintro e w1 ⟨rfl, rfl⟩
  go_wp2_with fail
  refine (show_is (-120) _ _ (by decide) (by decide) sh120).mono ?_
  rintro e w1 ⟨rfl, b1⟩
  go_wp2_with fail
  refine (show_is 0 _ _ (by decide) (by decide) sh0).mono ?_
  rintro e w2 ⟨rfl, b2⟩
  go_wp2_with fail
  refine (plain_is ⟨#[48, 55]⟩ true _ (by decide) (by decide)).mono ?_
  rintro e w3 ⟨rfl, rfl⟩
  go_wp2_with fail
  refine (plain_is ⟨#[]⟩ false _ (by decide) (by decide)).mono ?_
  rintro e w3 ⟨rfl, rfl⟩
  go_wp2
  go_ret
  exact ⟨rfl, below_then b1 b2⟩
end Go.Proofs.Ytnfefjjpifokpaa
