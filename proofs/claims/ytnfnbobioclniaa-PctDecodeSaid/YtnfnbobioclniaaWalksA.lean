/- The walks of layer 3's asking whether a text has a byte: for every text and byte. -/
import Derived.Test.YtnfnbobioclniaaRows
import Derived.Test.YtnfnbobioclniaaPure
import Derived.WalkKit
import Derived.WalkLawsBesides
import Derived.WalkSmall
import Derived.WalkSpells
import Derived.Laws.EntriesVeiled
import Derived.Lib.Hide
import Derived.Lib.Bytealg
import Derived.Outline
namespace Go.Proofs.Ytnfnbobioclniaa
open Go.RowKit

theorem ret_bool {a b : Bool} (h : a = b) : Ending.returned (.bool a) = .returned (.bool b) := by rw [h]

theorem idx_no : ∀ (l : List UInt8) (c : UInt8), l.any (· == c) = false → Lib.indexByte l c = -1
  | [], _, _ => rfl
  | b :: l, c, h => by
    rw [List.any_cons, Bool.or_eq_false_iff] at h
    unfold Lib.indexByte
    rw [h.1, idx_no l c h.2]; rfl
theorem idx_yes : ∀ (l : List UInt8) (c : UInt8), l.any (· == c) = true → 0 ≤ Lib.indexByte l c
  | b :: l, c, h => by
    unfold Lib.indexByte
    cases hb : b == c with
    | true => simp
    | false =>
      rw [List.any_cons, hb, Bool.false_or] at h
      have := idx_yes l c h
      have hn : (Lib.indexByte l c == -1) = false := by rw [beq_eq_false_iff_ne]; omega
      rw [hn]; simp; omega

theorem index_any (s : ByteArray) (c : UInt8) (w : World) :
    Calls Try.prog 31 #[.string s, .int .u8 c.toNat] w fun e w' => e = .returned (.int .i64 (Lib.indexByte s.data.toList c)) ∧ w = w' := by
  go_enter Try.func31, Try.ntmps31
  go_wp2
  rw [run_callFunc_extern Try.func36 (by kernel_rfl) (by kernel_rfl) (by kernel_rfl) (e := Extern.BytealgIndexByte.indexByte) (by kernel_rfl), Lib.run_indexByteString]
  simp only [Result.andThen]
  rw [Oper.upon_value]
  go_wp2
  go_ret
  exact ⟨by simp, rfl⟩

theorem has_any (s : ByteArray) (c : UInt8) (a : Addr) (w : World) (hc : w.cell? a = some (.int .u8 c.toNat)) :
    Calls Try.prog 20 #[.string s, .pointer (some a)] w fun e w' => e = .returned (.bool (s.data.toList.any (· == c))) ∧ w = w' := by
  cases h : s.data.toList.any (· == c) with
  | true =>
    have hi := idx_yes _ _ h
    clear h
    go_enter Try.func20, Try.ntmps20
    go_wp2_with fail
    go_in
    go_wp2_with fail
    refine (index_any s c _).mono ?_
    rintro e w' ⟨rfl, rfl⟩
    go_wp2
    go_ret
    exact ⟨ret_bool (by first | rfl | simp | (simp; omega)), rfl⟩
  | false =>
    have hi := idx_no _ _ h
    clear h
    go_enter Try.func20, Try.ntmps20
    go_wp2_with fail
    go_in
    go_wp2_with fail
    refine (index_any s c _).mono ?_
    rintro e w' ⟨rfl, rfl⟩
    go_wp2
    go_ret
    exact ⟨ret_bool (by first | rfl | (rw [hi]; rfl)), rfl⟩
end Go.Proofs.Ytnfnbobioclniaa
