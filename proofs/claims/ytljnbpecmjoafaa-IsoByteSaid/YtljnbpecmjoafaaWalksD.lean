/- The walk of layer 4's example (awake): it answers true, always. -/
import Derived.Test.YtljnbpecmjoafaaWalksC
namespace Go.Proofs.Ytljnbpecmjoafaa
open Go.RowKit

theorem below_then {a b c : World} (h : Below a.heap.size a b) (k : Below b.heap.size b c) : Below a.heap.size a c := h.trans (k.mono h.size)

theorem narB_wide (l : List UInt8) : narB ⟨(wideL l).toArray⟩ = ⟨l.toArray⟩ := by
  unfold narB
  simp only [fits_wide, nar_wide, if_true]

theorem aw1 (w : World) : Calls Try.prog 10 #[.string ⟨#[195, 169]⟩] w fun e w' => e = .returned (.tuple #[.string ⟨#[233]⟩, .bool true]) ∧ Below w.heap.size w w' := by
  have h := narrow_any ⟨#[195, 169]⟩ w (by decide)
  have e1 : narB ⟨#[195, 169]⟩ = ⟨#[233]⟩ := narB_wide [233]
  have e2 : fits [195, 169] = true := fits_wide [233]
  rw [e1] at h
  refine h.mono fun e w' ⟨he, hb⟩ => ⟨?_, hb⟩
  rw [he]
  show Ending.returned (.tuple #[_, .bool (fits [195, 169])]) = _
  rw [e2]

theorem aw2 (w : World) : Calls Try.prog 10 #[.string ⟨#[255]⟩] w fun e w' => e = .returned (.tuple #[.string ⟨#[]⟩, .bool false]) ∧ Below w.heap.size w w' := by
  have h := narrow_any ⟨#[255]⟩ w (by decide)
  have e2 : fits [255] = false := by
    unfold fits; rw [rn_cons _ (by simp), List.all_cons, decide_eq_false (by decide)]; rfl
  have e1 : narB ⟨#[255]⟩ = ⟨#[]⟩ := by
    unfold narB; rw [show ((⟨#[255]⟩ : ByteArray).data.toList) = [255] from rfl, e2]; rfl
  rw [e1] at h
  refine h.mono fun e w' ⟨he, hb⟩ => ⟨?_, hb⟩
  rw [he]
  show Ending.returned (.tuple #[_, .bool (fits [255])]) = _
  rw [e2]

theorem aw3 (w : World) : Calls Try.prog 13 #[.string ⟨#[233]⟩] w fun e w' => e = .returned (.string ⟨#[195, 169]⟩) ∧ Below w.heap.size w w' := wide_any ⟨#[233]⟩ w (by decide)

theorem aw4 (w : World) : Calls Try.prog 15 #[.string ⟨#[97, 195, 169]⟩] w fun e w' => e = .returned (.int .i64 2) ∧ Below w.heap.size w w' := by
  have h := count_any ⟨#[97, 195, 169]⟩ w (by decide)
  have e : rn [97, 195, 169] = [97, 233] := rn_wideL [97, 233]
  rw [show ((⟨#[97, 195, 169]⟩ : ByteArray).data.toList) = [97, 195, 169] from rfl, e] at h
  exact h

theorem aw5 (w : World) : Calls Try.prog 17 #[.string ⟨#[97]⟩] w fun e w' => e = .returned (.bool true) ∧ Below w.heap.size w w' := plain_any ⟨#[97]⟩ w
theorem aw6 (w : World) : Calls Try.prog 17 #[.string ⟨#[128]⟩] w fun e w' => e = .returned (.bool false) ∧ Below w.heap.size w w' := plain_any ⟨#[128]⟩ w

theorem awake_any (w : World) : Calls Try.prog 9 #[] w fun e w' => e = .returned (.bool true) ∧ Below w.heap.size w w' := by
  go_enter Try.func9, Try.ntmps9
  go_wp2_with fail
  refine (aw1 _).mono ?_
  rintro e w1 ⟨rfl, b1⟩
  go_wp2_with fail
  refine (aw2 _).mono ?_
  rintro e w2 ⟨rfl, b2⟩
  go_wp2_with fail
  refine (aw3 _).mono ?_
  rintro e w3 ⟨rfl, b3⟩
  go_wp2_with fail
  refine (aw4 _).mono ?_
  rintro e w4 ⟨rfl, b4⟩
  go_wp2_with fail
  refine (aw5 _).mono ?_
  rintro e w5 ⟨rfl, b5⟩
  go_wp2_with fail
  refine (aw6 _).mono ?_
  rintro e w6 ⟨rfl, b6⟩
  go_wp2
  go_ret
  exact ⟨rfl, below_then (below_then (below_then (below_then (below_then b1 b2) b3) b4) b5) b6⟩
end Go.Proofs.Ytljnbpecmjoafaa
