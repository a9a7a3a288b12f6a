/- The walk of layer 2's reading of numbers: for every text of at most 1048576 bytes, and every bound. -/
import Derived.Test.YtnfefjjpifokpaaWalksB
namespace Go.Proofs.Ytnfefjjpifokpaa
open Go.RowKit

theorem val_take_le (a b : List UInt8) : val a ≤ val (a ++ b) := by
  rw [val_append]
  have : val a * 1 ≤ val a * 10 ^ b.length := Nat.mul_le_mul_left _ (Nat.pow_pos (by omega))
  omega

def RdPost (s : ByteArray) (most : Int) (e : Ending) : Prop := e = .returned (.tuple #[.int .i64 (readN s.data.toList most), .bool (readOK s.data.toList most)])

theorem rd_no {s : ByteArray} {most : Int} (h : readOK s.data.toList most = false) : RdPost s most (.returned (.tuple #[.int .i64 0, .bool false])) := by
  unfold RdPost readN; rw [h]; rfl
theorem rd_yes {s : ByteArray} {most n : Int} (h : readOK s.data.toList most = true) (hn : n = (val s.data.toList : Int)) : RdPost s most (.returned (.tuple #[.int .i64 n, .bool true])) := by
  unfold RdPost readN; rw [h, hn]; rfl

theorem ok_over {s : ByteArray} {most : Int} {k : Nat} (hp : k < s.size) (h : ¬ ((10 * val (s.data.toList.take k) + valD (s[k]'hp) : Nat) : Int) ≤ most) : readOK s.data.toList most = false := by
  have h1 := val_take_le (s.data.toList.take (k + 1)) (s.data.toList.drop (k + 1))
  rw [List.take_append_drop, take_snoc s k hp, val_snoc] at h1
  unfold readOK
  rw [decide_eq_false (by omega), Bool.and_false]

set_option maxRecDepth 100000 in
set_option maxHeartbeats 400000 in
theorem read_any (s : ByteArray) (most : Int) (w : World) (hs : s.size ≤ 1048576) (hm1 : -9223372036854775808 ≤ most) (hm2 : most ≤ 9223372036854775807) :
    Calls Try.prog 10 #[.string s, .int .i64 most] w fun e w' => RdPost s most e ∧ w = w' := by
  cases hp : plainD s.data.toList with
  | false =>
    have hr : readOK s.data.toList most = false := by unfold readOK; rw [hp]; rfl
    have HR := Lib.hid hr
    have HP := Lib.hid hp
    clear hr hp
    go_enter Try.func10, Try.ntmps10
    go_wp2_with (go_at_call 15; refine (plain_any s _ hs).mono ?_; rw [HP.out]; rintro e w' ⟨rfl, rfl⟩)
    go_ret2
    exact ⟨rd_no HR.out, rfl⟩
  | true =>
    by_cases hneg : most < 0
    · have hr : readOK s.data.toList most = false := by unfold readOK; rw [decide_eq_false (by omega), Bool.and_false]
      have HR := Lib.hid hr
      have HP := Lib.hid hp
      clear hr hp
      go_enter Try.func10, Try.ntmps10
      go_wp2_with (go_at_call 15; refine (plain_any s _ hs).mono ?_; rw [HP.out]; rintro e w' ⟨rfl, rfl⟩)
      go_ret2
      exact ⟨rd_no HR.out, rfl⟩
    · have HP := Lib.hid hp
      have HA : Hid (∀ k (h : k < s.size), isD (s[k]'h) = true) := by
        intro k h
        unfold plainD at hp
        rw [Bool.and_eq_true, List.all_eq_true] at hp
        exact hp.1 _ (Array.getElem_mem_toList (xs := s.data) h)
      clear hp
      go_enter Try.func10, Try.ntmps10
      go_wp2_with (go_at_call 15; refine (plain_any s _ hs).mono ?_; rw [HP.out]; rintro e w' ⟨rfl, rfl⟩)
      go_loop [6, 18] (fun n i => ∃ k acc : Nat, k ≤ s.size ∧ i = .int .i64 k ∧ n = .int .i64 acc ∧ (acc : Int) ≤ most ∧ Hid (acc = val (s.data.toList.take k))) (fun _ i => s.size - (intOf i).toNat)
      case atStart => exact ⟨0, 0, Nat.zero_le _, rfl, rfl, by omega, rfl⟩
      case round =>
        obtain ⟨k, acc, hk, rfl, rfl, hle, hacc⟩ := hrel
        by_cases hlt : k < s.size
        · obtain ⟨c1, c2⟩ := (isD_iff _).1 (HA.out k hlt)
          have HN := Lib.hid (take_snoc s k hlt)
          by_cases hfit : 10 * (acc : Int) + ((s[k]'hlt).toNat : Int) - 48 ≤ most
          · go_wp2
            go_round
            case rel => exact ⟨k + 1, 10 * acc + ((s[k]'hlt).toNat - 48), by omega, by go_num, by go_num, by omega, by show _ = _; rw [HN.out, val_snoc, ← hacc.out]; rfl⟩
            case measure => simp [intOf]; omega
          · have HO := Lib.hid (ok_over (s := s) (most := most) hlt (by rw [← hacc.out]; unfold valD; omega))
            by_cases hd : ((s[k]'hlt).toNat : Int) - 48 ≤ most
            · go_wp2
              go_ret2
              exact ⟨rd_no HO.out, rfl⟩
            · have ht : (most - (((s[k]'hlt).toNat : Int) - 48)).tdiv 10 = 0 := by
                rw [show most - (((s[k]'hlt).toNat : Int) - 48) = -(((s[k]'hlt).toNat : Int) - 48 - most) by omega, Int.neg_tdiv, Int.tdiv_eq_zero_of_lt (by omega) (by omega)]; rfl
              by_cases h0 : acc ≤ 0
              · go_wp2
                go_ret2
                exact ⟨rd_no HO.out, rfl⟩
              · go_wp2
                go_ret2
                exact ⟨rd_no HO.out, rfl⟩
        · have hE := all_take_end s k hlt
          rw [hE] at hacc
          have HOK : Hid (readOK s.data.toList most = true) := by
            have := hacc.out
            show _ = _
            unfold readOK; rw [HP.out, decide_eq_true (by omega)]; rfl
          clear hE
          go_wp2
          go_ret2
          exact ⟨rd_yes HOK.out (by rw [hacc.out]), rfl⟩
end Go.Proofs.Ytnfefjjpifokpaa
