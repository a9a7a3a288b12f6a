/- The walk of layer 2's reading of numbers as the document has it: for every text of at most 1048576 bytes, and every bound. -/
import Derived.Test.YtnfefjjpifokpaaWalksD
namespace Go.Proofs.Ytnfefjjpifokpaa
open Go.RowKit

theorem ext1_list (t : ByteArray) : (t.extract 1 t.size).data.toList = t.data.toList.drop 1 := by
  rw [ByteArray.data_extract, Array.toList_extract]
  show (t.data.toList.drop 1).take (t.size - 1) = _
  apply List.take_of_length_le
  rw [List.length_drop, size_len]; omega
theorem ext1_size (t : ByteArray) : (t.extract 1 t.size).size = t.size - 1 := by
  rw [← size_len, ext1_list, List.length_drop, size_len]

theorem cons_of (t : ByteArray) (h : 0 < t.size) : t.data.toList = t[0]'h :: t.data.toList.drop 1 := by
  rw [← List.drop_zero (l := t.data.toList), List.drop_eq_getElem_cons (by rw [size_len]; exact h)]
  rfl

/-- What the first loop holds: the text without some noughts ahead. -/
def StR (s t : ByteArray) : Prop := t.data.toList.all isD = true ∧ t.size ≠ 0 ∧ strip t.data.toList = strip s.data.toList ∧ t.size ≤ s.size

theorem strip_zero {t : ByteArray} (h : 1 < t.size) (h0 : t[0].toNat = 48) : strip t.data.toList = strip (t.data.toList.drop 1) := by
  have e := cons_of t (by omega)
  have hl : t.data.toList.length = t.size := size_len t
  have h48 : t[0] = 48 := UInt8.toNat_inj.1 h0
  rw [e]
  match hd : t.data.toList.drop 1 with
  | [] =>
    rw [e, hd] at hl; simp at hl; omega
  | d :: r => simp [strip, h48]
theorem strip_stop {t : ByteArray} (h : t.size ≠ 0) (h0 : 1 < t.size → ∀ h', (t[0]'h').toNat ≠ 48) : strip t.data.toList = t.data.toList := by
  have e := cons_of t (by omega)
  have hl : t.data.toList.length = t.size := size_len t
  rw [e]
  match hd : t.data.toList.drop 1 with
  | [] => simp [strip]
  | d :: r =>
    have h1 : 1 < t.size := by rw [e, hd] at hl; simp at hl; omega
    have h48 : t[0] ≠ 48 := fun e => h0 h1 (by omega) (by rw [e]; rfl)
    unfold strip
    rw [if_neg h48]
theorem stR_step {s t : ByteArray} (h : StR s t) (h1 : 1 < t.size) (h0 : t[0].toNat = 48) : StR s (t.extract 1 t.size) := by
  obtain ⟨a, b, c, d⟩ := h
  refine ⟨?_, by rw [ext1_size]; omega, by rw [ext1_list, ← strip_zero h1 h0]; exact c, by rw [ext1_size]; omega⟩
  rw [ext1_list, List.all_eq_true]
  rw [List.all_eq_true] at a
  exact fun x hx => a x (List.mem_of_mem_drop hx)

/-- What the comparing answers. -/
def lastB (most : Int) : ByteArray := ⟨(digs most.toNat).toArray⟩
theorem cmp_over {s t : ByteArray} {most : Int} (hp : plainD s.data.toList = true) (hm : 0 ≤ most) (ht : t.data.toList = strip s.data.toList) :
    (decide (t.size > (lastB most).size) || (decide (t.size = (lastB most).size) && !(Op.bytesLess t.toList (lastB most).toList || t.toList == (lastB most).toList))) = !readOK s.data.toList most := by
  have h := ref_cmp hp most.toNat
  have e2 : (lastB most).size = (digs most.toNat).length := by rw [← size_len]; rfl
  have e3 : (lastB most).toList = digs most.toNat := by rw [toList_data]; rfl
  rw [← ht, size_len, ← e2, ← toList_data, ← e3] at h
  rw [h]
  unfold readOK
  rw [hp, Bool.true_and]
  congr 1
  by_cases hv : val s.data.toList ≤ most.toNat
  · rw [decide_eq_true hv, decide_eq_true (by omega)]
  · rw [decide_eq_false hv, decide_eq_false (by omega)]

theorem lastB_size {most : Int} (h : most ≤ 9223372036854775807) : (lastB most).size ≤ 19 := by
  have := digs_len_19 (n := most.toNat) (by omega)
  rw [← size_len]; exact this
theorem strip_val {l : List UInt8} (h : plainD l = true) : val (strip l) = val l := by
  unfold plainD at h
  rw [Bool.and_eq_true] at h
  exact (strip_facts l h.1 (by intro e; subst e; simp at h)).1

theorem wrap_back {a c most : Int} (h0 : 0 ≤ a) (hc : 48 ≤ c) (hc2 : c ≤ 57) (h : 10 * a + c - 48 ≤ most) (hm : most ≤ 9223372036854775807) : wrap64 (wrap64 (10 * a + c) - 48) = 10 * a + (c - 48) := by
  unfold wrap64; omega

set_option maxRecDepth 100000 in
set_option maxHeartbeats 400000 in
theorem refread_any (s : ByteArray) (most : Int) (w : World) (hs : s.size ≤ 1048576) (hm1 : -9223372036854775808 ≤ most) (hm2 : most ≤ 9223372036854775807) :
    Calls Try.prog 11 #[.string s, .int .i64 most] w fun e w' => RdPost s most e ∧ Below w.heap.size w w' := by
  cases hp : plainD s.data.toList with
  | false =>
    have hr : readOK s.data.toList most = false := by unfold readOK; rw [hp]; rfl
    have HR := Lib.hid hr
    have HP := Lib.hid hp
    clear hr hp
    go_enter Try.func11, Try.ntmps11
    go_wp2_with (go_at_call 12; refine (refplain_any s _ hs).mono ?_; rw [HP.out]; rintro e w' ⟨rfl, rfl⟩)
    go_ret2
    exact ⟨rd_no HR.out, Below.refl _ _⟩
  | true =>
    by_cases hneg : most < 0
    · have hr : readOK s.data.toList most = false := by unfold readOK; rw [decide_eq_false (by omega), Bool.and_false]
      have HR := Lib.hid hr
      have HP := Lib.hid hp
      clear hr hp
      go_enter Try.func11, Try.ntmps11
      go_wp2_with (go_at_call 12; refine (refplain_any s _ hs).mono ?_; rw [HP.out]; rintro e w' ⟨rfl, rfl⟩)
      go_ret2
      exact ⟨rd_no HR.out, Below.refl _ _⟩
    · have HP := Lib.hid hp
      have HA : Hid (StR s s) := by
        unfold plainD at hp
        rw [Bool.and_eq_true] at hp
        refine ⟨hp.1, fun e => ?_, rfl, Nat.le_refl _⟩
        rw [← size_len, List.length_eq_zero_iff] at e
        rw [e] at hp; simp at hp
      clear hp
      go_enter Try.func11, Try.ntmps11
      go_wp2_with (go_at_call 12; refine (refplain_any s _ hs).mono ?_; rw [HP.out]; rintro e w' ⟨rfl, rfl⟩)
      go_loop [0] (fun v => ∃ t : ByteArray, v = .string t ∧ Hid (StR s t)) (fun v => szOf v)
      case atStart => exact ⟨s, rfl, HA⟩
      case round =>
        obtain ⟨t, rfl, HT⟩ := hrel
        have hts : t.size ≤ 1048576 := by have := HT.out.2.2.2; omega
        have hpos : 0 < t.size := by have := HT.out.2.1; omega
        by_cases h1 : 1 < t.size
        · by_cases h48 : (t[0]'hpos).toNat = 48
          · have h48' : (((t[0]'hpos).toNat : Int) == 48) = true := by rw [h48]; rfl
            have H48 := Lib.hid h48
            clear h48
            go_wp2
            go_round
            case rel => exact ⟨_, rfl, stR_step HT.out h1 H48.out⟩
            case measure => simp only [szOf]; rw [ext1_size]; omega
          · have H48 : Hid ((t[0]'hpos).toNat ≠ 48) := h48
            have h48' : (((t[0]'hpos).toNat : Int) == 48) = false := by rw [beq_eq_false_iff_ne]; omega
            clear h48
            have HTS := Lib.hid ((strip_stop HT.out.2.1 (by first | (intro _ _; exact H48.out) | (intro h; omega))).symm.trans HT.out.2.2.1)
            have HSH : ∀ w1 : World, Calls Try.prog 14 #[.int .i64 most] w1 fun e w' => e = .returned (.string (lastB most)) ∧ Below w1.heap.size w1 w' := by
              intro w1
              have := refshow_any most w1 hm1 hm2
              rw [showL_nonneg (by omega)] at this
              exact this
            have HCM := Lib.hid (cmp_over (most := most) HP.out (by omega) HTS.out)
            have hll : (lastB most).size ≤ 19 := lastB_size hm2
            by_cases hz1 : (lastB most).size < t.size
            · have HNO : Hid (readOK s.data.toList most = false) := by
                have h := HCM.out
                rw [decide_eq_true (show t.size > (lastB most).size from hz1), Bool.true_or] at h
                show _ = _
                cases hr : readOK s.data.toList most with
                | false => rfl
                | true => rw [hr] at h; cases h
              go_wp2_with (go_at_call 14; refine (HSH _).mono ?_; rintro e w2 ⟨rfl, b2⟩)
              go_ret2
              exact ⟨rd_no HNO.out, b2⟩
            · by_cases hz2 : t.size = (lastB most).size
              · cases hg : (Op.bytesLess t.toList (lastB most).toList || t.toList == (lastB most).toList) with
                | false =>
                  have HNO : Hid (readOK s.data.toList most = false) := by
                    have h := HCM.out
                    rw [decide_eq_true hz2, hg, decide_eq_false (show ¬ t.size > (lastB most).size by omega)] at h
                    show _ = _
                    cases hr : readOK s.data.toList most with
                    | false => rfl
                    | true => rw [hr] at h; cases h
                  have hz2' : ((t.size : Int) == ((lastB most).size : Int)) = true := by rw [hz2]; simp
                  clear hz2
                  go_wp2_with (go_at_call 14; refine (HSH _).mono ?_; rintro e w2 ⟨rfl, b2⟩)
                  go_ret2
                  exact ⟨rd_no HNO.out, b2⟩
                | true =>
                  have HOK : Hid (readOK s.data.toList most = true) := by
                    have h := HCM.out
                    rw [decide_eq_true hz2, hg, decide_eq_false (show ¬ t.size > (lastB most).size by omega)] at h
                    show _ = _
                    cases hr : readOK s.data.toList most with
                    | true => rfl
                    | false => rw [hr] at h; cases h
                  have hz2' : ((t.size : Int) == ((lastB most).size : Int)) = true := by rw [hz2]; simp
                  clear hz2
                  go_wp2_with (go_at_call 14; refine (HSH _).mono ?_; rintro e w2 ⟨rfl, b2⟩)
                  have HLE : Hid ((val t.data.toList : Int) ≤ most) := by
                    have h := HOK.out
                    unfold readOK at h
                    rw [Bool.and_eq_true] at h
                    have h2 := of_decide_eq_true h.2
                    have := HT.out
                    show _ ≤ _
                    rw [HTS.out, strip_val HP.out]; exact h2
                  have HDG : Hid (∀ k (h : k < t.size), isD (t[k]'h) = true) := by
                    intro k h
                    have := HT.out.1
                    rw [List.all_eq_true] at this
                    exact this _ (Array.getElem_mem_toList (xs := t.data) h)
                  go_loop [8, 9] (fun n i => ∃ k acc : Nat, k ≤ t.size ∧ i = .int .i64 k ∧ n = .int .i64 acc ∧ Hid (acc = val (t.data.toList.take k))) (fun _ i => t.size - (intOf i).toNat)
                  case atStart => exact ⟨0, 0, Nat.zero_le _, rfl, rfl, rfl⟩
                  case round =>
                    obtain ⟨k, acc, hk, rfl, rfl, hacc⟩ := hrel
                    by_cases hlt : k < t.size
                    · obtain ⟨c1, c2⟩ := (isD_iff _).1 (HDG.out k hlt)
                      have HN := Lib.hid (take_snoc t k hlt)
                      have hv : (10 * acc + ((t[k]'hlt).toNat - 48) : Nat) ≤ val t.data.toList := by
                        have h1 := val_take_le (t.data.toList.take (k + 1)) (t.data.toList.drop (k + 1))
                        rw [List.take_append_drop, take_snoc t k hlt, val_snoc] at h1
                        rw [hacc.out]; exact h1
                      have hfit : 10 * (acc : Int) + ((t[k]'hlt).toNat : Int) - 48 ≤ most := by have := HLE.out; omega
                      have hw := wrap_back (a := acc) (c := ((t[k]'hlt).toNat : Int)) (by omega) (by omega) (by omega) hfit hm2
                      clear hv
                      go_wp2
                      go_round
                      case rel => exact ⟨k + 1, 10 * acc + ((t[k]'hlt).toNat - 48), by omega, by go_num, by first | go_num | (rw [hw]; go_num), by show _ = _; rw [HN.out, val_snoc, ← hacc.out]; rfl⟩
                      case measure => simp [intOf]; omega
                    · have hE := all_take_end t k hlt
                      rw [hE] at hacc
                      clear hE
                      go_wp2
                      go_ret2
                      exact ⟨rd_yes HOK.out (by rw [hacc.out, HTS.out, strip_val HP.out]), b2⟩
              · have HOK : Hid (readOK s.data.toList most = true) := by
                  have h := HCM.out
                  rw [decide_eq_false hz2, decide_eq_false (show ¬ t.size > (lastB most).size by omega)] at h
                  show _ = _
                  cases hr : readOK s.data.toList most with
                  | true => rfl
                  | false => rw [hr] at h; cases h
                have hz2' : ((t.size : Int) == ((lastB most).size : Int)) = false := by rw [beq_eq_false_iff_ne]; omega
                clear hz2
                go_wp2_with (go_at_call 14; refine (HSH _).mono ?_; rintro e w2 ⟨rfl, b2⟩)
                have HLE : Hid ((val t.data.toList : Int) ≤ most) := by
                  have h := HOK.out
                  unfold readOK at h
                  rw [Bool.and_eq_true] at h
                  have h2 := of_decide_eq_true h.2
                  have := HT.out
                  show _ ≤ _
                  rw [HTS.out, strip_val HP.out]; exact h2
                have HDG : Hid (∀ k (h : k < t.size), isD (t[k]'h) = true) := by
                  intro k h
                  have := HT.out.1
                  rw [List.all_eq_true] at this
                  exact this _ (Array.getElem_mem_toList (xs := t.data) h)
                go_loop [8, 9] (fun n i => ∃ k acc : Nat, k ≤ t.size ∧ i = .int .i64 k ∧ n = .int .i64 acc ∧ Hid (acc = val (t.data.toList.take k))) (fun _ i => t.size - (intOf i).toNat)
                case atStart => exact ⟨0, 0, Nat.zero_le _, rfl, rfl, rfl⟩
                case round =>
                  obtain ⟨k, acc, hk, rfl, rfl, hacc⟩ := hrel
                  by_cases hlt : k < t.size
                  · obtain ⟨c1, c2⟩ := (isD_iff _).1 (HDG.out k hlt)
                    have HN := Lib.hid (take_snoc t k hlt)
                    have hv : (10 * acc + ((t[k]'hlt).toNat - 48) : Nat) ≤ val t.data.toList := by
                      have h1 := val_take_le (t.data.toList.take (k + 1)) (t.data.toList.drop (k + 1))
                      rw [List.take_append_drop, take_snoc t k hlt, val_snoc] at h1
                      rw [hacc.out]; exact h1
                    have hfit : 10 * (acc : Int) + ((t[k]'hlt).toNat : Int) - 48 ≤ most := by have := HLE.out; omega
                    have hw := wrap_back (a := acc) (c := ((t[k]'hlt).toNat : Int)) (by omega) (by omega) (by omega) hfit hm2
                    clear hv
                    go_wp2
                    go_round
                    case rel => exact ⟨k + 1, 10 * acc + ((t[k]'hlt).toNat - 48), by omega, by go_num, by first | go_num | (rw [hw]; go_num), by show _ = _; rw [HN.out, val_snoc, ← hacc.out]; rfl⟩
                    case measure => simp [intOf]; omega
                  · have hE := all_take_end t k hlt
                    rw [hE] at hacc
                    clear hE
                    go_wp2
                    go_ret2
                    exact ⟨rd_yes HOK.out (by rw [hacc.out, HTS.out, strip_val HP.out]), b2⟩
        ·
          have HTS := Lib.hid ((strip_stop HT.out.2.1 (by first | (intro _ _; exact H48.out) | (intro h; omega))).symm.trans HT.out.2.2.1)
          have HSH : ∀ w1 : World, Calls Try.prog 14 #[.int .i64 most] w1 fun e w' => e = .returned (.string (lastB most)) ∧ Below w1.heap.size w1 w' := by
            intro w1
            have := refshow_any most w1 hm1 hm2
            rw [showL_nonneg (by omega)] at this
            exact this
          have HCM := Lib.hid (cmp_over (most := most) HP.out (by omega) HTS.out)
          have hll : (lastB most).size ≤ 19 := lastB_size hm2
          by_cases hz1 : (lastB most).size < t.size
          · have HNO : Hid (readOK s.data.toList most = false) := by
              have h := HCM.out
              rw [decide_eq_true (show t.size > (lastB most).size from hz1), Bool.true_or] at h
              show _ = _
              cases hr : readOK s.data.toList most with
              | false => rfl
              | true => rw [hr] at h; cases h
            go_wp2_with (go_at_call 14; refine (HSH _).mono ?_; rintro e w2 ⟨rfl, b2⟩)
            go_ret2
            exact ⟨rd_no HNO.out, b2⟩
          · by_cases hz2 : t.size = (lastB most).size
            · cases hg : (Op.bytesLess t.toList (lastB most).toList || t.toList == (lastB most).toList) with
              | false =>
                have HNO : Hid (readOK s.data.toList most = false) := by
                  have h := HCM.out
                  rw [decide_eq_true hz2, hg, decide_eq_false (show ¬ t.size > (lastB most).size by omega)] at h
                  show _ = _
                  cases hr : readOK s.data.toList most with
                  | false => rfl
                  | true => rw [hr] at h; cases h
                have hz2' : ((t.size : Int) == ((lastB most).size : Int)) = true := by rw [hz2]; simp
                clear hz2
                go_wp2_with (go_at_call 14; refine (HSH _).mono ?_; rintro e w2 ⟨rfl, b2⟩)
                go_ret2
                exact ⟨rd_no HNO.out, b2⟩
              | true =>
                have HOK : Hid (readOK s.data.toList most = true) := by
                  have h := HCM.out
                  rw [decide_eq_true hz2, hg, decide_eq_false (show ¬ t.size > (lastB most).size by omega)] at h
                  show _ = _
                  cases hr : readOK s.data.toList most with
                  | true => rfl
                  | false => rw [hr] at h; cases h
                have hz2' : ((t.size : Int) == ((lastB most).size : Int)) = true := by rw [hz2]; simp
                clear hz2
                go_wp2_with (go_at_call 14; refine (HSH _).mono ?_; rintro e w2 ⟨rfl, b2⟩)
                have HLE : Hid ((val t.data.toList : Int) ≤ most) := by
                  have h := HOK.out
                  unfold readOK at h
                  rw [Bool.and_eq_true] at h
                  have h2 := of_decide_eq_true h.2
                  have := HT.out
                  show _ ≤ _
                  rw [HTS.out, strip_val HP.out]; exact h2
                have HDG : Hid (∀ k (h : k < t.size), isD (t[k]'h) = true) := by
                  intro k h
                  have := HT.out.1
                  rw [List.all_eq_true] at this
                  exact this _ (Array.getElem_mem_toList (xs := t.data) h)
                go_loop [8, 9] (fun n i => ∃ k acc : Nat, k ≤ t.size ∧ i = .int .i64 k ∧ n = .int .i64 acc ∧ Hid (acc = val (t.data.toList.take k))) (fun _ i => t.size - (intOf i).toNat)
                case atStart => exact ⟨0, 0, Nat.zero_le _, rfl, rfl, rfl⟩
                case round =>
                  obtain ⟨k, acc, hk, rfl, rfl, hacc⟩ := hrel
                  by_cases hlt : k < t.size
                  · obtain ⟨c1, c2⟩ := (isD_iff _).1 (HDG.out k hlt)
                    have HN := Lib.hid (take_snoc t k hlt)
                    have hv : (10 * acc + ((t[k]'hlt).toNat - 48) : Nat) ≤ val t.data.toList := by
                      have h1 := val_take_le (t.data.toList.take (k + 1)) (t.data.toList.drop (k + 1))
                      rw [List.take_append_drop, take_snoc t k hlt, val_snoc] at h1
                      rw [hacc.out]; exact h1
                    have hfit : 10 * (acc : Int) + ((t[k]'hlt).toNat : Int) - 48 ≤ most := by have := HLE.out; omega
                    have hw := wrap_back (a := acc) (c := ((t[k]'hlt).toNat : Int)) (by omega) (by omega) (by omega) hfit hm2
                    clear hv
                    go_wp2
                    go_round
                    case rel => exact ⟨k + 1, 10 * acc + ((t[k]'hlt).toNat - 48), by omega, by go_num, by first | go_num | (rw [hw]; go_num), by show _ = _; rw [HN.out, val_snoc, ← hacc.out]; rfl⟩
                    case measure => simp [intOf]; omega
                  · have hE := all_take_end t k hlt
                    rw [hE] at hacc
                    clear hE
                    go_wp2
                    go_ret2
                    exact ⟨rd_yes HOK.out (by rw [hacc.out, HTS.out, strip_val HP.out]), b2⟩
            · have HOK : Hid (readOK s.data.toList most = true) := by
                have h := HCM.out
                rw [decide_eq_false hz2, decide_eq_false (show ¬ t.size > (lastB most).size by omega)] at h
                show _ = _
                cases hr : readOK s.data.toList most with
                | true => rfl
                | false => rw [hr] at h; cases h
              have hz2' : ((t.size : Int) == ((lastB most).size : Int)) = false := by rw [beq_eq_false_iff_ne]; omega
              clear hz2
              go_wp2_with (go_at_call 14; refine (HSH _).mono ?_; rintro e w2 ⟨rfl, b2⟩)
              have HLE : Hid ((val t.data.toList : Int) ≤ most) := by
                have h := HOK.out
                unfold readOK at h
                rw [Bool.and_eq_true] at h
                have h2 := of_decide_eq_true h.2
                have := HT.out
                show _ ≤ _
                rw [HTS.out, strip_val HP.out]; exact h2
              have HDG : Hid (∀ k (h : k < t.size), isD (t[k]'h) = true) := by
                intro k h
                have := HT.out.1
                rw [List.all_eq_true] at this
                exact this _ (Array.getElem_mem_toList (xs := t.data) h)
              go_loop [8, 9] (fun n i => ∃ k acc : Nat, k ≤ t.size ∧ i = .int .i64 k ∧ n = .int .i64 acc ∧ Hid (acc = val (t.data.toList.take k))) (fun _ i => t.size - (intOf i).toNat)
              case atStart => exact ⟨0, 0, Nat.zero_le _, rfl, rfl, rfl⟩
              case round =>
                obtain ⟨k, acc, hk, rfl, rfl, hacc⟩ := hrel
                by_cases hlt : k < t.size
                · obtain ⟨c1, c2⟩ := (isD_iff _).1 (HDG.out k hlt)
                  have HN := Lib.hid (take_snoc t k hlt)
                  have hv : (10 * acc + ((t[k]'hlt).toNat - 48) : Nat) ≤ val t.data.toList := by
                    have h1 := val_take_le (t.data.toList.take (k + 1)) (t.data.toList.drop (k + 1))
                    rw [List.take_append_drop, take_snoc t k hlt, val_snoc] at h1
                    rw [hacc.out]; exact h1
                  have hfit : 10 * (acc : Int) + ((t[k]'hlt).toNat : Int) - 48 ≤ most := by have := HLE.out; omega
                  have hw := wrap_back (a := acc) (c := ((t[k]'hlt).toNat : Int)) (by omega) (by omega) (by omega) hfit hm2
                  clear hv
                  go_wp2
                  go_round
                  case rel => exact ⟨k + 1, 10 * acc + ((t[k]'hlt).toNat - 48), by omega, by go_num, by first | go_num | (rw [hw]; go_num), by show _ = _; rw [HN.out, val_snoc, ← hacc.out]; rfl⟩
                  case measure => simp [intOf]; omega
                · have hE := all_take_end t k hlt
                  rw [hE] at hacc
                  clear hE
                  go_wp2
                  go_ret2
                  exact ⟨rd_yes HOK.out (by rw [hacc.out, HTS.out, strip_val HP.out]), b2⟩
end Go.Proofs.Ytnfefjjpifokpaa
