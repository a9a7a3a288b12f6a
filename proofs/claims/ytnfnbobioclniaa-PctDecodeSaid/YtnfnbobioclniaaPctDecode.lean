/- The walk of PctDecode, and the statement. No condition. -/
import Derived.Test.YtnfnbobioclniaaRows
import Derived.WalkKit
import Derived.ProofKit
import Derived.OpenShut
import Derived.ShutString
import Derived.Test.YtnfnbobioclniaaWalksK
namespace Go.Proofs.Ytnfnbobioclniaa.pctDecode
open Go.ChangeShapes Go.WideShapes Go.ChangeAt Go.RowKit
open Go.ChangeMaps (open_string shut_string)
set_option linter.unusedVariables false      -- a walk need not use every 'w<i>' (that an integer argument fits its kind)

theorem own : ownKnob Try.prog.godebug = none := by kernel_rfl

/-! ### STEP 1: THE WALK: the Go text returns true. 'Grown w w'': the world has at most new blocks (Derived/RowKit3.lean). Part the cases AHEAD of 'go_enter' where a test parts the walk; take each callee by a contract of your own. -/
theorem enc_as (set : Int) (s : ByteArray) (h : s.size ≤ 600) : ∃ e : ByteArray, encL set s.data.toList = e.data.toList ∧ e.size ≤ 1800 := by
  refine ⟨⟨(encL set s.data.toList).toArray⟩, rfl, ?_⟩
  have hl := (encL_len set s.data.toList).2
  rw [size_len] at hl
  rw [← size_len]
  show (encL set s.data.toList).length ≤ 1800
  omega
theorem dec_as (s : ByteArray) (h : s.size ≤ 600) : ∃ e : ByteArray, decL s.data.toList = e.data.toList ∧ e.size ≤ 600 ∧ e.size ≤ s.size := by
  refine ⟨⟨(decL s.data.toList).toArray⟩, rfl, ?_⟩
  have hl := dec_len s.data.toList
  rw [size_len] at hl
  rw [← size_len]
  rw [show (⟨(decL s.data.toList).toArray⟩ : ByteArray).data.toList = decL s.data.toList from rfl]
  omega
theorem plain_snoc (s : ByteArray) (k : Nat) (hp : k < s.size) : plainL (s.data.toList.take (k + 1)) = (plainL (s.data.toList.take k) && ((s[k]'hp) != 37)) := by
  rw [take_snoc s k hp, plainL_app, plainL_cons]; simp [plainL]
theorem conv_one (c : UInt8) (w1 : World) : (convert 30 9 (.slice (some ⟨w1.heap.size, 0, none⟩) 1 1)).run Try.prog (w1.alloc (.cells #[.int .u8 (c.toNat : Int)] 5)) = .ok (.string ⟨#[c]⟩) (w1.alloc (.cells #[.int .u8 (c.toNat : Int)] 5)) :=
  run_convert_bytes_back (P := Try.prog) _ 30 9 5 ⟨w1.heap.size, 0, none⟩ 1 [c] Try.underlying30 Try.underlying5 Try.underlying9 (fun j hj => by
    match j, hj with
    | 0, _ => simp [Addr.add])
theorem dec_stay3 (c : UInt8) (s d : ByteArray) (hc : c ≠ 37) (hd : decL s.data.toList = d.data.toList) : decL (⟨#[37]⟩ ++ ⟨#[c]⟩ ++ ⟨#[103]⟩ ++ s : ByteArray).data.toList = (⟨#[37]⟩ ++ ⟨#[c]⟩ ++ ⟨#[103]⟩ ++ d : ByteArray).data.toList := by
  rw [app_list, app_list, app_list, app_list, app_list, app_list]
  show decL (37 :: c :: 103 :: s.data.toList) = 37 :: c :: 103 :: d.data.toList
  rw [decL_stay 37 _ (fun a b l' e => by cases e; exact esc_b (by decide)), decL_stay c _ (fun a b l' _ => esc_ne hc), decL_stay 103 _ (fun a b l' _ => esc_ne (by decide)), hd]
theorem hexC (c : UInt8) : (c ≠ 37 ∧ ((48 ≤ c.toNat ∧ c.toNat ≤ 57) ∨ (97 ≤ c.toNat ∧ c.toNat ≤ 102) ∨ (65 ≤ c.toNat ∧ c.toNat ≤ 70) ∨ c.toNat < 48 ∨ (58 ≤ c.toNat ∧ c.toNat ≤ 64) ∨ (71 ≤ c.toNat ∧ c.toNat ≤ 96) ∨ 102 < c.toNat)) ∨ (c.toNat < 48 ∧ Hid (((c.toNat : Int) == 37) = true)) := by
  by_cases h : c = 37
  · exact Or.inr (by subst h; exact ⟨by decide, rfl⟩)
  · exact Or.inl ⟨h, by omega⟩

set_option maxRecDepth 100000 in
set_option maxHeartbeats 20000000 in
theorem walk (a0 : ByteArray) (a1 : Int) (w0 : a0.size ≤ maxLen) (w1 : (Lit.int .u8 a1).wf = true) (w : World) :
    Calls Try.prog 9 #[.string a0, .int .u8 a1] w fun e w' => e = .returned (.bool true) ∧ Below w.heap.size w w' := by
  obtain ⟨c, rfl⟩ := byte_of w1
  have hcu := c.toNat_lt
  have hcv := conv_one c
  have b0 := fun w1 : World => (Below.refl w1.heap.size w1).alloc (Nat.le_refl _) (.cells #[.int .u8 (c.toNat : Int)] 5)
  by_cases h : a0.size ≤ 600
  · obtain ⟨d, hd, hds, hle⟩ := dec_as a0 h
    have hX : c ≠ 37 → decL (⟨#[37]⟩ ++ ⟨#[c]⟩ ++ ⟨#[103]⟩ ++ a0 : ByteArray).data.toList = (⟨#[37]⟩ ++ ⟨#[c]⟩ ++ ⟨#[103]⟩ ++ d : ByteArray).data.toList := fun hc => dec_stay3 c a0 d hc hd
    have hp1 : (⟨#[37]⟩ ++ ⟨#[c]⟩ : ByteArray).size = 2 := by rw [app_size]; rfl
    have hp2 : (⟨#[37]⟩ ++ ⟨#[c]⟩ ++ ⟨#[103]⟩ : ByteArray).size = 3 := by rw [app_size, hp1]; rfl
    have hp3 : (⟨#[37]⟩ ++ ⟨#[c]⟩ ++ ⟨#[103]⟩ ++ a0 : ByteArray).size = 3 + a0.size := by rw [app_size, hp2]
    have hp4 : (⟨#[37]⟩ ++ ⟨#[c]⟩ ++ ⟨#[103]⟩ ++ d : ByteArray).size = 3 + d.size := by rw [app_size, hp2]
    have hR := hexC c
    obtain ⟨Y, hY⟩ : ∃ Y : ByteArray, decL (⟨#[37]⟩ ++ ⟨#[c]⟩ ++ ⟨#[103]⟩ ++ a0 : ByteArray).data.toList = Y.data.toList := ⟨⟨(decL (⟨#[37]⟩ ++ ⟨#[c]⟩ ++ ⟨#[103]⟩ ++ a0 : ByteArray).data.toList).toArray⟩, rfl⟩
    have HX := Lib.hid hX
    have HYC : Hid (∀ w : World, Calls Try.prog 16 #[.string (⟨#[37]⟩ ++ ⟨#[c]⟩ ++ ⟨#[103]⟩ ++ a0)] w fun e w' => e = .returned (.string Y) ∧ Below w.heap.size w w') := fun w => dec_is _ Y w (by omega) hY
    have HD := Lib.hid hd
    clear hX hd hY
    go_enter Try.func9, Try.ntmps9
    go_wp2_with fail
    refine (awake_any _).mono ?_
    rintro e w21 ⟨rfl, b1⟩
    go_wp2_with fail
    refine (dec_is a0 d _ (by omega) HD.out).mono ?_
    rintro e w22 ⟨rfl, b2⟩
    go_wp2
    go_loop [7, 8] (fun p i => ∃ k : Nat, k ≤ a0.size ∧ i = .int .i64 k ∧ p = .bool (plainL (a0.data.toList.take k))) (fun _ i => a0.size - (intOf i).toNat)
    case atStart => exact ⟨0, Nat.zero_le _, rfl, rfl⟩
    case round =>
      obtain ⟨k, hk, rfl, rfl⟩ := hrel
      by_cases hp : k < a0.size
      · have HT := Lib.hid (plain_snoc a0 k hp)
        cases e1 : plainL (a0.data.toList.take k) with
        | false =>
          go_wp2
          go_round
          case rel => exact ⟨k + 1, by omega, by go_num, by rw [HT.out, e1]; rfl⟩
          case measure => simp [intOf]; omega
        | true =>
          by_cases hc7 : (a0[k]'hp) = 37
          · have c1 : (((a0[k]'hp).toNat : Int) == 37) = true := by rw [hc7]; rfl
            have c2 : (((a0[k]'hp).toNat : Int) != 37) = false := by rw [hc7]; rfl
            have HF : Hid (plainL (a0.data.toList.take (k + 1)) = false) := by show _ = _; rw [HT.out, e1, hc7]; rfl
            clear hc7
            go_wp2
            go_round
            case rel => exact ⟨k + 1, by omega, by go_num, by rw [HF.out]⟩
            case measure => simp [intOf]; omega
          · have c1 : (((a0[k]'hp).toNat : Int) == 37) = false := byte_ne hc7
            have c2 : (((a0[k]'hp).toNat : Int) != 37) = true := by rw [bne, c1]; rfl
            have HF : Hid (plainL (a0.data.toList.take (k + 1)) = true) := by show _ = _; rw [HT.out, e1]; simp [hc7]
            clear hc7
            go_wp2
            go_round
            case rel => exact ⟨k + 1, by omega, by go_num, by rw [HF.out]⟩
            case measure => simp [intOf]; omega
      · rw [all_take_end a0 k hp]
        cases e1 : plainL a0.data.toList with
        | false =>
          rcases hR with ⟨hc, hR⟩ | ⟨r1, HQ⟩
          · have hc37 := byte_ne hc
            rcases hR with ⟨r1, r2⟩ | ⟨r1, r2⟩ | ⟨r1, r2⟩ | r1 | ⟨r1, r2⟩ | ⟨r1, r2⟩ | r1
            all_goals
              go_wp2_with fail
              refine (dec_is (⟨#[37]⟩ ++ ⟨#[c]⟩ ++ ⟨#[103]⟩ ++ a0) (⟨#[37]⟩ ++ ⟨#[c]⟩ ++ ⟨#[103]⟩ ++ d) _ (by omega) (HX.out hc)).mono ?_
              rintro e w23 ⟨rfl, b3⟩
              go_wp2
              go_ret
              exact ⟨ret_bool (by first | rfl | (simp; omega)), below_then (below_then (below_then (below_then b1 b2) (b0 _)) b3) (b0 _)⟩
          ·
            go_wp2_with fail
            refine (HYC.out _).mono ?_
            rintro e w23 ⟨rfl, b3⟩
            have hq := HQ.out
            go_wp2
            go_ret
            exact ⟨ret_bool (by first | rfl | (simp; omega)), below_then (below_then (below_then b1 b2) (b0 _)) b3⟩
        | true =>
          have hda : d = a0 := ext_list (by rw [← HD.out, dec_plain _ e1])
          subst hda
          rcases hR with ⟨hc, hR⟩ | ⟨r1, HQ⟩
          · have hc37 := byte_ne hc
            rcases hR with ⟨r1, r2⟩ | ⟨r1, r2⟩ | ⟨r1, r2⟩ | r1 | ⟨r1, r2⟩ | ⟨r1, r2⟩ | r1
            all_goals
              go_wp2_with fail
              refine (dec_is (⟨#[37]⟩ ++ ⟨#[c]⟩ ++ ⟨#[103]⟩ ++ d) (⟨#[37]⟩ ++ ⟨#[c]⟩ ++ ⟨#[103]⟩ ++ d) _ (by omega) (HX.out hc)).mono ?_
              rintro e w23 ⟨rfl, b3⟩
              go_wp2
              go_ret
              exact ⟨ret_bool (by first | rfl | (simp; omega)), below_then (below_then (below_then (below_then b1 b2) (b0 _)) b3) (b0 _)⟩
          ·
            go_wp2_with fail
            refine (HYC.out _).mono ?_
            rintro e w23 ⟨rfl, b3⟩
            have hq := HQ.out
            go_wp2
            go_ret
            exact ⟨ret_bool (by first | rfl | (simp; omega)), below_then (below_then (below_then b1 b2) (b0 _)) b3⟩
  ·
    go_enter Try.func9, Try.ntmps9
    go_wp2_with fail
    refine (awake_any _).mono ?_
    rintro e w21 ⟨rfl, b1⟩
    go_wp2
    go_ret
    exact ⟨rfl, b1⟩

/-! ### THE ROW's STEP: WRITTEN OUT: LEAVE IT -/
set_option maxRecDepth 100000 in
theorem lifted (os : Os) (started : os.Started) (H : Type) (enc : TypeId × Value → H) :
    ReturnsInHanded {} Try.checked os 9 .any (Rows.pctDecodeSpec.pre6 enc Try.prog Try.f9 Rows.pctDecodeRow.domain false) (Rows.pctDecodeSpec.post enc Try.prog Try.f9 false true false false) := by
  refine returnsInHanded_of_change (C := Try.checked) own started (by kernel_rfl) Try.func9
    (ChangeSpec.witness6 (enc := enc) (C := Try.checked) false ⟨#[], #[.string ByteArray.empty, .int .u8 0], []⟩ 8 (by kernel_rfl) (by kernel_rfl) (by kernel_rfl) (by kernel_rfl)) ?_
  intro W base args ds gs before hval0 hW hcnd _
  have hval : ∀ (j : Nat) t v, Try.f9.params[j]? = some t → args[j]? = some v → Value.okWide Try.prog W .any base t v := hval0
  have hW' := hW
  obtain ⟨p, q, hA0, hV, rfl, hfz, hnd⟩ := hW
  have hA : DataW.TrodAll enc Try.prog W 0 (fun _ => true) true Try.f9.params.toList args.toList ds p := hA0
  rw [Try.params9] at hA hval
  obtain ⟨v0, vs0, d0, ds0, p0, q0, hargs, rfl, rfl, h0, r0⟩ := trodAll_cons hA
  obtain ⟨v1, vs1, d1, ds1, p1, q1, rfl, rfl, rfl, h1, r1⟩ := trodAll_cons r0
  obtain ⟨rfl, rfl, rfl⟩ := trodAll_nil r1
  obtain rfl : args = #[v0, v1] := by cases args; simp_all
  obtain ⟨rfl, rfl⟩ := trodVars_none hV
  obtain ⟨a0, rfl, rfl, rfl, w0⟩ := open_string Try.underlying9 (hval 0 9 v0 rfl rfl) h0
  obtain ⟨a1, rfl, rfl, rfl, w1⟩ := open_int Try.underlying5 (hval 1 5 v1 rfl rfl) h1
  clear hA0 hval0
  simp only [List.append_nil] at hW'
  refine (walk a0 a1 w0 w1 W).mono fun e W' ⟨he, hg⟩ => ?_
  subst he
  exact ⟨_, rfl, _, _, _, [], [], [], hW', (trodAll_cons_mk (shut_bool Try.underlying4 _) trodAll_mk0), (trodAll_cons_mk (shut_string Try.underlying9 w0) (trodAll_cons_mk (shut_int Try.underlying5 w1) trodAll_mk0)), rfl, hg.frame _, fun h => by cases h⟩

theorem over : Rows.pctDecodeRow.holds Try.pinned (OpenSpec.ofChange Rows.pctDecodeSpec) :=
  OpenClaim.holds_of_wide 9 Try.f9 rfl rfl rfl rfl rfl rfl rfl ⟨rfl, rfl, rfl, rfl, rfl⟩ rfl rfl rfl rfl rfl (by kernel_rfl) Try.func9 (by kernel_rfl)
    (of_decide_eq_true (by kernel_rfl)) (by unfold Func.isWrapper; first | (rw [if_pos (by decide +kernel)]; kernel_rfl) | (rw [if_neg (by decide +kernel)]; exact ⟨rfl, rfl⟩))
    (fun os started H enc _ => lifted os started H enc)

/-- ████ THE STATEMENT ████ -/
theorem proved : Rows.PctDecodeSaid :=
  over
#print axioms proved
end Go.Proofs.Ytnfnbobioclniaa.pctDecode
