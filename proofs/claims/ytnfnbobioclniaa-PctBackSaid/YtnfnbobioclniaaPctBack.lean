/- The walk of PctBack, and the statement. No condition. -/
import Derived.Test.YtnfnbobioclniaaRows
import Derived.WalkKit
import Derived.ProofKit
import Derived.OpenShut
import Derived.ShutString
import Derived.Test.YtnfnbobioclniaaWalksK
namespace Go.Proofs.Ytnfnbobioclniaa.pctBack
open Go.ChangeShapes Go.WideShapes Go.ChangeAt Go.RowKit
open Go.ChangeMaps (open_string shut_string)
set_option linter.unusedVariables false      -- a walk need not use every 'w<i>' (that an integer argument fits its kind)

theorem own : ownKnob Try.prog.godebug = none := by kernel_rfl

/-! ### STEP 1: THE WALK: the Go text returns true. 'Grown w w'': the world has at most new blocks (Derived/RowKit3.lean). Part the cases AHEAD of 'go_enter' where a test parts the walk; take each callee by a contract of your own. -/
theorem enc_as (set : Int) (s : ByteArray) (h : s.size ≤ 600) : ∃ e : ByteArray, encL set s.data.toList = e.data.toList ∧ e.size ≤ 1800 := by
  refine ⟨⟨(encL set s.data.toList).toArray⟩, rfl, ?_⟩
  have hl := (encL_len set s.data.toList).2
  rw [size_len] at hl
  rw [← size_len]
  show (encL set s.data.toList).length ≤ 1800
  omega
theorem dec_as (s : ByteArray) (h : s.size ≤ 600) : ∃ e : ByteArray, decL s.data.toList = e.data.toList ∧ e.size ≤ 600 := by
  refine ⟨⟨(decL s.data.toList).toArray⟩, rfl, ?_⟩
  have hl := dec_len s.data.toList
  rw [size_len] at hl
  rw [← size_len]
  show (decL s.data.toList).length ≤ 600
  omega
theorem plain_snoc (s : ByteArray) (k : Nat) (hp : k < s.size) : plainL (s.data.toList.take (k + 1)) = (plainL (s.data.toList.take k) && ((s[k]'hp) != 37)) := by
  rw [take_snoc s k hp, plainL_app, plainL_cons]; simp [plainL]

set_option maxRecDepth 100000 in
set_option maxHeartbeats 2000000 in
theorem walk (a0 : ByteArray) (a1 : Int) (w0 : a0.size ≤ maxLen) (w1 : (Lit.int .i64 a1).wf = true) (w : World) :
    Calls Try.prog 5 #[.string a0, .int .i64 a1] w fun e w' => e = .returned (.bool true) ∧ Below w.heap.size w w' := by
  by_cases h : a0.size ≤ 600
  · by_cases hs0 : a1 < 0
    ·
      go_enter Try.func5, Try.ntmps5
      go_wp2_with fail
      refine (awake_any _).mono ?_
      rintro e w21 ⟨rfl, b1⟩
      go_wp2
      go_ret
      exact ⟨rfl, b1⟩
    · by_cases hs4 : 4 < a1
      ·
        go_enter Try.func5, Try.ntmps5
        go_wp2_with fail
        refine (awake_any _).mono ?_
        rintro e w21 ⟨rfl, b1⟩
        go_wp2
        go_ret
        exact ⟨rfl, b1⟩
      · obtain ⟨e, he, hes⟩ := enc_as a1 a0 h
        obtain ⟨d, hd, hds⟩ := dec_as a0 h
        have hed : decL e.data.toList = d.data.toList := by rw [← he, dec_enc, hd]
        have HE := Lib.hid he
        have HD := Lib.hid hd
        have HED := Lib.hid hed
        clear he hd hed
        go_enter Try.func5, Try.ntmps5
        go_wp2_with fail
        refine (awake_any _).mono ?_
        rintro e w21 ⟨rfl, b1⟩
        go_wp2_with fail
        refine (enc_is a0 e a1 _ (by omega) HE.out).mono ?_
        rintro e w22 ⟨rfl, b2⟩
        go_wp2
        go_loop [7, 8] (fun p i => ∃ k : Nat, k ≤ a0.size ∧ i = .int .i64 k ∧ p = .bool (plainL (a0.data.toList.take k))) (fun _ i => a0.size - (intOf i).toNat)
        case atStart => exact ⟨0, Nat.zero_le _, rfl, rfl⟩
        case round =>
          obtain ⟨k, hk, rfl, rfl⟩ := hrel
          by_cases hp : k < a0.size
          · have HT := Lib.hid (plain_snoc a0 k hp)
            cases e1 : plainL (a0.data.toList.take k) with
            | false =>
              go_wp2
              go_round
              case rel => exact ⟨k + 1, by omega, by go_num, by rw [HT.out, e1]; rfl⟩
              case measure => simp [intOf]; omega
            | true =>
              by_cases hc7 : (a0[k]'hp) = 37
              · have c1 : (((a0[k]'hp).toNat : Int) == 37) = true := by rw [hc7]; rfl
                have c2 : (((a0[k]'hp).toNat : Int) != 37) = false := by rw [hc7]; rfl
                have HF : Hid (plainL (a0.data.toList.take (k + 1)) = false) := by show _ = _; rw [HT.out, e1, hc7]; rfl
                clear hc7
                go_wp2
                go_round
                case rel => exact ⟨k + 1, by omega, by go_num, by rw [HF.out]⟩
                case measure => simp [intOf]; omega
              · have c1 : (((a0[k]'hp).toNat : Int) == 37) = false := byte_ne hc7
                have c2 : (((a0[k]'hp).toNat : Int) != 37) = true := by rw [bne, c1]; rfl
                have HF : Hid (plainL (a0.data.toList.take (k + 1)) = true) := by show _ = _; rw [HT.out, e1]; simp [hc7]
                clear hc7
                go_wp2
                go_round
                case rel => exact ⟨k + 1, by omega, by go_num, by rw [HF.out]⟩
                case measure => simp [intOf]; omega
          · rw [all_take_end a0 k hp]
            cases e1 : plainL a0.data.toList with
            | false =>
              go_wp2_with fail
              refine (dec_is e d _ (by omega) HED.out).mono ?_
              rintro e w23 ⟨rfl, b3⟩
              go_wp2_with fail
              refine (dec_is a0 d _ (by omega) HD.out).mono ?_
              rintro e w24 ⟨rfl, b4⟩
              go_wp2
              go_ret
              exact ⟨ret_bool (by first | rfl | (simp; omega)), below_then (below_then (below_then b1 b2) b3) b4⟩
            | true =>
              have hda : d = a0 := ext_list (by rw [← HD.out, dec_plain _ e1])
              subst hda
              go_wp2_with fail
              refine (dec_is e d _ (by omega) HED.out).mono ?_
              rintro e w23 ⟨rfl, b3⟩
              go_wp2_with fail
              refine (dec_is d d _ (by omega) HD.out).mono ?_
              rintro e w24 ⟨rfl, b4⟩
              go_wp2_with fail
              refine (dec_is e d _ (by omega) HED.out).mono ?_
              rintro e w25 ⟨rfl, b5⟩
              go_wp2_with fail
              refine (dec_is d d _ (by omega) HD.out).mono ?_
              rintro e w26 ⟨rfl, b6⟩
              go_wp2
              go_ret
              exact ⟨ret_bool (by first | rfl | (simp; omega)), below_then (below_then (below_then (below_then (below_then b1 b2) b3) b4) b5) b6⟩
  ·
    go_enter Try.func5, Try.ntmps5
    go_wp2_with fail
    refine (awake_any _).mono ?_
    rintro e w21 ⟨rfl, b1⟩
    go_wp2
    go_ret
    exact ⟨rfl, b1⟩

/-! ### THE ROW's STEP: WRITTEN OUT: LEAVE IT -/
set_option maxRecDepth 100000 in
theorem lifted (os : Os) (started : os.Started) (H : Type) (enc : TypeId × Value → H) :
    ReturnsInHanded {} Try.checked os 5 .any (Rows.pctBackSpec.pre6 enc Try.prog Try.f5 Rows.pctBackRow.domain false) (Rows.pctBackSpec.post enc Try.prog Try.f5 false true false false) := by
  refine returnsInHanded_of_change (C := Try.checked) own started (by kernel_rfl) Try.func5
    (ChangeSpec.witness6 (enc := enc) (C := Try.checked) false ⟨#[], #[.string ByteArray.empty, .int .i64 0], []⟩ 8 (by kernel_rfl) (by kernel_rfl) (by kernel_rfl) (by kernel_rfl)) ?_
  intro W base args ds gs before hval0 hW hcnd _
  have hval : ∀ (j : Nat) t v, Try.f5.params[j]? = some t → args[j]? = some v → Value.okWide Try.prog W .any base t v := hval0
  have hW' := hW
  obtain ⟨p, q, hA0, hV, rfl, hfz, hnd⟩ := hW
  have hA : DataW.TrodAll enc Try.prog W 0 (fun _ => true) true Try.f5.params.toList args.toList ds p := hA0
  rw [Try.params5] at hA hval
  obtain ⟨v0, vs0, d0, ds0, p0, q0, hargs, rfl, rfl, h0, r0⟩ := trodAll_cons hA
  obtain ⟨v1, vs1, d1, ds1, p1, q1, rfl, rfl, rfl, h1, r1⟩ := trodAll_cons r0
  obtain ⟨rfl, rfl, rfl⟩ := trodAll_nil r1
  obtain rfl : args = #[v0, v1] := by cases args; simp_all
  obtain ⟨rfl, rfl⟩ := trodVars_none hV
  obtain ⟨a0, rfl, rfl, rfl, w0⟩ := open_string Try.underlying9 (hval 0 9 v0 rfl rfl) h0
  obtain ⟨a1, rfl, rfl, rfl, w1⟩ := open_int Try.underlying3 (hval 1 3 v1 rfl rfl) h1
  clear hA0 hval0
  simp only [List.append_nil] at hW'
  refine (walk a0 a1 w0 w1 W).mono fun e W' ⟨he, hg⟩ => ?_
  subst he
  exact ⟨_, rfl, _, _, _, [], [], [], hW', (trodAll_cons_mk (shut_bool Try.underlying4 _) trodAll_mk0), (trodAll_cons_mk (shut_string Try.underlying9 w0) (trodAll_cons_mk (shut_int Try.underlying3 w1) trodAll_mk0)), rfl, hg.frame _, fun h => by cases h⟩

theorem over : Rows.pctBackRow.holds Try.pinned (OpenSpec.ofChange Rows.pctBackSpec) :=
  OpenClaim.holds_of_wide 5 Try.f5 rfl rfl rfl rfl rfl rfl rfl ⟨rfl, rfl, rfl, rfl, rfl⟩ rfl rfl rfl rfl rfl (by kernel_rfl) Try.func5 (by kernel_rfl)
    (of_decide_eq_true (by kernel_rfl)) (by unfold Func.isWrapper; first | (rw [if_pos (by decide +kernel)]; kernel_rfl) | (rw [if_neg (by decide +kernel)]; exact ⟨rfl, rfl⟩))
    (fun os started H enc _ => lifted os started H enc)

/-- ████ THE STATEMENT ████ -/
theorem proved : Rows.PctBackSaid :=
  over
#print axioms proved
end Go.Proofs.Ytnfnbobioclniaa.pctBack
