/- The walk of PctParts, and the statement. No condition. -/
import Derived.Test.YtnfnbobioclniaaRows
import Derived.WalkKit
import Derived.ProofKit
import Derived.OpenShut
import Derived.ShutString
import Derived.Test.YtnfnbobioclniaaWalksK
namespace Go.Proofs.Ytnfnbobioclniaa.pctParts
open Go.ChangeShapes Go.WideShapes Go.ChangeAt Go.RowKit
open Go.ChangeMaps (open_string shut_string)
set_option linter.unusedVariables false      -- a walk need not use every 'w<i>' (that an integer argument fits its kind)

theorem own : ownKnob Try.prog.godebug = none := by kernel_rfl

/-! ### STEP 1: THE WALK: the Go text returns true. 'Grown w w'': the world has at most new blocks (Derived/RowKit3.lean). Part the cases AHEAD of 'go_enter' where a test parts the walk; take each callee by a contract of your own. -/
theorem enc_as (set : Int) (s : ByteArray) (h : s.size ≤ 300) : ∃ e : ByteArray, encL set s.data.toList = e.data.toList ∧ e.size ≤ 900 := by
  refine ⟨⟨(encL set s.data.toList).toArray⟩, rfl, ?_⟩
  have hl := (encL_len set s.data.toList).2
  rw [size_len] at hl
  rw [← size_len]
  show (encL set s.data.toList).length ≤ 900
  omega
theorem dec_as (s : ByteArray) (h : s.size ≤ 300) : ∃ e : ByteArray, decL s.data.toList = e.data.toList ∧ e.size ≤ 300 := by
  refine ⟨⟨(decL s.data.toList).toArray⟩, rfl, ?_⟩
  have hl := dec_len s.data.toList
  rw [size_len] at hl
  rw [← size_len]
  show (decL s.data.toList).length ≤ 300
  omega

set_option maxRecDepth 100000 in
set_option maxHeartbeats 2000000 in
theorem walk (a0 : ByteArray) (a1 : ByteArray) (a2 : Int) (w0 : a0.size ≤ maxLen) (w1 : a1.size ≤ maxLen) (w2 : (Lit.int .i64 a2).wf = true) (w : World) :
    Calls Try.prog 7 #[.string a0, .string a1, .int .i64 a2] w fun e w' => e = .returned (.bool true) ∧ Below w.heap.size w w' := by
  by_cases h : a0.size ≤ 300
  · by_cases h2 : a1.size ≤ 300
    · have hab := app_size a0 a1
      obtain ⟨e0, he0, hs0⟩ := enc_as a2 a0 h
      obtain ⟨e1, he1, hs1⟩ := enc_as a2 a1 h2
      obtain ⟨d0, hd0, hm0⟩ := dec_as a0 h
      obtain ⟨d1, hd1, hm1⟩ := dec_as a1 h2
      have he : encL a2 (a0 ++ a1).data.toList = (e0 ++ e1).data.toList := by rw [app_list, app_list, encL_app, he0, he1]
      have HE := Lib.hid he
      have HE0 := Lib.hid he0
      have HE1 := Lib.hid he1
      have HD0 := Lib.hid hd0
      have HD1 := Lib.hid hd1
      clear he he0 he1 hd0 hd1
      by_cases hn : 0 < a0.size
      · have z1 : IntKind.i64.wrap ((a0.size : Int) - 1) = ((a0.size - 1 : Nat) : Int) := by rw [wrap_i64 (by omega) (by omega)]; omega
        have z1l : a0.size - 1 < a0.size := by omega
        by_cases hl : (a0[a0.size - 1]'z1l) = 37
        · have c1 : (((a0[a0.size - 1]'z1l).toNat : Int) == 37) = true := by rw [hl]; rfl
          clear hl
          go_enter Try.func7, Try.ntmps7
          go_wp2_with fail
          refine (awake_any _).mono ?_
          rintro e w21 ⟨rfl, b1⟩
          go_wp2_with fail
          refine (enc_is (a0 ++ a1) (e0 ++ e1) a2 _ (by omega) HE.out).mono ?_
          rintro e w22 ⟨rfl, b2⟩
          go_wp2_with fail
          refine (enc_is a0 e0 a2 _ (by omega) HE0.out).mono ?_
          rintro e w23 ⟨rfl, b3⟩
          go_wp2_with fail
          refine (enc_is a1 e1 a2 _ (by omega) HE1.out).mono ?_
          rintro e w24 ⟨rfl, b4⟩
          go_wp2
          go_ret
          exact ⟨ret_bool (by first | rfl | simp), below_then (below_then (below_then b1 b2) b3) b4⟩
        · have c1 : (((a0[a0.size - 1]'z1l).toNat : Int) == 37) = false := byte_ne hl
          by_cases hn2 : 1 < a0.size
          · have z2 : IntKind.i64.wrap ((a0.size : Int) - 2) = ((a0.size - 2 : Nat) : Int) := by rw [wrap_i64 (by omega) (by omega)]; omega
            have z2l : a0.size - 2 < a0.size := by omega
            by_cases hl2 : (a0[a0.size - 2]'z2l) = 37
            · have c2 : (((a0[a0.size - 2]'z2l).toNat : Int) == 37) = true := by rw [hl2]; rfl
              clear hl hl2
              go_enter Try.func7, Try.ntmps7
              go_wp2_with fail
              refine (awake_any _).mono ?_
              rintro e w21 ⟨rfl, b1⟩
              go_wp2_with fail
              refine (enc_is (a0 ++ a1) (e0 ++ e1) a2 _ (by omega) HE.out).mono ?_
              rintro e w22 ⟨rfl, b2⟩
              go_wp2_with fail
              refine (enc_is a0 e0 a2 _ (by omega) HE0.out).mono ?_
              rintro e w23 ⟨rfl, b3⟩
              go_wp2_with fail
              refine (enc_is a1 e1 a2 _ (by omega) HE1.out).mono ?_
              rintro e w24 ⟨rfl, b4⟩
              go_wp2
              go_ret
              exact ⟨ret_bool (by first | rfl | simp), below_then (below_then (below_then b1 b2) b3) b4⟩
            · have c2 : (((a0[a0.size - 2]'z2l).toNat : Int) == 37) = false := byte_ne hl2
              have hd : decL (a0 ++ a1).data.toList = (d0 ++ d1).data.toList := by
                rw [app_list, app_list, dec_app _ _ (ends_no a0 (fun _ => hl) (fun _ => hl2)), HD0.out, HD1.out]
              have HD := Lib.hid hd
              clear hd hl hl2
              go_enter Try.func7, Try.ntmps7
              go_wp2_with fail
              refine (awake_any _).mono ?_
              rintro e w21 ⟨rfl, b1⟩
              go_wp2_with fail
              refine (enc_is (a0 ++ a1) (e0 ++ e1) a2 _ (by omega) HE.out).mono ?_
              rintro e w22 ⟨rfl, b2⟩
              go_wp2_with fail
              refine (enc_is a0 e0 a2 _ (by omega) HE0.out).mono ?_
              rintro e w23 ⟨rfl, b3⟩
              go_wp2_with fail
              refine (enc_is a1 e1 a2 _ (by omega) HE1.out).mono ?_
              rintro e w24 ⟨rfl, b4⟩
              go_wp2_with fail
              refine (dec_is (a0 ++ a1) (d0 ++ d1) _ (by omega) HD.out).mono ?_
              rintro e w25 ⟨rfl, b5⟩
              go_wp2_with fail
              refine (dec_is a0 d0 _ (by omega) HD0.out).mono ?_
              rintro e w26 ⟨rfl, b6⟩
              go_wp2_with fail
              refine (dec_is a1 d1 _ (by omega) HD1.out).mono ?_
              rintro e w27 ⟨rfl, b7⟩
              go_wp2
              go_ret
              exact ⟨ret_bool (by first | rfl | simp), below_then (below_then (below_then (below_then (below_then (below_then b1 b2) b3) b4) b5) b6) b7⟩
          · have hd : decL (a0 ++ a1).data.toList = (d0 ++ d1).data.toList := by
              rw [app_list, app_list, dec_app _ _ (ends_no a0 (fun _ => hl) (fun h' => absurd h' hn2)), HD0.out, HD1.out]
            have HD := Lib.hid hd
            clear hd hl
            go_enter Try.func7, Try.ntmps7
            go_wp2_with fail
            refine (awake_any _).mono ?_
            rintro e w21 ⟨rfl, b1⟩
            go_wp2_with fail
            refine (enc_is (a0 ++ a1) (e0 ++ e1) a2 _ (by omega) HE.out).mono ?_
            rintro e w22 ⟨rfl, b2⟩
            go_wp2_with fail
            refine (enc_is a0 e0 a2 _ (by omega) HE0.out).mono ?_
            rintro e w23 ⟨rfl, b3⟩
            go_wp2_with fail
            refine (enc_is a1 e1 a2 _ (by omega) HE1.out).mono ?_
            rintro e w24 ⟨rfl, b4⟩
            go_wp2_with fail
            refine (dec_is (a0 ++ a1) (d0 ++ d1) _ (by omega) HD.out).mono ?_
            rintro e w25 ⟨rfl, b5⟩
            go_wp2_with fail
            refine (dec_is a0 d0 _ (by omega) HD0.out).mono ?_
            rintro e w26 ⟨rfl, b6⟩
            go_wp2_with fail
            refine (dec_is a1 d1 _ (by omega) HD1.out).mono ?_
            rintro e w27 ⟨rfl, b7⟩
            go_wp2
            go_ret
            exact ⟨ret_bool (by first | rfl | simp), below_then (below_then (below_then (below_then (below_then (below_then b1 b2) b3) b4) b5) b6) b7⟩
      · have hd : decL (a0 ++ a1).data.toList = (d0 ++ d1).data.toList := by
          rw [app_list, app_list, dec_app _ _ (ends_no a0 (fun h' => absurd h' hn) (fun h' => absurd h' (by omega))), HD0.out, HD1.out]
        have HD := Lib.hid hd
        clear hd
        go_enter Try.func7, Try.ntmps7
        go_wp2_with fail
        refine (awake_any _).mono ?_
        rintro e w21 ⟨rfl, b1⟩
        go_wp2_with fail
        refine (enc_is (a0 ++ a1) (e0 ++ e1) a2 _ (by omega) HE.out).mono ?_
        rintro e w22 ⟨rfl, b2⟩
        go_wp2_with fail
        refine (enc_is a0 e0 a2 _ (by omega) HE0.out).mono ?_
        rintro e w23 ⟨rfl, b3⟩
        go_wp2_with fail
        refine (enc_is a1 e1 a2 _ (by omega) HE1.out).mono ?_
        rintro e w24 ⟨rfl, b4⟩
        go_wp2_with fail
        refine (dec_is (a0 ++ a1) (d0 ++ d1) _ (by omega) HD.out).mono ?_
        rintro e w25 ⟨rfl, b5⟩
        go_wp2_with fail
        refine (dec_is a0 d0 _ (by omega) HD0.out).mono ?_
        rintro e w26 ⟨rfl, b6⟩
        go_wp2_with fail
        refine (dec_is a1 d1 _ (by omega) HD1.out).mono ?_
        rintro e w27 ⟨rfl, b7⟩
        go_wp2
        go_ret
        exact ⟨ret_bool (by first | rfl | simp), below_then (below_then (below_then (below_then (below_then (below_then b1 b2) b3) b4) b5) b6) b7⟩
    ·
      go_enter Try.func7, Try.ntmps7
      go_wp2_with fail
      refine (awake_any _).mono ?_
      rintro e w21 ⟨rfl, b1⟩
      go_wp2
      go_ret
      exact ⟨rfl, b1⟩
  ·
    go_enter Try.func7, Try.ntmps7
    go_wp2_with fail
    refine (awake_any _).mono ?_
    rintro e w21 ⟨rfl, b1⟩
    go_wp2
    go_ret
    exact ⟨rfl, b1⟩

/-! ### THE ROW's STEP: WRITTEN OUT: LEAVE IT -/
set_option maxRecDepth 100000 in
theorem lifted (os : Os) (started : os.Started) (H : Type) (enc : TypeId × Value → H) :
    ReturnsInHanded {} Try.checked os 7 .any (Rows.pctPartsSpec.pre6 enc Try.prog Try.f7 Rows.pctPartsRow.domain false) (Rows.pctPartsSpec.post enc Try.prog Try.f7 false true false false) := by
  refine returnsInHanded_of_change (C := Try.checked) own started (by kernel_rfl) Try.func7
    (ChangeSpec.witness6 (enc := enc) (C := Try.checked) false ⟨#[], #[.string ByteArray.empty, .string ByteArray.empty, .int .i64 0], []⟩ 8 (by kernel_rfl) (by kernel_rfl) (by kernel_rfl) (by kernel_rfl)) ?_
  intro W base args ds gs before hval0 hW hcnd _
  have hval : ∀ (j : Nat) t v, Try.f7.params[j]? = some t → args[j]? = some v → Value.okWide Try.prog W .any base t v := hval0
  have hW' := hW
  obtain ⟨p, q, hA0, hV, rfl, hfz, hnd⟩ := hW
  have hA : DataW.TrodAll enc Try.prog W 0 (fun _ => true) true Try.f7.params.toList args.toList ds p := hA0
  rw [Try.params7] at hA hval
  obtain ⟨v0, vs0, d0, ds0, p0, q0, hargs, rfl, rfl, h0, r0⟩ := trodAll_cons hA
  obtain ⟨v1, vs1, d1, ds1, p1, q1, rfl, rfl, rfl, h1, r1⟩ := trodAll_cons r0
  obtain ⟨v2, vs2, d2, ds2, p2, q2, rfl, rfl, rfl, h2, r2⟩ := trodAll_cons r1
  obtain ⟨rfl, rfl, rfl⟩ := trodAll_nil r2
  obtain rfl : args = #[v0, v1, v2] := by cases args; simp_all
  obtain ⟨rfl, rfl⟩ := trodVars_none hV
  obtain ⟨a0, rfl, rfl, rfl, w0⟩ := open_string Try.underlying9 (hval 0 9 v0 rfl rfl) h0
  obtain ⟨a1, rfl, rfl, rfl, w1⟩ := open_string Try.underlying9 (hval 1 9 v1 rfl rfl) h1
  obtain ⟨a2, rfl, rfl, rfl, w2⟩ := open_int Try.underlying3 (hval 2 3 v2 rfl rfl) h2
  clear hA0 hval0
  simp only [List.append_nil] at hW'
  refine (walk a0 a1 a2 w0 w1 w2 W).mono fun e W' ⟨he, hg⟩ => ?_
  subst he
  exact ⟨_, rfl, _, _, _, [], [], [], hW', (trodAll_cons_mk (shut_bool Try.underlying4 _) trodAll_mk0), (trodAll_cons_mk (shut_string Try.underlying9 w0) (trodAll_cons_mk (shut_string Try.underlying9 w1) (trodAll_cons_mk (shut_int Try.underlying3 w2) trodAll_mk0))), rfl, hg.frame _, fun h => by cases h⟩

theorem over : Rows.pctPartsRow.holds Try.pinned (OpenSpec.ofChange Rows.pctPartsSpec) :=
  OpenClaim.holds_of_wide 7 Try.f7 rfl rfl rfl rfl rfl rfl rfl ⟨rfl, rfl, rfl, rfl, rfl⟩ rfl rfl rfl rfl rfl (by kernel_rfl) Try.func7 (by kernel_rfl)
    (of_decide_eq_true (by kernel_rfl)) (by unfold Func.isWrapper; first | (rw [if_pos (by decide +kernel)]; kernel_rfl) | (rw [if_neg (by decide +kernel)]; exact ⟨rfl, rfl⟩))
    (fun os started H enc _ => lifted os started H enc)

/-- ████ THE STATEMENT ████ -/
theorem proved : Rows.PctPartsSaid :=
  over
#print axioms proved
end Go.Proofs.Ytnfnbobioclniaa.pctParts
