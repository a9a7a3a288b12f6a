/- The walks of layer 3's document's decoding: for every text of at most 20000 bytes. -/
import Derived.Test.YtnfnbobioclniaaWalksH
namespace Go.Proofs.Ytnfnbobioclniaa
open Go.RowKit

def tl : List UInt8 → Int
  | c :: a :: b :: _ => if esc c a b then 16 * hexN a.toNat + hexN b.toNat else -1
  | _ => -1
theorem tl_cons3 (c a b : UInt8) (l : List UInt8) : tl (c :: a :: b :: l) = if esc c a b then 16 * hexN a.toNat + hexN b.toNat else -1 := rfl
theorem tl_short (l : List UInt8) (h : l.length < 3) : tl l = -1 := by
  match l, h with
  | [], _ => rfl
  | [_], _ => rfl
  | [_, _], _ => rfl
  | _ :: _ :: _ :: _, h => simp at h; omega
theorem drop3 (s : ByteArray) (k : Nat) (h : k + 2 < s.size) : s.data.toList.drop k = s[k] :: s[k + 1] :: s[k + 2] :: s.data.toList.drop (k + 3) := by
  rw [cons_at s k (by omega), cons_at s (k + 1) (by omega), cons_at s (k + 2) h]
theorem tl_at (s : ByteArray) (k : Nat) (h : k + 2 < s.size) : tl (s.data.toList.drop k) = if esc s[k] s[k + 1] s[k + 2] then 16 * hexN s[k + 1].toNat + hexN s[k + 2].toNat else -1 := by
  rw [drop3 s k h, tl_cons3]
theorem dec_tl_no (s : ByteArray) (k : Nat) (h : k < s.size) (ht : tl (s.data.toList.drop k) < 0) : decL (s.data.toList.drop k) = s[k] :: decL (s.data.toList.drop (k + 1)) := by
  rw [cons_at s k h] at ht ⊢
  refine decL_stay _ _ fun a b l' e => ?_
  rw [e, tl_cons3] at ht
  cases he : esc s[k] a b with
  | false => rfl
  | true =>
    exfalso
    rw [if_pos he] at ht
    unfold esc at he
    simp only [Bool.and_eq_true, decide_eq_true_eq] at he
    omega
theorem dec_tl_yes (s : ByteArray) (k : Nat) (ht : ¬ tl (s.data.toList.drop k) < 0) : k + 2 < s.size ∧ tl (s.data.toList.drop k) < 256 ∧ decL (s.data.toList.drop k) = UInt8.ofNat (tl (s.data.toList.drop k)).toNat :: decL (s.data.toList.drop (k + 3)) := by
  by_cases h : k + 2 < s.size
  · refine ⟨h, ?_, ?_⟩
    · rw [tl_at s k h]
      have := hexN_lt s[k + 1].toNat
      have := hexN_lt s[k + 2].toNat
      split <;> omega
    · rw [tl_at s k h] at ht ⊢
      cases he : esc s[k] s[k + 1] s[k + 2] with
      | false => rw [if_neg (by simp [he])] at ht; omega
      | true =>
        rw [if_pos rfl, drop3 s k h, decL_esc _ _ _ _ he]; rfl
  · exfalso
    rw [tl_short _ (by rw [List.length_drop, size_len]; omega)] at ht
    omega

theorem told_any (s : ByteArray) (k : Nat) (hk : k < s.size) (hs : s.size ≤ 20000) (w : World) :
    Calls Try.prog 30 #[.string s, .int .i64 k] w fun e w' => e = .returned (.int .i64 (tl (s.data.toList.drop k))) ∧ w = w' := by
  by_cases h37 : (s[k]'hk) = 37
  · have c1 : (((s[k]'hk).toNat : Int) == 37) = true := by rw [h37]; rfl
    have c2 : (((s[k]'hk).toNat : Int) != 37) = false := by rw [h37]; rfl
    by_cases h3 : k + 2 < s.size
    · have r1 : IntKind.i64.wrap ((k : Int) + 1) = ((k + 1 : Nat) : Int) := wrap_i64 (by omega) (by omega)
      have r2 : IntKind.i64.wrap ((k : Int) + 2) = ((k + 2 : Nat) : Int) := wrap_i64 (by omega) (by omega)
      have e1 := tl_at s k h3
      have l1 := hexN_lt (s[k + 1]'(by omega)).toNat
      have l2 := hexN_lt (s[k + 2]'h3).toNat
      unfold esc at e1
      rw [h37] at e1
      by_cases hx1 : hexN (s[k + 1]'(by omega)).toNat < 0
      · have HE : Hid (tl (s.data.toList.drop k) = -1) := by
          show _ = _
          rw [e1, decide_eq_false (show ¬ (0 : Int) ≤ hexN (s[k + 1]'(by omega)).toNat by omega)]; rfl
        clear e1 h37
        go_enter Try.func30, Try.ntmps30
        go_wp2_with fail
        refine (refhex_any _ _).mono ?_
        rintro e w2 ⟨rfl, rfl⟩
        go_wp2_with fail
        refine (refhex_any _ _).mono ?_
        rintro e w2 ⟨rfl, rfl⟩
        go_wp2
        go_ret
        exact ⟨ret_int (by rw [HE.out]), rfl⟩
      · by_cases hx2 : hexN (s[k + 2]'h3).toNat < 0
        · have HE : Hid (tl (s.data.toList.drop k) = -1) := by
            show _ = _
            rw [e1, decide_eq_false (show ¬ (0 : Int) ≤ hexN (s[k + 2]'(by omega)).toNat by omega)]; simp
          clear e1 h37
          go_enter Try.func30, Try.ntmps30
          go_wp2_with fail
          refine (refhex_any _ _).mono ?_
          rintro e w2 ⟨rfl, rfl⟩
          go_wp2_with fail
          refine (refhex_any _ _).mono ?_
          rintro e w2 ⟨rfl, rfl⟩
          go_wp2
          go_ret
          exact ⟨ret_int (by rw [HE.out]), rfl⟩
        · have HE : Hid (tl (s.data.toList.drop k) = 16 * hexN (s[k + 1]'(by omega)).toNat + hexN (s[k + 2]'h3).toNat) := by
            show _ = _
            rw [e1, decide_eq_true (show (0 : Int) ≤ hexN (s[k + 2]'(by omega)).toNat by omega), decide_eq_true (show (0 : Int) ≤ hexN (s[k + 1]'(by omega)).toNat by omega)]; rfl
          have r3 : IntKind.i64.wrap ((16 : Int) * hexN (s[k + 1]'(by omega)).toNat) = 16 * hexN (s[k + 1]'(by omega)).toNat := wrap_i64 (by omega) (by omega)
          have r4 : IntKind.i64.wrap ((16 : Int) * hexN (s[k + 1]'(by omega)).toNat + hexN (s[k + 2]'(by omega)).toNat) = 16 * hexN (s[k + 1]'(by omega)).toNat + hexN (s[k + 2]'(by omega)).toNat := wrap_i64 (by omega) (by omega)
          clear e1 h37
          go_enter Try.func30, Try.ntmps30
          go_wp2_with fail
          refine (refhex_any _ _).mono ?_
          rintro e w2 ⟨rfl, rfl⟩
          go_wp2_with fail
          refine (refhex_any _ _).mono ?_
          rintro e w2 ⟨rfl, rfl⟩
          go_wp2
          go_ret
          exact ⟨ret_int (by rw [HE.out]), rfl⟩
    · have HE := Lib.hid (tl_short (s.data.toList.drop k) (by rw [List.length_drop, size_len]; omega))
      clear h37
      go_enter Try.func30, Try.ntmps30
      go_wp2
      go_ret
      exact ⟨ret_int (by rw [HE.out]), rfl⟩
  · have c1 : (((s[k]'hk).toNat : Int) == 37) = false := by
      rw [beq_eq_false_iff_ne]; intro e; exact h37 (UInt8.toNat_inj.1 (by simpa using (show (s[k]'hk).toNat = 37 by omega)))
    have c2 : (((s[k]'hk).toNat : Int) != 37) = true := by rw [bne, c1]; rfl
    have HE : Hid (tl (s.data.toList.drop k) = -1) := by
      show _ = _
      by_cases h3 : k + 2 < s.size
      · rw [tl_at s k h3]; unfold esc; rw [beq_eq_false_iff_ne.2 h37]; rfl
      · exact tl_short _ (by rw [List.length_drop, size_len]; omega)
    clear h37
    go_enter Try.func30, Try.ntmps30
    go_wp2
    go_ret
    exact ⟨ret_int (by rw [HE.out]), rfl⟩

/-- Where the document's decoding stands. -/
def RefR (s : ByteArray) (w wr : World) (v : Value) (k : Nat) (out : List UInt8) : Prop :=
  out ++ decL (s.data.toList.drop k) = decL s.data.toList ∧ out.length ≤ k ∧ wr.ownsRow w.heap.size 5 1 v out.length (u8s out) ∧ Below w.heap.size w wr
theorem refR_step {s : ByteArray} {w wr w1 : World} {v v' : Value} {k j n : Nat} {out : List UInt8} {c : UInt8} {xs : List Value} {o : Obj} (h : RefR s w wr v k out) (hj : k + 1 ≤ j) (hd : decL (s.data.toList.drop k) = c :: decL (s.data.toList.drop j))
    (hown' : w1.ownsRow w.heap.size 5 1 v' n (u8s out ++ xs)) (hxs : xs = [.int .u8 c.toNat]) (hgrow : ((wr.alloc o)).grownBy w1 v.ownBlock) : RefR s w w1 v' j (out ++ [c]) := by
  obtain ⟨h1, h2, h3, h4⟩ := h
  have e : u8s out ++ xs = u8s (out ++ [c]) := by rw [hxs]; unfold u8s; rw [List.map_append]; rfl
  rw [e] at hown'
  have hn : n = (out ++ [c]).length := by
    have := hown'.1
    unfold u8s at this
    rw [List.length_map] at this
    omega
  subst hn
  refine ⟨?_, by simp; omega, hown', (h4.alloc h4.size o).grown hgrow (by simp; have := h4.size; omega) (fun j hj => (h3.lt j hj).1)⟩
  rw [← h1, hd]; simp

set_option maxRecDepth 100000 in
set_option maxHeartbeats 1000000 in
theorem refdec_any (s : ByteArray) (w : World) (hs : s.size ≤ 20000) :
    Calls Try.prog 17 #[.string s] w fun e w' => e = .returned (.string ⟨(decL s.data.toList).toArray⟩) ∧ Below w.heap.size w w' := by
  obtain ⟨i0, hi0, hz0, hz1, hz2⟩ := info_parts Try.info5
  go_enter Try.func17, Try.ntmps17
  go_wp2
  go_loopw [3, 4] (fun v i wr => ∃ (k : Nat) (out : List UInt8), k ≤ s.size ∧ i = .int .i64 k ∧ RefR s w wr v k out) (fun _ i _ => s.size - (intOf i).toNat)
  case atStart => exact ⟨0, [], Nat.zero_le _, rfl, rfl, Nat.le_refl _, World.ownsRow_nil _ _ _ _, Below.refl _ _⟩
  case round =>
    obtain ⟨k, out, hk, rfl, HR⟩ := hrel
    by_cases hp : k < s.size
    · have hown := HR.2.2.1
      have hxl := HR.2.1
      have hsz := HR.2.2.2.size
      by_cases hn : tl (s.data.toList.drop k) < 0
      · have HD := Lib.hid (dec_tl_no s k hp hn)
        obtain ⟨m, hm⟩ : ∃ m, m = tl (s.data.toList.drop k) := ⟨_, rfl⟩
        rw [← hm] at hn
        have HM := Lib.hid hm
        clear hm
        · go_wp2_with fail
          refine (told_any s k hp hs _).mono ?_
          rintro e w' ⟨rfl, rfl⟩
          rw [← HM.out]
          go_wp2_with ((at_builtin; refine wpList_append_own _ rfl _ _ 30 rfl w.heap.size 5 i0 (.int .u8 0) 1 1 Try.underlying30 hi0 hz0 hz1 hz2 rfl (by decide) _ _ _ rfl (hown.alloc _) ⟨wr.heap.size, 0, none⟩ 1 1 [.int .u8 (s[k]'hp).toNat] rfl rfl ?c1 ?c2 ?c3 ?c4 ?c5 ?_))
          case c1 =>
            intro j u hj
            match j, hj with
            | 0, hj => simp at hj; subst hj; simp [Addr.add]
          case c2 => intro u hu; simp at hu; subst hu; rfl
          case c3 => unfold maxLen; omega
          case c4 => omega
          case c5 => simp; omega
          intro v' w1 hown' hgrow _
          have R := refR_step HR (Nat.le_refl _) HD.out hown' rfl hgrow
          clear hown' hgrow hown HR
          go_wp2
          go_roundw
          case rel => exact ⟨k + 1, _, by omega, by go_num, R⟩
          case measure => simp [intOf]; omega
      · obtain ⟨h2, h256, hd3⟩ := dec_tl_yes s k hn
        obtain ⟨m, hm⟩ : ∃ m, m = tl (s.data.toList.drop k) := ⟨_, rfl⟩
        rw [← hm] at hn h256 hd3
        have hmt : ((UInt8.ofNat m.toNat).toNat : Int) = m := by simp only [UInt8.toNat_ofNat']; omega
        have HMT := Lib.hid hmt
        have HD := Lib.hid hd3
        have HM := Lib.hid hm
        have r1 : IntKind.u8.wrap m = m := wrap_u8 (by omega) (by omega)
        clear hm hd3 hmt
        · go_wp2_with fail
          refine (told_any s k hp hs _).mono ?_
          rintro e w' ⟨rfl, rfl⟩
          rw [← HM.out]
          go_wp2_with ((at_builtin; refine wpList_append_own _ rfl _ _ 30 rfl w.heap.size 5 i0 (.int .u8 0) 1 1 Try.underlying30 hi0 hz0 hz1 hz2 rfl (by decide) _ _ _ rfl (hown.alloc _) ⟨wr.heap.size, 0, none⟩ 1 1 [.int .u8 m] rfl rfl ?c1 ?c2 ?c3 ?c4 ?c5 ?_))
          case c1 =>
            intro j u hj
            match j, hj with
            | 0, hj => simp at hj; subst hj; simp [Addr.add]
          case c2 => intro u hu; simp at hu; subst hu; rfl
          case c3 => unfold maxLen; omega
          case c4 => omega
          case c5 => simp; omega
          intro v' w1 hown' hgrow _
          have R := refR_step HR (show k + 1 ≤ k + 3 by omega) HD.out hown' (by rw [HMT.out]) hgrow
          clear hown' hgrow hown HR
          go_wp2
          go_roundw
          case rel => exact ⟨k + 3, _, by omega, by go_num, R⟩
          case measure => simp [intOf]; omega
    · have HD : Hid (out = decL s.data.toList) := by
        show _ = _
        have h := HR.1
        rw [List.drop_eq_nil_of_le (by rw [size_len]; omega)] at h
        rw [← h]; simp [decL]
      have hcv := run_convert_owned (P := Try.prog) 30 9 Try.underlying30 Try.underlying5 Try.underlying9 HR.2.2.1
      go_wp2
      go_ret
      exact ⟨by rw [← HD.out]; rfl, HR.2.2.2⟩
end Go.Proofs.Ytnfnbobioclniaa
