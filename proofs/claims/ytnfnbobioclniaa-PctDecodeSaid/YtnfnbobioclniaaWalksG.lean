/- The plain law of layer 3's decoding, and the walk of Decode: for every text of at most 20000 bytes. -/
import Derived.Test.YtnfnbobioclniaaWalksF
namespace Go.Proofs.Ytnfnbobioclniaa
open Go.RowKit

def val (a b : UInt8) : UInt8 := UInt8.ofNat (16 * hexN a.toNat + hexN b.toNat).toNat
def esc (c a b : UInt8) : Bool := (c == 37) && (decide (0 ≤ hexN a.toNat) && decide (0 ≤ hexN b.toNat))
def decL : List UInt8 → List UInt8
  | [] => []
  | [c] => [c]
  | [c, d] => [c, d]
  | c :: a :: b :: l => if esc c a b then val a b :: decL l else c :: decL (a :: b :: l)
theorem decL_stay (c : UInt8) (l : List UInt8) (h : ∀ a b l', l = a :: b :: l' → esc c a b = false) : decL (c :: l) = c :: decL l := by
  match l with
  | [] => rfl
  | [d] => rfl
  | a :: b :: l' => rw [decL, if_neg (by rw [h a b l' rfl]; simp)]
theorem decL_esc (c a b : UInt8) (l : List UInt8) (h : esc c a b = true) : decL (c :: a :: b :: l) = val a b :: decL l := by
  rw [decL, if_pos h]
theorem hexN_lt (n : Nat) : hexN n < 16 := by unfold hexN; (repeat' split) <;> omega
theorem hexN_ge (n : Nat) : -1 ≤ hexN n := by unfold hexN; (repeat' split) <;> omega

theorem val_toNat (a b : UInt8) (ha : 0 ≤ hexN a.toNat) (hb : 0 ≤ hexN b.toNat) : ((val a b).toNat : Int) = 16 * hexN a.toNat + hexN b.toNat := by
  have h1 := hexN_lt a.toNat
  have h2 := hexN_lt b.toNat
  unfold val
  simp only [UInt8.toNat_ofNat']
  omega

theorem ext_toList (s : ByteArray) (k : Nat) : (s.extract k s.size).data.toList = s.data.toList.drop k := by
  rw [ByteArray.data_extract, Array.toList_extract, List.extract_eq_take_drop]
  exact List.take_of_length_le (by rw [List.length_drop, size_len]; omega)
theorem cons_at (s : ByteArray) (k : Nat) (h : k < s.size) : s.data.toList.drop k = s[k] :: s.data.toList.drop (k + 1) := by
  rw [List.drop_eq_getElem_cons (by simpa using h)]; rfl
theorem dec_stay (s : ByteArray) (h0 : 0 < s.size) (h : ∀ (h2 : 2 < s.size), esc (s[0]'h0) (s[1]'(by omega)) (s[2]'h2) = false) : decL s.data.toList = s[0]'h0 :: decL (s.extract 1 s.size).data.toList := by
  rw [ext_toList]
  have e := cons_at s 0 h0
  rw [List.drop_zero] at e
  rw [e]
  simp only [List.drop_succ_cons, List.drop_zero, Nat.zero_add] at *
  refine decL_stay _ _ fun a b l' he => ?_
  have h2 : 2 < s.size := by
    have := congrArg List.length he
    rw [List.length_drop, size_len] at this; simp at this; omega
  have e1 := cons_at s 1 (by omega)
  have e2 := cons_at s 2 h2
  rw [e2] at e1
  rw [e1] at he
  cases he
  exact h h2
theorem dec_stay7 (s : ByteArray) (h0 : 0 < s.size) (h7 : s[0]'h0 = 37) (h : ∀ (h2 : 2 < s.size), esc (s[0]'h0) (s[1]'(by omega)) (s[2]'h2) = false) : decL s.data.toList = 37 :: decL (s.extract 1 s.size).data.toList := by
  have := dec_stay s h0 h
  rw [h7] at this; exact this
theorem dec_esc (s : ByteArray) (h2 : 2 < s.size) (h : esc (s[0]'(by omega)) (s[1]'(by omega)) (s[2]'h2) = true) : decL s.data.toList = val (s[1]'(by omega)) (s[2]'h2) :: decL (s.extract 3 s.size).data.toList := by
  rw [ext_toList]
  have e := cons_at s 0 (by omega)
  rw [List.drop_zero, cons_at s 1 (by omega), cons_at s 2 h2] at e
  rw [e, decL_esc _ _ _ _ h]
  rfl

theorem getD_data (s : ByteArray) (i : Nat) : s.get! i = s.data.toList.getD i 0 := by
  have : s.get! i = s.data[i]! := rfl
  rw [this]
  by_cases h : i < s.data.size
  · rw [getElem!_pos s.data i h, List.getD, Array.getElem?_toList, Array.getElem?_eq_getElem h]; rfl
  · rw [getElem!_neg s.data i h, List.getD, Array.getElem?_toList, Array.getElem?_eq_none (by omega)]; rfl
theorem toList_data (s : ByteArray) : s.toList = s.data.toList := by
  have h : ∀ (n i : Nat) (r : List UInt8), s.size - i = n → ByteArray.toList.loop s i r = r.reverse ++ s.data.toList.drop i := by
    intro n
    induction n with
    | zero =>
      intro i r h
      rw [ByteArray.toList.loop, if_neg (by omega), List.drop_eq_nil_of_le (by rw [size_len]; omega), List.append_nil]
    | succ n ih =>
      intro i r h
      have hi : i < s.size := by omega
      rw [ByteArray.toList.loop, if_pos hi, ih (i + 1) _ (by omega), List.reverse_cons, List.append_assoc, List.singleton_append]
      have hd : s.data.toList.drop i = s.get! i :: s.data.toList.drop (i + 1) := by
        rw [List.drop_eq_getElem_cons (by rw [size_len]; exact hi), getD_data]
        simp [List.getD, hi]
      rw [hd]
  have := h (s.size - 0) 0 [] rfl
  simpa [ByteArray.toList] using this
theorem mk_list (s : ByteArray) : (⟨s.data.toList.toArray⟩ : ByteArray) = s := by cases s; simp
theorem ext_list {a b : ByteArray} (h : a.data.toList = b.data.toList) : a = b := by rw [← mk_list a, ← mk_list b, h]
theorem app_list (a b : ByteArray) : (a ++ b).data.toList = a.data.toList ++ b.data.toList := by simp [ByteArray.data_append]
theorem app_size (a b : ByteArray) : (a ++ b).size = a.size + b.size := by rw [← size_len, app_list, List.length_append, size_len, size_len]
theorem beq_no {a b : ByteArray} (h : a ≠ b) : (a.toList == b.toList) = false := by
  rw [beq_eq_false_iff_ne, toList_data, toList_data]
  exact fun e => h (ext_list e)

theorem empty_iff (s : ByteArray) : s.toList.isEmpty = true ↔ s.size = 0 := by
  rw [toList_data, List.isEmpty_iff, ← size_len, List.length_eq_zero_iff]

theorem empty_no {s : ByteArray} (h : s.size ≠ 0) : s.toList.isEmpty = false := by
  cases e : s.toList.isEmpty with
  | false => rfl
  | true => exact absurd ((empty_iff s).1 e) h

theorem ret_str {t : ByteArray} {l : List UInt8} (h : t.data.toList = l) : Ending.returned (.string t) = .returned (.string ⟨l.toArray⟩) := by rw [← h, mk_list]

/-- Where the loop stands: a rest, and what is told of what is ahead of it. -/
def DecR (s : ByteArray) (w : World) (x : Value) (wr : World) : Prop :=
  ∃ (t : ByteArray) (v : Value) (out : List UInt8), x = .string t ∧ out ++ decL t.data.toList = decL s.data.toList ∧ out.length + t.size ≤ s.size ∧ Bld w.heap.size w.heap.size v out wr ∧ Below w.heap.size w wr

theorem dec_put {s t : ByteArray} {w wr w2 W : World} {v : Value} {out : List UInt8} {x : UInt8} {j : Nat} (hs : s.size ≤ 20000) (hj : 1 ≤ j) (hjt : j ≤ t.size) (hd : out ++ decL t.data.toList = decL s.data.toList) (hl : out.length + t.size ≤ s.size) (HB : Bld w.heap.size w.heap.size v out wr) (HS : Below w.heap.size w wr)
    (b2 : wr = w2 ∨ wr.drew = w2) (hx : decL t.data.toList = x :: decL (t.extract j t.size).data.toList) (hW : W = w2.alloc (.cells #[.int .u8 x.toNat] 5) ∨ W = (w2.alloc (.cells #[.int .u8 x.toNat] 5)).drew) :
    Calls Try.prog 27 #[.pointer (some ⟨w.heap.size, 0, none⟩), .slice (some ⟨w2.heap.size, 0, none⟩) 1 1] W fun e w' => e = .returned (.tuple #[]) ∧ DecR s w (.string (t.extract j t.size)) w' := by
  have hbb : Below wr.heap.size wr w2 := by
    rcases b2 with rfl | rfl
    · exact Below.refl _ _
    · exact (Below.refl _ _).drew
  refine (put_new _ _ v out [x] w w2 _ W (HB.below hbb) (by simp; omega) (HS.trans (hbb.mono HS.size)) (Nat.le_refl _) rfl hW).mono fun e w' ⟨he, v', h1, h2⟩ => ⟨he, t.extract j t.size, v', out ++ [x], rfl, ?_, ?_, h1, h2⟩
  · rw [← hd, hx]; simp
  · simp; omega

theorem wrap_i64 {n : Int} (h0 : 0 ≤ n) (h1 : n < 65536) : IntKind.i64.wrap n = n := by
  unfold IntKind.wrap
  simp [IntKind.bits, IntKind.signed]
  omega
def strLen : Value → Nat
  | .string t => t.size
  | _ => 0

set_option maxRecDepth 100000 in
set_option maxHeartbeats 2000000 in
theorem decode_any (s : ByteArray) (w : World) (hs : s.size ≤ 20000) :
    Calls Try.prog 16 #[.string s] w fun e w' => e = .returned (.string ⟨(decL s.data.toList).toArray⟩) ∧ Below w.heap.size w w' := by
  have HB0 := Lib.hid (Bld.fresh w)
  go_enter Try.func16, Try.ntmps16
  go_wp2
  go_loopw [0] (fun x wr => DecR s w x wr) (fun x _ => strLen x)
  case atStart => exact ⟨s, _, [], rfl, rfl, by simp, HB0.out, (Below.refl _ _).alloc (Nat.le_refl _) _⟩
  case round =>
    obtain ⟨t, v, out, rfl, hd, hl, HB, HS⟩ := hrel
    have hsz := HS.size
    by_cases hp : 0 < t.size
    · have he1 : t.toList.isEmpty = false := empty_no (by omega)
      by_cases h37 : (t[0]'hp) = 37
      · have c1 : (((t[0]'hp).toNat : Int) == 37) = true := by rw [h37]; rfl
        have c2 : (((t[0]'hp).toNat : Int) != 37) = false := by rw [h37]; rfl
        by_cases h3 : 2 < t.size
        · by_cases hx1 : hexN (t[1]'(by omega)).toNat < 0
          · have HPUT := Lib.hid (dec_put (w2 := wr) hs (Nat.le_refl 1) (by omega) hd hl HB HS (Or.inl rfl) (dec_stay t hp (fun h2 => by unfold esc; rw [decide_eq_false (show ¬ (0 : Int) ≤ hexN (t[1]'(by omega)).toNat by omega)]; simp)) (Or.inl rfl))
            have HH := Lib.hid hx1
            obtain ⟨x1, e1⟩ : ∃ x1, x1 = hexN (t[1]'(by omega)).toNat := ⟨_, rfl⟩
            rw [← e1] at hx1
            have HE := Lib.hid e1
            clear e1 HB HS hd hl h37
            go_wp2_with fail
            refine (hex_any _ _).mono ?_
            rintro e w2 ⟨rfl, rfl⟩
            rw [← HE.out]
            go_wp2_with fail
            refine (HPUT.out).mono ?_
            rintro e w3 ⟨rfl, HR3⟩
            go_wp2_with fail
            go_roundw
            case rel => exact HR3
            case measure => simp [strLen]; omega
          · by_cases hx2 : hexN (t[2]'h3).toNat < 0
            · have HPUT := Lib.hid (dec_put (w2 := wr) hs (Nat.le_refl 1) (by omega) hd hl HB HS (Or.inl rfl) (dec_stay t hp (fun h2 => by unfold esc; rw [decide_eq_false (show ¬ (0 : Int) ≤ hexN (t[2]'(by omega)).toNat by omega)]; simp)) (Or.inl rfl))
              obtain ⟨x1, e1⟩ : ∃ x1, x1 = hexN (t[1]'(by omega)).toNat := ⟨_, rfl⟩
              obtain ⟨x2, e2⟩ : ∃ x2, x2 = hexN (t[2]'(by omega)).toNat := ⟨_, rfl⟩
              rw [← e1] at hx1
              rw [← e2] at hx2
              have HE1 := Lib.hid e1
              have HE2 := Lib.hid e2
              clear e1 e2 HB HS hd hl h37
              go_wp2_with fail
              refine (hex_any _ _).mono ?_
              rintro e w2 ⟨rfl, rfl⟩
              rw [← HE1.out]
              go_wp2_with fail
              refine (hex_any _ _).mono ?_
              rintro e w2 ⟨rfl, rfl⟩
              rw [← HE2.out]
              go_wp2_with fail
              refine (HPUT.out).mono ?_
              rintro e w3 ⟨rfl, HR3⟩
              go_wp2_with fail
              go_roundw
              case rel => exact HR3
              case measure => simp [strLen]; omega
            · have HPUT := Lib.hid (dec_put (w2 := wr.drew) (W := ((wr.drew).alloc (.cells #[.int .u8 ((16 : Int) * hexN (t[1]'(by omega)).toNat + hexN (t[2]'h3).toNat)] 5))) hs (show 1 ≤ 3 by omega) (by omega) hd hl HB HS (Or.inr rfl) (dec_esc t h3 (by unfold esc; rw [h37, decide_eq_true (show (0 : Int) ≤ hexN (t[2]'(by omega)).toNat by omega), decide_eq_true (show (0 : Int) ≤ hexN (t[1]'(by omega)).toNat by omega)]; rfl)) (Or.inl (by rw [val_toNat _ _ (by omega) (by omega)])))
              have l1 := hexN_lt (t[1]'(by omega)).toNat
              have l2 := hexN_lt (t[2]'(by omega)).toNat
              have r1 : IntKind.i64.wrap ((16 : Int) * hexN (t[1]'(by omega)).toNat) = 16 * hexN (t[1]'(by omega)).toNat := wrap_i64 (by omega) (by omega)
              have r2 : IntKind.i64.wrap ((16 : Int) * hexN (t[1]'(by omega)).toNat + hexN (t[2]'(by omega)).toNat) = 16 * hexN (t[1]'(by omega)).toNat + hexN (t[2]'(by omega)).toNat := wrap_i64 (by omega) (by omega)
              have r3 : IntKind.u8.wrap ((16 : Int) * hexN (t[1]'(by omega)).toNat + hexN (t[2]'(by omega)).toNat) = 16 * hexN (t[1]'(by omega)).toNat + hexN (t[2]'(by omega)).toNat := wrap_u8 (by omega) (by omega)
              clear HB HS hd hl h37
              go_wp2_with fail
              refine (hex_any _ _).mono ?_
              rintro e w2 ⟨rfl, rfl⟩
              go_wp2_with fail
              refine (hex_any _ _).mono ?_
              rintro e w2 ⟨rfl, rfl⟩
              go_wp2
              go_region_held3 (fun _ => True) (trivial) ((first | (go_at_call 29; refine (hex_any _ _).mono ?_; rintro e w3 ⟨rfl, rfl⟩) | (go_at_call 27; refine (HPUT.out).mono ?_; rintro e w3 ⟨rfl, HR3⟩)))
              all_goals
                go_wp2
                go_roundw
                case rel => exact HR3
                case measure => simp [strLen]; omega
        · have HPUT := Lib.hid (dec_put (w2 := wr) hs (Nat.le_refl 1) (by omega) hd hl HB HS (Or.inl rfl) (dec_stay t hp (fun h2 => absurd h2 h3)) (Or.inl rfl))
          clear HB HS hd hl h37
          go_wp2_with fail
          refine (HPUT.out).mono ?_
          rintro e w3 ⟨rfl, HR3⟩
          go_wp2_with fail
          go_roundw
          case rel => exact HR3
          case measure => simp [strLen]; omega
      · have c1 : (((t[0]'hp).toNat : Int) == 37) = false := by
          rw [beq_eq_false_iff_ne]; intro e; exact h37 (UInt8.toNat_inj.1 (by simpa using (show (t[0]'hp).toNat = 37 by omega)))
        have c2 : (((t[0]'hp).toNat : Int) != 37) = true := by rw [bne, c1]; rfl
        have HPUT := Lib.hid (dec_put (w2 := wr) hs (Nat.le_refl 1) (by omega) hd hl HB HS (Or.inl rfl) (dec_stay t hp (fun h2 => by unfold esc; rw [beq_eq_false_iff_ne.2 h37]; simp)) (Or.inl rfl))
        clear HB HS hd hl h37
        go_wp2_with fail
        refine (HPUT.out).mono ?_
        rintro e w3 ⟨rfl, HR3⟩
        go_wp2_with fail
        go_roundw
        case rel => exact HR3
        case measure => simp [strLen]; omega
    · have he1 : t.toList.isEmpty = true := (empty_iff t).2 (by omega)
      have HE : Hid (out = decL s.data.toList) := by
        show _ = _
        rw [← hd, show t.data.toList = [] from List.eq_nil_of_length_eq_zero (by rw [size_len]; omega)]; simp [decL]
      clear hd hl
      go_wp2_with fail
      refine (Try.Builder_String_any w.heap.size w.heap.size out _ HB.isB (by omega)).mono ?_
      rintro e w2 ⟨rfl, b2⟩
      go_wp2
      go_ret
      exact ⟨by rw [HE.out]; rfl, HS.trans b2⟩
end Go.Proofs.Ytnfnbobioclniaa
