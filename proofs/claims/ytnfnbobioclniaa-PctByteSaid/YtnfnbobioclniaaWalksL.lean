/- The plain laws of layer 3's bytes (capital letters, small letters), and what the walk of PctByte holds of its row. -/
import Derived.Test.YtnfnbobioclniaaWalksK
namespace Go.Proofs.Ytnfnbobioclniaa
open Go.RowKit

def lo (n : Nat) (x : UInt8) : UInt8 := if n = 3 ∧ 65 ≤ x.toNat ∧ x.toNat ≤ 70 then x + 32 else x
theorem lo_yes {x : UInt8} (h1 : 65 ≤ x.toNat) (h2 : x.toNat ≤ 70) : ((lo 3 x).toNat : Int) = (x.toNat : Int) + 32 := by
  unfold lo; rw [if_pos ⟨rfl, h1, h2⟩, UInt8.toNat_add]
  have : (32 : UInt8).toNat = 32 := rfl
  rw [this]; omega
theorem lo_no {n : Nat} {x : UInt8} (h : n ≠ 3 ∨ x.toNat < 65 ∨ 70 < x.toNat) : lo n x = x := by
  unfold lo; rw [if_neg (by omega)]
theorem hexN_lo : ∀ n : Fin 16, hexN (lo 3 (hd n.val)).toNat = n.val := by decide
theorem dec_low (c : UInt8) (set : Int) (hi : inS set c = true) : decL ((encC set c).map (lo 3)) = [c] := by
  have hc := c.toNat_lt
  have h1 := hexN_lo ⟨c.toNat / 16, by omega⟩
  have h2 := hexN_lo ⟨c.toNat % 16, by omega⟩
  simp only at h1 h2
  unfold encC
  rw [if_pos hi]
  show decL (lo 3 37 :: lo 3 (hd (c.toNat / 16)) :: lo 3 (hd (c.toNat % 16)) :: []) = _
  rw [show lo 3 37 = 37 from by decide, decL_esc _ _ _ _ (by unfold esc; rw [h1, h2]; simp; omega)]
  show [val _ _] = [c]
  congr 1
  apply UInt8.toNat_inj.1
  have := val_toNat (lo 3 (hd (c.toNat / 16))) (lo 3 (hd (c.toNat % 16))) (by omega) (by omega)
  omega

/-- What the row holds when the first k are turned. -/
def LowR (l : List UInt8) (g : Nat) (w wr : World) (k : Nat) : Prop :=
  (∀ j, j < l.length → wr.cell? ⟨g, j, none⟩ = some (.int .u8 (if j < k then lo l.length (l.getD j 0) else l.getD j 0).toNat)) ∧ (∀ j, j < l.length → wr.frozen? ⟨g, j, none⟩ = false) ∧ Below g w wr
theorem lowR_step {l : List UInt8} {g k : Nat} {w wr : World} (hk : k < l.length) (h : LowR l g w wr k) (y : Int) (hy : y = (lo l.length (l.getD k 0)).toNat) : LowR l g w (wr.setCell ⟨g, k, none⟩ (.int .u8 y)) (k + 1) := by
  subst hy
  obtain ⟨h1, h2, h3⟩ := h
  refine ⟨fun j hj => ?_, fun j hj => (World.frozen?_setCell _ _ _ _).trans (h2 j hj), h3.setCell (Nat.le_refl _) _⟩
  by_cases hjk : j = k
  · subst hjk
    rw [World.cell?_setCell_same _ _ _ (h1 j hj), if_pos (by omega)]
  · rw [World.cell?_setCell_other _ _ _ _ (fun e => hjk (by cases e; rfl)), h1 j hj]
    by_cases hlt : j < k
    · rw [if_pos hlt, if_pos (by omega)]
    · rw [if_neg hlt, if_neg (by omega)]
theorem lowR_skip {l : List UInt8} {g k : Nat} {w wr : World} (h : LowR l g w wr k) (hy : lo l.length (l.getD k 0) = l.getD k 0) : LowR l g w wr (k + 1) := by
  obtain ⟨h1, h2, h3⟩ := h
  refine ⟨fun j hj => ?_, h2, h3⟩
  rw [h1 j hj]
  by_cases hjk : j = k
  · subst hjk
    rw [if_neg (by omega), if_pos (by omega), hy]
  · by_cases hlt : j < k
    · rw [if_pos hlt, if_pos (by omega)]
    · rw [if_neg hlt, if_neg (by omega)]
theorem lowR_drew {l : List UInt8} {g k : Nat} {w wr : World} (h : LowR l g w wr k) : LowR l g w wr.drew k := ⟨fun j hj => h.1 j hj, fun j hj => h.2.1 j hj, h.2.2.drew⟩
theorem lowR_below {l : List UInt8} {g k : Nat} {w wr w' : World} (h : LowR l g w wr k) (hb : Below wr.heap.size wr w') (hg : g ≤ wr.heap.size) : LowR l g w w' k := by
  obtain ⟨h1, h2, h3⟩ := h
  have hbl : ∀ j, j < l.length → w'.heap[g]? = wr.heap[g]? := fun j hj => hb.block g (World.block_lt_of_cell? wr _ (h1 j hj))
  refine ⟨fun j hj => ?_, fun j hj => ?_, h3.trans (hb.mono hg)⟩
  · rw [World.cell?_of_block (hbl j hj)]; exact h1 j hj
  · have := h2 j hj
    unfold World.frozen? at this ⊢
    rw [hbl j hj]; exact this
theorem lowR_start (e : ByteArray) (w : World) (cap : Nat) :
    LowR e.data.toList w.heap.size w (w.drew.alloc (.cells (bytesRow e cap) 5 ((bytesRow e cap).size, (bytesRow e cap).size + 1))) 0 := by
  have hb : (w.drew.alloc (.cells (bytesRow e cap) 5 ((bytesRow e cap).size, (bytesRow e cap).size + 1))).heap[w.heap.size]? = some (.cells (bytesRow e cap) 5 ((bytesRow e cap).size, (bytesRow e cap).size + 1)) := by
    show (w.heap.push _)[w.heap.size]? = _
    simp
  have hsz : e.size ≤ (bytesRow e cap).size := by unfold bytesRow; simp
  refine ⟨fun j hj => ?_, fun j hj => ?_, ((Below.refl _ _).drew).alloc (Nat.le_refl _) _⟩
  · rw [if_neg (by omega)]
    rw [size_len] at hj
    have hj' : j < e.data.size := hj
    simp only [World.cell?, hb]
    show (bytesRow e cap)[j]? = _
    unfold bytesRow
    rw [Array.getElem?_append_left (by simpa using hj')]
    simp [List.getD]
    rw [Array.getElem?_eq_getElem hj']; exact ⟨_, rfl, rfl⟩
  · rw [size_len] at hj
    unfold World.frozen?
    rw [hb]
    simp; omega
theorem lowR_end {l : List UInt8} {g cap : Nat} {w wr : World} (h : LowR l g w wr l.length) :
    (convert 30 9 (.slice (some ⟨g, 0, none⟩) l.length cap)).run Try.prog wr = .ok (.string ⟨(l.map (lo l.length)).toArray⟩) wr := by
  have hl : (l.map (lo l.length)).length = l.length := List.length_map _
  have := run_convert_bytes_back (P := Try.prog) wr 30 9 5 ⟨g, 0, none⟩ cap (l.map (lo l.length)) Try.underlying30 Try.underlying5 Try.underlying9 (fun j hj => by
    have hj' : j < l.length := by omega
    have ea : (⟨g, 0, none⟩ : Addr).add j = ⟨g, j, none⟩ := by unfold Addr.add; split <;> simp_all
    rw [ea, h.1 j hj', if_pos hj']
    simp [List.getD, hj'])
  rw [hl] at this
  exact this
theorem conv_one (c : UInt8) (w1 : World) : (convert 30 9 (.slice (some ⟨w1.heap.size, 0, none⟩) 1 1)).run Try.prog (w1.alloc (.cells #[.int .u8 (c.toNat : Int)] 5)) = .ok (.string ⟨#[c]⟩) (w1.alloc (.cells #[.int .u8 (c.toNat : Int)] 5)) :=
  run_convert_bytes_back (P := Try.prog) _ 30 9 5 ⟨w1.heap.size, 0, none⟩ 1 [c] Try.underlying30 Try.underlying5 Try.underlying9 (fun j hj => by
    match j, hj with
    | 0, _ => simp [Addr.add])

set_option maxRecDepth 100000 in
set_option maxHeartbeats 2000000 in
theorem byte_walk1 (c : UInt8) (a1 : Int) (hi : inS a1 c = false) (w : World) :
    Calls Try.prog 8 #[.int .u8 c.toNat, .int .i64 a1] w fun e w' => e = .returned (.bool true) ∧ Below w.heap.size w w' := by
  have hcu := c.toNat_lt
  have hcv := conv_one c
  have b0 := fun w1 : World => (Below.refl w1.heap.size w1).alloc (Nat.le_refl _) (.cells #[.int .u8 (c.toNat : Int)] 5)
  obtain ⟨e, he⟩ : ∃ e : ByteArray, encC a1 c = e.data.toList := ⟨⟨(encC a1 c).toArray⟩, rfl⟩
  have HE1 : Hid (encL a1 (⟨#[c]⟩ : ByteArray).data.toList = e.data.toList) := by
    show encL a1 [c] = _
    rw [← he]; unfold encL; rw [List.flatMap_singleton]
  have hcb := fun w1 : World => run_bytes_of_string (P := Try.prog) w1 9 30 5 e Try.underlying9 Try.underlying30 Try.underlying5
  have HE := Lib.hid he
  clear he
  have HI := Lib.hid hi
  have hsz : e.size = 1 := by rw [← size_len, ← HE.out]; unfold encC; rw [hi]; rfl
  have hee : e = ⟨#[c]⟩ := ext_list (by rw [← HE.out]; unfold encC; rw [if_neg (by simp [hi])])
  have HEE := Lib.hid hee
  have heq : (e.toList == [c]) = true := by rw [hee]; simp
  clear hee
  clear hi
  go_enter Try.func8, Try.ntmps8
  go_wp2_with fail
  refine (awake_any _).mono ?_
  rintro e1 w21 ⟨rfl, b1⟩
  go_wp2_with fail
  refine (enc_is ⟨#[c]⟩ e a1 _ (by show 1 ≤ 20000; omega) HE1.out).mono ?_
  rintro e1 w22 ⟨rfl, b2⟩
  go_wp2
  have hR0 := lowR_start e w22 (grownCap w22 1 0 5)
  go_loopw [9] (fun i wr => ∃ k : Nat, k ≤ 1 ∧ i = .int .i64 k ∧ LowR e.data.toList w22.heap.size w22 wr k) (fun i _ => 1 - (intOf i).toNat)
  case atStart => exact ⟨0, Nat.zero_le _, rfl, hR0⟩
  case round =>
    obtain ⟨k, hk, rfl, HR⟩ := hrel
    by_cases hp : k < 1
    · have hcell := HR.1 k (by rw [size_len, hsz]; exact hp)
      rw [if_neg (by omega)] at hcell
      have hfz := HR.2.1 k (by rw [size_len, hsz]; exact hp)
      obtain ⟨x, hx⟩ : ∃ x, x = e.data.toList.getD k 0 := ⟨_, rfl⟩
      rw [← hx] at hcell
      have HX := Lib.hid hx
      have hxu := x.toNat_lt
      clear hx
      have hcs : x.toNat < 65 ∨ (65 ≤ x.toNat ∧ x.toNat ≤ 70) ∨ (65 ≤ x.toNat ∧ 70 < x.toNat) := by omega
      rcases hcs with h2 | ⟨h2, h4⟩ | ⟨h2, h4⟩
      · have HR' : Hid (LowR e.data.toList w22.heap.size w22 wr (k + 1)) := lowR_skip HR (by rw [← HX.out]; exact lo_no (by rw [size_len, hsz]; omega))
        clear HR
        go_wp2
        go_roundw
        case rel => exact ⟨k + 1, by omega, by go_num, HR'.out⟩
        case measure => simp [intOf]; omega
      · have HR' : Hid (LowR e.data.toList w22.heap.size w22 wr (k + 1)) := lowR_skip HR (by rw [← HX.out]; exact lo_no (by rw [size_len, hsz]; omega))
        clear HR
        go_wp2
        go_roundw
        case rel => exact ⟨k + 1, by omega, by go_num, HR'.out⟩
        case measure => simp [intOf]; omega
      · have HR' : Hid (LowR e.data.toList w22.heap.size w22 wr (k + 1)) := lowR_skip HR (by rw [← HX.out]; exact lo_no (by rw [size_len, hsz]; omega))
        clear HR
        go_wp2
        go_roundw
        case rel => exact ⟨k + 1, by omega, by go_num, HR'.out⟩
        case measure => simp [intOf]; omega
    · obtain rfl : k = 1 := by omega
      have HCV := lowR_end (cap := grownCap w22 1 0 5) (by rw [size_len, hsz]; exact HR)
      rw [size_len, hsz] at HCV
      have b3 := HR.2.2
      clear HR
      go_wp2_with fail
      refine (in_is a1 c false _ HI.out).mono ?_
      rintro e1 w23 ⟨rfl, b4⟩
      go_wp2
      go_ret
      exact ⟨ret_bool (by first | rfl | (simp; omega)), below_then (below_then (below_then (below_then b1 (b0 _)) b2) b3) b4⟩

set_option maxRecDepth 100000 in
set_option maxHeartbeats 2000000 in
theorem byte_walk3 (c : UInt8) (a1 : Int) (hi : inS a1 c = true) (w : World) :
    Calls Try.prog 8 #[.int .u8 c.toNat, .int .i64 a1] w fun e w' => e = .returned (.bool true) ∧ Below w.heap.size w w' := by
  have hcu := c.toNat_lt
  have hcv := conv_one c
  have b0 := fun w1 : World => (Below.refl w1.heap.size w1).alloc (Nat.le_refl _) (.cells #[.int .u8 (c.toNat : Int)] 5)
  obtain ⟨e, he⟩ : ∃ e : ByteArray, encC a1 c = e.data.toList := ⟨⟨(encC a1 c).toArray⟩, rfl⟩
  have HE1 : Hid (encL a1 (⟨#[c]⟩ : ByteArray).data.toList = e.data.toList) := by
    show encL a1 [c] = _
    rw [← he]; unfold encL; rw [List.flatMap_singleton]
  have hcb := fun w1 : World => run_bytes_of_string (P := Try.prog) w1 9 30 5 e Try.underlying9 Try.underlying30 Try.underlying5
  have HE := Lib.hid he
  clear he
  have HI := Lib.hid hi
  have hsz : e.size = 3 := by rw [← size_len, ← HE.out]; unfold encC; rw [hi]; rfl
  have h37 : (e[0]'(by omega)).toNat = 37 := by
    have := getD_at e 0 (by omega)
    rw [← this, ← HE.out]; unfold encC; rw [if_pos hi]; rfl
  have hD : decL e.data.toList = (⟨#[c]⟩ : ByteArray).data.toList := by
    rw [← HE.out]
    have := dec_encC a1 c [] hi
    rw [List.append_nil] at this
    rw [this]; rfl
  have hL : decL (⟨(e.data.toList.map (lo 3)).toArray⟩ : ByteArray).data.toList = (⟨#[c]⟩ : ByteArray).data.toList := by
    show decL (e.data.toList.map (lo 3)) = [c]
    rw [← HE.out]; exact dec_low c a1 hi
  have hLs : (⟨(e.data.toList.map (lo 3)).toArray⟩ : ByteArray).size = 3 := by
    rw [← size_len]; show (e.data.toList.map (lo 3)).length = 3; rw [List.length_map, size_len, hsz]
  obtain ⟨L, hLL⟩ : ∃ L : ByteArray, (⟨(e.data.toList.map (lo 3)).toArray⟩ : ByteArray) = L := ⟨_, rfl⟩
  rw [hLL] at hL hLs
  have HLL := Lib.hid hLL
  clear hLL
  have HD := Lib.hid hD
  have HL := Lib.hid hL
  have c1 : (((e[0]'(by omega)).toNat : Int) == 37) = true := by rw [h37]; rfl
  clear hD hL h37
  clear hi
  go_enter Try.func8, Try.ntmps8
  go_wp2_with fail
  refine (awake_any _).mono ?_
  rintro e1 w21 ⟨rfl, b1⟩
  go_wp2_with fail
  refine (enc_is ⟨#[c]⟩ e a1 _ (by show 1 ≤ 20000; omega) HE1.out).mono ?_
  rintro e1 w22 ⟨rfl, b2⟩
  go_wp2
  have hR0 := lowR_start e w22 (grownCap w22 3 0 5)
  go_loopw [9] (fun i wr => ∃ k : Nat, k ≤ 3 ∧ i = .int .i64 k ∧ LowR e.data.toList w22.heap.size w22 wr k) (fun i _ => 3 - (intOf i).toNat)
  case atStart => exact ⟨0, Nat.zero_le _, rfl, hR0⟩
  case round =>
    obtain ⟨k, hk, rfl, HR⟩ := hrel
    by_cases hp : k < 3
    · have hcell := HR.1 k (by rw [size_len, hsz]; exact hp)
      rw [if_neg (by omega)] at hcell
      have hfz := HR.2.1 k (by rw [size_len, hsz]; exact hp)
      obtain ⟨x, hx⟩ : ∃ x, x = e.data.toList.getD k 0 := ⟨_, rfl⟩
      rw [← hx] at hcell
      have HX := Lib.hid hx
      have hxu := x.toNat_lt
      clear hx
      have hcs : (65 ≤ x.toNat ∧ x.toNat ≤ 70) ∨ x.toNat < 65 ∨ (65 ≤ x.toNat ∧ 70 < x.toNat) := by omega
      rcases hcs with ⟨h4, h5⟩ | h2 | ⟨h2, h4⟩
      · have HR' := Lib.hid (lowR_step (l := e.data.toList) (by rw [size_len, hsz]; exact hp) HR ((x.toNat : Int) + 32) (by rw [size_len, hsz, ← HX.out, lo_yes h4 h5]))
        have HRd := Lib.hid (lowR_step (l := e.data.toList) (by rw [size_len, hsz]; exact hp) (lowR_drew HR) ((x.toNat : Int) + 32) (by rw [size_len, hsz, ← HX.out, lo_yes h4 h5]))
        have q1 : IntKind.u8.wrap ((x.toNat : Int) + 32) = (x.toNat : Int) + 32 := wrap_u8 (by omega) (by omega)
        clear HR
        go_wp2
        go_roundw
        case rel => exact ⟨k + 1, by omega, by go_num, by first | exact HR'.out | exact HRd.out⟩
        case measure => simp [intOf]; omega
      · have HR' : Hid (LowR e.data.toList w22.heap.size w22 wr (k + 1)) := lowR_skip HR (by rw [← HX.out]; exact lo_no (by rw [size_len, hsz]; omega))
        clear HR
        go_wp2
        go_roundw
        case rel => exact ⟨k + 1, by omega, by go_num, HR'.out⟩
        case measure => simp [intOf]; omega
      · have HR' : Hid (LowR e.data.toList w22.heap.size w22 wr (k + 1)) := lowR_skip HR (by rw [← HX.out]; exact lo_no (by rw [size_len, hsz]; omega))
        clear HR
        go_wp2
        go_roundw
        case rel => exact ⟨k + 1, by omega, by go_num, HR'.out⟩
        case measure => simp [intOf]; omega
    · obtain rfl : k = 3 := by omega
      have b3 := HR.2.2
      have HRh := Lib.hid HR
      clear HR
      go_wp2_with fail
      refine (dec_is e ⟨#[c]⟩ _ (by omega) HD.out).mono ?_
      rintro e1 w23 ⟨rfl, b4⟩
      have HCV := lowR_end (cap := grownCap w22 3 0 5) (by rw [size_len, hsz]; exact lowR_below HRh.out b4 b3.size)
      rw [size_len, hsz] at HCV
      rw [HLL.out] at HCV
      go_wp2_with fail
      refine (dec_is L ⟨#[c]⟩ _ (by omega) HL.out).mono ?_
      rintro e1 w24 ⟨rfl, b5⟩
      go_wp2_with fail
      refine (in_is a1 c true _ HI.out).mono ?_
      rintro e1 w25 ⟨rfl, b6⟩
      go_wp2
      go_ret
      exact ⟨ret_bool (by first | rfl | (simp; omega)), below_then (below_then (below_then (below_then (below_then (below_then b1 (b0 _)) b2) b3) b4) b5) b6⟩
end Go.Proofs.Ytnfnbobioclniaa
