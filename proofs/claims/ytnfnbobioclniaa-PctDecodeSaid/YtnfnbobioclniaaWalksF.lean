/- The plain law of layer 3's encoding, and the walk of Encode: for every text of at most 20000 bytes. -/
import Derived.Test.YtnfnbobioclniaaWalksE
import Derived.Test.YtnfnbobioclniaaShelf
import Derived.Deep.RegionHeld3
namespace Go.Proofs.Ytnfnbobioclniaa
open Go.RowKit

def digs : List UInt8 := [48, 49, 50, 51, 52, 53, 54, 55, 56, 57, 65, 66, 67, 68, 69, 70]
def hd (n : Nat) : UInt8 := digs.getD n 0
def encC (set : Int) (c : UInt8) : List UInt8 := if inS set c then [37, hd (c.toNat / 16), hd (c.toNat % 16)] else [c]
def encL (set : Int) (l : List UInt8) : List UInt8 := l.flatMap (encC set)
theorem encL_app (set : Int) (a b : List UInt8) : encL set (a ++ b) = encL set a ++ encL set b := by unfold encL; rw [List.flatMap_append]
theorem encC_len (set : Int) (c : UInt8) : 1 ≤ (encC set c).length ∧ (encC set c).length ≤ 3 := by unfold encC; split <;> simp
theorem encL_len (set : Int) (l : List UInt8) : l.length ≤ (encL set l).length ∧ (encL set l).length ≤ 3 * l.length := by
  induction l with
  | nil => exact ⟨Nat.zero_le _, Nat.zero_le _⟩
  | cons c l ih =>
    have := encC_len set c
    have e : (encL set (c :: l)).length = (encC set c).length + (encL set l).length := by unfold encL; rw [List.flatMap_cons, List.length_append]
    rw [e, List.length_cons]; omega

theorem own_below {w w' : World} {B e size n : Nat} {v : Value} {xs : List Value} (h : w.ownsRow B e size v n xs) (hb : Below w.heap.size w w') : w'.ownsRow B e size v n xs := by
  exact h.kept (row := none) ⟨hb.os, hb.tape, hb.output, hb.size, fun j hj _ => hb.block j hj⟩ (by cases hv : v.ownBlock <;> simp)
theorem Bld.below {B b : Nat} {v : Value} {bs : List UInt8} {w w' : World} (h : Bld B b v bs w) (hb : Below w.heap.size w w') : Bld B b v bs w' := by
  obtain ⟨h1, ⟨p, hp, hblk⟩, h3, h4⟩ := h
  exact ⟨h1, ⟨p, hp, by rw [hb.block b (heap_lt hblk)]; exact hblk⟩, own_below h3 hb, h4⟩
theorem Bld.isB {B b : Nat} {v : Value} {bs : List UInt8} {w : World} (h : Bld B b v bs w) : Lib.IsBuilder 38 5 B b (Lib.byteCells bs) w := by
  obtain ⟨h1, ⟨p, hp, hblk⟩, h3, h4⟩ := h
  have hl : (Lib.byteCells bs).length = bs.length := Lib.byteCells_length bs
  rcases hp with rfl | rfl
  · exact Or.inl ⟨h1, v, hblk, by rw [hl]; exact h3, h4⟩
  · exact Or.inr ⟨h1, v, hblk, by rw [hl]; exact h3, h4⟩
theorem Bld.fresh (w : World) : Bld w.heap.size w.heap.size (.slice none 0 0) [] (w.alloc (.cells #[.pointer none, .slice none 0 0] 38)) :=
  ⟨Nat.le_refl _, ⟨_, Or.inl rfl, heap_alloc_new w _⟩, World.ownsRow_nil _ _ _ _, by simp [Value.ownBlock]⟩
theorem Bld.lt {B b : Nat} {v : Value} {bs : List UInt8} {w : World} (h : Bld B b v bs w) : b < w.heap.size := by
  obtain ⟨h1, ⟨p, hp, hblk⟩, h3, h4⟩ := h
  exact heap_lt hblk
theorem Bld.lo' {B b : Nat} {v : Value} {bs : List UInt8} {w : World} (h : Bld B b v bs w) : ∀ g, v.ownBlock = some g → B ≤ g ∧ g < w.heap.size := fun g hg => h.own.lt g hg
theorem Put.step {B b : Nat} {v : Value} {bs : List UInt8} {w0 w w' : World} {e : Ending} (h : Put B b v bs w e w') {bs0 : List UInt8} (h0 : Bld B b v bs0 w) (hb : Below B w0 w) (hB : B ≤ w0.heap.size) : e = .returned (.tuple #[]) ∧ ∃ v', Bld B b v' bs w' ∧ Below B w0 w' := by
  obtain ⟨he, v', h1, h2⟩ := h
  exact ⟨he, v', h1, hb.trans (h2.below h0.lo (fun g hg => (h0.lo' g hg).1) (Nat.le_trans hB hb.size))⟩

theorem wrap_u8 {n : Int} (h0 : 0 ≤ n) (h1 : n < 256) : IntKind.u8.wrap n = n := by
  unfold IntKind.wrap
  simp [IntKind.bits, IntKind.signed]
  omega
theorem dig_fin : ∀ a : Fin 16, (⟨#[48, 49, 50, 51, 52, 53, 54, 55, 56, 57, 65, 66, 67, 68, 69, 70]⟩ : ByteArray)[a.val]'(a.isLt) = hd a.val := by decide
theorem dig_at (a : Nat) (h : a < (⟨#[48, 49, 50, 51, 52, 53, 54, 55, 56, 57, 65, 66, 67, 68, 69, 70]⟩ : ByteArray).size) : (⟨#[48, 49, 50, 51, 52, 53, 54, 55, 56, 57, 65, 66, 67, 68, 69, 70]⟩ : ByteArray)[a] = hd a := dig_fin ⟨a, h⟩

/-- put at a fresh row of bytes. -/
theorem put_new (B b : Nat) (v : Value) (bs l : List UInt8) (w0 w : World) (cs : Array Value) (W : World) (h : Bld B b v bs w) (hlen : bs.length + l.length ≤ 100000) (hb0 : Below B w0 w) (hB : B ≤ w0.heap.size) (hcs : cs.toList = u8s l) (hW : W = w.alloc (.cells cs 5) ∨ W = (w.alloc (.cells cs 5)).drew) :
    Calls Try.prog 27 #[.pointer (some ⟨b, 0, none⟩), .slice (some ⟨w.heap.size, 0, none⟩) l.length l.length] W fun e w' => e = .returned (.tuple #[]) ∧ ∃ v', Bld B b v' (bs ++ l) w' ∧ Below B w0 w' := by
  have hb1 : Below w.heap.size w W := by
    rcases hW with rfl | rfl
    · exact (Below.refl _ _).alloc (Nat.le_refl _) _
    · exact ((Below.refl _ _).alloc (Nat.le_refl _) _).drew
  have hsz : W.heap.size = w.heap.size + 1 := by rcases hW with rfl | rfl <;> simp
  have hc : ∀ j, j < l.length → W.cell? ⟨w.heap.size, j, none⟩ = some (.int .u8 (l.getD j 0).toNat) := by
    intro j hj
    have e : (w.alloc (.cells cs 5)).cell? ⟨w.heap.size, j, none⟩ = some (.int .u8 (l.getD j 0).toNat) := by
      rw [World.cell?_alloc_at _ _ _ _ rfl]
      show cs[j]? = _
      rw [← Array.getElem?_toList, hcs]; unfold u8s; simp [hj]
    rcases hW with rfl | rfl
    · exact e
    · exact e
  have hlt := h.lt
  have hlo := h.lo'
  have hb2 : Below B w0 W := hb0.trans (hb1.mono (Nat.le_trans hB hb0.size))
  have hbw := hb0.size
  exact (put_any B b w.heap.size l.length v bs l W (h.below hb1) hlen (by omega) hc (by omega) (by omega) (fun e => by have := (hlo _ e).2; omega)).mono fun e w' hp => hp.step (h.below hb1) hb2 hB

theorem encode_put (set : Int) (s : ByteArray) (k : Nat) (hp : k < s.size) (w w2 wr : World) (v : Value) (a b : Nat) (hi : inS set (s[k]'hp) = true) (ha : a = (s[k]'hp).toNat / 16) (hb : b = (s[k]'hp).toNat % 16) (HS : Below w.heap.size w wr) (b2 : Below wr.heap.size wr w2)
    (HB : Bld w.heap.size w.heap.size v (encL set (s.data.toList.take k)) wr) (hs : s.size ≤ 20000) (x y : UInt8) (hx : x = hd a) (hy : y = hd b) :
    Calls Try.prog 27 #[.pointer (some ⟨w.heap.size, 0, none⟩), .slice (some ⟨w2.heap.size, 0, none⟩) 3 3] (w2.alloc (.cells #[.int .u8 37, .int .u8 x.toNat, .int .u8 y.toNat] 5)).drew fun e w' => e = .returned (.tuple #[]) ∧ ∃ v', Bld w.heap.size w.heap.size v' (encL set (s.data.toList.take (k + 1))) w' ∧ Below w.heap.size w w' := by
  subst hx; subst hy; subst ha; subst hb
  have hl := (encL_len set (s.data.toList.take k)).2
  rw [List.length_take, size_len] at hl
  have e : encL set (s.data.toList.take (k + 1)) = encL set (s.data.toList.take k) ++ [37, hd ((s[k]'hp).toNat / 16), hd ((s[k]'hp).toNat % 16)] := by
    rw [take_snoc s k hp, encL_app]; congr 1; unfold encL; rw [List.flatMap_singleton]; unfold encC; rw [if_pos hi]
  rw [e]
  exact put_new _ _ v _ [37, hd ((s[k]'hp).toNat / 16), hd ((s[k]'hp).toNat % 16)] w w2 _ _ (HB.below b2) (by simp; omega) (HS.trans (b2.mono HS.size)) (Nat.le_refl _) rfl (Or.inr rfl)
theorem encode_put1 (set : Int) (s : ByteArray) (k : Nat) (hp : k < s.size) (w w2 wr : World) (v : Value) (hi : inS set (s[k]'hp) = false) (HS : Below w.heap.size w wr) (b2 : Below wr.heap.size wr w2)
    (HB : Bld w.heap.size w.heap.size v (encL set (s.data.toList.take k)) wr) (hs : s.size ≤ 20000) :
    Calls Try.prog 27 #[.pointer (some ⟨w.heap.size, 0, none⟩), .slice (some ⟨w2.heap.size, 0, none⟩) 1 1] (w2.alloc (.cells #[.int .u8 (s[k]'hp).toNat] 5)) fun e w' => e = .returned (.tuple #[]) ∧ ∃ v', Bld w.heap.size w.heap.size v' (encL set (s.data.toList.take (k + 1))) w' ∧ Below w.heap.size w w' := by
  have hl := (encL_len set (s.data.toList.take k)).2
  rw [List.length_take, size_len] at hl
  have e : encL set (s.data.toList.take (k + 1)) = encL set (s.data.toList.take k) ++ [s[k]'hp] := by
    rw [take_snoc s k hp, encL_app]; congr 1; unfold encL; rw [List.flatMap_singleton]; unfold encC; rw [if_neg (by simp [hi])]
  rw [e]
  exact put_new _ _ v _ [s[k]'hp] w w2 _ _ (HB.below b2) (by simp; omega) (HS.trans (b2.mono HS.size)) (Nat.le_refl _) rfl (Or.inl rfl)

set_option maxRecDepth 100000 in
set_option maxHeartbeats 1000000 in
theorem encode_any (s : ByteArray) (set : Int) (w : World) (hs : s.size ≤ 20000) :
    Calls Try.prog 14 #[.string s, .int .i64 set] w fun e w' => e = .returned (.string ⟨(encL set s.data.toList).toArray⟩) ∧ Below w.heap.size w w' := by
  have HB0 := Lib.hid (Bld.fresh w)
  obtain ⟨B, hB⟩ : ∃ B, B = w.heap.size := ⟨_, rfl⟩
  go_enter Try.func14, Try.ntmps14
  go_wp2
  go_loopw [10] (fun i wr => ∃ (k : Nat) (v : Value), k ≤ s.size ∧ i = .int .i64 k ∧ Bld w.heap.size w.heap.size v (encL set (s.data.toList.take k)) wr ∧ Below w.heap.size w wr) (fun i _ => s.size - (intOf i).toNat)
  case atStart => exact ⟨0, _, Nat.zero_le _, rfl, HB0.out, (Below.refl _ _).alloc (Nat.le_refl _) _⟩
  case round =>
    obtain ⟨k, v, hk, rfl, HB, HS⟩ := hrel
    have hsz := HS.size
    by_cases hp : k < s.size
    · have HT := Lib.hid (take_snoc s k hp)
      cases hi : inS set (s[k]'hp) with
      | true =>
        have hub := (s[k]'hp).toNat_lt
        obtain ⟨c, hc⟩ : ∃ c, c = s[k]'hp := ⟨_, rfl⟩
        go_wp2_with fail
        refine (in_of set (s[k]'hp) _).mono ?_
        rintro e w2 ⟨rfl, b2⟩
        rw [hi]
        have HB2 := HB.below b2
        obtain ⟨a, ha⟩ : ∃ a, a = (s[k]'hp).toNat / 16 := ⟨_, rfl⟩
        obtain ⟨b, hb⟩ : ∃ b, b = (s[k]'hp).toNat % 16 := ⟨_, rfl⟩
        have q1 : ((s[k]'hp).toNat : Int).tdiv 16 = (a : Int) := by rw [Int.tdiv_eq_ediv_of_nonneg (by omega)]; omega
        have q2 : ((s[k]'hp).toNat : Int).tmod 16 = (b : Int) := by rw [Int.tmod_eq_emod_of_nonneg (by omega)]; omega
        have q3 : IntKind.u8.wrap (a : Int) = (a : Int) := wrap_u8 (by omega) (by omega)
        have q4 : IntKind.u8.wrap (b : Int) = (b : Int) := wrap_u8 (by omega) (by omega)
        have a1 : (0 : Int) ≤ a := by omega
        have b1 : (0 : Int) ≤ b := by omega
        have a2 : (a : Int) < 16 := by omega
        have b2' : (b : Int) < 16 := by omega
        have HPUT := Lib.hid (encode_put set s k hp w w2 wr v a b hi ha hb HS b2 HB hs)
        clear ha hb
        go_wp2
        go_region_held3 (fun _ => True) (trivial) ((go_at_call 27; refine (HPUT.out _ _ (dig_at a _) (dig_at b _)).mono ?_; rintro e w3 ⟨rfl, v3, HB3, HS3⟩))
        all_goals
          go_wp2
          go_roundw
          case rel => exact ⟨k + 1, v3, by omega, by go_num, HB3, HS3⟩
          case measure => simp [intOf]; omega
      | false =>
        go_wp2_with fail
        refine (in_of set (s[k]'hp) _).mono ?_
        rintro e w2 ⟨rfl, b2⟩
        rw [hi]
        have HPUT := Lib.hid (encode_put1 set s k hp w w2 wr v hi HS b2 HB hs)
        go_wp2_with fail
        refine (HPUT.out).mono ?_
        rintro e w3 ⟨rfl, v3, HB3, HS3⟩
        go_wp2_with fail
        go_roundw
        case rel => exact ⟨k + 1, v3, by omega, by go_num, HB3, HS3⟩
        case measure => simp [intOf]; omega
    · have HE := Lib.hid (all_take_end s k hp)
      go_wp2_with fail
      refine (Try.Builder_String_any w.heap.size w.heap.size (encL set s.data.toList) _ (by rw [← HE.out]; exact HB.isB) (by omega)).mono ?_
      rintro e w2 ⟨rfl, b2⟩
      go_wp2
      go_ret
      exact ⟨rfl, HS.trans b2⟩
