/- The walks of layer 3's sets: for every set and byte. -/
import Derived.Test.YtnfnbobioclniaaWalksA
namespace Go.Proofs.Ytnfnbobioclniaa
open Go.RowKit

theorem has_is (s : ByteArray) (c : UInt8) (b : Bool) (a : Addr) (w : World) (hc : w.cell? a = some (.int .u8 c.toNat)) (hb : hasL s.data.toList c = b) :
    Calls Try.prog 20 #[.string s, .pointer (some a)] w fun e w' => e = .returned (.bool b) ∧ w = w' := by
  subst hb; exact has_any s c a w hc

theorem low_any (c : UInt8) (a : Addr) (w : World) (hc : w.cell? a = some (.int .u8 c.toNat)) (b : Bool) (hb : low c = b) :
    Calls Try.prog 22 #[.pointer (some a)] w fun e w' => e = .returned (.bool b) ∧ w = w' := by
  have e1 : low c = (decide ((c.toNat : Int) < 32) || decide ((126 : Int) < (c.toNat : Int))) := by
    unfold low
    congr 1
    · rw [decide_eq_decide]; omega
    · rw [decide_eq_decide]; omega
  rw [hb] at e1
  have E1 := Lib.hid e1
  clear e1 hb
  by_cases h1 : c.toNat < 32
  · go_enter Try.func22, Try.ntmps22
    go_wp2
    go_ret
    exact ⟨ret_bool (by rw [E1.out]; first | rfl | (rw [decide_eq_true (show (c.toNat : Int) < 32 by omega)]; rfl)), rfl⟩
  · by_cases h2 : 126 < c.toNat
    · go_enter Try.func22, Try.ntmps22
      go_wp2
      go_ret
      exact ⟨ret_bool (by rw [E1.out]), rfl⟩
    · go_enter Try.func22, Try.ntmps22
      go_wp2
      go_ret
      exact ⟨ret_bool (by rw [E1.out]), rfl⟩

/-- What In lays: the byte, the asking, the sets. -/
def inObjs (n : Nat) (c : UInt8) : World → World := fun w =>
  ((w.alloc (.cells #[.int .u8 c.toNat] 5)).alloc (.cells #[.func (.func 20) #[] #[.pointer (some ⟨n, 0, none⟩)]] 34)).alloc
    (.cells #[.func (.func 22) #[] #[.pointer (some ⟨n, 0, none⟩)], .func (.func 23) #[] #[.pointer (some ⟨n, 0, none⟩), .pointer (some ⟨n + 1, 0, none⟩)],
      .func (.func 24) #[] #[.pointer (some ⟨n, 0, none⟩), .pointer (some ⟨n + 1, 0, none⟩)], .func (.func 25) #[] #[.pointer (some ⟨n, 0, none⟩), .pointer (some ⟨n + 1, 0, none⟩)],
      .func (.func 26) #[] #[.pointer (some ⟨n, 0, none⟩), .pointer (some ⟨n + 1, 0, none⟩)]] 35)

theorem in_cell0 (c : UInt8) (w : World) : (inObjs w.heap.size c w).cell? ⟨w.heap.size, 0, none⟩ = some (.int .u8 c.toNat) := by
  unfold inObjs
  rw [World.cell?_alloc_past _ _ _ (by simp; omega), World.cell?_alloc_past _ _ _ (by simp), World.cell?_alloc_at _ _ _ _ rfl]; rfl
theorem in_cell1 (c : UInt8) (w : World) : (inObjs w.heap.size c w).cell? ⟨w.heap.size + 1, 0, none⟩ = some (.func (.func 20) #[] #[.pointer (some ⟨w.heap.size, 0, none⟩)]) := by
  unfold inObjs
  rw [World.cell?_alloc_past _ _ _ (by simp), World.cell?_alloc_at _ _ _ _ (by simp)]; rfl
theorem in_below (c : UInt8) (w : World) : Below w.heap.size w (inObjs w.heap.size c w) := by
  unfold inObjs
  exact (((Below.refl _ _).alloc (Nat.le_refl _) _).alloc (by simp) _).alloc (by simp; omega) _
theorem in_size (c : UInt8) (w : World) : w.heap.size ≤ (inObjs w.heap.size c w).heap.size := (in_below c w).size
theorem below_in {c : UInt8} {w w' : World} (h : Below (inObjs w.heap.size c w).heap.size (inObjs w.heap.size c w) w') : Below w.heap.size w w' := (in_below c w).trans (h.mono (in_size c w))

/-- What In answers of a set, given what the set's closure answers. -/
def InOf (set : Int) (c : UInt8) (b : Bool) : Prop := ∀ w : World, Calls Try.prog 13 #[.int .i64 set, .int .u8 c.toNat] w fun e w' => e = .returned (.bool b) ∧ Below w.heap.size w w'

theorem in_0 (c : UInt8) (b : Bool) (hb : low c = b) : InOf 0 c b := by
  intro w
  have hmf : ∀ (fn : Fn) (first cap : Array Value) (w : World), (Instr.makeFunc fn first cap).run Try.prog w = .ok (.func fn first cap) w := fun _ _ _ _ => rfl
  have HC := Lib.hid (low_any c ⟨w.heap.size, 0, none⟩ (inObjs w.heap.size c w) (in_cell0 c w) b hb)
  have HB := Lib.hid (in_below c w)
  go_enter Try.func13, Try.ntmps13
  go_wp2_with fail
  refine (show Calls Try.prog 22 #[.pointer (some ⟨w.heap.size, 0, none⟩)] _ _ from HC.out).mono ?_
  rintro e w' ⟨rfl, rfl⟩
  go_wp2
  go_ret
  exact ⟨rfl, HB.out⟩
theorem in_out (c : UInt8) (set : Int) (hs : set < 0 ∨ 5 ≤ set) : InOf set c false := by
  intro w
  have hmf : ∀ (fn : Fn) (first cap : Array Value) (w : World), (Instr.makeFunc fn first cap).run Try.prog w = .ok (.func fn first cap) w := fun _ _ _ _ => rfl
  have HB := Lib.hid (in_below c w)
  rcases hs with hs | hs
  · go_enter Try.func13, Try.ntmps13
    go_wp2
    go_ret
    exact ⟨ret_bool (by first | rfl | (simp; omega)), HB.out⟩
  · go_enter Try.func13, Try.ntmps13
    go_wp2
    go_ret
    exact ⟨ret_bool (by first | rfl | (simp; omega)), HB.out⟩

theorem set23_yes (c : UInt8) (a h : Addr) (w : World) (ha : w.cell? a = some (.int .u8 c.toNat)) (hin : InOf 0 c true) :
    Calls Try.prog 23 #[.pointer (some a), .pointer (some h)] w fun e w' => e = .returned (.bool true) ∧ Below w.heap.size w w' := by
  go_enter Try.func23, Try.ntmps23
  go_wp2_with fail
  refine (hin _).mono ?_
  rintro e w1 ⟨rfl, b1⟩
  go_wp2
  go_ret
  exact ⟨rfl, b1⟩
theorem set23_no (c : UInt8) (b : Bool) (a h : Addr) (w : World) (ha : w.cell? a = some (.int .u8 c.toNat)) (hh : w.cell? h = some (.func (.func 20) #[] #[.pointer (some a)])) (hin : InOf 0 c false) (hb : hasL [32, 34, 60, 62, 96] c = b) :
    Calls Try.prog 23 #[.pointer (some a), .pointer (some h)] w fun e w' => e = .returned (.bool b) ∧ Below w.heap.size w w' := by
  have la := World.block_lt_of_cell? w _ ha
  have lh := World.block_lt_of_cell? w _ hh
  have HH := Lib.hid hh
  have HA := Lib.hid ha
  clear hh
  go_enter Try.func23, Try.ntmps23
  go_wp2_with fail
  refine (hin _).mono ?_
  rintro e w1 ⟨rfl, b1⟩
  have ha1 : w1.cell? a = some (.int .u8 c.toNat) := (b1.cell la).trans HA.out
  have hh1 : w1.cell? h = some (.func (.func 20) #[] #[.pointer (some a)]) := (b1.cell lh).trans HH.out
  clear ha
  go_wp2_with fail
  refine (has_is ⟨#[32, 34, 60, 62, 96]⟩ c b a _ ha1 hb).mono ?_
  rintro e w' ⟨rfl, rfl⟩
  go_wp2
  go_ret
  exact ⟨rfl, b1⟩
theorem in_1 (c : UInt8) (b1 b2 : Bool) (h1 : InOf 0 c b1) (h2 : hasL [32, 34, 60, 62, 96] c = b2) : InOf 1 c (b1 || b2) := by
  intro w
  have hmf : ∀ (fn : Fn) (first cap : Array Value) (w : World), (Instr.makeFunc fn first cap).run Try.prog w = .ok (.func fn first cap) w := fun _ _ _ _ => rfl
  have HC : Hid (Calls Try.prog 23 #[.pointer (some ⟨w.heap.size, 0, none⟩), .pointer (some ⟨w.heap.size + 1, 0, none⟩)] (inObjs w.heap.size c w) fun e w' => e = .returned (.bool (b1 || b2)) ∧ Below (inObjs w.heap.size c w).heap.size (inObjs w.heap.size c w) w') := by
    cases b1 with
    | true => exact set23_yes c _ _ _ (in_cell0 c w) h1
    | false => exact set23_no c b2 _ _ _ (in_cell0 c w) (in_cell1 c w) h1 h2
  go_enter Try.func13, Try.ntmps13
  go_wp2_with fail
  refine (show Calls Try.prog 23 #[.pointer (some ⟨w.heap.size, 0, none⟩), .pointer (some ⟨w.heap.size + 1, 0, none⟩)] _ _ from HC.out).mono ?_
  rintro e w1 ⟨rfl, q1⟩
  go_wp2
  go_ret
  exact ⟨rfl, below_in q1⟩

theorem set24_yes (c : UInt8) (a h : Addr) (w : World) (ha : w.cell? a = some (.int .u8 c.toNat)) (hin : InOf 0 c true) :
    Calls Try.prog 24 #[.pointer (some a), .pointer (some h)] w fun e w' => e = .returned (.bool true) ∧ Below w.heap.size w w' := by
  go_enter Try.func24, Try.ntmps24
  go_wp2_with fail
  refine (hin _).mono ?_
  rintro e w1 ⟨rfl, b1⟩
  go_wp2
  go_ret
  exact ⟨rfl, b1⟩
theorem set24_no (c : UInt8) (b : Bool) (a h : Addr) (w : World) (ha : w.cell? a = some (.int .u8 c.toNat)) (hh : w.cell? h = some (.func (.func 20) #[] #[.pointer (some a)])) (hin : InOf 0 c false) (hb : hasL [32, 34, 35, 39, 60, 62] c = b) :
    Calls Try.prog 24 #[.pointer (some a), .pointer (some h)] w fun e w' => e = .returned (.bool b) ∧ Below w.heap.size w w' := by
  have la := World.block_lt_of_cell? w _ ha
  have lh := World.block_lt_of_cell? w _ hh
  have HH := Lib.hid hh
  have HA := Lib.hid ha
  clear hh
  go_enter Try.func24, Try.ntmps24
  go_wp2_with fail
  refine (hin _).mono ?_
  rintro e w1 ⟨rfl, b1⟩
  have ha1 : w1.cell? a = some (.int .u8 c.toNat) := (b1.cell la).trans HA.out
  have hh1 : w1.cell? h = some (.func (.func 20) #[] #[.pointer (some a)]) := (b1.cell lh).trans HH.out
  clear ha
  go_wp2_with fail
  refine (has_is ⟨#[32, 34, 35, 39, 60, 62]⟩ c b a _ ha1 hb).mono ?_
  rintro e w' ⟨rfl, rfl⟩
  go_wp2
  go_ret
  exact ⟨rfl, b1⟩
theorem in_2 (c : UInt8) (b1 b2 : Bool) (h1 : InOf 0 c b1) (h2 : hasL [32, 34, 35, 39, 60, 62] c = b2) : InOf 2 c (b1 || b2) := by
  intro w
  have hmf : ∀ (fn : Fn) (first cap : Array Value) (w : World), (Instr.makeFunc fn first cap).run Try.prog w = .ok (.func fn first cap) w := fun _ _ _ _ => rfl
  have HC : Hid (Calls Try.prog 24 #[.pointer (some ⟨w.heap.size, 0, none⟩), .pointer (some ⟨w.heap.size + 1, 0, none⟩)] (inObjs w.heap.size c w) fun e w' => e = .returned (.bool (b1 || b2)) ∧ Below (inObjs w.heap.size c w).heap.size (inObjs w.heap.size c w) w') := by
    cases b1 with
    | true => exact set24_yes c _ _ _ (in_cell0 c w) h1
    | false => exact set24_no c b2 _ _ _ (in_cell0 c w) (in_cell1 c w) h1 h2
  go_enter Try.func13, Try.ntmps13
  go_wp2_with fail
  refine (show Calls Try.prog 24 #[.pointer (some ⟨w.heap.size, 0, none⟩), .pointer (some ⟨w.heap.size + 1, 0, none⟩)] _ _ from HC.out).mono ?_
  rintro e w1 ⟨rfl, q1⟩
  go_wp2
  go_ret
  exact ⟨rfl, below_in q1⟩

theorem set25_yes (c : UInt8) (a h : Addr) (w : World) (ha : w.cell? a = some (.int .u8 c.toNat)) (hin : InOf 2 c true) :
    Calls Try.prog 25 #[.pointer (some a), .pointer (some h)] w fun e w' => e = .returned (.bool true) ∧ Below w.heap.size w w' := by
  go_enter Try.func25, Try.ntmps25
  go_wp2_with fail
  refine (hin _).mono ?_
  rintro e w1 ⟨rfl, b1⟩
  go_wp2
  go_ret
  exact ⟨rfl, b1⟩
theorem set25_no (c : UInt8) (b : Bool) (a h : Addr) (w : World) (ha : w.cell? a = some (.int .u8 c.toNat)) (hh : w.cell? h = some (.func (.func 20) #[] #[.pointer (some a)])) (hin : InOf 2 c false) (hb : hasL [63, 94, 96, 123, 125] c = b) :
    Calls Try.prog 25 #[.pointer (some a), .pointer (some h)] w fun e w' => e = .returned (.bool b) ∧ Below w.heap.size w w' := by
  have la := World.block_lt_of_cell? w _ ha
  have lh := World.block_lt_of_cell? w _ hh
  have HH := Lib.hid hh
  have HA := Lib.hid ha
  clear hh
  go_enter Try.func25, Try.ntmps25
  go_wp2_with fail
  refine (hin _).mono ?_
  rintro e w1 ⟨rfl, b1⟩
  have ha1 : w1.cell? a = some (.int .u8 c.toNat) := (b1.cell la).trans HA.out
  have hh1 : w1.cell? h = some (.func (.func 20) #[] #[.pointer (some a)]) := (b1.cell lh).trans HH.out
  clear ha
  go_wp2_with fail
  refine (has_is ⟨#[63, 94, 96, 123, 125]⟩ c b a _ ha1 hb).mono ?_
  rintro e w' ⟨rfl, rfl⟩
  go_wp2
  go_ret
  exact ⟨rfl, b1⟩
theorem in_3 (c : UInt8) (b1 b2 : Bool) (h1 : InOf 2 c b1) (h2 : hasL [63, 94, 96, 123, 125] c = b2) : InOf 3 c (b1 || b2) := by
  intro w
  have hmf : ∀ (fn : Fn) (first cap : Array Value) (w : World), (Instr.makeFunc fn first cap).run Try.prog w = .ok (.func fn first cap) w := fun _ _ _ _ => rfl
  have HC : Hid (Calls Try.prog 25 #[.pointer (some ⟨w.heap.size, 0, none⟩), .pointer (some ⟨w.heap.size + 1, 0, none⟩)] (inObjs w.heap.size c w) fun e w' => e = .returned (.bool (b1 || b2)) ∧ Below (inObjs w.heap.size c w).heap.size (inObjs w.heap.size c w) w') := by
    cases b1 with
    | true => exact set25_yes c _ _ _ (in_cell0 c w) h1
    | false => exact set25_no c b2 _ _ _ (in_cell0 c w) (in_cell1 c w) h1 h2
  go_enter Try.func13, Try.ntmps13
  go_wp2_with fail
  refine (show Calls Try.prog 25 #[.pointer (some ⟨w.heap.size, 0, none⟩), .pointer (some ⟨w.heap.size + 1, 0, none⟩)] _ _ from HC.out).mono ?_
  rintro e w1 ⟨rfl, q1⟩
  go_wp2
  go_ret
  exact ⟨rfl, below_in q1⟩

theorem set26_yes (c : UInt8) (a h : Addr) (w : World) (ha : w.cell? a = some (.int .u8 c.toNat)) (hin : InOf 3 c true) :
    Calls Try.prog 26 #[.pointer (some a), .pointer (some h)] w fun e w' => e = .returned (.bool true) ∧ Below w.heap.size w w' := by
  go_enter Try.func26, Try.ntmps26
  go_wp2_with fail
  refine (hin _).mono ?_
  rintro e w1 ⟨rfl, b1⟩
  go_wp2
  go_ret
  exact ⟨rfl, b1⟩
theorem set26_no (c : UInt8) (b : Bool) (a h : Addr) (w : World) (ha : w.cell? a = some (.int .u8 c.toNat)) (hh : w.cell? h = some (.func (.func 20) #[] #[.pointer (some a)])) (hin : InOf 3 c false) (hb : hasL [47, 58, 59, 61, 64, 91, 92, 93, 124] c = b) :
    Calls Try.prog 26 #[.pointer (some a), .pointer (some h)] w fun e w' => e = .returned (.bool b) ∧ Below w.heap.size w w' := by
  have la := World.block_lt_of_cell? w _ ha
  have lh := World.block_lt_of_cell? w _ hh
  have HH := Lib.hid hh
  have HA := Lib.hid ha
  clear hh
  go_enter Try.func26, Try.ntmps26
  go_wp2_with fail
  refine (hin _).mono ?_
  rintro e w1 ⟨rfl, b1⟩
  have ha1 : w1.cell? a = some (.int .u8 c.toNat) := (b1.cell la).trans HA.out
  have hh1 : w1.cell? h = some (.func (.func 20) #[] #[.pointer (some a)]) := (b1.cell lh).trans HH.out
  clear ha
  go_wp2_with fail
  refine (has_is ⟨#[47, 58, 59, 61, 64, 91, 92, 93, 124]⟩ c b a _ ha1 hb).mono ?_
  rintro e w' ⟨rfl, rfl⟩
  go_wp2
  go_ret
  exact ⟨rfl, b1⟩
theorem in_4 (c : UInt8) (b1 b2 : Bool) (h1 : InOf 3 c b1) (h2 : hasL [47, 58, 59, 61, 64, 91, 92, 93, 124] c = b2) : InOf 4 c (b1 || b2) := by
  intro w
  have hmf : ∀ (fn : Fn) (first cap : Array Value) (w : World), (Instr.makeFunc fn first cap).run Try.prog w = .ok (.func fn first cap) w := fun _ _ _ _ => rfl
  have HC : Hid (Calls Try.prog 26 #[.pointer (some ⟨w.heap.size, 0, none⟩), .pointer (some ⟨w.heap.size + 1, 0, none⟩)] (inObjs w.heap.size c w) fun e w' => e = .returned (.bool (b1 || b2)) ∧ Below (inObjs w.heap.size c w).heap.size (inObjs w.heap.size c w) w') := by
    cases b1 with
    | true => exact set26_yes c _ _ _ (in_cell0 c w) h1
    | false => exact set26_no c b2 _ _ _ (in_cell0 c w) (in_cell1 c w) h1 h2
  go_enter Try.func13, Try.ntmps13
  go_wp2_with fail
  refine (show Calls Try.prog 26 #[.pointer (some ⟨w.heap.size, 0, none⟩), .pointer (some ⟨w.heap.size + 1, 0, none⟩)] _ _ from HC.out).mono ?_
  rintro e w1 ⟨rfl, q1⟩
  go_wp2
  go_ret
  exact ⟨rfl, below_in q1⟩

theorem in_of (set : Int) (c : UInt8) : InOf set c (inS set c) := by
  have h0 := in_0 c _ rfl
  have h2 := in_2 c _ _ h0 rfl
  have h3 := in_3 c _ _ h2 rfl
  unfold inS
  by_cases e0 : set = 0
  · subst e0; exact h0
  · rw [if_neg e0]
    by_cases e1 : set = 1
    · subst e1; exact in_1 c _ _ h0 rfl
    · rw [if_neg e1]
      by_cases e2 : set = 2
      · subst e2; exact h2
      · rw [if_neg e2]
        by_cases e3 : set = 3
        · subst e3; exact h3
        · rw [if_neg e3]
          by_cases e4 : set = 4
          · subst e4; exact in_4 c _ _ h3 rfl
          · rw [if_neg e4]; exact in_out c set (by omega)
end Go.Proofs.Ytnfnbobioclniaa
