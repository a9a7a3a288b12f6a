/- The walks of layer 4's making narrow, the program's and the document's: for every text of at most 1048576 bytes. -/
import Derived.Test.YtljnbpecmjoafaaWalksA
namespace Go.Proofs.Ytljnbpecmjoafaa
open Go.RowKit

theorem assert_byte (n : Int) (w : World) : (Instr.typeAssert (.iface 5 (.int .u8 n)) 20 5 true).run Try.prog w = .ok (.tuple #[.int .u8 n, .bool true]) w := by kernel_rfl
theorem assert_nil (w : World) : (Instr.typeAssert .nilIface 20 5 true).run Try.prog w = .ok (.tuple #[.int .u8 0, .bool false]) w := by kernel_rfl

/-- What a text is made narrow to. -/
def narB (s : ByteArray) : ByteArray := ⟨(if fits s.data.toList then nar s.data.toList else []).toArray⟩

def NarR (s : ByteArray) (B : Nat) (w wr : World) (v : Value) (pos : Nat) (xs : List UInt8) : Prop :=
  wr.heap[B]? = some (.stringIter s pos) ∧ wr.ownsRow (B + 1) 5 1 v xs.length (u8s xs) ∧ Below B w wr ∧ xs.map UInt8.toNat ++ rn (s.data.toList.drop pos) = rn s.data.toList

theorem u8s_snoc (xs : List UInt8) (r : Nat) (h : r ≤ 255) : u8s xs ++ [Value.int .u8 r] = u8s (xs ++ [UInt8.ofNat r]) := by
  have : (UInt8.ofNat r).toNat = r := by simp; omega
  unfold u8s
  rw [List.map_append, List.map_cons, List.map_nil, this]

/-- One round of the loop that appends. -/
theorem narR_step {s : ByteArray} {B : Nat} {w wr w1 : World} {v v' : Value} {pos : Nat} {xs : List UInt8} {o : Obj} (hp : pos < s.size) (hB : B = w.heap.size) (h : NarR s B w wr v pos xs) (hr : (Utf8.decode s pos).1 ≤ 255)
    (hown' : w1.ownsRow (B + 1) 5 1 v' (xs.length + 1) (u8s xs ++ [.int .u8 (Utf8.decode s pos).1]))
    (hgrow : ((wr.iterAt B s (pos + (Utf8.decode s pos).2)).alloc o).grownBy w1 v.ownBlock) :
    NarR s B w w1 v' (pos + (Utf8.decode s pos).2) (xs ++ [UInt8.ofNat (Utf8.decode s pos).1]) ∧ w1.iterPos B = pos + (Utf8.decode s pos).2 := by
  obtain ⟨h1, h2, h3, h4⟩ := h
  have hlt : B < wr.heap.size := (Array.getElem?_eq_some_iff.1 h1).1
  have hit : w1.heap[B]? = some (.stringIter s (pos + (Utf8.decode s pos).2)) := by
    rw [hgrow.block B (by simp [Lib.iterAt_size]; omega) (fun e => by have := h2.lt B e.symm; omega), Below.heap_alloc _ _ _ (by rw [Lib.iterAt_size]; omega)]
    exact Lib.iterAt_heap wr B s pos _ h1
  refine ⟨⟨hit, ?_, ?_, ?_⟩, iterPos_of hit⟩
  · rw [u8s_snoc _ _ hr] at hown'
    simpa using hown'
  · refine Below.grown ((Lib.below_iterAt h3 (Nat.le_refl _) s _).alloc (by rw [Lib.iterAt_size]; omega) o) hgrow (by simp [Lib.iterAt_size]; omega) (fun k hk => by have := h2.lt k hk; omega)
  · have hs1 := rest_step s pos hp
    have e : (UInt8.ofNat (Utf8.decode s pos).1).toNat = (Utf8.decode s pos).1 := by simp; omega
    rw [← h4, hs1.1, List.map_append, List.map_cons, List.map_nil, e]
    simp

theorem NarR.lengths {s : ByteArray} {B : Nat} {w wr : World} {v : Value} {pos : Nat} {xs : List UInt8} (h : NarR s B w wr v pos xs) : xs.length ≤ s.size := by
  have h4 := congrArg List.length h.2.2.2
  have := rn_le_size s
  simp only [List.length_append, List.length_map] at h4
  omega

theorem NarR.fin {s : ByteArray} {B : Nat} {w wr : World} {v : Value} {pos : Nat} {xs : List UInt8} (h : NarR s B w wr v pos xs) (hp : ¬ pos < s.size) : fits s.data.toList = true ∧ nar s.data.toList = xs := by
  have h4 := h.2.2.2
  rw [drop_end s pos hp, rn_nil, List.append_nil] at h4
  constructor
  · unfold fits; rw [← h4, List.all_map, List.all_eq_true]
    intro a _; have := a.toNat_lt; simp; omega
  · unfold nar; rw [← h4, List.map_map]
    conv => rhs; rw [← List.map_id xs]
    apply List.map_congr_left
    intro a _; simp

theorem NarR.bad {s : ByteArray} {B : Nat} {w wr : World} {v : Value} {pos : Nat} {xs : List UInt8} (h : NarR s B w wr v pos xs) (hp : pos < s.size) (hr : ¬ (Utf8.decode s pos).1 ≤ 255) : fits s.data.toList = false := by
  have h4 := h.2.2.2
  rw [(rest_step s pos hp).1] at h4
  unfold fits; rw [← h4, List.all_append, List.all_cons, decide_eq_false hr]
  simp

set_option maxRecDepth 100000 in
set_option maxHeartbeats 400000 in
theorem narrow_any (s : ByteArray) (w : World) (hs : s.size ≤ 1048576) :
    Calls Try.prog 10 #[.string s] w fun e w' => e = .returned (.tuple #[.string (narB s), .bool (fits s.data.toList)]) ∧ Below w.heap.size w w' := by
  obtain ⟨i0, hi, hz0, hz1, hz2⟩ := info_parts Try.info5
  have hta := assert_byte
  have htn := assert_nil
  go_enter Try.func10, Try.ntmps10
  go_wp2
  go_loopw [4] (fun v wr => ∃ (pos : Nat) (xs : List UInt8), NarR s w.heap.size w wr v pos xs) (fun _ wr => s.size - wr.iterPos w.heap.size)
  case atStart => exact ⟨0, [], World.iter_heap w s 0, World.ownsRow_nil _ _ _ _, (Below.refl _ _).alloc (Nat.le_refl _) _, rfl⟩
  case round =>
    obtain ⟨pos, xs, HR⟩ := hrel
    have hit := HR.1
    have hxl := HR.lengths
    by_cases hp : pos < s.size
    · have hnx : ∀ ty, (Instr.next (.pointer (some ⟨w.heap.size, 0, none⟩)) true ty).run Try.prog wr = _ := fun ty => Lib.run_next_any_at wr w.heap.size s pos ty hit hp
      have hown2 := HR.2.1
      have hpos := Lib.hid (iterPos_of hit)
      have hsz := (Array.getElem?_eq_some_iff.1 hit).1
      clear hit
      by_cases hr : (Utf8.decode s pos).1 ≤ 255
      · have hown3 := ownsRow_iterAt hown2 (Nat.lt_succ_self _) s (pos + (Utf8.decode s pos).2)
        go_wp2_with (first | (go_at_call 18; refine (byteOf_yes _ _ hr).mono ?_; rintro e w' ⟨rfl, rfl⟩) | (at_builtin; refine wpList_append_own _ rfl _ _ 29 rfl (w.heap.size + 1) 5 i0 (.int .u8 0) 1 1 Try.underlying29 hi hz0 hz1 hz2 rfl (by decide) _ _ _ rfl (hown3.alloc _) ⟨(wr.iterAt w.heap.size s (pos + (Utf8.decode s pos).2)).heap.size, 0, none⟩ 1 1 [.int .u8 (Utf8.decode s pos).1] rfl rfl ?c1 ?c2 ?c3 ?c4 ?c5 ?_))
        case c1 =>
          intro j u hj
          match j, hj with
          | 0, hj => simp at hj; subst hj; simp [Addr.add]
        case c2 => intro u hu; simp at hu; subst hu; rfl
        case c3 => unfold maxLen; omega
        case c4 => omega
        case c5 => simp [Lib.iterAt_size]; omega
        intro v' w1 hown' hgrow _
        have R := narR_step hp rfl HR hr hown' hgrow
        clear hown' hgrow hown2 hown3 HR
        go_wp2
        go_roundw
        case rel => exact ⟨_, _, R.1⟩
        case measure => rw [R.2, hpos.out]; have := rest_step s pos hp; omega
      · go_wp2_with (go_at_call 18; refine (byteOf_no _ _ hr).mono ?_; rintro e w' ⟨rfl, rfl⟩)
        go_ret2
        have hb := HR.bad hp hr
        exact ⟨by rw [hb]; unfold narB; rw [hb]; rfl, Lib.below_iterAt HR.2.2.1 (Nat.le_refl _) s _⟩
    · have hnx : ∀ ty, (Instr.next (.pointer (some ⟨w.heap.size, 0, none⟩)) true ty).run Try.prog wr = _ := fun ty => Lib.run_next_end_at wr w.heap.size s pos ty hit hp
      have hcv := run_convert_owned (P := Try.prog) 29 9 Try.underlying29 Try.underlying5 Try.underlying9 HR.2.1
      clear hit
      go_wp2
      go_ret2
      have hf := HR.fin hp
      exact ⟨by unfold narB; rw [hf.1, hf.2]; rfl, HR.2.2.1⟩

set_option maxRecDepth 100000 in
set_option maxHeartbeats 400000 in
theorem refnarrow_any (s : ByteArray) (w : World) (hs : s.size ≤ 1048576) :
    Calls Try.prog 11 #[.string s] w fun e w' => e = .returned (.tuple #[.string (narB s), .bool (fits s.data.toList)]) ∧ Below w.heap.size w w' := by
  obtain ⟨i0, hi, hz0, hz1, hz2⟩ := info_parts Try.info5
  go_enter Try.func11, Try.ntmps11
  go_wp2
  go_loopw [4] (fun v wr => ∃ (pos : Nat) (xs : List UInt8), NarR s w.heap.size w wr v pos xs) (fun _ wr => s.size - wr.iterPos w.heap.size)
  case atStart => exact ⟨0, [], World.iter_heap w s 0, World.ownsRow_nil _ _ _ _, (Below.refl _ _).alloc (Nat.le_refl _) _, rfl⟩
  case round =>
    obtain ⟨pos, xs, HR⟩ := hrel
    have hit := HR.1
    have hxl := HR.lengths
    by_cases hp : pos < s.size
    · have hnx : ∀ ty, (Instr.next (.pointer (some ⟨w.heap.size, 0, none⟩)) true ty).run Try.prog wr = _ := fun ty => Lib.run_next_any_at wr w.heap.size s pos ty hit hp
      have hown2 := HR.2.1
      have hpos := Lib.hid (iterPos_of hit)
      have hsz := (Array.getElem?_eq_some_iff.1 hit).1
      clear hit
      by_cases hr : (Utf8.decode s pos).1 ≤ 255
      · have hown3 := ownsRow_iterAt hown2 (Nat.lt_succ_self _) s (pos + (Utf8.decode s pos).2)
        go_wp2_with ((at_builtin; refine wpList_append_own _ rfl _ _ 29 rfl (w.heap.size + 1) 5 i0 (.int .u8 0) 1 1 Try.underlying29 hi hz0 hz1 hz2 rfl (by decide) _ _ _ rfl (hown3.alloc _) ⟨(wr.iterAt w.heap.size s (pos + (Utf8.decode s pos).2)).heap.size, 0, none⟩ 1 1 [.int .u8 (Utf8.decode s pos).1] rfl rfl ?c1 ?c2 ?c3 ?c4 ?c5 ?_))
        case c1 =>
          intro j u hj
          match j, hj with
          | 0, hj => simp at hj; subst hj; simp [Addr.add]
        case c2 => intro u hu; simp at hu; subst hu; rfl
        case c3 => unfold maxLen; omega
        case c4 => omega
        case c5 => simp [Lib.iterAt_size]; omega
        intro v' w1 hown' hgrow _
        have R := narR_step hp rfl HR hr hown' hgrow
        clear hown' hgrow hown2 hown3 HR
        go_wp2
        go_roundw
        case rel => exact ⟨_, _, R.1⟩
        case measure => rw [R.2, hpos.out]; have := rest_step s pos hp; omega
      · go_wp2
        go_ret2
        have hb := HR.bad hp hr
        exact ⟨by rw [hb]; unfold narB; rw [hb]; rfl, Lib.below_iterAt HR.2.2.1 (Nat.le_refl _) s _⟩
    · have hnx : ∀ ty, (Instr.next (.pointer (some ⟨w.heap.size, 0, none⟩)) true ty).run Try.prog wr = _ := fun ty => Lib.run_next_end_at wr w.heap.size s pos ty hit hp
      have hcv := run_convert_owned (P := Try.prog) 29 9 Try.underlying29 Try.underlying5 Try.underlying9 HR.2.1
      clear hit
      go_wp2
      go_ret2
      have hf := HR.fin hp
      exact ⟨by unfold narB; rw [hf.1, hf.2]; rfl, HR.2.2.1⟩
end Go.Proofs.Ytljnbpecmjoafaa
