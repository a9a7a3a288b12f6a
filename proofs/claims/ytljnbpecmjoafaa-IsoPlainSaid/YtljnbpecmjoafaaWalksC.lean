/- The walks of layer 4's making wide, the program's and the document's: for every text of at most 1048576 bytes. -/
import Derived.Test.YtljnbpecmjoafaaWalksB
import Derived.Deep.RegionHeld3
import Derived.Deep.AppendLies
namespace Go.Proofs.Ytljnbpecmjoafaa
open Go.RowKit

theorem Try.info21 : (Try.prog.info? 21).map (fun i => (i.zero, i.size, i.bytes)) = some (some (.int .i32 0), 1, 4) := by kernel_rfl

/-- What cell j holds when the first k are filled. -/
def runeAt (s : ByteArray) (k j : Nat) : Int := if j < k then ((s.data.toList.getD j 0).toNat : Int) else 0

def WideR (s : ByteArray) (B : Nat) (w wr : World) (k : Nat) : Prop :=
  (∀ j, j < s.size → wr.cell? ⟨B, j, none⟩ = some (.int .i32 (runeAt s k j))) ∧ (∀ j, wr.frozen? ⟨B, j, none⟩ = false) ∧ Below B w wr

theorem wideR_step {s : ByteArray} {B : Nat} {w wr : World} {k : Nat} (hk : k < s.size) (h : WideR s B w wr k) :
    WideR s B w (wr.setCell ⟨B, k, none⟩ (.int .i32 ((s[k]'hk).toNat : Int))) (k + 1) := by
  obtain ⟨h1, h2, h3⟩ := h
  have e : s.data.toList.getD k 0 = s[k]'hk := by
    rw [← getD_data]
    show s.data[k]! = _
    rw [getElem!_pos s.data k hk]; rfl
  refine ⟨fun j hj => ?_, fun j => (World.frozen?_setCell _ _ _ _).trans (h2 j), h3.setCell (Nat.le_refl _) _⟩
  by_cases hjk : j = k
  · subst hjk
    rw [World.cell?_setCell_same _ _ _ (h1 j hj)]
    unfold runeAt
    rw [if_pos (by omega), e]
  · rw [World.cell?_setCell_other _ _ _ _ (fun e => hjk (by cases e; rfl)), h1 j hj]
    unfold runeAt
    by_cases hlt : j < k
    · rw [if_pos hlt, if_pos (by omega)]
    · rw [if_neg hlt, if_neg (by omega)]

theorem encode_byte (b : UInt8) : Utf8.encode (b.toNat : Int) = ⟨(encB b).toArray⟩ := by
  have h0 := b.toNat_lt
  unfold Utf8.encode encB
  have hv : Utf8.valid (b.toNat : Int) = true := by unfold Utf8.valid; simp; left; omega
  simp only [hv, if_true, Int.toNat_natCast]
  split
  · simp
  · rw [if_pos (by omega)]

theorem runesBytes_wide (l : List UInt8) : ∀ acc : ByteArray, (l.map fun b => (b.toNat : Int)).foldl (fun r n => r ++ Utf8.encode n) acc = ⟨acc.data ++ (wideL l).toArray⟩ := by
  induction l with
  | nil => intro acc; simp [wideL]
  | cons b l ih =>
    intro acc
    rw [List.map_cons, List.foldl_cons, ih, encode_byte, wideL]
    simp

/-- What a text is made wide to. -/
def widB (s : ByteArray) : ByteArray := ⟨(wideL s.data.toList).toArray⟩

theorem wide_end {s : ByteArray} {B : Nat} {w wr : World} (h : WideR s B w wr s.size) : (convert 33 9 (.slice (some ⟨B, 0, none⟩) s.size s.size)).run Try.prog wr = .ok (.string (widB s)) wr := by
  have hc := run_convert_runes (P := Try.prog) wr 33 9 21 ⟨B, 0, none⟩ s.size s.size (s.data.toList.map fun b => (b.toNat : Int)) (by simp) Try.underlying33 Try.underlying21 Try.underlying9 (fun j hj => by
    have hj' : j < s.size := by simpa using hj
    have := h.1 j hj'
    unfold runeAt at this
    rw [if_pos hj'] at this
    have ea : (⟨B, 0, none⟩ : Addr).add j = ⟨B, j, none⟩ := by unfold Addr.add; split <;> simp_all
    rw [ea, this]
    simp [List.getD, List.getElem?_map]
    cases s.data[j]? <;> simp)
  rw [hc]
  rw [List.take_of_length_le (by simp)]
  unfold runesBytes
  rw [runesBytes_wide]
  unfold widB
  simp

theorem wideR_start {s : ByteArray} {w w1 : World} (hown : w1.ownsRow w.heap.size 21 1 (.slice (some ⟨w.heap.size, 0, none⟩) s.size s.size) s.size (madeCells #[Value.int .i32 0] s.size).toList) (hgrow : w.grownBy w1 none) : WideR s w.heap.size w w1 0 := by
  refine ⟨fun j hj => ?_, fun j => ?_, (Below.refl _ _).grown hgrow (Nat.le_refl _) (fun k hk => by cases hk)⟩
  · have := hown.cells (g := w.heap.size) rfl j (.int .i32 0) (by rw [toList_madeCells_one]; simp [hj])
    have ea : (⟨w.heap.size, 0, none⟩ : Addr).add j = ⟨w.heap.size, j, none⟩ := by unfold Addr.add; split <;> simp_all
    rw [ea] at this
    rw [this]
    unfold runeAt
    rw [if_neg (by omega)]
  · rcases hown.2 with ⟨h, _⟩ | ⟨g, cap, cur, h, _, hg, _⟩
    · cases h
    · cases h
      unfold World.frozen?
      rw [hg]
      simp

set_option maxRecDepth 100000 in
set_option maxHeartbeats 400000 in
theorem wide_any (s : ByteArray) (w : World) (hs : s.size ≤ 1048576) :
    Calls Try.prog 13 #[.string s] w fun e w' => e = .returned (.string (widB s)) ∧ Below w.heap.size w w' := by
  obtain ⟨i0, hi, hz0, hz1, hz2⟩ := info_parts Try.info21
  go_enter Try.func13, Try.ntmps13
  go_wp2_with (first | (at_make; refine wpList_make_full _ rfl _ _ 33 rfl w.heap.size 21 i0 (.int .i32 0) 1 Try.underlying33 hi hz0 hz1 .i64 .i64 _ _ s.size rfl rfl rfl rfl ?b2 ?b3 (Nat.le_refl _) ?_) | fail)
  case b2 => rw [hz2]; omega
  case b3 => unfold maxLen; omega
  intro w1 hown hgrow
  have hR0 := wideR_start hown hgrow
  clear hown hgrow
  go_wp2
  go_loopw [10] (fun i wr => ∃ k : Nat, k ≤ s.size ∧ i = .int .i64 k ∧ WideR s w.heap.size w wr k) (fun i _ => s.size - (intOf i).toNat)
  case atStart => exact ⟨0, Nat.zero_le _, rfl, hR0⟩
  case round =>
    obtain ⟨k, hk, rfl, HR⟩ := hrel
    by_cases hp : k < s.size
    · have hc := HR.1 k hp
      have hf := HR.2.1 k
      go_wp2
      go_roundw
      case rel => exact ⟨k + 1, by omega, by go_num, by
        have e : wrap32 ((s[k]'hp).toNat : Int) = (s[k]'hp).toNat := by have := (s[k]'hp).toNat_lt; unfold wrap32; omega
        rw [e]; exact wideR_step hp HR⟩
      case measure => simp [intOf]; omega
    · obtain rfl : k = s.size := by omega
      have hcv := wide_end HR
      go_wp2
      go_ret
      exact ⟨rfl, HR.2.2⟩

theorem wideL_snoc (l : List UInt8) (b : UInt8) : wideL (l ++ [b]) = wideL l ++ encB b := by
  rw [wideL_append, wideL, wideL, List.append_nil]

def RefR (s : ByteArray) (B : Nat) (w wr : World) (v : Value) (k : Nat) : Prop :=
  wr.ownsRow B 5 1 v (wideL (s.data.toList.take k)).length (u8s (wideL (s.data.toList.take k))) ∧ Below B w wr

theorem wrap_u8 {n : Int} (h0 : 0 ≤ n) (h1 : n < 256) : IntKind.u8.wrap n = n := by
  unfold IntKind.wrap
  simp [IntKind.bits, IntKind.signed]
  omega

/-- What the bytes of one character are, as numbers. -/
theorem u8s_encB_lo (l : List UInt8) (b : UInt8) (h : b.toNat < 128) : u8s (wideL l) ++ [Value.int .u8 b.toNat] = u8s (wideL (l ++ [b])) := by
  rw [wideL_snoc]; unfold encB u8s; rw [if_pos h]; simp
theorem u8s_encB_hi (l : List UInt8) (b : UInt8) (h : ¬ b.toNat < 128) : u8s (wideL l) ++ [Value.int .u8 (192 + (b.toNat : Int) / 64), Value.int .u8 (128 + (b.toNat : Int) % 64)] = u8s (wideL (l ++ [b])) := by
  have h0 := b.toNat_lt
  rw [wideL_snoc]; unfold encB u8s; rw [if_neg h, List.map_append]
  simp only [List.map_cons, List.map_nil]
  have e0 : (UInt8.ofNat (192 + b.toNat / 64)).toNat = 192 + b.toNat / 64 := by simp; omega
  have e1 : (UInt8.ofNat (128 + b.toNat % 64)).toNat = 128 + b.toNat % 64 := by simp; omega
  rw [e0, e1]
  rfl

theorem refR_step {s : ByteArray} {B : Nat} {w wr w1 : World} {v v' : Value} {k n : Nat} {xs : List Value} {o : Obj} (hp : k < s.size) (hB : B ≤ wr.heap.size) (h : RefR s B w wr v k)
    (hown' : w1.ownsRow B 5 1 v' n (u8s (wideL (s.data.toList.take k)) ++ xs)) (hxs : u8s (wideL (s.data.toList.take k)) ++ xs = u8s (wideL (s.data.toList.take k ++ [s[k]'hp])))
    (hgrow : ((wr.alloc o)).grownBy w1 v.ownBlock) : RefR s B w w1 v' (k + 1) := by
  have h1 := hown'.1
  rw [hxs] at hown' h1
  rw [← take_snoc s k hp] at hown' h1
  unfold RefR
  have hn : n = (wideL (s.data.toList.take (k + 1))).length := by
    have := h1
    unfold u8s at this
    rw [List.length_map] at this
    omega
  subst hn
  exact ⟨hown', (h.2.alloc hB o).grown hgrow (by simp; omega) (fun j hj => (h.1.lt j hj).1)⟩

set_option maxRecDepth 100000 in
set_option maxHeartbeats 400000 in
theorem refwide_any (s : ByteArray) (w : World) (hs : s.size ≤ 1048576) :
    Calls Try.prog 14 #[.string s] w fun e w' => e = .returned (.string (widB s)) ∧ Below w.heap.size w w' := by
  obtain ⟨i0, hi, hz0, hz1, hz2⟩ := info_parts Try.info5
  go_enter Try.func14, Try.ntmps14
  go_wp2
  go_loopw [3, 4] (fun v i wr => ∃ k : Nat, k ≤ s.size ∧ i = .int .i64 k ∧ RefR s w.heap.size w wr v k) (fun _ i _ => s.size - (intOf i).toNat)
  case atStart => exact ⟨0, Nat.zero_le _, rfl, World.ownsRow_nil _ _ _ _, Below.refl _ _⟩
  case round =>
    obtain ⟨k, hk, rfl, HR⟩ := hrel
    by_cases hp : k < s.size
    · have hown := HR.1
      have hxl := (wide_len (s.data.toList.take k)).2.1
      have hsz := HR.2.size
      rw [List.length_take, size_len] at hxl
      have hub := (s[k]'hp).toNat_lt
      by_cases hr : (s[k]'hp).toNat < 128
      · go_wp2_with ((at_builtin; refine wpList_append_own _ rfl _ _ 29 rfl w.heap.size 5 i0 (.int .u8 0) 1 1 Try.underlying29 hi hz0 hz1 hz2 rfl (by decide) _ _ _ rfl (hown.alloc _) ⟨wr.heap.size, 0, none⟩ 1 1 [.int .u8 (s[k]'hp).toNat] rfl rfl ?c1 ?c2 ?c3 ?c4 ?c5 ?_))
        case c1 =>
          intro j u hj
          match j, hj with
          | 0, hj => simp at hj; subst hj; simp [Addr.add]
        case c2 => intro u hu; simp at hu; subst hu; rfl
        case c3 => unfold maxLen; omega
        case c4 => omega
        case c5 => simp; omega
        intro v' w1 hown' hgrow _
        have R := refR_step hp (by omega) HR hown' (u8s_encB_lo _ _ hr) hgrow
        clear hown' hgrow hown HR
        go_wp2
        go_roundw
        case rel => exact ⟨k + 1, by omega, by go_num, R⟩
        case measure => simp [intOf]; omega
      · have q0 : IntKind.u8.wrap (((s[k]'hp).toNat : Int) / 64) = ((s[k]'hp).toNat : Int) / 64 := wrap_u8 (by omega) (by omega)
        have q1 : IntKind.u8.wrap (192 + ((s[k]'hp).toNat : Int) / 64) = 192 + ((s[k]'hp).toNat : Int) / 64 := wrap_u8 (by omega) (by omega)
        have q2 : IntKind.u8.wrap (128 + ((s[k]'hp).toNat : Int).tmod 64) = 128 + ((s[k]'hp).toNat : Int) % 64 := by
          rw [Int.tmod_eq_emod_of_nonneg (by omega)]; exact wrap_u8 (by omega) (by omega)
        go_wp2
        go_region_held3 (fun _ => True) (trivial) ((refine step_append_lies _ (by rfl) _ _ _ (by rfl) w.heap.size 5 i0 _ 1 1 Try.underlying29 hi hz0 hz1 hz2 rfl (by omega) u3 (wideL (s.data.toList.take k)).length (u8s (wideL (s.data.toList.take k))) (by rfl) ((hown.alloc _).drew) ⟨wr.heap.size, 0, none⟩ 2 2 [.int .u8 (192 + ((s[k]'hp).toNat : Int) / 64), .int .u8 (128 + ((s[k]'hp).toNat : Int) % 64)] (by rfl) (by rfl) (World.news_of_block (cs := #[.int .u8 (192 + ((s[k]'hp).toNat : Int) / 64), .int .u8 (128 + ((s[k]'hp).toNat : Int) % 64)]) (t := 5) (fr := (0, 0)) (heap_alloc_new wr _)) (by simp [Value.oneCell']) (by omega) (by unfold maxLen; omega) (by omega) (by simp; omega) (wr.heap.size + 1) (by simp) ?_; intro gg cap w1 hown1 hgrow hat hlt))
        all_goals
          have R := refR_step hp (by omega) HR hown1 (u8s_encB_hi _ _ hr) ⟨hgrow.os, hgrow.tape, hgrow.output, hgrow.size, hgrow.block⟩
          clear hown1 hgrow hown HR hat
          go_wp2
          go_roundw
          case rel => exact ⟨k + 1, by omega, by go_num, R⟩
          case measure => simp [intOf]; omega
    · have hcv := run_convert_owned (P := Try.prog) 29 9 Try.underlying29 Try.underlying5 Try.underlying9 HR.1
      have ht := Lib.hid (List.take_of_length_le (l := s.data.toList) (i := k) (by rw [size_len]; omega))
      go_wp2
      go_ret
      exact ⟨by unfold widB; rw [ht.out]; rfl, HR.2⟩
end Go.Proofs.Ytljnbpecmjoafaa
