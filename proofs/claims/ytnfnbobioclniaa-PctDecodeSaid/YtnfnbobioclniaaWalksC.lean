/- The walks of the library's Builder (a byte written) and of layer 3's put: for every Builder of at most 100000 bytes. -/
import Derived.Test.YtnfnbobioclniaaRows
import Derived.Test.YtnfnbobioclniaaPure
import Derived.WalkKit
import Derived.WalkLawsBesides
import Derived.WalkSmall
import Derived.WalkSpells
import Derived.Lib.Hide
import Derived.Lib.Builder
import Derived.Deep.AppendLies
import Derived.OneCell
import Derived.Laws.Externs
import Derived.Outline
import Derived.RegionTactic
namespace Go.Proofs.Ytnfnbobioclniaa
open Go.RowKit

theorem Try.info5 : (Try.prog.info? 5).map (fun i => (i.zero, i.size, i.bytes)) = some (some (.int .u8 0), 1, 1) := by kernel_rfl

def u8s (l : List UInt8) : List Value := l.map fun b => Value.int .u8 b.toNat

/-- A Builder in a block of its own, its buffer in v. -/
structure Bld (B b : Nat) (v : Value) (bs : List UInt8) (w : World) : Prop where
  lo : B ≤ b
  blk : ∃ p, (p = .pointer none ∨ p = .pointer (some ⟨b, 0, none⟩)) ∧ w.heap[b]? = some (.cells #[p, v] 38 (0, 0))
  own : w.ownsRow B 5 1 v bs.length (u8s bs)
  ne : v.ownBlock ≠ some b

/-- But for the Builder's block and its buffer's all blocks stand. -/
structure Stay (b : Nat) (v v' : Value) (w w' : World) : Prop where
  os : w'.os = w.os
  tape : w'.tape = w.tape
  output : w'.output = w.output
  size : w.heap.size ≤ w'.heap.size
  block : ∀ k, k < w.heap.size → k ≠ b → some k ≠ v.ownBlock → w'.heap[k]? = w.heap[k]?
  buf : ∀ g, v'.ownBlock = some g → v.ownBlock = some g ∨ w.heap.size ≤ g

theorem Stay.refl (b : Nat) (v : Value) (w : World) : Stay b v v w w := ⟨rfl, rfl, rfl, Nat.le_refl _, fun _ _ _ _ => rfl, fun _ h => Or.inl h⟩
theorem Stay.trans {b : Nat} {v v' v'' : Value} {w w' w'' : World} (h : Stay b v v' w w') (k : Stay b v' v'' w' w'') : Stay b v v'' w w'' :=
  ⟨k.os.trans h.os, k.tape.trans h.tape, k.output.trans h.output, Nat.le_trans h.size k.size,
    fun i hi hb hv => (k.block i (Nat.lt_of_lt_of_le hi h.size) hb (fun e => by
      rcases h.buf i e.symm with h' | h'
      · exact hv h'.symm
      · omega)).trans (h.block i hi hb hv),
    fun g hg => by
      rcases k.buf g hg with h' | h'
      · exact h.buf g h'
      · right; have := h.size; omega⟩
theorem Stay.below {B b : Nat} {v v' : Value} {w w' : World} (h : Stay b v v' w w') (hb : B ≤ b) (hv : ∀ g, v.ownBlock = some g → B ≤ g) (hB : B ≤ w.heap.size) : Below B w w' :=
  ⟨h.os, h.tape, h.output, h.size, fun k hk => h.block k (by omega) (by omega) (fun e => by have := hv k e.symm; omega)⟩

theorem heap_lt {w : World} {b : Nat} {o : Obj} (h : w.heap[b]? = some o) : b < w.heap.size := by
  rcases Nat.lt_or_ge b w.heap.size with h' | h'
  · exact h'
  · rw [Array.getElem?_eq_none h'] at h; cases h

theorem shape_of {w : World} {b : Nat} {p v : Value} (h : w.heap[b]? = some (.cells #[p, v] 38 (0, 0))) : w.shape? b = some (38, 2) := by
  simp [World.shape?, h]
theorem sizeBuilder : (Try.prog.info? 38).map (·.size) = some 2 := by kernel_rfl
theorem liesBuilder : liesAt Try.prog Try.prog.depth 38 (2 / Try.prog.cellsOf 38) 0 38 1 = true := by kernel_rfl

/-- copyCheck at a Builder that has been used: nothing turns. -/
theorem check_used (b : Nat) (w : World) (h0 : w.cell? ⟨b, 0, none⟩ = some (.pointer (some ⟨b, 0, none⟩))) :
    Calls Try.prog 37 #[.pointer (some ⟨b, 0, none⟩)] w fun e w' => e = .returned (.tuple #[]) ∧ w = w' := by
  obtain ⟨j, hj, _⟩ := Option.map_eq_some_iff.1 sizeBuilder
  go_enter Try.func37, Try.ntmps37
  go_wp2
  rw [Lib.run_neq_ptr_same w _ Try.underlying36 hj]
  go_wp2
  go_end0
  exact ⟨rfl, rfl⟩
/-- copyCheck at a fresh Builder: it stores its own address. -/
theorem check_fresh (b : Nat) (w : World) (h0 : w.cell? ⟨b, 0, none⟩ = some (.pointer none)) (hsh : w.shape? b = some (38, 2)) (hf : w.frozen? ⟨b, 0, none⟩ = false) :
    Calls Try.prog 37 #[.pointer (some ⟨b, 0, none⟩)] w fun e w' => e = .returned (.tuple #[]) ∧ w.setCell ⟨b, 0, none⟩ (.pointer (some ⟨b, 0, none⟩)) = w' := by
  obtain ⟨j, hj, hjs⟩ := Option.map_eq_some_iff.1 sizeBuilder
  go_enter Try.func37, Try.ntmps37
  go_wp2
  rw [Lib.run_to_unsafe w ⟨b, 0, none⟩ Try.underlying36 Try.underlying48 hj (by rw [hjs]; decide) hsh (Nat.zero_lt_succ 1)]
  simp only [Result.andThen]
  rw [Oper.upon_value]
  go_wp2
  rw [run_callFunc_extern Try.func38 (by kernel_rfl) (by kernel_rfl) (by kernel_rfl) (e := Extern.AbiNoEscape.same) (by kernel_rfl)]
  rw [Lib.run_noEscape]
  simp only [Result.andThen]
  rw [Oper.upon_value]
  go_wp2
  rw [Lib.run_from_unsafe w ⟨b, 0, none⟩ Try.underlying48 Try.underlying36 hj hsh liesBuilder]
  simp only [Result.andThen]
  rw [Oper.upon_value]
  go_wp2
  go_end0
  exact ⟨rfl, rfl⟩

theorem new_one {w : World} {x : Value} {e : TypeId} {b : Nat} (hb : b = w.heap.size) : ∀ (j : Nat) u, [x][j]? = some u → (w.alloc (.cells #[x] e)).cell? ((⟨b, 0, none⟩ : Addr).add j) = some u := by
  intro j u hj
  match j, hj with
  | 0, hj =>
    have hu : x = u := by simpa using hj
    have ha : (⟨b, 0, none⟩ : Addr).add 0 = ⟨b, 0, none⟩ := by unfold Addr.add; rw [if_pos rfl]
    rw [ha, World.cell?_alloc_at _ _ _ _ hb, ← hu]; rfl

theorem u8s_snoc (l : List UInt8) (c : UInt8) : u8s l ++ [Value.int .u8 c.toNat] = u8s (l ++ [c]) := by unfold u8s; rw [List.map_append]; rfl

def Wrote (B b : Nat) (v : Value) (bs : List UInt8) (w : World) (e : Ending) (w' : World) : Prop := e = .returned .nilIface ∧ ∃ v', Bld B b v' bs w' ∧ Stay b v v' w w'

/-- What the append and the store behind it leave. -/
theorem wrote_end {B b g cap : Nat} {v : Value} {bs : List UInt8} {c : UInt8} {w w2 : World} {o : Obj} (hlo : B ≤ b) (hblk : w.heap[b]? = some (.cells #[.pointer (some ⟨b, 0, none⟩), v] 38 (0, 0))) (hne : v.ownBlock ≠ some b)
    (hown' : w2.ownsRow B 5 1 (.slice (some ⟨g, 0, none⟩) (bs.length + 1) cap) (bs.length + 1) (u8s bs ++ [.int .u8 c.toNat])) (hgrow : (w.alloc o).grownBy w2 v.ownBlock) (hat : v.ownBlock = some g ∨ g = w.heap.size + 1) :
    Wrote B b v (bs ++ [c]) w (.returned .nilIface) (w2.setCell ⟨b, 1, none⟩ (.slice (some ⟨g, 0, none⟩) (bs.length + 1) cap)) := by
  have hlt := heap_lt hblk
  have hb2 : w2.heap[b]? = some (.cells #[.pointer (some ⟨b, 0, none⟩), v] 38 (0, 0)) := by
    rw [hgrow.block b (by simp; omega) (fun e => hne e.symm), Below.heap_alloc _ _ _ hlt]; exact hblk
  have hgb : g ≠ b := by
    rcases hat with h | h
    · intro e; subst e; exact hne h
    · omega
  have hsz := hgrow.size
  simp at hsz
  rw [u8s_snoc] at hown'
  refine ⟨rfl, .slice (some ⟨g, 0, none⟩) (bs.length + 1) cap, ⟨hlo, ⟨_, Or.inr rfl, ?_⟩, ?_, ?_⟩, ⟨hgrow.os, hgrow.tape, hgrow.output, ?_, fun k hk hkb hkv => ?_, fun g' hg' => ?_⟩⟩
  · rw [heap_setCell_same w2 b 1 _ 38 _ hb2]; rfl
  · have := ownsRow_setCell_other hown' (a := ⟨b, 1, none⟩) (by simp [Value.ownBlock]; exact hgb) (.slice (some ⟨g, 0, none⟩) (bs.length + 1) cap)
    simpa using this
  · simp [Value.ownBlock]; exact hgb
  · simp [World.setCell]; omega
  · rw [Below.heap_setCell _ _ _ _ hkb, hgrow.block k (by simp; omega) hkv, Below.heap_alloc _ _ _ hk]
  · simp [Value.ownBlock] at hg'
    subst hg'
    rcases hat with h | h
    · exact Or.inl h
    · exact Or.inr (by omega)

theorem write_gen (B b : Nat) (v : Value) (bs : List UInt8) (c : UInt8) (w0 w : World) (HC : Hid (Calls Try.prog 37 #[.pointer (some ⟨b, 0, none⟩)] w0 fun e w' => e = .returned (.tuple #[]) ∧ w = w')) (hlo : B ≤ b) (hblk : w.heap[b]? = some (.cells #[.pointer (some ⟨b, 0, none⟩), v] 38 (0, 0))) (hown : w.ownsRow B 5 1 v bs.length (u8s bs)) (hne : v.ownBlock ≠ some b) (hlen : bs.length ≤ 100000) (hBw : B ≤ w.heap.size) :
    Calls Try.prog 32 #[.pointer (some ⟨b, 0, none⟩), .int .u8 c.toNat] w0 (Wrote B b v (bs ++ [c]) w) := by
  obtain ⟨i0, hi, hz0, hz1, hz2⟩ := info_parts Try.info5
  have c0 : w.cell? ⟨b, 0, none⟩ = some (.pointer (some ⟨b, 0, none⟩)) := by rw [Lib.cell_of_heap hblk]; rfl
  have c1 : w.cell? ⟨b, 1, none⟩ = some v := by rw [Lib.cell_of_heap hblk]; rfl
  have HBK := Lib.hid hblk
  have hlt := heap_lt hblk
  clear hblk
  go_enter Try.func32, Try.ntmps32
  go_wp2_with fail
  refine HC.out.mono ?_
  rintro e w' ⟨rfl, rfl⟩
  go_wp2_with (at_builtin; refine wpList_append_lies _ rfl _ _ 30 rfl B 5 i0 (.int .u8 0) 1 1 Try.underlying30 hi hz0 hz1 hz2 rfl (by decide) _ _ _ rfl (hown.alloc _) ⟨w.heap.size, 0, none⟩ 1 1 [.int .u8 c.toNat] rfl rfl ?c1 ?c2 (by decide) ?c3 ?c4 ?c5 (w.heap.size + 1) ?c6 ?_)
  case c1 => exact new_one rfl
  case c2 => intro u hu; simp at hu; subst hu; rfl
  case c3 => unfold maxLen; omega
  case c4 => omega
  case c5 => simp; omega
  case c6 => simp
  intro g cap w2 hown' hgrow hat hlt2
  have hb2 : w2.heap[b]? = some (.cells #[.pointer (some ⟨b, 0, none⟩), v] 38 (0, 0)) := by
    rw [hgrow.block b (by simp; omega) (fun e => hne e.symm), Below.heap_alloc _ _ _ hlt]; exact HBK.out
  have d0 : w2.cell? ⟨b, 0, none⟩ = some (.pointer (some ⟨b, 0, none⟩)) := by rw [Lib.cell_of_heap hb2]; rfl
  have d1 : w2.cell? ⟨b, 1, none⟩ = some v := by rw [Lib.cell_of_heap hb2]; rfl
  have f1 : w2.frozen? ⟨b, 1, none⟩ = false := Lib.frozen_of_heap hb2 1
  have R := wrote_end hlo HBK.out hne hown' hgrow hat
  clear hb2 hown' hgrow hat
  go_wp2
  go_ret
  exact R

theorem write_any (B b : Nat) (v : Value) (bs : List UInt8) (c : UInt8) (w : World) (h : Bld B b v bs w) (hlen : bs.length ≤ 100000) (hBw : B ≤ w.heap.size) :
    Calls Try.prog 32 #[.pointer (some ⟨b, 0, none⟩), .int .u8 c.toNat] w (Wrote B b v (bs ++ [c]) w) := by
  obtain ⟨hlo, ⟨p, hp, hblk⟩, hown, hne⟩ := h
  rcases hp with rfl | rfl
  · have c0 : w.cell? ⟨b, 0, none⟩ = some (.pointer none) := by rw [Lib.cell_of_heap hblk]; rfl
    have f0 : w.frozen? ⟨b, 0, none⟩ = false := Lib.frozen_of_heap hblk 0
    have hb1 : (w.setCell ⟨b, 0, none⟩ (.pointer (some ⟨b, 0, none⟩))).heap[b]? = some (.cells #[.pointer (some ⟨b, 0, none⟩), v] 38 (0, 0)) := by
      rw [heap_setCell_same w b 0 _ 38 _ hblk]; rfl
    refine (write_gen B b v bs c w _ (check_fresh b w c0 (shape_of hblk) f0) hlo hb1 (ownsRow_setCell_other hown (a := ⟨b, 0, none⟩) hne _) hne hlen (by simpa using hBw)).mono fun e w' ⟨he, v', h1, h2⟩ => ⟨he, v', h1, h2.os, h2.tape, h2.output, ?_, fun k hk hkb hkv => ?_, fun g hg => ?_⟩
    · have := h2.size; simpa using this
    · rw [h2.block k (by simpa using hk) hkb hkv, Below.heap_setCell _ _ _ _ hkb]
    · have := h2.buf g hg; simpa using this
  · have c0 : w.cell? ⟨b, 0, none⟩ = some (.pointer (some ⟨b, 0, none⟩)) := by rw [Lib.cell_of_heap hblk]; rfl
    exact write_gen B b v bs c w w (check_used b w c0) hlo hblk hown hne hlen hBw

theorem take_snocL (l : List UInt8) (k : Nat) (h : k < l.length) : l.take (k + 1) = l.take k ++ [l.getD k 0] := by
  rw [List.take_succ_eq_append_getElem h]; simp [List.getD, h]

def Put (B b : Nat) (v : Value) (bs : List UInt8) (w : World) (e : Ending) (w' : World) : Prop := e = .returned (.tuple #[]) ∧ ∃ v', Bld B b v' bs w' ∧ Stay b v v' w w'

set_option maxRecDepth 100000 in
theorem put_any (B b g cap : Nat) (v : Value) (bs l : List UInt8) (w : World) (h : Bld B b v bs w) (hlen : bs.length + l.length ≤ 100000) (hBw : B ≤ w.heap.size)
    (hc : ∀ j, j < l.length → w.cell? ⟨g, j, none⟩ = some (.int .u8 (l.getD j 0).toNat)) (hg : g < w.heap.size) (hgb : g ≠ b) (hgv : v.ownBlock ≠ some g) :
    Calls Try.prog 27 #[.pointer (some ⟨b, 0, none⟩), .slice (some ⟨g, 0, none⟩) l.length cap] w (Put B b v (bs ++ l) w) := by
  have HC : Hid (∀ j, j < l.length → w.cell? ⟨g, j, none⟩ = some (.int .u8 (l.getD j 0).toNat)) := hc
  clear hc
  go_enter Try.func27, Try.ntmps27
  go_wp2
  go_loopw [8] (fun i wr => ∃ (k : Nat) (v1 : Value), k ≤ l.length ∧ i = .int .i64 k ∧ Bld B b v1 (bs ++ l.take k) wr ∧ Stay b v v1 w wr) (fun i _ => l.length - (intOf i).toNat)
  case atStart => exact ⟨0, v, Nat.zero_le _, rfl, by simpa using h, Stay.refl _ _ _⟩
  case round =>
    obtain ⟨k, v1, hk, rfl, HB, HS⟩ := hrel
    by_cases hlt : k < l.length
    · have hcell : wr.cell? ⟨g, k, none⟩ = some (.int .u8 (l.getD k 0).toNat) := by
        rw [World.cell?_of_block (HS.block g hg hgb (fun e => hgv e.symm))]
        exact HC.out k hlt
      have hs := HS.size
      obtain ⟨c, hcc⟩ : ∃ c, c = l.getD k 0 := ⟨_, rfl⟩
      rw [← hcc] at hcell
      have HCC := Lib.hid hcc
      clear hcc
      go_wp2_with fail
      refine (write_any B b v1 _ c _ HB (by simp; omega) (by omega)).mono ?_
      rintro e w2 ⟨rfl, v2, h1, h2⟩
      go_wp2_with fail
      go_roundw
      case rel => exact ⟨k + 1, v2, by omega, by go_num, by rw [take_snocL l k hlt, ← HCC.out, ← List.append_assoc]; exact h1, HS.trans h2⟩
      case measure => simp [intOf]; omega
    · have hkl := List.take_of_length_le (l := l) (i := k) (by omega)
      rw [hkl] at HB
      clear hkl
      go_wp2
      go_end0
      exact ⟨rfl, v1, HB, HS⟩
end Go.Proofs.Ytnfnbobioclniaa
