/- The walk of layer 2's showing of numbers: for every number. -/
import Derived.Test.YtnfefjjpifokpaaWalksA
import Derived.WalkMore
import Derived.ScopeJumps
import Derived.BigRegion
import Derived.RegionTactic
namespace Go.Proofs.Ytnfefjjpifokpaa
open Go.RowKit

theorem Try.info5 : (Try.prog.info? 5).map (fun i => (i.zero, i.size, i.bytes)) = some (some (.int .u8 0), 1, 1) := by kernel_rfl

theorem tmod_abs (n : Int) : n.tmod 10 = (n.natAbs % 10 : Nat) ∨ n.tmod 10 = -((n.natAbs % 10 : Nat) : Int) := by
  rcases Int.natAbs_eq n with h | h
  · left; rw [h, Int.natAbs_natCast]; rfl
  · right; rw [h, Int.natAbs_neg, Int.natAbs_natCast, Int.neg_tmod]; rfl

theorem last_any (n : Int) (a : Addr) (w : World) (h1 : -9223372036854775808 ≤ n) (h2 : n ≤ 9223372036854775807) (hc : w.cell? a = some (.int .i64 n)) (hf : w.frozen? a = false) :
    Calls Try.prog 17 #[.pointer (some a)] w fun e w' => e = .returned (.int .u8 (48 + ((n.natAbs % 10 : Nat) : Int))) ∧ w.setCell a (.int .i64 (n.tdiv 10)) = w' := by
  have ht := tmod_abs n
  have hm : n.natAbs % 10 < 10 := by omega
  obtain ⟨m, hmm⟩ : ∃ m, m = n.natAbs % 10 := ⟨_, rfl⟩
  rw [← hmm] at ht hm
  rw [← hmm]
  clear hmm
  by_cases h0 : n.tmod 10 < 0
  · go_enter Try.func17, Try.ntmps17
    go_wp2
    go_ret
    exact ⟨ret_int (by omega), rfl⟩
  · go_enter Try.func17, Try.ntmps17
    go_wp2
    go_ret
    exact ⟨ret_int (by omega), rfl⟩


theorem last_at (n q : Int) (d : Nat) (a : Addr) (w : World) (h1 : -9223372036854775808 ≤ n) (h2 : n ≤ 9223372036854775807) (hc : w.cell? a = some (.int .i64 n)) (hf : w.frozen? a = false) (hd : Hid (d = n.natAbs % 10)) (hq : Hid (q = n.tdiv 10)) :
    Calls Try.prog 17 #[.pointer (some a)] w fun e w' => e = .returned (.int .u8 (48 + (d : Int))) ∧ w.setCell a (.int .i64 q) = w' := by
  have h := hd.out
  have k := hq.out
  subst h
  subst k
  exact last_any n a w h1 h2 hc hf

theorem stop_here {p : Prop} (h : Hid p) : p := h
theorem new_one {w : World} {x : Value} {e : TypeId} {b : Nat} (hb : b = w.heap.size) : ∀ (j : Nat) u, [x][j]? = some u → (w.alloc (.cells #[x] e)).cell? ((⟨b, 0, none⟩ : Addr).add j) = some u := by
  intro j u hj
  match j, hj with
  | 0, hj =>
    have hu : x = u := by simpa using hj
    have ha : (⟨b, 0, none⟩ : Addr).add 0 = ⟨b, 0, none⟩ := by unfold Addr.add; rw [if_pos rfl]
    rw [ha, World.cell?_alloc_at _ _ _ _ hb, ← hu]; rfl

theorem wp_scope_again {P : Program} {a : Act} {w : World} {Q : Exit → Act → World → Prop} {c rest : Code} (l : Nat) (J : Act → World → Prop) (μ : Act → World → Nat) (hf : findLabel c l = some (Code.skip.seq rest)) (a0 : Act) (w0 : World) (hJ : J a0 w0)
    (first : Hid (rest.wp P (Exit.jump l J Q) a0 w0) → c.wp P (Exit.jump l J Q) a w)
    (pass : ∀ a w, J a w → rest.wp P (Exit.jump l (fun a' w' => J a' w' ∧ μ a' w' < μ a w) Q) a w) : (Code.scope c).wp P Q a w := by
  refine wp_scope_jumps l J μ hf (first (wp_mono (pass a0 w0 hJ) fun e a' w' h => ?_)) (fun a w h => wp_seq (wp_skip (pass a w h)))
  cases e with
  | goto l' => exact ⟨h.1, h.2.1⟩
  | normal => exact h
  | exit id => exact h
  | ret => exact h
  | panic ch => exact h
  | outgrown => exact h

def u8s (l : List UInt8) : List Value := l.map fun b => Value.int .u8 b.toNat

/-- What holds at the label: the digits so far, and what is left of the number. -/
structure ShowW (n : Int) (w w' : World) (v : Value) (m : Int) (ds : List UInt8) : Prop where
  own : w'.ownsRow (w.heap.size + 1) 5 1 v ds.length (u8s ds)
  cell : w'.cell? ⟨w.heap.size, 0, none⟩ = some (.int .i64 m)
  free : w'.frozen? ⟨w.heap.size, 0, none⟩ = false
  below : Below w.heap.size w w'
  left : digR n.natAbs = ds ++ digR m.natAbs
  lo : -9223372036854775808 ≤ m
  hi : m ≤ 9223372036854775807

theorem ShowW.lt {n : Int} {w w' : World} {v : Value} {m : Int} {ds : List UInt8} (h : ShowW n w w' v m ds) : w.heap.size + 1 ≤ w'.heap.size := World.block_lt_of_cell? w' _ h.cell
theorem u8s_len (l : List UInt8) : (u8s l).length = l.length := by unfold u8s; simp
theorem ShowW.len {n : Int} {w w' : World} {v : Value} {m : Int} {ds : List UInt8} (h : ShowW n w w' v m ds) : ds.length + 1 ≤ (digR n.natAbs).length := by
  have := digR_pos m.natAbs
  rw [h.left, List.length_append]; omega
theorem u8s_snoc (ds : List UInt8) (d : Nat) (hd : d < 10) : u8s ds ++ [Value.int .u8 (48 + (d : Int))] = u8s (ds ++ [dig d]) := by
  have := dig_toNat hd
  unfold u8s
  rw [List.map_append, List.map_cons, List.map_nil, this]; rfl

theorem ShowW.step {n : Int} {w w' w1 : World} {v v' : Value} {m q : Int} {d : Nat} {ds : List UInt8} {o : Obj} (h : ShowW n w w' v m ds) (hd : Hid (d = m.natAbs % 10)) (hq : Hid (q = m.tdiv 10))
    (hown' : w1.ownsRow (w.heap.size + 1) 5 1 v' (ds.length + 1) (u8s ds ++ [.int .u8 (48 + (d : Int))])) (hgrow : ((w'.setCell ⟨w.heap.size, 0, none⟩ (.int .i64 q)).alloc o).grownBy w1 v.ownBlock) :
    w1.cell? ⟨w.heap.size, 0, none⟩ = some (.int .i64 q) ∧ w1.frozen? ⟨w.heap.size, 0, none⟩ = false ∧ Below w.heap.size w w1 ∧ (q ≠ 0 → ShowW n w w1 v' q (ds ++ [dig d])) ∧
      (q = 0 → w1.ownsRow (w.heap.size + 1) 5 1 v' (digR n.natAbs).length (u8s (digR n.natAbs))) := by
  have hlt := h.lt
  have hd1 : d < 10 := by have := hd.out; omega
  have hne : some w.heap.size ≠ v.ownBlock := fun e => by have := h.own.lt _ e.symm; omega
  have hc : w1.cell? ⟨w.heap.size, 0, none⟩ = some (.int .i64 q) := by
    refine hgrow.cell ?_ hne
    rw [World.cell?_alloc_past _ _ _ (by simp; omega)]
    exact World.cell?_setCell_same w' ⟨w.heap.size, 0, none⟩ (.int .i64 q) h.cell
  have hf : w1.frozen? ⟨w.heap.size, 0, none⟩ = false := by
    rw [World.frozen?_of_block (hgrow.block w.heap.size (by simp; omega) hne), World.frozen?_alloc_past _ _ _ (by simp; omega)]
    exact (World.frozen?_setCell _ _ _ _).trans h.free
  have hb : Below w.heap.size w w1 := Below.grown ((h.below.setCell (p := ⟨w.heap.size, 0, none⟩) (Nat.le_refl _) _).alloc (by simp; omega) o) hgrow (by simp; omega) (fun k hk => by have := h.own.lt k hk; omega)
  rw [u8s_snoc ds d hd1] at hown'
  have hl : ds.length + 1 = (ds ++ [dig d]).length := by simp
  rw [hl] at hown'
  have hq' := hq.out
  have hd' := hd.out
  refine ⟨hc, hf, hb, fun hz => ⟨hown', hc, hf, hb, ?_, ?_, ?_⟩, fun hz => ?_⟩
  · subst hq'; subst hd'; exact digR_more h.left hz
  · have := tdiv_abs m; have := h.lo; have := h.hi; omega
  · have := tdiv_abs m; have := h.lo; have := h.hi; omega
  · subst hq'; subst hd'
    rw [digR_last h.left hz]; exact hown'

theorem u8s_at (l : List UInt8) (p : Nat) (h : p < l.length) : (u8s l)[p]? = some (.int .u8 (l.getD p 0).toNat) := by
  unfold u8s
  simp [List.getD, h]
theorem cell?_setCell_some {w : World} {p q : Addr} {x v : Value} (h : w.cell? q = some v) : ∃ v', (w.setCell p x).cell? q = some v' := by
  by_cases e : p = q
  · subst e; exact ⟨x, World.cell?_setCell_same w p x h⟩
  · exact ⟨v, (World.cell?_setCell_other w p q x e).trans h⟩
theorem rev_round {w wr : World} {g n cap j k : Nat} {l : List UInt8} {x y : UInt8} (h : wr.ownsRow (w.heap.size + 1) 5 1 (.slice (some ⟨g, 0, none⟩) n cap) n (u8s l)) (hb : Below w.heap.size w wr) :
    ((wr.setCell ⟨g, j, none⟩ (.int .u8 y.toNat)).setCell ⟨g, k, none⟩ (.int .u8 x.toNat)).ownsRow (w.heap.size + 1) 5 1 (.slice (some ⟨g, 0, none⟩) n cap) n (u8s ((l.set j y).set k x)) ∧
    Below w.heap.size w ((wr.setCell ⟨g, j, none⟩ (.int .u8 y.toNat)).setCell ⟨g, k, none⟩ (.int .u8 x.toNat)) := by
  have hg := (h.lt g rfl).1
  have h1 := (h.stored j (.int .u8 y.toNat)).1
  have h2 := (h1.stored k (.int .u8 x.toNat)).1
  refine ⟨?_, (hb.setCell (by show w.heap.size ≤ g; omega) _).setCell (by show w.heap.size ≤ g; omega) _⟩
  have e : u8s ((l.set j y).set k x) = ((u8s l).set j (.int .u8 y.toNat)).set k (.int .u8 x.toNat) := by unfold u8s; rw [List.map_set, List.map_set]
  rw [e]; exact h2

theorem run_convert_owned {P : Program} {w : World} {base : Nat} {e : TypeId} {v : Value} {l : List UInt8} (src dst : TypeId) (hs : P.underlying src = some (.slice e)) (he : P.underlying e = some (.int .u8)) (hd : P.underlying dst = some .string)
    (h : w.ownsRow base e 1 v l.length (u8s l)) : (convert src dst v).run P w = .ok (.string ⟨l.toArray⟩) w := by
  rcases h.2 with ⟨rfl, h0⟩ | ⟨g, cap, cur, rfl, r⟩
  · have : l = [] := List.length_eq_zero_iff.1 h0
    subst this
    rw [run_convert_bytes_string w src dst e none _ _ hs he hd]
    simp [Conv.bytesToString]
    rfl
  · refine run_convert_bytes_back w src dst e ⟨g, 0, none⟩ cap l hs he hd fun j hj => ?_
    exact h.cells (g := g) rfl j _ (by simp [u8s, hj])

theorem own_slice {w : World} {B n : Nat} {v : Value} {xs : List Value} (h : w.ownsRow B 5 1 v n xs) (hn : n ≠ 0) : ∃ g cap, v = .slice (some ⟨g, 0, none⟩) n cap := by
  rcases h.2 with ⟨_, h0⟩ | ⟨g, cap, cur, hv, _⟩
  · exact absurd h0 hn
  · exact ⟨g, cap, hv⟩

def ShowJ (n : Int) (w : World) (a' : Act) (w' : World) : Prop :=
  ∃ (v : Value) (m : Int) (ds : List UInt8) (u6 u7 u11 u12 u13 u14 u15 u16 u17 u18 u19 u20 u21 u22 u23 u24 u25 u26 u27 u28 u29 u30 u31 u32 u33 u34 u35 u36 u37 u38 u39 u40 u41 u42 u43 u44 u45 u46 u47 : Value), a' = { tmps := #[.int .i64 n, .pointer (some ⟨w.heap.size, 0, none⟩), .string ⟨#[]⟩, v, .func (.func 17) #[] #[.pointer (some ⟨w.heap.size, 0, none⟩)], .bool (decide (n < 0)), u6, u7, .func (.func 17) #[] #[.pointer (some ⟨w.heap.size, 0, none⟩)], .int .i64 n, .bool (decide (n < 0)), u11, u12, u13, u14, u15, u16, u17, u18, u19, u20, u21, u22, u23, u24, u25, u26, u27, u28, u29, u30, u31, u32, u33, u34, u35, u36, u37, u38, u39, u40, u41, u42, u43, u44, u45, u46, u47], defers := [] } ∧ ShowW n w w' v m ds

set_option maxRecDepth 100000 in
set_option maxHeartbeats 400000 in
theorem show_any (n : Int) (w : World) (h1 : -9223372036854775808 ≤ n) (h2 : n ≤ 9223372036854775807) :
    Calls Try.prog 13 #[.int .i64 n] w fun e w' => e = .returned (.string ⟨(showL n).toArray⟩) ∧ Below w.heap.size w w' := by
  have hmf : ∀ (fn : Fn) (first cap : Array Value) (w : World), (Instr.makeFunc fn first cap).run Try.prog w = .ok (.func fn first cap) w := fun _ _ _ _ => rfl
  obtain ⟨i0, hi, hz0, hz1, hz2⟩ := info_parts Try.info5
  go_enter Try.func13, Try.ntmps13
  go_wp2
  refine wp_scope_again 0 (ShowJ n w) (fun a' w' => (intOf ((w'.cell? ⟨w.heap.size, 0, none⟩).getD undef)).natAbs) rfl { tmps := #[.int .i64 n, .pointer (some ⟨w.heap.size, 0, none⟩), .string ⟨#[]⟩, .slice none 0 0, .func (.func 17) #[] #[.pointer (some ⟨w.heap.size, 0, none⟩)], .bool (decide (n < 0)), undef, undef, .func (.func 17) #[] #[.pointer (some ⟨w.heap.size, 0, none⟩)], .int .i64 n, .bool (decide (n < 0)), undef, undef, undef, undef, undef, undef, undef, undef, undef, undef, undef, undef, undef, undef, undef, undef, undef, undef, undef, undef, undef, undef, undef, undef, undef, undef, undef, undef, undef, undef, undef, undef, undef, undef, undef, undef, undef], defers := [] } (w.alloc (.cells #[.int .i64 n] 3)) ?_ ?_ ?_
  · exact ⟨_, n, [], _, _, _, _, _, _, _, _, _, _, _, _, _, _, _, _, _, _, _, _, _, _, _, _, _, _, _, _, _, _, _, _, _, _, _, _, _, _, _, rfl, { own := World.ownsRow_nil _ _ _ _, cell := by rw [World.cell?_alloc_at _ _ _ _ rfl]; rfl, free := World.frozen?_alloc_at _ _ _ _ rfl, below := (Below.refl _ _).alloc (Nat.le_refl _) _, left := rfl, lo := h1, hi := h2 }⟩
  · intro HR
    go_wp2
    go_step3
    rename_i hK
    exact hK _ _ HR.out
  · rintro a' w' ⟨v, m, ds, u6, u7, u11, u12, u13, u14, u15, u16, u17, u18, u19, u20, u21, u22, u23, u24, u25, u26, u27, u28, u29, u30, u31, u32, u33, u34, u35, u36, u37, u38, u39, u40, u41, u42, u43, u44, u45, u46, u47, rfl, HJ⟩
    have hc := HJ.cell
    have hf := HJ.free
    have hown := HJ.own
    have hlo := HJ.lo
    have hhi := HJ.hi
    obtain ⟨d, hd0⟩ : ∃ d, d = m.natAbs % 10 := ⟨_, rfl⟩
    obtain ⟨q, hq0⟩ : ∃ q, q = m.tdiv 10 := ⟨_, rfl⟩
    have hd := Lib.hid hd0
    have hq := Lib.hid hq0
    have hown3 := ownsRow_setCell_below (a := ⟨w.heap.size, 0, none⟩) hown (Nat.lt_succ_self _) (.int .i64 q)
    have hc2 := World.cell?_setCell_same w' ⟨w.heap.size, 0, none⟩ (.int .i64 q) hc
    have hsz := HJ.lt
    have HC := Lib.hid hc
    clear hd0 hq0
    have hdl := HJ.len
    have hdL := digR_len n.natAbs
    have hdM := digs_len_19 (n := n.natAbs) (by omega)
    rw [← hdL] at hdM
    clear hdL
    by_cases hz : q = 0
    · have hqz : (q == 0) = true := by simpa using hz
      have HZ := Lib.hid hz
      clear hz
      go_wp2_with (first | (go_at_call 17; refine (last_at m q d _ _ hlo hhi hc hf hd hq).mono ?_; rintro e w2 ⟨rfl, rfl⟩) | (at_builtin; refine wpList_append_own _ rfl _ _ 33 rfl (w.heap.size + 1) 5 i0 (.int .u8 0) 1 1 Try.underlying33 hi hz0 hz1 hz2 rfl (by decide) _ _ _ rfl (hown3.alloc _) ⟨w'.heap.size, 0, none⟩ 1 1 [.int .u8 (48 + (d : Int))] rfl rfl ?c1 ?c2 ?c3 ?c4 ?c5 ?_))
      case c1 => exact new_one (by simp)
      case c2 => intro u hu; simp at hu; subst hu; rfl
      case c3 => unfold maxLen; omega
      case c4 => omega
      case c5 => simp; omega
      intro v' w1 hown' hgrow _
      have R := HJ.step hd hq hown' hgrow
      have HO1 := R.2.2.2.2 HZ.out
      have HB1 := R.2.2.1
      have hcc := R.1
      clear hown' hgrow hown hown3 R HJ hc hf hc2
      by_cases hneg : n < 0
      · have hs1 := HB1.size
        have hdl1 := digR_pos n.natAbs
        have hng : decide (n < 0) = true := decide_eq_true hneg
        go_wp2_with (at_builtin; refine wpList_append_own _ rfl _ _ 33 rfl (w.heap.size + 1) 5 i0 (.int .u8 0) 1 1 Try.underlying33 hi hz0 hz1 hz2 rfl (by decide) _ _ _ rfl (HO1.alloc _) ⟨w1.heap.size, 0, none⟩ 1 1 [.int .u8 45] rfl rfl ?d1 ?d2 ?d3 ?d4 ?d5 ?_)
        case d1 => exact new_one (by simp)
        case d2 => intro u hu; simp at hu; subst hu; rfl
        case d3 => unfold maxLen; omega
        case d4 => omega
        case d5 => simp; exact hs1
        intro v2 w3 hown3 hgrow3 _
        have HO : w3.ownsRow (w.heap.size + 1) 5 1 v2 (outL n).length (u8s (outL n)) := by
          rw [outL_neg hneg]
          have e : u8s (digR n.natAbs) ++ [Value.int .u8 45] = u8s (digR n.natAbs ++ [45]) := by unfold u8s; rw [List.map_append]; rfl
          have e2 : (digR n.natAbs).length + 1 = (digR n.natAbs ++ [45]).length := by simp
          rw [e, e2] at hown3
          exact hown3
        have HB : Below w.heap.size w w3 := Below.grown (HB1.alloc hs1 _) hgrow3 (by simp; omega) (fun k hk => by have := HO1.lt k hk; omega)
        clear hown3 hgrow3 HO1 HB1 hs1
        obtain ⟨g, cap, hv⟩ := own_slice HO (by have := outL_len h1 h2; omega)
        rw [hv] at HO
        rw [hv]
        clear hv
        have hL := outL_len h1 h2
        go_wp2
        go_loopw [6, 7] (fun i k wr => ∃ j k' : Nat, i = .int .i64 j ∧ k = .int .i64 k' ∧ Hid (j + k' + 1 = (outL n).length) ∧ j ≤ 20 ∧ k' ≤ 20 ∧ wr.ownsRow (w.heap.size + 1) 5 1 (.slice (some ⟨g, 0, none⟩) (outL n).length cap) (outL n).length (u8s (revP (outL n) j)) ∧ Below w.heap.size w wr) (fun _ k _ => (intOf k).toNat)
        case atStart => exact ⟨0, (outL n).length - 1, rfl, by go_num, by show _ = _; omega, by omega, by omega, by rw [revP_zero]; exact HO, HB⟩
        case round =>
          obtain ⟨j, k', rfl, rfl, hjk, hj20, hk20, HR, HB2⟩ := hrel
          by_cases hlt : j < k'
          · have hx := HR.cellAt j (by have := hjk.out; omega)
            have hy := HR.cellAt k' (by have := hjk.out; omega)
            rw [u8s_at _ j (by rw [revP_len]; have := hjk.out; omega)] at hx
            rw [u8s_at _ k' (by rw [revP_len]; have := hjk.out; omega)] at hy
            obtain ⟨x, hxx⟩ : ∃ x, x = (revP (outL n) j).getD j 0 := ⟨_, rfl⟩
            obtain ⟨y, hyy⟩ : ∃ y, y = (revP (outL n) j).getD k' 0 := ⟨_, rfl⟩
            rw [← hxx] at hx
            rw [← hyy] at hy
            have HXX := Lib.hid hxx
            have HYY := Lib.hid hyy
            clear hxx hyy
            have fx := HR.frozenAt j
            have fy := HR.frozenAt k'
            have hjL : (j : Int) < ((outL n).length : Int) := by have := hjk.out; omega
            have hkL : (k' : Int) < ((outL n).length : Int) := by have := hjk.out; omega
            obtain ⟨v9, hy9⟩ := cell?_setCell_some (w := wr.drew) (p := ⟨g, j, none⟩) (x := .int .u8 y.toNat) (q := ⟨g, k', none⟩) (v := .int .u8 y.toNat) hy
            go_wp2
            go_region
            go_wp2
            have R2 := rev_round HR HB2 (x := x) (y := y) (j := j) (k := k')
            rw [HXX.out, HYY.out, revP_step _ j k' hjk.out hlt] at R2
            rw [HXX.out, HYY.out]
            go_roundw
            case rel => exact ⟨j + 1, k' - 1, by go_num, by go_num, by show _ = _; have := hjk.out; omega, by have := hjk.out; omega, by omega, R2.1.drew, R2.2.drew⟩
            case measure => simp [intOf]; omega
          · have hr := revP_end (outL n) j k' hjk.out hlt
            rw [hr, outL_rev, show (outL n).length = (showL n).length by rw [← outL_rev]; simp] at HR
            have hcv := run_convert_owned (P := Try.prog) 33 9 Try.underlying33 Try.underlying5 Try.underlying9 HR
            rw [← show (outL n).length = (showL n).length by rw [← outL_rev]; simp] at hcv
            clear hr HR
            go_wp2
            simp only [Exit.jump]
            go_ret
            exact ⟨rfl, HB2⟩
      · have HO : w1.ownsRow (w.heap.size + 1) 5 1 v' (outL n).length (u8s (outL n)) := by rw [outL_pos hneg]; exact HO1
        have HB := HB1
        clear HO1 HB1
        obtain ⟨g, cap, hv⟩ := own_slice HO (by have := outL_len h1 h2; omega)
        rw [hv] at HO
        rw [hv]
        clear hv
        have hL := outL_len h1 h2
        go_wp2
        go_loopw [6, 7] (fun i k wr => ∃ j k' : Nat, i = .int .i64 j ∧ k = .int .i64 k' ∧ Hid (j + k' + 1 = (outL n).length) ∧ j ≤ 20 ∧ k' ≤ 20 ∧ wr.ownsRow (w.heap.size + 1) 5 1 (.slice (some ⟨g, 0, none⟩) (outL n).length cap) (outL n).length (u8s (revP (outL n) j)) ∧ Below w.heap.size w wr) (fun _ k _ => (intOf k).toNat)
        case atStart => exact ⟨0, (outL n).length - 1, rfl, by go_num, by show _ = _; omega, by omega, by omega, by rw [revP_zero]; exact HO, HB⟩
        case round =>
          obtain ⟨j, k', rfl, rfl, hjk, hj20, hk20, HR, HB2⟩ := hrel
          by_cases hlt : j < k'
          · have hx := HR.cellAt j (by have := hjk.out; omega)
            have hy := HR.cellAt k' (by have := hjk.out; omega)
            rw [u8s_at _ j (by rw [revP_len]; have := hjk.out; omega)] at hx
            rw [u8s_at _ k' (by rw [revP_len]; have := hjk.out; omega)] at hy
            obtain ⟨x, hxx⟩ : ∃ x, x = (revP (outL n) j).getD j 0 := ⟨_, rfl⟩
            obtain ⟨y, hyy⟩ : ∃ y, y = (revP (outL n) j).getD k' 0 := ⟨_, rfl⟩
            rw [← hxx] at hx
            rw [← hyy] at hy
            have HXX := Lib.hid hxx
            have HYY := Lib.hid hyy
            clear hxx hyy
            have fx := HR.frozenAt j
            have fy := HR.frozenAt k'
            have hjL : (j : Int) < ((outL n).length : Int) := by have := hjk.out; omega
            have hkL : (k' : Int) < ((outL n).length : Int) := by have := hjk.out; omega
            obtain ⟨v9, hy9⟩ := cell?_setCell_some (w := wr.drew) (p := ⟨g, j, none⟩) (x := .int .u8 y.toNat) (q := ⟨g, k', none⟩) (v := .int .u8 y.toNat) hy
            go_wp2
            go_region
            go_wp2
            have R2 := rev_round HR HB2 (x := x) (y := y) (j := j) (k := k')
            rw [HXX.out, HYY.out, revP_step _ j k' hjk.out hlt] at R2
            rw [HXX.out, HYY.out]
            go_roundw
            case rel => exact ⟨j + 1, k' - 1, by go_num, by go_num, by show _ = _; have := hjk.out; omega, by have := hjk.out; omega, by omega, R2.1.drew, R2.2.drew⟩
            case measure => simp [intOf]; omega
          · have hr := revP_end (outL n) j k' hjk.out hlt
            rw [hr, outL_rev, show (outL n).length = (showL n).length by rw [← outL_rev]; simp] at HR
            have hcv := run_convert_owned (P := Try.prog) 33 9 Try.underlying33 Try.underlying5 Try.underlying9 HR
            rw [← show (outL n).length = (showL n).length by rw [← outL_rev]; simp] at hcv
            clear hr HR
            go_wp2
            simp only [Exit.jump]
            go_ret
            exact ⟨rfl, HB2⟩
    · have hqz : (q == 0) = false := by simpa using hz
      go_wp2_with (first | (go_at_call 17; refine (last_at m q d _ _ hlo hhi hc hf hd hq).mono ?_; rintro e w2 ⟨rfl, rfl⟩) | (at_builtin; refine wpList_append_own _ rfl _ _ 33 rfl (w.heap.size + 1) 5 i0 (.int .u8 0) 1 1 Try.underlying33 hi hz0 hz1 hz2 rfl (by decide) _ _ _ rfl (hown3.alloc _) ⟨w'.heap.size, 0, none⟩ 1 1 [.int .u8 (48 + (d : Int))] rfl rfl ?c1 ?c2 ?c3 ?c4 ?c5 ?_))
      case c1 => exact new_one (by simp)
      case c2 => intro u hu; simp at hu; subst hu; rfl
      case c3 => unfold maxLen; omega
      case c4 => omega
      case c5 => simp; omega
      intro v' w1 hown' hgrow _
      have R := HJ.step hd hq hown' hgrow
      have hcc := R.1
      have R2 := R.2.2.2.1 hz
      clear hown' hgrow hown hown3 R HJ hc hf hc2
      go_wp2
      go_step3
      exact ⟨rfl, ⟨_, q, ds ++ [dig d], _, _, _, _, _, _, _, _, _, _, _, _, _, _, _, _, _, _, _, _, _, _, _, _, _, _, _, _, _, _, _, _, _, _, _, _, _, _, _, rfl, R2⟩, by simp [hcc, HC.out, intOf]; have := tdiv_abs m; have := hq.out; omega⟩
end Go.Proofs.Ytnfefjjpifokpaa
