/- The walks of layer 3's Ready and of the document's answers: for every text of at most 20000 bytes. -/
import Derived.Test.YtnfnbobioclniaaWalksG
import Derived.Lib.OthersKept
import Derived.Laws.Cover4
import Derived.Laws.IdiomStrings
namespace Go.Proofs.Ytnfnbobioclniaa
open Go.RowKit

abbrev digB : ByteArray := ⟨#[48, 49, 50, 51, 52, 53, 54, 55, 56, 57, 65, 66, 67, 68, 69, 70]⟩

def readyL (set : Int) (l : List UInt8) : Bool := l.all fun c => !inS set c
theorem readyL_app (set : Int) (a b : List UInt8) : readyL set (a ++ b) = (readyL set a && readyL set b) := by unfold readyL; rw [List.all_append]
theorem readyL_cons (set : Int) (a : UInt8) (b : List UInt8) : readyL set (a :: b) = (!inS set a && readyL set b) := by unfold readyL; rw [List.all_cons]

theorem ready_enc (s : ByteArray) (set : Int) (w : World) (hs : s.size ≤ 20000) (b : Bool) (hb : (encL set s.data.toList == s.toList) = b) :
    Calls Try.prog 18 #[.string s, .int .i64 set] w fun e w' => e = .returned (.bool b) ∧ Below w.heap.size w w' := by
  go_enter Try.func18, Try.ntmps18
  go_wp2_with fail
  refine (encode_any s set _ hs).mono ?_
  rintro e w1 ⟨rfl, b1⟩
  go_wp2
  go_ret
  exact ⟨by rw [← hb]; rfl, b1⟩

set_option maxRecDepth 100000 in
theorem refready_any (s : ByteArray) (set : Int) (w : World) (hs : s.size ≤ 20000) :
    Calls Try.prog 12 #[.string s, .int .i64 set] w fun e w' => e = .returned (.bool (readyL set s.data.toList)) ∧ w = w' := by
  go_enter Try.func12, Try.ntmps12
  go_wp2
  go_loop [5] (fun i => ∃ k : Nat, k ≤ s.size ∧ i = .int .i64 k ∧ Hid (readyL set (s.data.toList.take k) = true)) (fun i => s.size - (intOf i).toNat)
  case atStart => exact ⟨0, Nat.zero_le _, rfl, rfl⟩
  case round =>
    obtain ⟨k, hk, rfl, hc⟩ := hrel
    by_cases hp : k < s.size
    · have HT := Lib.hid (take_snoc s k hp)
      cases hi : inS set (s[k]'hp) with
      | true =>
        have HR : Hid (readyL set s.data.toList = false) := by
          show _ = _
          have e : s.data.toList = s.data.toList.take k ++ s[k] :: s.data.toList.drop (k + 1) := by
            rw [← List.singleton_append, ← List.append_assoc, ← take_snoc s k hp, List.take_append_drop]
          rw [e, readyL_app, readyL_cons, hi]; simp
        go_wp2_with fail
        refine (refin_any set (s[k]'hp) _).mono ?_
        rintro e w' ⟨rfl, rfl⟩
        rw [hi]
        go_wp2
        go_ret
        exact ⟨ret_bool (by rw [HR.out]), rfl⟩
      | false =>
        have HR : Hid (readyL set (s.data.toList.take (k + 1)) = true) := by
          show _ = _
          rw [HT.out, readyL_app, hc.out]; simp [readyL, hi]
        go_wp2_with fail
        refine (refin_any set (s[k]'hp) _).mono ?_
        rintro e w' ⟨rfl, rfl⟩
        rw [hi]
        go_wp2
        go_round
        case rel => exact ⟨k + 1, by omega, by go_num, HR⟩
        case measure => simp [intOf]; omega
    · have HE := Lib.hid (all_take_end s k hp)
      go_wp2
      go_ret
      have h := hc.out
      rw [HE.out] at h
      exact ⟨ret_bool (by rw [h]), rfl⟩

/-- 'string(b)' of a slice that the call owns. -/
theorem run_convert_owned {P : Program} {w : World} {base : Nat} {e : TypeId} {v : Value} {l : List UInt8} (src dst : TypeId) (hs : P.underlying src = some (.slice e)) (he : P.underlying e = some (.int .u8)) (hd : P.underlying dst = some .string)
    (h : w.ownsRow base e 1 v l.length (u8s l)) : (convert src dst v).run P w = .ok (.string ⟨l.toArray⟩) w := by
  rcases h.2 with ⟨rfl, h0⟩ | ⟨g, cap, cur, rfl, r⟩
  · have : l = [] := List.length_eq_zero_iff.1 h0
    subst this
    rw [run_convert_bytes_string w src dst e none _ _ hs he hd]
    simp [Conv.bytesToString]
    rfl
  · refine run_convert_bytes_back w src dst e ⟨g, 0, none⟩ cap l hs he hd fun j hj => ?_
    exact h.cells (g := g) rfl j _ (by simp [u8s, hj])


/-- Where the document's encoding stands. -/
def EncR (s : ByteArray) (set : Int) (B : Nat) (w wr : World) (v : Value) (k : Nat) : Prop :=
  wr.ownsRow B 5 1 v (encL set (s.data.toList.take k)).length (u8s (encL set (s.data.toList.take k))) ∧ Below B w wr
theorem encL_snoc (set : Int) (s : ByteArray) (k : Nat) (hp : k < s.size) : encL set (s.data.toList.take (k + 1)) = encL set (s.data.toList.take k) ++ encC set (s[k]'hp) := by
  rw [take_snoc s k hp, encL_app]; congr 1; unfold encL; rw [List.flatMap_singleton]
theorem encR_step {s : ByteArray} {set : Int} {B : Nat} {w wr w1 : World} {v v' : Value} {k n : Nat} {xs : List Value} {o : Obj} (hp : k < s.size) (hB : B ≤ wr.heap.size) (h : EncR s set B w wr v k)
    (hown' : w1.ownsRow B 5 1 v' n (u8s (encL set (s.data.toList.take k)) ++ xs)) (hxs : xs = u8s (encC set (s[k]'hp)))
    (hgrow : ((wr.alloc o)).grownBy w1 v.ownBlock) : EncR s set B w w1 v' (k + 1) := by
  have h1 := hown'.1
  have e : u8s (encL set (s.data.toList.take k)) ++ xs = u8s (encL set (s.data.toList.take (k + 1))) := by
    rw [encL_snoc set s k hp, hxs]; unfold u8s; rw [List.map_append]
  rw [e] at hown' h1
  unfold EncR
  have hn : n = (encL set (s.data.toList.take (k + 1))).length := by
    have := h1
    unfold u8s at this
    rw [List.length_map] at this
    omega
  subst hn
  exact ⟨hown', (h.2.alloc hB o).grown hgrow (by simp; omega) (fun j hj => (h.1.lt j hj).1)⟩

set_option maxRecDepth 100000 in
set_option maxHeartbeats 1000000 in
theorem refenc_any (s : ByteArray) (set : Int) (w : World) (hs : s.size ≤ 20000) :
    Calls Try.prog 15 #[.string s, .int .i64 set] w fun e w' => e = .returned (.string ⟨(encL set s.data.toList).toArray⟩) ∧ Below w.heap.size w w' := by
  obtain ⟨i0, hi0, hz0, hz1, hz2⟩ := info_parts Try.info5
  go_enter Try.func15, Try.ntmps15
  go_wp2
  go_loopw [6, 7] (fun v i wr => ∃ k : Nat, k ≤ s.size ∧ i = .int .i64 k ∧ EncR s set w.heap.size w wr v k) (fun _ i _ => s.size - (intOf i).toNat)
  case atStart => exact ⟨0, Nat.zero_le _, rfl, World.ownsRow_nil _ _ _ _, Below.refl _ _⟩
  case round =>
    obtain ⟨k, hk, rfl, HR⟩ := hrel
    by_cases hp : k < s.size
    · have hown := HR.1
      have hxl := (encL_len set (s.data.toList.take k)).2
      have hsz := HR.2.size
      rw [List.length_take, size_len] at hxl
      cases hi : inS set (s[k]'hp) with
      | false =>
        have hxs : [Value.int .u8 (s[k]'hp).toNat] = u8s (encC set (s[k]'hp)) := by unfold encC; rw [hi]; rfl
        have HXS := Lib.hid hxs
        clear hxs
        go_wp2_with fail
        refine (refin_any set (s[k]'hp) _).mono ?_
        rintro e w' ⟨rfl, rfl⟩
        rw [hi]
        go_wp2_with ((at_builtin; refine wpList_append_own _ rfl _ _ 30 rfl w.heap.size 5 i0 (.int .u8 0) 1 1 Try.underlying30 hi0 hz0 hz1 hz2 rfl (by decide) _ _ _ rfl (hown.alloc _) ⟨wr.heap.size, 0, none⟩ 1 1 [.int .u8 (s[k]'hp).toNat] rfl rfl ?c1 ?c2 ?c3 ?c4 ?c5 ?_))
        case c1 =>
          intro j u hj
          match j, hj with
          | 0, hj => simp at hj; subst hj; simp [Addr.add]
        case c2 => intro u hu; simp at hu; subst hu; rfl
        case c3 => unfold maxLen; omega
        case c4 => omega
        case c5 => simp; omega
        intro v' w1 hown' hgrow _
        have R := encR_step hp (by omega) HR hown' HXS.out hgrow
        clear hown' hgrow hown HR
        go_wp2
        go_roundw
        case rel => exact ⟨k + 1, by omega, by go_num, R⟩
        case measure => simp [intOf]; omega
      | true =>
        have hub := (s[k]'hp).toNat_lt
        obtain ⟨a, ha⟩ : ∃ a, a = (s[k]'hp).toNat / 16 := ⟨_, rfl⟩
        obtain ⟨b, hb⟩ : ∃ b, b = (s[k]'hp).toNat % 16 := ⟨_, rfl⟩
        have q1 : ((s[k]'hp).toNat : Int).tdiv 16 = (a : Int) := by rw [Int.tdiv_eq_ediv_of_nonneg (by omega)]; omega
        have q2 : ((s[k]'hp).toNat : Int).tmod 16 = (b : Int) := by rw [Int.tmod_eq_emod_of_nonneg (by omega)]; omega
        have q3 : IntKind.u8.wrap (a : Int) = (a : Int) := wrap_u8 (by omega) (by omega)
        have q4 : IntKind.u8.wrap (b : Int) = (b : Int) := wrap_u8 (by omega) (by omega)
        have a1 : (0 : Int) ≤ a := by omega
        have b1 : (0 : Int) ≤ b := by omega
        have a2 : (a : Int) < 16 := by omega
        have b2' : (b : Int) < 16 := by omega
        have ha3 : a < digB.size := by show a < 16; omega
        have hb3 : b < digB.size := by show b < 16; omega
        have hxs : [Value.int .u8 37, .int .u8 (hd a).toNat, .int .u8 (hd b).toNat] = u8s (encC set (s[k]'hp)) := by unfold encC; rw [hi, ha, hb]; rfl
        have HXS := Lib.hid hxs
        clear hxs ha hb
        go_wp2_with fail
        refine (refin_any set (s[k]'hp) _).mono ?_
        rintro e w' ⟨rfl, rfl⟩
        rw [hi]
        go_wp2
        go_region_held3 (fun _ => True) (trivial) ((refine step_append_lies _ (by rfl) _ _ _ (by rfl) w.heap.size 5 i0 _ 1 1 Try.underlying30 hi0 hz0 hz1 hz2 rfl (by omega) u6 (encL set (s.data.toList.take k)).length (u8s (encL set (s.data.toList.take k))) (by rfl) ((hown.alloc _).drew) ⟨wr.heap.size, 0, none⟩ 3 3 [.int .u8 37, .int .u8 (digB[a]'ha3).toNat, .int .u8 (digB[b]'hb3).toNat] (by rfl) (by rfl) (World.news_of_block (cs := #[.int .u8 37, .int .u8 (digB[a]'ha3).toNat, .int .u8 (digB[b]'hb3).toNat]) (t := 5) (fr := (0, 0)) (heap_alloc_new wr _)) (by simp [Value.oneCell']) (by omega) (by unfold maxLen; omega) (by omega) (by simp; omega) (wr.heap.size + 1) (by simp) ?_; intro gg cap w1 hown1 hgrow hat hlt))
        all_goals
          have R := encR_step hp (by omega) HR hown1 (by rw [dig_at a ha3, dig_at b hb3]; exact HXS.out) ⟨hgrow.os, hgrow.tape, hgrow.output, hgrow.size, hgrow.block⟩
          clear hown1 hgrow hown HR hat
          go_wp2
          go_roundw
          case rel => exact ⟨k + 1, by omega, by go_num, R⟩
          case measure => simp [intOf]; omega
    · have hcv := run_convert_owned (P := Try.prog) 30 9 Try.underlying30 Try.underlying5 Try.underlying9 HR.1
      have ht := Lib.hid (all_take_end s k hp)
      go_wp2
      go_ret
      exact ⟨by rw [ht.out]; rfl, HR.2⟩
end Go.Proofs.Ytnfnbobioclniaa
