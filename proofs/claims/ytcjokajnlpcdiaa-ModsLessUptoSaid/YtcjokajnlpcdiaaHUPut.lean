import Derived.Test.YtcjokajnlpcdiaaHSizes
import Derived.BigRegion
import Derived.Outline
/- utf.Put: by how many bytes a code point takes. -/
namespace Go.Proofs.Ytcjokajnlpcdiaa.H
open Go.RowKit Go.Proofs.YtcjokajnlpcdiaaW.PrintWords Go.Proofs.YtcjokajnlpcdiaaW.PrintLast Go.Proofs.YtcjokajnlpcdiaaW.PrintMore
set_option linter.unusedVariables false
set_option linter.unusedSimpArgs false

theorem two_new (w : World) (a b : Obj) : ((w.alloc a).alloc b).heap[w.heap.size + 1]? = some b := by
  have e : (w.alloc a).heap.size = w.heap.size + 1 := Array.size_push _
  rw [← e]
  exact Array.getElem?_push_size
set_option maxHeartbeats 2000000 in
theorem uput_none (r : Int) (w : World) (hr : isB r = false) :
    Calls Try.prog 30 #[.int .i64 r] w fun e w' => e = .returned (.slice none 0 0) ∧ Below w.heap.size w w' := by
  have HB := Aside0.mk (Below.refl w.heap.size w)
  have HR := Aside0.mk hr
  clear hr
  go_enter Try.func30, Try.ntmps30
  go_wp2_with (go_at_call 40; (with_reducible refine (is_c _ _).mono ?_); rintro e w1 ⟨rfl, hb⟩; rw [HR.out]; clear HB; have HB := Aside0.mk hb; clear hb)
  go_ret
  exact ⟨rfl, HB.out⟩
/-- A byte behind the first one. -/
def cb (r : Int) : Int := Go.bits .or .u8 128 (IntKind.u8.wrap (Go.bits .and .i64 r 63))
theorem mk1 (W : World) : (Instr.makeSlice 39 (.int .i64 1) (.int .i64 1)).run Try.prog W = .ok (.slice (some ⟨W.heap.size, 0, none⟩) 1 1) (W.alloc (.cells #[.int .u8 0] 5 (0, 0))) := by kernel_rfl
theorem mk2 (W : World) : (Instr.makeSlice 39 (.int .i64 2) (.int .i64 2)).run Try.prog W = .ok (.slice (some ⟨W.heap.size, 0, none⟩) 2 2) (W.alloc (.cells #[.int .u8 0, .int .u8 0] 5 (0, 0))) := by kernel_rfl
theorem mk3 (W : World) : (Instr.makeSlice 39 (.int .i64 3) (.int .i64 3)).run Try.prog W = .ok (.slice (some ⟨W.heap.size, 0, none⟩) 3 3) (W.alloc (.cells #[.int .u8 0, .int .u8 0, .int .u8 0] 5 (0, 0))) := by kernel_rfl
theorem mk4 (W : World) : (Instr.makeSlice 39 (.int .i64 4) (.int .i64 4)).run Try.prog W = .ok (.slice (some ⟨W.heap.size, 0, none⟩) 4 4) (W.alloc (.cells #[.int .u8 0, .int .u8 0, .int .u8 0, .int .u8 0] 5 (0, 0))) := by kernel_rfl

set_option maxHeartbeats 4000000 in
theorem uput_1 (r : Int) (w : World) (h0 : 0 ≤ r) (h1 : r ≤ 127) (hs : r < 55296 ∨ 57343 < r) :
    Calls Try.prog 30 #[.int .i64 r] w fun e w' => ∃ g : Nat, w.heap.size ≤ g ∧ e = .returned (.slice (some ⟨g, 0, none⟩) 1 1) ∧ w'.heap[g]? = some (.cells #[.int .u8 (Go.bits .or .u8 0 r)] 5 (0, 0)) ∧ Below w.heap.size w w' := by
  have HB := Aside0.mk (Below.refl w.heap.size w)
  have HR := Aside0.mk (show isB r = true from decide_eq_true (by omega))
  have jx0 := ix0
  have jx1 := ix1
  have jx2 := ix2
  have jx3 := ix3
  have jmk := mk1
  go_enter Try.func30, Try.ntmps30
  go_wp2_with (first | (go_at_call 40; (with_reducible refine (is_c _ _).mono ?_); rintro e w1 ⟨rfl, hb⟩; rw [HR.out]; clear HB; have HB := Aside0.mk hb; clear hb) | (go_at_call 41; (with_reducible refine (sizes_c _).mono ?_); rintro e w2 ⟨rfl, hb⟩; have HB' := Aside0.mk (below_step HB.out hb); clear HB; have HB := HB'; clear HB' hb))
  go_loopw [0, 11] (fun v0 v11 wr => ∃ i : Nat, v0 = .int .i64 r ∧ v11 = .int .i64 i ∧ i < 1 ∧ Aside0 (Below w.heap.size w wr)) (fun v0 v11 _ => 1 - (intOf v11).toNat)
  case atStart => exact ⟨0, rfl, rfl, by omega, HB⟩
  case round =>
    clear HB
    obtain ⟨i, rfl, rfl, hi, HB⟩ := hrel
    have hcase : i = 0 := by omega
    rcases hcase with rfl
    · go_wp2
      have B4 : ((wr.alloc (.cells #[.int .i64 1, .int .i64 127, .int .u8 0, .int .u8 127] 59 (0, 0))).alloc (.cells #[.int .u8 0] 5 (0, 0))).heap[wr.heap.size]? = some (.cells #[.int .i64 1, .int .i64 127, .int .u8 0, .int .u8 127] 59 (0, 0)) := blk_alloc (show (wr.heap.push _)[wr.heap.size]? = _ from Array.getElem?_push_size) _
      have B5 : ((wr.alloc (.cells #[.int .i64 1, .int .i64 127, .int .u8 0, .int .u8 127] 59 (0, 0))).alloc (.cells #[.int .u8 0] 5 (0, 0))).heap[wr.heap.size + 1]? = some (.cells #[.int .u8 0] 5 (0, 0)) := two_new _ _ _
      have HB0 := below_alloc (below_alloc HB.out (.cells #[.int .i64 1, .int .i64 127, .int .u8 0, .int .u8 127] 59 (0, 0))) (.cells #[.int .u8 0] 5 (0, 0))
      have G4 : w.heap.size ≤ wr.heap.size := HB.out.size
      have G5 : w.heap.size ≤ wr.heap.size + 1 := Nat.le_succ_of_le HB.out.size
      have N45 : wr.heap.size ≠ wr.heap.size + 1 := Nat.ne_of_lt (Nat.lt_succ_self _)
      generalize ((wr.alloc (.cells #[.int .i64 1, .int .i64 127, .int .u8 0, .int .u8 127] 59 (0, 0))).alloc (.cells #[.int .u8 0] 5 (0, 0))) = W0 at B4 B5 HB0 ⊢
      generalize wr.heap.size + 1 = g5 at B5 G5 N45 ⊢
      generalize wr.heap.size = g4 at B4 G4 N45 ⊢
      have G4' := Aside0.mk G4
      have G5' := Aside0.mk G5
      have N45' := Aside0.mk N45
      clear G4 G5 N45 HB
      go_loopw [0, 6] (fun v0 v6 w' => ∃ (j : Nat) (x : Int) (cs : Array Value), v0 = .int .i64 x ∧ v6 = .int .i64 j ∧ Aside0 ((j = 0 ∧ r = x ∧ cs = #[.int .u8 0])) ∧ Aside0 (w'.heap[g4]? = some (.cells #[.int .i64 1, .int .i64 127, .int .u8 0, .int .u8 127] 59 (0, 0))) ∧ Aside0 (w'.heap[g5]? = some (.cells cs 5 (0, 0))) ∧ Aside0 (Below w.heap.size w w')) (fun v0 v6 _ => (intOf v6).toNat)
      case atStart => exact ⟨0, r, #[.int .u8 0], rfl, rfl, ⟨by simp⟩, ⟨B4⟩, ⟨B5⟩, ⟨HB0⟩⟩
      case round =>
        clear B4 B5 HB0
        obtain ⟨j, x, cs, rfl, rfl, hj, B4, B5, HB⟩ := hrel
        have hcz0 := (blk_cell B4.out 0).trans rfl
        have hcz1 := (blk_cell B4.out 1).trans rfl
        have hcz2 := (blk_cell B4.out 2).trans rfl
        have hcz3 := (blk_cell B4.out 3).trans rfl
        have hlt4 := blk_lt B4.out
        have hlt5 := blk_lt B5.out
        have hn1 := N45'.out
        have hn2 := N45'.out.symm
        rcases hj.out with ⟨rfl, rfl, rfl⟩
        · have hcy := (blk_cell B5.out 0).trans rfl
          have hfy := blk_frozen B5.out 0
          go_wp2
          go_ret
          exact ⟨g5, G5'.out, rfl, blk_put B5.out 0 _ rfl, below_set HB.out G5'.out⟩

set_option maxHeartbeats 4000000 in
theorem uput_2 (r : Int) (w : World) (h0 : 128 ≤ r) (h1 : r ≤ 2047) (hs : r < 55296 ∨ 57343 < r) :
    Calls Try.prog 30 #[.int .i64 r] w fun e w' => ∃ g : Nat, w.heap.size ≤ g ∧ e = .returned (.slice (some ⟨g, 0, none⟩) 2 2) ∧ w'.heap[g]? = some (.cells #[.int .u8 (192 + (r / 64)), .int .u8 (cb r)] 5 (0, 0)) ∧ Below w.heap.size w w' := by
  have HB := Aside0.mk (Below.refl w.heap.size w)
  have HR := Aside0.mk (show isB r = true from decide_eq_true (by omega))
  have jx0 := ix0
  have jx1 := ix1
  have jx2 := ix2
  have jx3 := ix3
  have jmk := mk2
  go_enter Try.func30, Try.ntmps30
  go_wp2_with (first | (go_at_call 40; (with_reducible refine (is_c _ _).mono ?_); rintro e w1 ⟨rfl, hb⟩; rw [HR.out]; clear HB; have HB := Aside0.mk hb; clear hb) | (go_at_call 41; (with_reducible refine (sizes_c _).mono ?_); rintro e w2 ⟨rfl, hb⟩; have HB' := Aside0.mk (below_step HB.out hb); clear HB; have HB := HB'; clear HB' hb))
  go_loopw [0, 11] (fun v0 v11 wr => ∃ i : Nat, v0 = .int .i64 r ∧ v11 = .int .i64 i ∧ i < 2 ∧ Aside0 (Below w.heap.size w wr)) (fun v0 v11 _ => 2 - (intOf v11).toNat)
  case atStart => exact ⟨0, rfl, rfl, by omega, HB⟩
  case round =>
    clear HB
    obtain ⟨i, rfl, rfl, hi, HB⟩ := hrel
    have hcase : i = 0 ∨ i = 1 := by omega
    rcases hcase with rfl | rfl
    · have hgt : 127 < r := by omega
      go_wp2
      exact ⟨⟨1, rfl, rfl, by omega, ⟨below_alloc HB.out _⟩⟩, by show 2 - (1 : Int).toNat < 2 - (0 : Int).toNat; decide⟩
    · go_wp2
      have B4 : ((wr.alloc (.cells #[.int .i64 2, .int .i64 2047, .int .u8 192, .int .u8 31] 59 (0, 0))).alloc (.cells #[.int .u8 0, .int .u8 0] 5 (0, 0))).heap[wr.heap.size]? = some (.cells #[.int .i64 2, .int .i64 2047, .int .u8 192, .int .u8 31] 59 (0, 0)) := blk_alloc (show (wr.heap.push _)[wr.heap.size]? = _ from Array.getElem?_push_size) _
      have B5 : ((wr.alloc (.cells #[.int .i64 2, .int .i64 2047, .int .u8 192, .int .u8 31] 59 (0, 0))).alloc (.cells #[.int .u8 0, .int .u8 0] 5 (0, 0))).heap[wr.heap.size + 1]? = some (.cells #[.int .u8 0, .int .u8 0] 5 (0, 0)) := two_new _ _ _
      have HB0 := below_alloc (below_alloc HB.out (.cells #[.int .i64 2, .int .i64 2047, .int .u8 192, .int .u8 31] 59 (0, 0))) (.cells #[.int .u8 0, .int .u8 0] 5 (0, 0))
      have G4 : w.heap.size ≤ wr.heap.size := HB.out.size
      have G5 : w.heap.size ≤ wr.heap.size + 1 := Nat.le_succ_of_le HB.out.size
      have N45 : wr.heap.size ≠ wr.heap.size + 1 := Nat.ne_of_lt (Nat.lt_succ_self _)
      generalize ((wr.alloc (.cells #[.int .i64 2, .int .i64 2047, .int .u8 192, .int .u8 31] 59 (0, 0))).alloc (.cells #[.int .u8 0, .int .u8 0] 5 (0, 0))) = W0 at B4 B5 HB0 ⊢
      generalize wr.heap.size + 1 = g5 at B5 G5 N45 ⊢
      generalize wr.heap.size = g4 at B4 G4 N45 ⊢
      have G4' := Aside0.mk G4
      have G5' := Aside0.mk G5
      have N45' := Aside0.mk N45
      clear G4 G5 N45 HB
      go_loopw [0, 6] (fun v0 v6 w' => ∃ (j : Nat) (x : Int) (cs : Array Value), v0 = .int .i64 x ∧ v6 = .int .i64 j ∧ Aside0 ((j = 1 ∧ r = x ∧ cs = #[.int .u8 0, .int .u8 0]) ∨ (j = 0 ∧ (r / 64) = x ∧ cs = #[.int .u8 0, .int .u8 (cb r)])) ∧ Aside0 (w'.heap[g4]? = some (.cells #[.int .i64 2, .int .i64 2047, .int .u8 192, .int .u8 31] 59 (0, 0))) ∧ Aside0 (w'.heap[g5]? = some (.cells cs 5 (0, 0))) ∧ Aside0 (Below w.heap.size w w')) (fun v0 v6 _ => (intOf v6).toNat)
      case atStart => exact ⟨1, r, #[.int .u8 0, .int .u8 0], rfl, rfl, ⟨by simp⟩, ⟨B4⟩, ⟨B5⟩, ⟨HB0⟩⟩
      case round =>
        clear B4 B5 HB0
        obtain ⟨j, x, cs, rfl, rfl, hj, B4, B5, HB⟩ := hrel
        have hcz0 := (blk_cell B4.out 0).trans rfl
        have hcz1 := (blk_cell B4.out 1).trans rfl
        have hcz2 := (blk_cell B4.out 2).trans rfl
        have hcz3 := (blk_cell B4.out 3).trans rfl
        have hlt4 := blk_lt B4.out
        have hlt5 := blk_lt B5.out
        have hn1 := N45'.out
        have hn2 := N45'.out.symm
        rcases hj.out with ⟨rfl, rfl, rfl⟩ | ⟨rfl, rfl, rfl⟩
        · have hcy := (blk_cell B5.out 1).trans rfl
          have hfy := blk_frozen B5.out 1
          go_wp2
          refine ⟨⟨0, (r / 64), #[.int .u8 0, .int .u8 (cb r)], rfl, rfl, ⟨by simp⟩, ⟨?_⟩, ⟨?_⟩, ⟨?_⟩⟩, by show (0 : Int).toNat < (1 : Int).toNat; decide⟩
          · exact blk_far B4.out N45'.out _
          · exact blk_put B5.out 1 _ rfl
          · exact below_set HB.out G5'.out
        · have hcy := (blk_cell B5.out 0).trans rfl
          have hfy := blk_frozen B5.out 0
          go_wp2
          go_ret
          exact ⟨g5, G5'.out, rfl, blk_put B5.out 0 _ rfl, below_set HB.out G5'.out⟩

set_option maxHeartbeats 4000000 in
theorem uput_3 (r : Int) (w : World) (h0 : 2048 ≤ r) (h1 : r ≤ 65535) (hs : r < 55296 ∨ 57343 < r) :
    Calls Try.prog 30 #[.int .i64 r] w fun e w' => ∃ g : Nat, w.heap.size ≤ g ∧ e = .returned (.slice (some ⟨g, 0, none⟩) 3 3) ∧ w'.heap[g]? = some (.cells #[.int .u8 (224 + ((r / 64) / 64)), .int .u8 (cb (r / 64)), .int .u8 (cb r)] 5 (0, 0)) ∧ Below w.heap.size w w' := by
  have HB := Aside0.mk (Below.refl w.heap.size w)
  have HR := Aside0.mk (show isB r = true from decide_eq_true (by omega))
  have jx0 := ix0
  have jx1 := ix1
  have jx2 := ix2
  have jx3 := ix3
  have jmk := mk3
  go_enter Try.func30, Try.ntmps30
  go_wp2_with (first | (go_at_call 40; (with_reducible refine (is_c _ _).mono ?_); rintro e w1 ⟨rfl, hb⟩; rw [HR.out]; clear HB; have HB := Aside0.mk hb; clear hb) | (go_at_call 41; (with_reducible refine (sizes_c _).mono ?_); rintro e w2 ⟨rfl, hb⟩; have HB' := Aside0.mk (below_step HB.out hb); clear HB; have HB := HB'; clear HB' hb))
  go_loopw [0, 11] (fun v0 v11 wr => ∃ i : Nat, v0 = .int .i64 r ∧ v11 = .int .i64 i ∧ i < 3 ∧ Aside0 (Below w.heap.size w wr)) (fun v0 v11 _ => 3 - (intOf v11).toNat)
  case atStart => exact ⟨0, rfl, rfl, by omega, HB⟩
  case round =>
    clear HB
    obtain ⟨i, rfl, rfl, hi, HB⟩ := hrel
    have hcase : i = 0 ∨ i = 1 ∨ i = 2 := by omega
    rcases hcase with rfl | rfl | rfl
    · have hgt : 127 < r := by omega
      go_wp2
      exact ⟨⟨1, rfl, rfl, by omega, ⟨below_alloc HB.out _⟩⟩, by show 3 - (1 : Int).toNat < 3 - (0 : Int).toNat; decide⟩
    · have hgt : 2047 < r := by omega
      go_wp2
      exact ⟨⟨2, rfl, rfl, by omega, ⟨below_alloc HB.out _⟩⟩, by show 3 - (2 : Int).toNat < 3 - (1 : Int).toNat; decide⟩
    · go_wp2
      have B4 : ((wr.alloc (.cells #[.int .i64 3, .int .i64 65535, .int .u8 224, .int .u8 15] 59 (0, 0))).alloc (.cells #[.int .u8 0, .int .u8 0, .int .u8 0] 5 (0, 0))).heap[wr.heap.size]? = some (.cells #[.int .i64 3, .int .i64 65535, .int .u8 224, .int .u8 15] 59 (0, 0)) := blk_alloc (show (wr.heap.push _)[wr.heap.size]? = _ from Array.getElem?_push_size) _
      have B5 : ((wr.alloc (.cells #[.int .i64 3, .int .i64 65535, .int .u8 224, .int .u8 15] 59 (0, 0))).alloc (.cells #[.int .u8 0, .int .u8 0, .int .u8 0] 5 (0, 0))).heap[wr.heap.size + 1]? = some (.cells #[.int .u8 0, .int .u8 0, .int .u8 0] 5 (0, 0)) := two_new _ _ _
      have HB0 := below_alloc (below_alloc HB.out (.cells #[.int .i64 3, .int .i64 65535, .int .u8 224, .int .u8 15] 59 (0, 0))) (.cells #[.int .u8 0, .int .u8 0, .int .u8 0] 5 (0, 0))
      have G4 : w.heap.size ≤ wr.heap.size := HB.out.size
      have G5 : w.heap.size ≤ wr.heap.size + 1 := Nat.le_succ_of_le HB.out.size
      have N45 : wr.heap.size ≠ wr.heap.size + 1 := Nat.ne_of_lt (Nat.lt_succ_self _)
      generalize ((wr.alloc (.cells #[.int .i64 3, .int .i64 65535, .int .u8 224, .int .u8 15] 59 (0, 0))).alloc (.cells #[.int .u8 0, .int .u8 0, .int .u8 0] 5 (0, 0))) = W0 at B4 B5 HB0 ⊢
      generalize wr.heap.size + 1 = g5 at B5 G5 N45 ⊢
      generalize wr.heap.size = g4 at B4 G4 N45 ⊢
      have G4' := Aside0.mk G4
      have G5' := Aside0.mk G5
      have N45' := Aside0.mk N45
      clear G4 G5 N45 HB
      go_loopw [0, 6] (fun v0 v6 w' => ∃ (j : Nat) (x : Int) (cs : Array Value), v0 = .int .i64 x ∧ v6 = .int .i64 j ∧ Aside0 ((j = 2 ∧ r = x ∧ cs = #[.int .u8 0, .int .u8 0, .int .u8 0]) ∨ (j = 1 ∧ (r / 64) = x ∧ cs = #[.int .u8 0, .int .u8 0, .int .u8 (cb r)]) ∨ (j = 0 ∧ ((r / 64) / 64) = x ∧ cs = #[.int .u8 0, .int .u8 (cb (r / 64)), .int .u8 (cb r)])) ∧ Aside0 (w'.heap[g4]? = some (.cells #[.int .i64 3, .int .i64 65535, .int .u8 224, .int .u8 15] 59 (0, 0))) ∧ Aside0 (w'.heap[g5]? = some (.cells cs 5 (0, 0))) ∧ Aside0 (Below w.heap.size w w')) (fun v0 v6 _ => (intOf v6).toNat)
      case atStart => exact ⟨2, r, #[.int .u8 0, .int .u8 0, .int .u8 0], rfl, rfl, ⟨by simp⟩, ⟨B4⟩, ⟨B5⟩, ⟨HB0⟩⟩
      case round =>
        clear B4 B5 HB0
        obtain ⟨j, x, cs, rfl, rfl, hj, B4, B5, HB⟩ := hrel
        have hcz0 := (blk_cell B4.out 0).trans rfl
        have hcz1 := (blk_cell B4.out 1).trans rfl
        have hcz2 := (blk_cell B4.out 2).trans rfl
        have hcz3 := (blk_cell B4.out 3).trans rfl
        have hlt4 := blk_lt B4.out
        have hlt5 := blk_lt B5.out
        have hn1 := N45'.out
        have hn2 := N45'.out.symm
        rcases hj.out with ⟨rfl, rfl, rfl⟩ | ⟨rfl, rfl, rfl⟩ | ⟨rfl, rfl, rfl⟩
        · have hcy := (blk_cell B5.out 2).trans rfl
          have hfy := blk_frozen B5.out 2
          go_wp2
          refine ⟨⟨1, (r / 64), #[.int .u8 0, .int .u8 0, .int .u8 (cb r)], rfl, rfl, ⟨by simp⟩, ⟨?_⟩, ⟨?_⟩, ⟨?_⟩⟩, by show (1 : Int).toNat < (2 : Int).toNat; decide⟩
          · exact blk_far B4.out N45'.out _
          · exact blk_put B5.out 2 _ rfl
          · exact below_set HB.out G5'.out
        · have hcy := (blk_cell B5.out 1).trans rfl
          have hfy := blk_frozen B5.out 1
          go_wp2
          refine ⟨⟨0, ((r / 64) / 64), #[.int .u8 0, .int .u8 (cb (r / 64)), .int .u8 (cb r)], rfl, rfl, ⟨by simp⟩, ⟨?_⟩, ⟨?_⟩, ⟨?_⟩⟩, by show (0 : Int).toNat < (1 : Int).toNat; decide⟩
          · exact blk_far B4.out N45'.out _
          · exact blk_put B5.out 1 _ rfl
          · exact below_set HB.out G5'.out
        · have hcy := (blk_cell B5.out 0).trans rfl
          have hfy := blk_frozen B5.out 0
          go_wp2
          go_ret
          exact ⟨g5, G5'.out, rfl, blk_put B5.out 0 _ rfl, below_set HB.out G5'.out⟩

set_option maxHeartbeats 4000000 in
theorem uput_4 (r : Int) (w : World) (h0 : 65536 ≤ r) (h1 : r ≤ 1114111) (hs : r < 55296 ∨ 57343 < r) :
    Calls Try.prog 30 #[.int .i64 r] w fun e w' => ∃ g : Nat, w.heap.size ≤ g ∧ e = .returned (.slice (some ⟨g, 0, none⟩) 4 4) ∧ w'.heap[g]? = some (.cells #[.int .u8 (240 + (((r / 64) / 64) / 64)), .int .u8 (cb ((r / 64) / 64)), .int .u8 (cb (r / 64)), .int .u8 (cb r)] 5 (0, 0)) ∧ Below w.heap.size w w' := by
  have HB := Aside0.mk (Below.refl w.heap.size w)
  have HR := Aside0.mk (show isB r = true from decide_eq_true (by omega))
  have jx0 := ix0
  have jx1 := ix1
  have jx2 := ix2
  have jx3 := ix3
  have jmk := mk4
  go_enter Try.func30, Try.ntmps30
  go_wp2_with (first | (go_at_call 40; (with_reducible refine (is_c _ _).mono ?_); rintro e w1 ⟨rfl, hb⟩; rw [HR.out]; clear HB; have HB := Aside0.mk hb; clear hb) | (go_at_call 41; (with_reducible refine (sizes_c _).mono ?_); rintro e w2 ⟨rfl, hb⟩; have HB' := Aside0.mk (below_step HB.out hb); clear HB; have HB := HB'; clear HB' hb))
  go_loopw [0, 11] (fun v0 v11 wr => ∃ i : Nat, v0 = .int .i64 r ∧ v11 = .int .i64 i ∧ i < 4 ∧ Aside0 (Below w.heap.size w wr)) (fun v0 v11 _ => 4 - (intOf v11).toNat)
  case atStart => exact ⟨0, rfl, rfl, by omega, HB⟩
  case round =>
    clear HB
    obtain ⟨i, rfl, rfl, hi, HB⟩ := hrel
    have hcase : i = 0 ∨ i = 1 ∨ i = 2 ∨ i = 3 := by omega
    rcases hcase with rfl | rfl | rfl | rfl
    · have hgt : 127 < r := by omega
      go_wp2
      exact ⟨⟨1, rfl, rfl, by omega, ⟨below_alloc HB.out _⟩⟩, by show 4 - (1 : Int).toNat < 4 - (0 : Int).toNat; decide⟩
    · have hgt : 2047 < r := by omega
      go_wp2
      exact ⟨⟨2, rfl, rfl, by omega, ⟨below_alloc HB.out _⟩⟩, by show 4 - (2 : Int).toNat < 4 - (1 : Int).toNat; decide⟩
    · have hgt : 65535 < r := by omega
      go_wp2
      exact ⟨⟨3, rfl, rfl, by omega, ⟨below_alloc HB.out _⟩⟩, by show 4 - (3 : Int).toNat < 4 - (2 : Int).toNat; decide⟩
    · go_wp2
      have B4 : ((wr.alloc (.cells #[.int .i64 4, .int .i64 1114111, .int .u8 240, .int .u8 7] 59 (0, 0))).alloc (.cells #[.int .u8 0, .int .u8 0, .int .u8 0, .int .u8 0] 5 (0, 0))).heap[wr.heap.size]? = some (.cells #[.int .i64 4, .int .i64 1114111, .int .u8 240, .int .u8 7] 59 (0, 0)) := blk_alloc (show (wr.heap.push _)[wr.heap.size]? = _ from Array.getElem?_push_size) _
      have B5 : ((wr.alloc (.cells #[.int .i64 4, .int .i64 1114111, .int .u8 240, .int .u8 7] 59 (0, 0))).alloc (.cells #[.int .u8 0, .int .u8 0, .int .u8 0, .int .u8 0] 5 (0, 0))).heap[wr.heap.size + 1]? = some (.cells #[.int .u8 0, .int .u8 0, .int .u8 0, .int .u8 0] 5 (0, 0)) := two_new _ _ _
      have HB0 := below_alloc (below_alloc HB.out (.cells #[.int .i64 4, .int .i64 1114111, .int .u8 240, .int .u8 7] 59 (0, 0))) (.cells #[.int .u8 0, .int .u8 0, .int .u8 0, .int .u8 0] 5 (0, 0))
      have G4 : w.heap.size ≤ wr.heap.size := HB.out.size
      have G5 : w.heap.size ≤ wr.heap.size + 1 := Nat.le_succ_of_le HB.out.size
      have N45 : wr.heap.size ≠ wr.heap.size + 1 := Nat.ne_of_lt (Nat.lt_succ_self _)
      generalize ((wr.alloc (.cells #[.int .i64 4, .int .i64 1114111, .int .u8 240, .int .u8 7] 59 (0, 0))).alloc (.cells #[.int .u8 0, .int .u8 0, .int .u8 0, .int .u8 0] 5 (0, 0))) = W0 at B4 B5 HB0 ⊢
      generalize wr.heap.size + 1 = g5 at B5 G5 N45 ⊢
      generalize wr.heap.size = g4 at B4 G4 N45 ⊢
      have G4' := Aside0.mk G4
      have G5' := Aside0.mk G5
      have N45' := Aside0.mk N45
      clear G4 G5 N45 HB
      go_loopw [0, 6] (fun v0 v6 w' => ∃ (j : Nat) (x : Int) (cs : Array Value), v0 = .int .i64 x ∧ v6 = .int .i64 j ∧ Aside0 ((j = 3 ∧ r = x ∧ cs = #[.int .u8 0, .int .u8 0, .int .u8 0, .int .u8 0]) ∨ (j = 2 ∧ (r / 64) = x ∧ cs = #[.int .u8 0, .int .u8 0, .int .u8 0, .int .u8 (cb r)]) ∨ (j = 1 ∧ ((r / 64) / 64) = x ∧ cs = #[.int .u8 0, .int .u8 0, .int .u8 (cb (r / 64)), .int .u8 (cb r)]) ∨ (j = 0 ∧ (((r / 64) / 64) / 64) = x ∧ cs = #[.int .u8 0, .int .u8 (cb ((r / 64) / 64)), .int .u8 (cb (r / 64)), .int .u8 (cb r)])) ∧ Aside0 (w'.heap[g4]? = some (.cells #[.int .i64 4, .int .i64 1114111, .int .u8 240, .int .u8 7] 59 (0, 0))) ∧ Aside0 (w'.heap[g5]? = some (.cells cs 5 (0, 0))) ∧ Aside0 (Below w.heap.size w w')) (fun v0 v6 _ => (intOf v6).toNat)
      case atStart => exact ⟨3, r, #[.int .u8 0, .int .u8 0, .int .u8 0, .int .u8 0], rfl, rfl, ⟨by simp⟩, ⟨B4⟩, ⟨B5⟩, ⟨HB0⟩⟩
      case round =>
        clear B4 B5 HB0
        obtain ⟨j, x, cs, rfl, rfl, hj, B4, B5, HB⟩ := hrel
        have hcz0 := (blk_cell B4.out 0).trans rfl
        have hcz1 := (blk_cell B4.out 1).trans rfl
        have hcz2 := (blk_cell B4.out 2).trans rfl
        have hcz3 := (blk_cell B4.out 3).trans rfl
        have hlt4 := blk_lt B4.out
        have hlt5 := blk_lt B5.out
        have hn1 := N45'.out
        have hn2 := N45'.out.symm
        rcases hj.out with ⟨rfl, rfl, rfl⟩ | ⟨rfl, rfl, rfl⟩ | ⟨rfl, rfl, rfl⟩ | ⟨rfl, rfl, rfl⟩
        · have hcy := (blk_cell B5.out 3).trans rfl
          have hfy := blk_frozen B5.out 3
          go_wp2
          refine ⟨⟨2, (r / 64), #[.int .u8 0, .int .u8 0, .int .u8 0, .int .u8 (cb r)], rfl, rfl, ⟨by simp⟩, ⟨?_⟩, ⟨?_⟩, ⟨?_⟩⟩, by show (2 : Int).toNat < (3 : Int).toNat; decide⟩
          · exact blk_far B4.out N45'.out _
          · exact blk_put B5.out 3 _ rfl
          · exact below_set HB.out G5'.out
        · have hcy := (blk_cell B5.out 2).trans rfl
          have hfy := blk_frozen B5.out 2
          go_wp2
          refine ⟨⟨1, ((r / 64) / 64), #[.int .u8 0, .int .u8 0, .int .u8 (cb (r / 64)), .int .u8 (cb r)], rfl, rfl, ⟨by simp⟩, ⟨?_⟩, ⟨?_⟩, ⟨?_⟩⟩, by show (1 : Int).toNat < (2 : Int).toNat; decide⟩
          · exact blk_far B4.out N45'.out _
          · exact blk_put B5.out 2 _ rfl
          · exact below_set HB.out G5'.out
        · have hcy := (blk_cell B5.out 1).trans rfl
          have hfy := blk_frozen B5.out 1
          go_wp2
          refine ⟨⟨0, (((r / 64) / 64) / 64), #[.int .u8 0, .int .u8 (cb ((r / 64) / 64)), .int .u8 (cb (r / 64)), .int .u8 (cb r)], rfl, rfl, ⟨by simp⟩, ⟨?_⟩, ⟨?_⟩, ⟨?_⟩⟩, by show (0 : Int).toNat < (1 : Int).toNat; decide⟩
          · exact blk_far B4.out N45'.out _
          · exact blk_put B5.out 1 _ rfl
          · exact below_set HB.out G5'.out
        · have hcy := (blk_cell B5.out 0).trans rfl
          have hfy := blk_frozen B5.out 0
          go_wp2
          go_ret
          exact ⟨g5, G5'.out, rfl, blk_put B5.out 0 _ rfl, below_set HB.out G5'.out⟩

theorem and63 {r : Int} (h0 : 0 ≤ r) (h1 : r ≤ 1114111) : Go.bits .and .i64 r 63 = r % 64 := by
  obtain ⟨n, rfl⟩ : ∃ n : Nat, r = (n : Int) := ⟨r.toNat, by omega⟩
  have e1 : (BitVec.ofInt 64 (n : Int)).toNat = n := by
    rw [BitVec.ofInt_natCast, BitVec.toNat_ofNat]; exact Nat.mod_eq_of_lt (by omega)
  have e2 : (BitVec.ofInt 64 (63 : Int)).toNat = 63 := by decide
  show IntKind.i64.wrap ((BitVec.ofInt 64 (n : Int) &&& BitVec.ofInt 64 (63 : Int)).toNat : Int) = _
  rw [BitVec.toNat_and, e1, e2, show (63 : Nat) = 2 ^ 6 - 1 from rfl, Nat.and_two_pow_sub_one_eq_mod, i64_w]
  have h3 : (n % 2 ^ 6 : Nat) = n % 64 := rfl
  rw [h3]
  unfold Go.RowKit.wrap64
  omega
theorem or128 {x : Int} (h0 : 0 ≤ x) (h1 : x < 64) : Go.bits .or .u8 128 (IntKind.u8.wrap x) = 128 + x := by
  have h : ∀ n : Fin 64, Go.bits .or .u8 128 (IntKind.u8.wrap (n.val : Int)) = 128 + (n.val : Int) := by decide +kernel
  have := h ⟨x.toNat, by omega⟩
  simp only [Int.toNat_of_nonneg h0] at this
  exact this
theorem cb_eq {r : Int} (h0 : 0 ≤ r) (h1 : r ≤ 1114111) : cb r = 128 + r % 64 := by
  unfold cb
  rw [and63 h0 h1]
  exact or128 (by omega) (by omega)
theorem or0 {r : Int} (h0 : 0 ≤ r) (h1 : r ≤ 127) : Go.bits .or .u8 0 r = r := by
  have h : ∀ n : Fin 128, Go.bits .or .u8 0 (n.val : Int) = (n.val : Int) := by decide +kernel
  have := h ⟨r.toNat, by omega⟩
  simp only [Int.toNat_of_nonneg h0] at this
  exact this
/-- A row of bytes that lies at the start of its block. -/
theorem R_of_block {w : World} {base g : Nat} {l : List Int} (hg : base ≤ g) (h : w.heap[g]? = some (.cells (l.map (Value.int .u8)).toArray 5 (0, 0))) (hl : l.length ≤ 1000) : Kd.R (Kd.int .u8) 5 w base (fun _ => True) (.slice (some ⟨g, 0, none⟩) l.length l.length) l := by
  refine ⟨fun _ _ => trivial, l.map (Value.int .u8), ⟨by rw [List.length_map]; exact (Nat.mul_one _).symm, .inr ⟨g, l.length, _, rfl, hg, h, Nat.le_refl _, by simp [maxLen]; omega, ?_, ?_⟩⟩, ?_, ?_⟩
  · rw [List.size_toArray, List.length_map]; exact (Nat.mul_one _).symm
  · show (List.map (Value.int .u8) l).take (l.length * 1) = _
    rw [Nat.mul_one, List.take_of_length_le (by rw [List.length_map]; exact Nat.le_refl _)]
  · rw [List.length_map]; exact (Nat.mul_one _).symm
  · intro j p hj
    show ((l.map (Value.int .u8)).drop (j * 1)).take 1 = [Value.int .u8 p]
    have hlt : j < l.length := by
      rcases Nat.lt_or_ge j l.length with h | h
      · exact h
      · rw [List.getElem?_eq_none h] at hj; cases hj
    rw [List.getElem?_eq_getElem hlt] at hj
    have e : l[j] = p := Option.some.inj hj
    rw [Nat.mul_one, List.drop_eq_getElem_cons (by rw [List.length_map]; exact hlt), List.take_succ_cons, List.take_zero, List.getElem_map, e]
/-- A number's bytes. -/
def putP (r : Int) : List Int := if isB r = true then (if r ≤ 127 then [r] else if r ≤ 2047 then [192 + r / 64, 128 + r % 64] else if r ≤ 65535 then [224 + r / 64 / 64, 128 + r / 64 % 64, 128 + r % 64] else [240 + r / 64 / 64 / 64, 128 + r / 64 / 64 % 64, 128 + r / 64 % 64, 128 + r % 64]) else []
def utf_Put.f (r : Int) : Option (List Int) := some (putP r)
theorem utf_Put.calls (a0 : Int) (r : List Int) (w : World) (h : utf_Put.f a0 = some r) :
    Calls Try.prog 30 #[.int .i64 a0] w fun e w' => ∃ v0_ : Value, e = .returned (v0_) ∧ Kd.R (Kd.int .u8) 5 w' w.heap.size (fun _ => True) v0_ r ∧ Below w.heap.size w w' := by
  obtain rfl := Option.some.inj h
  clear h
  unfold putP
  by_cases hb : isB a0 = true
  · rw [if_pos hb]
    have hi : 0 ≤ a0 ∧ a0 ≤ 1114111 ∧ (a0 < 55296 ∨ a0 > 57343) := of_decide_eq_true hb
    by_cases h1 : a0 ≤ 127
    · rw [if_pos h1]
      refine (uput_1 a0 w (by omega) h1 (by omega)).mono ?_
      rintro e w' ⟨g, hg, rfl, hb, hw⟩
      refine ⟨_, rfl, R_of_block (l := [a0]) hg ?_ (by simp), hw⟩
      rw [hb, or0 (by omega) h1]
      rfl
    rw [if_neg h1]
    by_cases h2 : a0 ≤ 2047
    · rw [if_pos h2]
      refine (uput_2 a0 w (by omega) h2 (by omega)).mono ?_
      rintro e w' ⟨g, hg, rfl, hb, hw⟩
      refine ⟨_, rfl, R_of_block (l := [192 + a0 / 64, 128 + a0 % 64]) hg ?_ (by simp), hw⟩
      rw [hb, cb_eq (by omega) (by omega)]
      rfl
    rw [if_neg h2]
    by_cases h3 : a0 ≤ 65535
    · rw [if_pos h3]
      refine (uput_3 a0 w (by omega) h3 (by omega)).mono ?_
      rintro e w' ⟨g, hg, rfl, hb, hw⟩
      refine ⟨_, rfl, R_of_block (l := [224 + a0 / 64 / 64, 128 + a0 / 64 % 64, 128 + a0 % 64]) hg ?_ (by simp), hw⟩
      rw [hb, cb_eq (r := a0) (by omega) (by omega), cb_eq (by omega) (by omega)]
      rfl
    rw [if_neg h3]
    refine (uput_4 a0 w (by omega) (by omega) (by omega)).mono ?_
    rintro e w' ⟨g, hg, rfl, hb, hw⟩
    refine ⟨_, rfl, R_of_block (l := [240 + a0 / 64 / 64 / 64, 128 + a0 / 64 / 64 % 64, 128 + a0 / 64 % 64, 128 + a0 % 64]) hg ?_ (by simp), hw⟩
    rw [hb, cb_eq (r := a0) (by omega) (by omega), cb_eq (r := a0 / 64) (by omega) (by omega), cb_eq (by omega) (by omega)]
    rfl
  · rw [if_neg hb]
    refine (uput_none a0 w (by simpa using hb)).mono ?_
    rintro e w' ⟨rfl, hw⟩
    exact ⟨_, rfl, Kd.R_nil _ _ _ _ _, hw⟩
end Go.Proofs.Ytcjokajnlpcdiaa.H
