import Derived.Test.YtcjokajnlpcdiaaProg
import Derived.Test.YtcjokajnlpcdiaaWWords
import Derived.Test.YtcjokajnlpcdiaaWLast
import Derived.Test.YtcjokajnlpcdiaaWMore
import Derived.WalkSpells
import Derived.Outline
/- clavierref09.pad: value by value. -/
namespace Go.Proofs.Ytcjokajnlpcdiaa.H
open Go Go.RowKit Go.Proofs.YtcjokajnlpcdiaaW.PrintWords Go.Proofs.YtcjokajnlpcdiaaW.PrintLast Go.Proofs.YtcjokajnlpcdiaaW.PrintMore
set_option linter.unusedVariables false
set_option linter.unusedSimpArgs false
def padL : List (Int × Int × Int) := [(57399, 112, 48), (57400, 113, 49), (57401, 114, 50), (57402, 115, 51), (57403, 116, 52), (57404, 117, 53), (57405, 118, 54), (57406, 119, 55), (57407, 120, 56), (57408, 121, 57), (57409, 110, 46), (57410, 111, 47), (57411, 106, 42), (57412, 109, 45), (57413, 107, 43), (57414, 77, 13), (57415, 88, 61), (57416, 108, 44)]
def clavierref09_pad.f (a0 : Int) : Option (Int × Int × Int × Int × Bool) := match padL.find? (fun x => x.1 == a0) with
  | some x => some (5, x.2.1, 0, x.2.2, true)
  | none => none
theorem second (w : World) (o1 o2 : Obj) : ((w.alloc o1).alloc o2).heap[w.heap.size]? = some o1 := blk_alloc (blk_new w o1) o2
set_option maxRecDepth 100000 in
set_option maxHeartbeats 4000000 in
theorem pad_57399 (w : World) : Calls Try.prog 34 #[.int .i64 57399] w fun e w' => e = .returned (.agg #[.int .i64 5, .int .u8 112, .int .i64 0, .int .i64 48, .bool true]) ∧ Below w.heap.size w w' := by
  have hu := Try.underlying40
  go_enter Try.func34, Try.ntmps34
  go_wp2
  refine bodyPost_ret (results_cell_row rfl _ _ w.heap.size 40 #[.int .i64 5, .int .u8 112, .int .i64 0, .int .i64 48, .bool true] (0, 0) _ rfl ((second _ _ _).trans (by kernel_rfl)) Try.underlying40 rfl (by kernel_rfl)) rfl ⟨rfl, below_alloc (below_alloc (Below.refl _ _) _) _⟩
set_option maxRecDepth 100000 in
set_option maxHeartbeats 4000000 in
theorem pad_57400 (w : World) : Calls Try.prog 34 #[.int .i64 57400] w fun e w' => e = .returned (.agg #[.int .i64 5, .int .u8 113, .int .i64 0, .int .i64 49, .bool true]) ∧ Below w.heap.size w w' := by
  have hu := Try.underlying40
  go_enter Try.func34, Try.ntmps34
  go_wp2
  refine bodyPost_ret (results_cell_row rfl _ _ w.heap.size 40 #[.int .i64 5, .int .u8 113, .int .i64 0, .int .i64 49, .bool true] (0, 0) _ rfl ((second _ _ _).trans (by kernel_rfl)) Try.underlying40 rfl (by kernel_rfl)) rfl ⟨rfl, below_alloc (below_alloc (Below.refl _ _) _) _⟩
set_option maxRecDepth 100000 in
set_option maxHeartbeats 4000000 in
theorem pad_57401 (w : World) : Calls Try.prog 34 #[.int .i64 57401] w fun e w' => e = .returned (.agg #[.int .i64 5, .int .u8 114, .int .i64 0, .int .i64 50, .bool true]) ∧ Below w.heap.size w w' := by
  have hu := Try.underlying40
  go_enter Try.func34, Try.ntmps34
  go_wp2
  refine bodyPost_ret (results_cell_row rfl _ _ w.heap.size 40 #[.int .i64 5, .int .u8 114, .int .i64 0, .int .i64 50, .bool true] (0, 0) _ rfl ((second _ _ _).trans (by kernel_rfl)) Try.underlying40 rfl (by kernel_rfl)) rfl ⟨rfl, below_alloc (below_alloc (Below.refl _ _) _) _⟩
set_option maxRecDepth 100000 in
set_option maxHeartbeats 4000000 in
theorem pad_57402 (w : World) : Calls Try.prog 34 #[.int .i64 57402] w fun e w' => e = .returned (.agg #[.int .i64 5, .int .u8 115, .int .i64 0, .int .i64 51, .bool true]) ∧ Below w.heap.size w w' := by
  have hu := Try.underlying40
  go_enter Try.func34, Try.ntmps34
  go_wp2
  refine bodyPost_ret (results_cell_row rfl _ _ w.heap.size 40 #[.int .i64 5, .int .u8 115, .int .i64 0, .int .i64 51, .bool true] (0, 0) _ rfl ((second _ _ _).trans (by kernel_rfl)) Try.underlying40 rfl (by kernel_rfl)) rfl ⟨rfl, below_alloc (below_alloc (Below.refl _ _) _) _⟩
set_option maxRecDepth 100000 in
set_option maxHeartbeats 4000000 in
theorem pad_57403 (w : World) : Calls Try.prog 34 #[.int .i64 57403] w fun e w' => e = .returned (.agg #[.int .i64 5, .int .u8 116, .int .i64 0, .int .i64 52, .bool true]) ∧ Below w.heap.size w w' := by
  have hu := Try.underlying40
  go_enter Try.func34, Try.ntmps34
  go_wp2
  refine bodyPost_ret (results_cell_row rfl _ _ w.heap.size 40 #[.int .i64 5, .int .u8 116, .int .i64 0, .int .i64 52, .bool true] (0, 0) _ rfl ((second _ _ _).trans (by kernel_rfl)) Try.underlying40 rfl (by kernel_rfl)) rfl ⟨rfl, below_alloc (below_alloc (Below.refl _ _) _) _⟩
set_option maxRecDepth 100000 in
set_option maxHeartbeats 4000000 in
theorem pad_57404 (w : World) : Calls Try.prog 34 #[.int .i64 57404] w fun e w' => e = .returned (.agg #[.int .i64 5, .int .u8 117, .int .i64 0, .int .i64 53, .bool true]) ∧ Below w.heap.size w w' := by
  have hu := Try.underlying40
  go_enter Try.func34, Try.ntmps34
  go_wp2
  refine bodyPost_ret (results_cell_row rfl _ _ w.heap.size 40 #[.int .i64 5, .int .u8 117, .int .i64 0, .int .i64 53, .bool true] (0, 0) _ rfl ((second _ _ _).trans (by kernel_rfl)) Try.underlying40 rfl (by kernel_rfl)) rfl ⟨rfl, below_alloc (below_alloc (Below.refl _ _) _) _⟩
set_option maxRecDepth 100000 in
set_option maxHeartbeats 4000000 in
theorem pad_57405 (w : World) : Calls Try.prog 34 #[.int .i64 57405] w fun e w' => e = .returned (.agg #[.int .i64 5, .int .u8 118, .int .i64 0, .int .i64 54, .bool true]) ∧ Below w.heap.size w w' := by
  have hu := Try.underlying40
  go_enter Try.func34, Try.ntmps34
  go_wp2
  refine bodyPost_ret (results_cell_row rfl _ _ w.heap.size 40 #[.int .i64 5, .int .u8 118, .int .i64 0, .int .i64 54, .bool true] (0, 0) _ rfl ((second _ _ _).trans (by kernel_rfl)) Try.underlying40 rfl (by kernel_rfl)) rfl ⟨rfl, below_alloc (below_alloc (Below.refl _ _) _) _⟩
set_option maxRecDepth 100000 in
set_option maxHeartbeats 4000000 in
theorem pad_57406 (w : World) : Calls Try.prog 34 #[.int .i64 57406] w fun e w' => e = .returned (.agg #[.int .i64 5, .int .u8 119, .int .i64 0, .int .i64 55, .bool true]) ∧ Below w.heap.size w w' := by
  have hu := Try.underlying40
  go_enter Try.func34, Try.ntmps34
  go_wp2
  refine bodyPost_ret (results_cell_row rfl _ _ w.heap.size 40 #[.int .i64 5, .int .u8 119, .int .i64 0, .int .i64 55, .bool true] (0, 0) _ rfl ((second _ _ _).trans (by kernel_rfl)) Try.underlying40 rfl (by kernel_rfl)) rfl ⟨rfl, below_alloc (below_alloc (Below.refl _ _) _) _⟩
set_option maxRecDepth 100000 in
set_option maxHeartbeats 4000000 in
theorem pad_57407 (w : World) : Calls Try.prog 34 #[.int .i64 57407] w fun e w' => e = .returned (.agg #[.int .i64 5, .int .u8 120, .int .i64 0, .int .i64 56, .bool true]) ∧ Below w.heap.size w w' := by
  have hu := Try.underlying40
  go_enter Try.func34, Try.ntmps34
  go_wp2
  refine bodyPost_ret (results_cell_row rfl _ _ w.heap.size 40 #[.int .i64 5, .int .u8 120, .int .i64 0, .int .i64 56, .bool true] (0, 0) _ rfl ((second _ _ _).trans (by kernel_rfl)) Try.underlying40 rfl (by kernel_rfl)) rfl ⟨rfl, below_alloc (below_alloc (Below.refl _ _) _) _⟩
set_option maxRecDepth 100000 in
set_option maxHeartbeats 4000000 in
theorem pad_57408 (w : World) : Calls Try.prog 34 #[.int .i64 57408] w fun e w' => e = .returned (.agg #[.int .i64 5, .int .u8 121, .int .i64 0, .int .i64 57, .bool true]) ∧ Below w.heap.size w w' := by
  have hu := Try.underlying40
  go_enter Try.func34, Try.ntmps34
  go_wp2
  refine bodyPost_ret (results_cell_row rfl _ _ w.heap.size 40 #[.int .i64 5, .int .u8 121, .int .i64 0, .int .i64 57, .bool true] (0, 0) _ rfl ((second _ _ _).trans (by kernel_rfl)) Try.underlying40 rfl (by kernel_rfl)) rfl ⟨rfl, below_alloc (below_alloc (Below.refl _ _) _) _⟩
set_option maxRecDepth 100000 in
set_option maxHeartbeats 4000000 in
theorem pad_57409 (w : World) : Calls Try.prog 34 #[.int .i64 57409] w fun e w' => e = .returned (.agg #[.int .i64 5, .int .u8 110, .int .i64 0, .int .i64 46, .bool true]) ∧ Below w.heap.size w w' := by
  have hu := Try.underlying40
  go_enter Try.func34, Try.ntmps34
  go_wp2
  refine bodyPost_ret (results_cell_row rfl _ _ w.heap.size 40 #[.int .i64 5, .int .u8 110, .int .i64 0, .int .i64 46, .bool true] (0, 0) _ rfl ((second _ _ _).trans (by kernel_rfl)) Try.underlying40 rfl (by kernel_rfl)) rfl ⟨rfl, below_alloc (below_alloc (Below.refl _ _) _) _⟩
set_option maxRecDepth 100000 in
set_option maxHeartbeats 4000000 in
theorem pad_57410 (w : World) : Calls Try.prog 34 #[.int .i64 57410] w fun e w' => e = .returned (.agg #[.int .i64 5, .int .u8 111, .int .i64 0, .int .i64 47, .bool true]) ∧ Below w.heap.size w w' := by
  have hu := Try.underlying40
  go_enter Try.func34, Try.ntmps34
  go_wp2
  refine bodyPost_ret (results_cell_row rfl _ _ w.heap.size 40 #[.int .i64 5, .int .u8 111, .int .i64 0, .int .i64 47, .bool true] (0, 0) _ rfl ((second _ _ _).trans (by kernel_rfl)) Try.underlying40 rfl (by kernel_rfl)) rfl ⟨rfl, below_alloc (below_alloc (Below.refl _ _) _) _⟩
set_option maxRecDepth 100000 in
set_option maxHeartbeats 4000000 in
theorem pad_57411 (w : World) : Calls Try.prog 34 #[.int .i64 57411] w fun e w' => e = .returned (.agg #[.int .i64 5, .int .u8 106, .int .i64 0, .int .i64 42, .bool true]) ∧ Below w.heap.size w w' := by
  have hu := Try.underlying40
  go_enter Try.func34, Try.ntmps34
  go_wp2
  refine bodyPost_ret (results_cell_row rfl _ _ w.heap.size 40 #[.int .i64 5, .int .u8 106, .int .i64 0, .int .i64 42, .bool true] (0, 0) _ rfl ((second _ _ _).trans (by kernel_rfl)) Try.underlying40 rfl (by kernel_rfl)) rfl ⟨rfl, below_alloc (below_alloc (Below.refl _ _) _) _⟩
set_option maxRecDepth 100000 in
set_option maxHeartbeats 4000000 in
theorem pad_57412 (w : World) : Calls Try.prog 34 #[.int .i64 57412] w fun e w' => e = .returned (.agg #[.int .i64 5, .int .u8 109, .int .i64 0, .int .i64 45, .bool true]) ∧ Below w.heap.size w w' := by
  have hu := Try.underlying40
  go_enter Try.func34, Try.ntmps34
  go_wp2
  refine bodyPost_ret (results_cell_row rfl _ _ w.heap.size 40 #[.int .i64 5, .int .u8 109, .int .i64 0, .int .i64 45, .bool true] (0, 0) _ rfl ((second _ _ _).trans (by kernel_rfl)) Try.underlying40 rfl (by kernel_rfl)) rfl ⟨rfl, below_alloc (below_alloc (Below.refl _ _) _) _⟩
set_option maxRecDepth 100000 in
set_option maxHeartbeats 4000000 in
theorem pad_57413 (w : World) : Calls Try.prog 34 #[.int .i64 57413] w fun e w' => e = .returned (.agg #[.int .i64 5, .int .u8 107, .int .i64 0, .int .i64 43, .bool true]) ∧ Below w.heap.size w w' := by
  have hu := Try.underlying40
  go_enter Try.func34, Try.ntmps34
  go_wp2
  refine bodyPost_ret (results_cell_row rfl _ _ w.heap.size 40 #[.int .i64 5, .int .u8 107, .int .i64 0, .int .i64 43, .bool true] (0, 0) _ rfl ((second _ _ _).trans (by kernel_rfl)) Try.underlying40 rfl (by kernel_rfl)) rfl ⟨rfl, below_alloc (below_alloc (Below.refl _ _) _) _⟩
set_option maxRecDepth 100000 in
set_option maxHeartbeats 4000000 in
theorem pad_57414 (w : World) : Calls Try.prog 34 #[.int .i64 57414] w fun e w' => e = .returned (.agg #[.int .i64 5, .int .u8 77, .int .i64 0, .int .i64 13, .bool true]) ∧ Below w.heap.size w w' := by
  have hu := Try.underlying40
  go_enter Try.func34, Try.ntmps34
  go_wp2
  refine bodyPost_ret (results_cell_row rfl _ _ w.heap.size 40 #[.int .i64 5, .int .u8 77, .int .i64 0, .int .i64 13, .bool true] (0, 0) _ rfl ((second _ _ _).trans (by kernel_rfl)) Try.underlying40 rfl (by kernel_rfl)) rfl ⟨rfl, below_alloc (below_alloc (Below.refl _ _) _) _⟩
set_option maxRecDepth 100000 in
set_option maxHeartbeats 4000000 in
theorem pad_57415 (w : World) : Calls Try.prog 34 #[.int .i64 57415] w fun e w' => e = .returned (.agg #[.int .i64 5, .int .u8 88, .int .i64 0, .int .i64 61, .bool true]) ∧ Below w.heap.size w w' := by
  have hu := Try.underlying40
  go_enter Try.func34, Try.ntmps34
  go_wp2
  refine bodyPost_ret (results_cell_row rfl _ _ w.heap.size 40 #[.int .i64 5, .int .u8 88, .int .i64 0, .int .i64 61, .bool true] (0, 0) _ rfl ((second _ _ _).trans (by kernel_rfl)) Try.underlying40 rfl (by kernel_rfl)) rfl ⟨rfl, below_alloc (below_alloc (Below.refl _ _) _) _⟩
set_option maxRecDepth 100000 in
set_option maxHeartbeats 4000000 in
theorem pad_57416 (w : World) : Calls Try.prog 34 #[.int .i64 57416] w fun e w' => e = .returned (.agg #[.int .i64 5, .int .u8 108, .int .i64 0, .int .i64 44, .bool true]) ∧ Below w.heap.size w w' := by
  have hu := Try.underlying40
  go_enter Try.func34, Try.ntmps34
  go_wp2
  refine bodyPost_ret (results_cell_row rfl _ _ w.heap.size 40 #[.int .i64 5, .int .u8 108, .int .i64 0, .int .i64 44, .bool true] (0, 0) _ rfl ((second _ _ _).trans (by kernel_rfl)) Try.underlying40 rfl (by kernel_rfl)) rfl ⟨rfl, below_alloc (below_alloc (Below.refl _ _) _) _⟩
theorem clavierref09_pad.calls (a0 : Int) (r1 : Int) (r2 : Int) (r3 : Int) (r4 : Int) (r5 : Bool) (w : World) (h : clavierref09_pad.f a0 = some (r1, r2, r3, r4, r5)) :
    Calls Try.prog 34 #[.int .i64 a0] w fun e w' => e = .returned (.agg #[.int .i64 r1, .int .u8 r2, .int .i64 r3, .int .i64 r4, .bool r5]) ∧ Below w.heap.size w w' := by
  unfold clavierref09_pad.f at h
  split at h
  · rename_i x hx
    have hm := List.mem_of_find?_eq_some hx
    have he := List.find?_some hx
    simp only [beq_iff_eq] at he
    subst he
    simp only [Option.some.injEq, Prod.mk.injEq] at h
    obtain ⟨rfl, rfl, rfl, rfl, rfl⟩ := h
    clear hx
    unfold padL at hm
    simp only [List.mem_cons, List.not_mem_nil, or_false] at hm
    rcases hm with rfl | rfl | rfl | rfl | rfl | rfl | rfl | rfl | rfl | rfl | rfl | rfl | rfl | rfl | rfl | rfl | rfl | rfl
    · exact pad_57399 w
    · exact pad_57400 w
    · exact pad_57401 w
    · exact pad_57402 w
    · exact pad_57403 w
    · exact pad_57404 w
    · exact pad_57405 w
    · exact pad_57406 w
    · exact pad_57407 w
    · exact pad_57408 w
    · exact pad_57409 w
    · exact pad_57410 w
    · exact pad_57411 w
    · exact pad_57412 w
    · exact pad_57413 w
    · exact pad_57414 w
    · exact pad_57415 w
    · exact pad_57416 w
  · cases h
end Go.Proofs.Ytcjokajnlpcdiaa.H
