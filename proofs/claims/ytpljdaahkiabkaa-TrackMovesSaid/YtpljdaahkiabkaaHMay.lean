import Derived.Test.YtpljdaahkiabkaaHMap

namespace Go.Proofs.Ytpljdaahkiabkaa.H
open Go.RowKit Go.Maps

def mayB (b t x y m : Int) : Bool := decide ((1 ≤ x ∧ x ≤ 65535 ∧ 1 ≤ y ∧ y ≤ 65535 ∧ 0 ≤ m ∧ m ≤ 255) ∧
  ((t = 1 ∧ 1 ≤ b ∧ b ≤ 11) ∨ (t = 3 ∧ (1 ≤ b ∧ b ≤ 3 ∨ 8 ≤ b ∧ b ≤ 11)) ∨ (t = 4 ∧ (0 ≤ b ∧ b ≤ 3 ∨ 8 ≤ b ∧ b ≤ 11))))
theorem ret_bool {a b : Bool} (h : a = b) : Ending.returned (.bool a) = .returned (.bool b) := by rw [h]
theorem below_alloc' {w W : World} (h : Below w.heap.size w W) (o : Obj) : Below w.heap.size w (W.alloc o) := h.alloc h.size o
theorem below_drew' {B : Nat} {w W : World} (h : Below B w W) : Below B w W.drew := ⟨h.os, h.tape, h.output, h.size, h.block⟩
theorem zero3 (W : World) : (zeroValue 3).run Try.prog W = .ok (.int .i64 0) W := by kernel_rfl

attribute [local go_sem] objAt_alloc objAt_drew objAt_drewN objAt_setCell look_nil look_cons
set_option maxHeartbeats 1600000 in
theorem track_May_any (b t x y m : Int) (w : World) :
    Calls Try.prog 12 #[.agg #[.int .i64 b, .int .i64 t, .int .i64 x, .int .i64 y, .int .i64 m]] w fun e w' => e = .returned (.bool (mayB b t x y m)) ∧ Below w.heap.size w w' := by
  have hmm := fun W => run_made (P := Try.prog) 42 .i64 W
  have hput := fun W l n hn a v hf => run_put (P := Try.prog) 42 3 3 .i64 Try.underlying42 Try.underlying3 W l n hn a v hf
  have hlk := fun W hb a => run_look (P := Try.prog) 42 3 3 .i64 Try.underlying42 Try.underlying3 (.int .i64 0) zero3 W (w.heap.size + 1) [(1, .int .i64 1), (3, .int .i64 1), (4, .int .i64 0)] hb a true
  go_enter Try.func12, Try.ntmps12
  go_wp2
  all_goals go_ret
  all_goals (refine ⟨ret_bool ?_, by repeat (first | exact Below.refl _ _ | apply below_alloc' | apply below_drew')⟩)
  all_goals (unfold mayB; first | exact (decide_eq_false (by omega)).symm | exact (decide_eq_true (by omega)).symm | (rw [Bool.eq_iff_iff]; simp; omega))
end Go.Proofs.Ytpljdaahkiabkaa.H
