import Derived.Test.YtcjokajnlpcdiaaProg
import Derived.Test.YtcjokajnlpcdiaaWWords
import Derived.Test.YtcjokajnlpcdiaaWLast
import Derived.Test.YtcjokajnlpcdiaaWGuard
import Derived.Test.YtcjokajnlpcdiaaWMore
import Derived.Test.YtcjokajnlpcdiaaWApart
import Derived.WalkSpells
import Derived.Outline
/- utf.is, utf.sizes -/
namespace Go.Proofs.Ytcjokajnlpcdiaa.H
open Go.RowKit Go.Proofs.YtcjokajnlpcdiaaW.PrintWords Go.Proofs.YtcjokajnlpcdiaaW.PrintLast Go.Proofs.YtcjokajnlpcdiaaW.PrintMore
set_option linter.unusedVariables false
set_option linter.unusedSimpArgs false
def isB (r : Int) : Bool := decide (0 ≤ r ∧ r ≤ 1114111 ∧ (r < 55296 ∨ r > 57343))
theorem is_c (r : Int) (w : World) : Calls Try.prog 40 #[.int .i64 r] w fun e w' => e = .returned (.bool (isB r)) ∧ Below w.heap.size w w' := by
  have HB := Aside0.mk (Below.refl w.heap.size w)
  go_enter Try.func40, Try.ntmps40
  go_wp2
  all_goals go_ret
  all_goals refine ⟨?_, HB.out⟩
  · have : isB r = (decide (r < 55296) || decide (57343 < r)) := by unfold isB; rw [Bool.eq_iff_iff]; simp; omega
    rw [this]; rfl
  · have : isB r = true := decide_eq_true (by omega)
    rw [this]; rfl
  · have : isB r = false := decide_eq_false (by omega)
    rw [this]; rfl
  · have : isB r = false := decide_eq_false (by omega)
    rw [this]; rfl
/-- The four sizes, as they lie. -/
def sizeCells : Array Value := #[.int .i64 1, .int .i64 127, .int .u8 0, .int .u8 127, .int .i64 2, .int .i64 2047, .int .u8 192, .int .u8 31, .int .i64 3, .int .i64 65535, .int .u8 224, .int .u8 15, .int .i64 4, .int .i64 1114111, .int .u8 240, .int .u8 7]
theorem sizes_c (w : World) : Calls Try.prog 41 #[] w fun e w' => e = .returned (.agg sizeCells) ∧ Below w.heap.size w w' := by
  have HB := Aside0.mk (Below.refl w.heap.size w)
  go_enter Try.func41, Try.ntmps41
  go_wp2
  refine bodyPost_ret (results_cell_row rfl _ _ w.heap.size 60 sizeCells (0, 0) _ rfl ?_ Try.underlying60 rfl (by kernel_rfl)) rfl ⟨rfl, ?_⟩
  · show (w.heap.push _)[w.heap.size]? = _
    exact Array.getElem?_push_size
  · exact below_alloc HB.out _
theorem ix0 (W : World) : (Instr.index 60 (.agg sizeCells) (.int .i64 0)).run Try.prog W = .ok (.agg #[.int .i64 1, .int .i64 127, .int .u8 0, .int .u8 127]) W := by kernel_rfl
theorem ix1 (W : World) : (Instr.index 60 (.agg sizeCells) (.int .i64 1)).run Try.prog W = .ok (.agg #[.int .i64 2, .int .i64 2047, .int .u8 192, .int .u8 31]) W := by kernel_rfl
theorem ix2 (W : World) : (Instr.index 60 (.agg sizeCells) (.int .i64 2)).run Try.prog W = .ok (.agg #[.int .i64 3, .int .i64 65535, .int .u8 224, .int .u8 15]) W := by kernel_rfl
theorem ix3 (W : World) : (Instr.index 60 (.agg sizeCells) (.int .i64 3)).run Try.prog W = .ok (.agg #[.int .i64 4, .int .i64 1114111, .int .u8 240, .int .u8 7]) W := by kernel_rfl
end Go.Proofs.Ytcjokajnlpcdiaa.H
