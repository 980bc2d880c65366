import Derived.Test.YtpljdaahkiabkaaHMay
import Derived.Test.YtpljdaahkiabkaaWWords
import Derived.BigRegion
import Derived.Laws.EntriesVeiled
namespace Go.Proofs.Ytpljdaahkiabkaa.H
open Go.RowKit Go.Maps Go.Proofs.YtpljdaahkiabkaaW.PrintWords
set_option linter.unusedVariables false
set_option linter.unusedSimpArgs false
-- attribute [local go_sem] objAt_alloc objAt_drew objAt_drewN objAt_setCell look_nil look_cons

/-- It is told, the cell is the event's; or it is not, and the cell is what it was. -/
def Yes (x y : Int) (w : World) (e : Ending) (w' : World) : Prop := e = .returned (.tuple #[.agg #[.int .i64 x, .int .i64 y], .bool true]) ∧ Below w.heap.size w w'
def Nay (x y : Int) (w : World) (e : Ending) (w' : World) : Prop := e = .returned (.tuple #[.agg #[.int .i64 x, .int .i64 y], .bool false]) ∧ Below w.heap.size w w'
theorem zeroF (W : World) : (zeroValue 32).run Try.prog W = .ok .nilFunc W := by kernel_rfl
theorem lt6 {n m : Nat} (h : n + 6 ≤ m) : n < m ∧ n + 1 < m ∧ n + 1 + 1 < m ∧ n + 1 + 1 + 1 < m ∧ n + 1 + 1 + 1 + 1 < m ∧ n + 1 + 1 + 1 + 1 + 1 < m := by omega
theorem lt7 {n m : Nat} (h : n + 6 ≤ m) : n < m + 1 ∧ n + 1 < m + 1 ∧ n + 1 + 1 < m + 1 ∧ n + 1 + 1 + 1 < m + 1 ∧ n + 1 + 1 + 1 + 1 < m + 1 ∧ n + 1 + 1 + 1 + 1 + 1 < m + 1 := by omega
theorem lt8 {n m : Nat} (h : n + 6 ≤ m) : n < m + 1 + 1 ∧ n + 1 < m + 1 + 1 ∧ n + 1 + 1 < m + 1 + 1 ∧ n + 1 + 1 + 1 < m + 1 + 1 ∧ n + 1 + 1 + 1 + 1 < m + 1 + 1 ∧ n + 1 + 1 + 1 + 1 + 1 < m + 1 + 1 := by omega
theorem bcell {W w1 : World} (hb : Below W.heap.size W w1) : (∀ b o, b < W.heap.size → w1.cell? ⟨b, o, none⟩ = W.cell? ⟨b, o, none⟩) ∧ (∀ b o, b < W.heap.size → w1.frozen? ⟨b, o, none⟩ = W.frozen? ⟨b, o, none⟩) :=
  ⟨fun b o h => hb.cell (p := ⟨b, o, none⟩) h, fun b o h => hb.frozen (p := ⟨b, o, none⟩) h⟩
theorem objIs {W : World} {n : Nat} {o : Obj} (h : objAt W n = some o) : W.heap[n]? = some o := h
theorem May_yes {b t x y m : Int} (h : mayB b t x y m = true) (w : World) : Calls Try.prog 12 #[.agg #[.int .i64 b, .int .i64 t, .int .i64 x, .int .i64 y, .int .i64 m]] w fun e w' => e = .returned (.bool true) ∧ Below w.heap.size w w' := h ▸ track_May_any b t x y m w
theorem May_no {b t x y m : Int} (h : mayB b t x y m = false) (w : World) : Calls Try.prog 12 #[.agg #[.int .i64 b, .int .i64 t, .int .i64 x, .int .i64 y, .int .i64 m]] w fun e w' => e = .returned (.bool false) ∧ Below w.heap.size w w' := h ▸ track_May_any b t x y m w

end Go.Proofs.Ytpljdaahkiabkaa.H
