import Derived.Test.YtcjokajnlpcdiaaModsPlain
import Derived.Test.YtcjokajnlpcdiaaR7
namespace Go.Proofs.Ytcjokajnlpcdiaa.Pure
open Go.RowKit Go.Proofs.YtcjokajnlpcdiaaW.PrintWords Go.Proofs.Ytcjokajnlpcdiaa.R Go.Proofs.Ytcjokajnlpcdiaa.H
set_option linter.unusedVariables false

theorem ModsMay (a0_0 : Int) (a0_1 : Int) (a0_2 : Int) (a0_3 : Int) (a0_4 : Int) (a0_5 : ByteArray) (g0_0 : (Lit.int .i64 a0_0).wf = true) (g0_1 : (Lit.int .i64 a0_1).wf = true) (g0_2 : (Lit.int .i64 a0_2).wf = true) (g0_3 : (Lit.int .i64 a0_3).wf = true) (g0_4 : (Lit.int .i64 a0_4).wf = true) (g0_5 : a0_5.size ≤ maxLen) :
    ∃ k, clavierlaw10_ModsMay.f k a0_0 a0_1 a0_2 a0_3 a0_4 a0_5 = some true := by
  refine ⟨0 + 11, ?_⟩
  have h1 := (mwf64 g0_1).2
  unfold clavierlaw10_ModsMay.f
  rw [awake, Option.bind_some]
  by_cases hl : (a0_5.size : Int) > 100
  · rw [if_pos hl]
  · rw [if_neg hl, if_pos rfl, umay_eq _ _ _ _ _ (by omega), Option.bind_some, refmay_eq 0 _ _ _ _ _ (by omega), Option.bind_some, if_pos (by simp), shown_eq _ _ _ _ _ _ h1, Option.bind_some, refshown_eq _ _ _ _ _ _ h1, Option.bind_some]
    simp

end Go.Proofs.Ytcjokajnlpcdiaa.Pure
