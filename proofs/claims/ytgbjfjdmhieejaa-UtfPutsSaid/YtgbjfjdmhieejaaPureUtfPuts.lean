import Derived.Test.YtgbjfjdmhieejaaUtfPlainT
import Derived.Test.YtgbjfjdmhieejaaR3
namespace Go.Proofs.Ytgbjfjdmhieejaa.Pure
open Go.RowKit Go.Proofs.YtgbjfjdmhieejaaW.PrintWords Go.Proofs.Ytgbjfjdmhieejaa.R Go.Proofs.Ytgbjfjdmhieejaa.H
set_option linter.unusedVariables false

theorem UtfPuts (a0 : Int) (l1 : List Int) (g0 : (Lit.int .i64 a0).wf = true) (g1 : (∀ z ∈ l1, (Lit.int .u8 z).wf = true)) :
    ∃ k, clavierlaw02_UtfPuts.f k a0 l1 = some true := by
  have hb := wfB g1
  refine ⟨10, ?_⟩
  unfold clavierlaw02_UtfPuts.f
  rw [awake, Option.bind_some]
  by_cases hl : (l1.length : Int) > 100
  · rw [if_pos hl]
  · rw [if_neg hl, utake_eq, Option.bind_some, reftake_eq hb 0, Option.bind_some, if_pos rfl, uput_eq, Option.bind_some, refput_eq, Option.bind_some, if_pos rfl, if_pos rfl]
    simp

end Go.Proofs.Ytgbjfjdmhieejaa.Pure
