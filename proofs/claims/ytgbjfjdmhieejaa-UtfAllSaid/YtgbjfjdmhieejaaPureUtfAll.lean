import Derived.Test.YtgbjfjdmhieejaaUtfPlainA
import Derived.Test.YtgbjfjdmhieejaaR5
namespace Go.Proofs.Ytgbjfjdmhieejaa.Pure
open Go.RowKit Go.Proofs.YtgbjfjdmhieejaaW.PrintWords Go.Proofs.Ytgbjfjdmhieejaa.R Go.Proofs.Ytgbjfjdmhieejaa.H
set_option linter.unusedVariables false

theorem UtfAll (l0 : List Int) (l1 : List Int) (g0 : (∀ z ∈ l0, (Lit.int .u8 z).wf = true)) (g1 : (∀ z ∈ l1, (Lit.int .i64 z).wf = true)) :
    ∃ k, clavierlaw02_UtfAll.f k l0 l1 = some true := by
  have hb0 := wfB g0
  refine ⟨201, ?_⟩
  unfold clavierlaw02_UtfAll.f
  rw [awake, Option.bind_some]
  by_cases hl : (l0.length : Int) > 100
  · rw [if_pos hl, clavierlaw02_UtfAll.j0, if_pos rfl]
  rw [if_neg hl, clavierlaw02_UtfAll.j0]
  by_cases hm : (l1.length : Int) > 40
  · rw [if_pos (decide_eq_true hm)]
  have a0 := all_len l0
  rw [if_neg (by simp; omega), uall_eq (by omega), Option.bind_some, refall_eq hb0 (by omega) 200 (by omega), Option.bind_some, utext_eq l1 (by omega) 200 (by omega), Option.bind_some, reftext_eq l1 (by omega) 200 (by omega), Option.bind_some, if_pos rfl, uvalid_eq (by omega), Option.bind_some,
    if_pos (by simp), if_pos (by simp), ints_eq _ _ 200 (by omega) (by omega), Option.bind_some, if_pos (by simp), if_pos rfl]
  simp

end Go.Proofs.Ytgbjfjdmhieejaa.Pure
