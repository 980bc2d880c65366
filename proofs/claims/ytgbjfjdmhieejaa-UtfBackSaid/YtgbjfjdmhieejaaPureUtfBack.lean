import Derived.Test.YtgbjfjdmhieejaaUtfPlainT
import Derived.Test.YtgbjfjdmhieejaaR3
namespace Go.Proofs.Ytgbjfjdmhieejaa.Pure
open Go.RowKit Go.Proofs.YtgbjfjdmhieejaaW.PrintWords Go.Proofs.Ytgbjfjdmhieejaa.R Go.Proofs.Ytgbjfjdmhieejaa.H
set_option linter.unusedVariables false

theorem UtfBack (a0 : Int) (l1 : List Int) (g0 : (Lit.int .i64 a0).wf = true) (g1 : (∀ z ∈ l1, (Lit.int .u8 z).wf = true)) :
    clavierlaw02_UtfBack.f a0 l1 = some true := by
  have hb := wfB g1
  unfold clavierlaw02_UtfBack.f
  rw [awake, Option.bind_some]
  by_cases hl : (l1.length : Int) > 100
  · rw [if_pos hl]
  rw [if_neg hl, uput_eq, Option.bind_some, is_eq, Option.bind_some]
  by_cases h : isR a0
  · have hp := put_len h
    rw [if_pos (decide_eq_true h), Option.bind_some, if_pos (by simp; omega), Option.bind_some, List.nil_append, if_pos (by omega), utake_eq, take_put h hb, Option.bind_some]
    rw [if_pos rfl, if_pos rfl, if_pos rfl, if_pos (by omega)]
    exact congrArg some (decide_eq_true (by omega))
  · rw [if_neg (by simp [h]), if_pos rfl, put_none h]
    rfl

end Go.Proofs.Ytgbjfjdmhieejaa.Pure
