import Derived.Test.YtgbjfjdmhieejaaUtfPlainA
import Derived.Test.YtgbjfjdmhieejaaR4
namespace Go.Proofs.Ytgbjfjdmhieejaa.Pure
open Go.RowKit Go.Proofs.YtgbjfjdmhieejaaW.PrintWords Go.Proofs.Ytgbjfjdmhieejaa.R Go.Proofs.Ytgbjfjdmhieejaa.H
set_option linter.unusedVariables false

theorem UtfJoins (l0 : List Int) (l1 : List Int) (g0 : (∀ z ∈ l0, (Lit.int .u8 z).wf = true)) (g1 : (∀ z ∈ l1, (Lit.int .u8 z).wf = true)) (s0 : l0.length ≤ 140737488351232) (s1 : l1.length ≤ 140737488351232) :
    ∃ k, clavierlaw02_UtfJoins.f k l0 l1 = some true := by
  have hb0 := wfB g0
  have hb1 := wfB g1
  refine ⟨200, ?_⟩
  unfold clavierlaw02_UtfJoins.f
  rw [awake, Option.bind_some]
  by_cases hl : (wrap64 ((l0.length : Int) + (l1.length : Int))) > 100
  · rw [if_pos hl, clavierlaw02_UtfJoins.j0, if_pos rfl]
  rw [if_neg hl]
  rw [wr (by omega) (by omega)] at hl
  rw [uvalid_eq (by omega), Option.bind_some, clavierlaw02_UtfJoins.j0]
  by_cases hv : (allC l0).2 = true
  · obtain ⟨t1, t2⟩ := text_of_all _ l0 (Nat.le_refl _) hv
    have hj := all_text (allC l0).1 l1 t2 hb1
    rw [t1] at hj
    have a0 := all_len l0
    have a1 := all_len l1
    rw [hv, if_neg (by decide), uall_eq (by omega), Option.bind_some, uall_eq (by omega), Option.bind_some, Option.bind_some, if_pos (by simp; omega), Option.bind_some, List.nil_append, if_pos (by omega), uall_eq (by rw [List.length_append]; omega), Option.bind_some, if_pos rfl, hj]
    by_cases hw : (allC l1).2 = true
    · rw [if_pos hw, hw]
      dsimp only
      rw [if_pos (by decide), if_pos rfl, Option.bind_some, if_pos (by simp; omega), Option.bind_some, List.nil_append, if_pos (by omega), ints_eq _ _ _ (by rw [List.length_append]; omega) (by rw [List.length_append]; omega), Option.bind_some]
      simp
    · rw [if_neg hw, if_pos (by simp [hw]), if_neg hw]
  · rw [if_pos (by simp [hv])]

end Go.Proofs.Ytgbjfjdmhieejaa.Pure
