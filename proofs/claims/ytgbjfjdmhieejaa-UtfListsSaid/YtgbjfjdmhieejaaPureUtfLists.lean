import Derived.Test.YtgbjfjdmhieejaaUtfPlainA
import Derived.Test.YtgbjfjdmhieejaaR5
namespace Go.Proofs.Ytgbjfjdmhieejaa.Pure
open Go.RowKit Go.Proofs.YtgbjfjdmhieejaaW.PrintWords Go.Proofs.Ytgbjfjdmhieejaa.R Go.Proofs.Ytgbjfjdmhieejaa.H
set_option linter.unusedVariables false

theorem UtfLists (l0 : List Int) (l1 : List Int) (g0 : (∀ z ∈ l0, (Lit.int .i64 z).wf = true)) (g1 : (∀ z ∈ l1, (Lit.int .u8 z).wf = true)) :
    ∃ k, clavierlaw02_UtfLists.f k l0 l1 = some true := by
  have hb1 := wfB g1
  refine ⟨202, ?_⟩
  unfold clavierlaw02_UtfLists.f
  rw [awake, Option.bind_some]
  by_cases hl : (l1.length : Int) > 100
  · rw [if_pos hl, clavierlaw02_UtfLists.j0, if_pos rfl]
  rw [if_neg hl, clavierlaw02_UtfLists.j0]
  by_cases hm : (l0.length : Int) > 40
  · rw [if_pos (decide_eq_true hm)]
  have a1 := all_len l1
  have hj : clavierlaw02_UtfLists.j1 201 l1 true = some true := by
    rw [clavierlaw02_UtfLists.j1, uall_eq (by omega), Option.bind_some]
    by_cases hv : (allC l1).2 = true
    · obtain ⟨t1, t2⟩ := text_of_all _ l1 (Nat.le_refl _) hv
      rw [if_pos hv, utext_eq _ (by omega) 200 (by omega), Option.bind_some, if_pos rfl]
      unfold textC
      rw [if_pos t2, if_pos rfl, t1]
      simp
    · rw [if_neg hv, if_pos rfl, uvalid_eq (by omega), Option.bind_some]
      simp [hv]
  rw [if_neg (by simp; omega), utext_eq l0 (by omega) 201 (by omega), Option.bind_some, hj]
  unfold textC
  by_cases ht : ∀ r ∈ l0, isR r
  · have hx := text_len l0
    rw [if_pos ht, if_pos rfl]
    dsimp only
    rw [uall_eq (by omega), Option.bind_some, all_of_text ht, if_pos rfl, ints_eq l0 l0 201 (by omega) (by omega), Option.bind_some, if_pos (by simp), uvalid_eq (by omega), Option.bind_some, all_of_text ht, if_pos rfl]
  · rw [if_neg ht, if_neg (by simp)]

end Go.Proofs.Ytgbjfjdmhieejaa.Pure
