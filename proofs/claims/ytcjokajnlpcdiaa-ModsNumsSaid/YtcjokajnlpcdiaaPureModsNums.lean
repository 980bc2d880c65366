import Derived.Test.YtcjokajnlpcdiaaModsPlain
import Derived.Test.YtcjokajnlpcdiaaR9
namespace Go.Proofs.Ytcjokajnlpcdiaa.Pure
open Go.RowKit Go.Proofs.YtcjokajnlpcdiaaW.PrintWords Go.Proofs.Ytcjokajnlpcdiaa.R Go.Proofs.Ytcjokajnlpcdiaa.H
set_option linter.unusedVariables false

theorem ModsNums (a0 : Int) (g0 : (Lit.int .i64 a0).wf = true) :
    clavierlaw10_ModsNums.f a0 = some true := by
  have h := mwf64 g0
  unfold clavierlaw10_ModsNums.f
  rw [awake, Option.bind_some, show clavierref10_Of.f a0 = mods_Of.f a0 from rfl]
  obtain ⟨x, hx⟩ : ∃ x, mods_Of.f a0 = some x := by
    unfold mods_Of.f
    by_cases h1 : a0 < 1
    · rw [if_pos h1]; exact ⟨_, rfl⟩
    · rw [if_neg h1]
      by_cases h2 : a0 > 256
      · rw [if_pos h2]; exact ⟨_, rfl⟩
      · rw [if_neg h2]; exact ⟨_, rfl⟩
  obtain ⟨y, hy⟩ : ∃ x, mods_Param.f a0 = some x := by
    unfold mods_Param.f
    by_cases h1 : a0 < 0
    · rw [if_pos h1]; exact ⟨_, rfl⟩
    · rw [if_neg h1]
      by_cases h2 : a0 > 255
      · rw [if_pos h2]; exact ⟨_, rfl⟩
      · rw [if_neg h2]; exact ⟨_, rfl⟩
  rw [hx, Option.bind_some, Option.bind_some, if_pos rfl, show mods_Old.f a0 = some ((mx a0 0) % 8) from congrArg some (and7 a0 h.2), Option.bind_some, show clavierref10_Old.f a0 = some ((mx a0 0) % 8) from rfl, Option.bind_some, if_pos rfl, show clavierref10_Param.f a0 = mods_Param.f a0 from rfl, hy, Option.bind_some, Option.bind_some, if_pos rfl, if_pos rfl]
  simp

end Go.Proofs.Ytcjokajnlpcdiaa.Pure
