import Derived.Test.YtcjokajnlpcdiaaModsPlain
import Derived.Test.YtcjokajnlpcdiaaR9
namespace Go.Proofs.Ytcjokajnlpcdiaa.Pure
open Go.RowKit Go.Proofs.YtcjokajnlpcdiaaW.PrintWords Go.Proofs.Ytcjokajnlpcdiaa.R Go.Proofs.Ytcjokajnlpcdiaa.H
set_option linter.unusedVariables false

theorem ModsBack (a0 : Int) (a1 : Int) (g0 : (Lit.int .u8 a0).wf = true) (g1 : (Lit.int .u8 a1).wf = true) :
    clavierlaw10_ModsBack.f a0 a1 = some true := by
  have h := mwf8 g0
  have k := mwf8 g1
  have hp : ∀ a : Int, 0 ≤ a ∧ a ≤ 255 → mods_Param.f a = some (a + 1) := fun a ha => by
    unfold mods_Param.f
    rw [if_neg (by omega), if_neg (by omega), w64 (by omega) (by omega)]
  unfold clavierlaw10_ModsBack.f
  rw [awake, Option.bind_some, w64 (n := a0) (by omega) (by omega), w64 (n := a1) (by omega) (by omega), hp a0 h, Option.bind_some]
  have ho : mods_Of.f (a0 + 1) = some (a0, true) := by
    unfold mods_Of.f
    rw [if_neg (by omega), if_neg (by omega), w64 (by omega) (by omega)]
    congr 2
    omega
  rw [ho, Option.bind_some, if_pos rfl, if_pos rfl, if_pos rfl, Option.bind_some, hp a1 k, Option.bind_some]
  rw [if_pos (by
    rw [beq_iff_eq, Bool.eq_iff_iff, beq_iff_eq, beq_iff_eq]
    omega)]
  rw [show mods_Old.f a0 = some ((mx a0 0) % 8) from congrArg some (and7 a0 (by omega)), Option.bind_some, Int.tmod_eq_emod_of_nonneg h.1]
  rw [show mx a0 0 = a0 by unfold mx; split <;> omega]
  simp

end Go.Proofs.Ytcjokajnlpcdiaa.Pure
