import Derived.Test.YtkbepgelgcoihaaKeysPlainT
import Derived.Test.YtkbepgelgcoihaaS4
namespace Go.Proofs.Ytkbepgelgcoihaa.Pure
open Go.RowKit Go.Proofs.YtkbepgelgcoihaaW.PrintWords Go.Proofs.Ytkbepgelgcoihaa.S Go.Proofs.Ytkbepgelgcoihaa.H
set_option linter.unusedVariables false

theorem row_loop (a : Int) (ha : 0 ≤ a ∧ a ≤ 255) : ∀ (m i : Nat) (k : Nat), i + m = 120 → clavierlaw09_KeysRow.l0 (k + (m + 11)) a true i = some true := by
  intro m
  induction m with
  | zero =>
    intro i k hi
    rw [show k + (0 + 11) = (k + 10) + 1 by omega, clavierlaw09_KeysRow.l0, if_neg (by omega), if_pos rfl]
    rw [show keys_Look.f 57343 = some (lookE 57343) from rfl, show keys_Look.f 63744 = some (lookE 63744) from rfl, show keys_Look.f 63743 = some (lookE 63743) from rfl]
    decide +kernel
  | succ m ih =>
    intro i k hi
    rw [show k + (m + 1 + 11) = (k + (m + 11)) + 1 by omega, clavierlaw09_KeysRow.l0, if_pos (by omega), show ∀ c, keys_Look.f c = some (lookE c) from fun _ => rfl, Option.bind_some, show k + (m + 11) = (k + m + 1) + 10 by omega, ref_look, Option.bind_some]
    unfold clavierlaw09_made.f
    rw [Option.bind_some, if_neg (by simp), wr (by omega) (by omega), show (i : Int) + 1 = ((i + 1 : Nat) : Int) by omega]
    have := ih (i + 1) k (by omega)
    rw [show k + (m + 11) = (k + m + 1) + 10 by omega] at this
    exact this
theorem KeysRow (a0 : Int) (g0 : (Lit.int .u8 a0).wf = true) :
    ∃ k, clavierlaw09_KeysRow.f k a0 = some true := by
  refine ⟨0 + (120 + 11), ?_⟩
  unfold clavierlaw09_KeysRow.f
  rw [awake, Option.bind_some]
  exact row_loop a0 (wf8 g0) 120 0 0 (by omega)

end Go.Proofs.Ytkbepgelgcoihaa.Pure
