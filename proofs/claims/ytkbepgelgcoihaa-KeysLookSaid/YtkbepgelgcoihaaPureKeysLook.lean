import Derived.Test.YtkbepgelgcoihaaKeysPlainT
import Derived.Test.YtkbepgelgcoihaaS3
namespace Go.Proofs.Ytkbepgelgcoihaa.Pure
open Go.RowKit Go.Proofs.YtkbepgelgcoihaaW.PrintWords Go.Proofs.Ytkbepgelgcoihaa.S Go.Proofs.Ytkbepgelgcoihaa.H
set_option linter.unusedVariables false

theorem KeysLook (a0 : Int) (g0 : (Lit.int .i64 a0).wf = true) :
    ∃ k, clavierlaw09_KeysLook.f k a0 = some true := by
  refine ⟨10, ?_⟩
  unfold clavierlaw09_KeysLook.f
  rw [awake, Option.bind_some, if_pos rfl, show keys_Look.f a0 = some (lookE a0) from rfl, Option.bind_some, ref_look 0 a0, Option.bind_some]
  unfold clavierlaw09_made.f
  rw [Option.bind_some]
  simp

end Go.Proofs.Ytkbepgelgcoihaa.Pure
