import Derived.Test.YtkbepgelgcoihaaKeysPlain
import Derived.Test.YtkbepgelgcoihaaR6
namespace Go.Proofs.Ytkbepgelgcoihaa.Pure
open Go.RowKit Go.Proofs.YtkbepgelgcoihaaW.PrintWords Go.Proofs.Ytkbepgelgcoihaa.R Go.Proofs.Ytkbepgelgcoihaa.H
set_option linter.unusedVariables false

theorem pad_all : ∀ n : Fin 256, clavierlaw09_KeysPad.f 3 (n.val : Int) = some true := by decide +kernel
theorem KeysPad (a0 : Int) (g0 : (Lit.int .u8 a0).wf = true) :
    ∃ k, clavierlaw09_KeysPad.f k a0 = some true := by
  have ha := wf8 g0
  refine ⟨3, ?_⟩
  have := each (P := fun a => clavierlaw09_KeysPad.f 3 a = some true) 0 256 (fun i => by rw [Int.zero_add]; exact pad_all i) a0 ha.1 (by omega)
  exact this

end Go.Proofs.Ytkbepgelgcoihaa.Pure
