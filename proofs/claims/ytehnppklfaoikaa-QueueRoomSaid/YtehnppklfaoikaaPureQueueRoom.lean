import Derived.Test.YtehnppklfaoikaaL2
namespace Go.Proofs.Ytehnppklfaoikaa.Pure
open Go.RowKit Go.Proofs.YtehnppklfaoikaaW.PrintWords Go.Proofs.Ytehnppklfaoikaa.L Go.Proofs.Ytehnppklfaoikaa.H Go.Proofs.Ytehnppklfaoikaa.F

theorem QueueRoom (l0 : List S32) (l1 : List Int) (g0 : (∀ z ∈ l0, (∀ y ∈ z.f0, (Lit.int .u8 y).wf = true) ∧ (Lit.int .i64 z.f1).wf = true)) (g1 : (∀ z ∈ l1, (Lit.int .u8 z).wf = true)) :
    clavierlaw04_QueueRoom.f l0 l1 = some true := rfl

end Go.Proofs.Ytehnppklfaoikaa.Pure
