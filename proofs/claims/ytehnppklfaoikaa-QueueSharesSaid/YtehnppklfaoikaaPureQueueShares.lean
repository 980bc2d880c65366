import Derived.Test.YtehnppklfaoikaaL4
namespace Go.Proofs.Ytehnppklfaoikaa.Pure
open Go.RowKit Go.Proofs.YtehnppklfaoikaaW.PrintWords Go.Proofs.Ytehnppklfaoikaa.L Go.Proofs.Ytehnppklfaoikaa.H Go.Proofs.Ytehnppklfaoikaa.F

theorem QueueShares (l0 : List Int) (l1 : List Int) (g0 : (∀ z ∈ l0, (Lit.int .u8 z).wf = true)) (g1 : (∀ z ∈ l1, (Lit.int .u8 z).wf = true)) :
    clavierlaw04_QueueShares.f l0 l1 = some true := rfl

end Go.Proofs.Ytehnppklfaoikaa.Pure
