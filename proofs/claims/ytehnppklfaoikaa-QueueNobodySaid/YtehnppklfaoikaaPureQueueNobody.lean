import Derived.Test.YtehnppklfaoikaaL1
namespace Go.Proofs.Ytehnppklfaoikaa.Pure
open Go.RowKit Go.Proofs.YtehnppklfaoikaaW.PrintWords Go.Proofs.Ytehnppklfaoikaa.L Go.Proofs.Ytehnppklfaoikaa.H

theorem QueueNobody (l0 : List Int) (a1 : Int) (g0 : (∀ z ∈ l0, (Lit.int .u8 z).wf = true)) (g1 : (Lit.int .i64 a1).wf = true) :
    clavierlaw04_QueueNobody.f l0 a1 = some true := rfl

end Go.Proofs.Ytehnppklfaoikaa.Pure
