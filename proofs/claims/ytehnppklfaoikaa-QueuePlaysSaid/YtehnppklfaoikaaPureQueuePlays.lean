import Derived.Test.YtehnppklfaoikaaL6
namespace Go.Proofs.Ytehnppklfaoikaa.Pure
open Go.RowKit Go.Proofs.YtehnppklfaoikaaW.PrintWords Go.Proofs.Ytehnppklfaoikaa.L Go.Proofs.Ytehnppklfaoikaa.H Go.Proofs.Ytehnppklfaoikaa.F

theorem QueuePlays (a0 : Int) (l1 : List S32) (g0 : (Lit.int .i64 a0).wf = true) (g1 : (∀ z ∈ l1, (∀ y ∈ z.f0, (Lit.int .u8 y).wf = true) ∧ (Lit.int .i64 z.f1).wf = true)) :
    clavierlaw04_QueuePlays.f a0 l1 = some true := rfl

end Go.Proofs.Ytehnppklfaoikaa.Pure
