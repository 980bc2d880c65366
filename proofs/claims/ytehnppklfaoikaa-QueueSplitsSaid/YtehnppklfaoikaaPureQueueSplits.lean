import Derived.Test.YtehnppklfaoikaaL5
namespace Go.Proofs.Ytehnppklfaoikaa.Pure
open Go.RowKit Go.Proofs.YtehnppklfaoikaaW.PrintWords Go.Proofs.Ytehnppklfaoikaa.L Go.Proofs.Ytehnppklfaoikaa.H Go.Proofs.Ytehnppklfaoikaa.F

theorem QueueSplits (l0 : List S32) (a1_0 : Int) (a1_1 : Int) (g0 : (∀ z ∈ l0, (∀ y ∈ z.f0, (Lit.int .u8 y).wf = true) ∧ (Lit.int .i64 z.f1).wf = true)) (g1_0 : (Lit.int .i64 a1_0).wf = true) (g1_1 : (Lit.int .i64 a1_1).wf = true) :
    clavierlaw04_QueueSplits.f l0 a1_0 a1_1 = some true := rfl

end Go.Proofs.Ytehnppklfaoikaa.Pure
