import Derived.Test.YtehnppklfaoikaaL3
namespace Go.Proofs.Ytehnppklfaoikaa.Pure
open Go.RowKit Go.Proofs.YtehnppklfaoikaaW.PrintWords Go.Proofs.Ytehnppklfaoikaa.L Go.Proofs.Ytehnppklfaoikaa.H Go.Proofs.Ytehnppklfaoikaa.F

theorem QueueWhole (a0 : Int) (l1 : List S32) (g0 : (Lit.int .u16 a0).wf = true) (g1 : (∀ z ∈ l1, (∀ y ∈ z.f0, (Lit.int .u8 y).wf = true) ∧ (Lit.int .i64 z.f1).wf = true)) :
    clavierlaw04_QueueWhole.f a0 l1 = some true := clavierlaw04_QueueWhole.is a0 l1 g0

end Go.Proofs.Ytehnppklfaoikaa.Pure
