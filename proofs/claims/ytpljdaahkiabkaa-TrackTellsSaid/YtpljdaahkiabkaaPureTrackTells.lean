import Derived.Test.YtpljdaahkiabkaaTrackPlain
import Derived.Test.YtpljdaahkiabkaaQ5
namespace Go.Proofs.Ytpljdaahkiabkaa.Pure
open Go.RowKit Go.Proofs.YtpljdaahkiabkaaW.PrintWords Go.Proofs.Ytpljdaahkiabkaa.Q Go.Proofs.Ytpljdaahkiabkaa.H

set_option linter.unusedVariables false
theorem TrackTells (a0 : Int) (a1_0 : Int) (a1_1 : Int) (a2_0 : Int) (a2_1 : Int) (a2_2 : Int) (a2_3 : Int) (a2_4 : Int) (g0 : (Lit.int .i64 a0).wf = true) (g1_0 : (Lit.int .i64 a1_0).wf = true) (g1_1 : (Lit.int .i64 a1_1).wf = true) (g2_0 : (Lit.int .i64 a2_0).wf = true) (g2_1 : (Lit.int .i64 a2_1).wf = true) (g2_2 : (Lit.int .i64 a2_2).wf = true) (g2_3 : (Lit.int .i64 a2_3).wf = true) (g2_4 : (Lit.int .i64 a2_4).wf = true) :
    ∃ k, clavierlaw15_TrackTells.f k a0 a1_0 a1_1 a2_0 a2_1 a2_2 a2_3 a2_4 = some true := by
  refine ⟨4, ?_⟩
  unfold clavierlaw15_TrackTells.f
  rw [awake 3, Option.bind_some, ref_Tell 1, ref_May 1]
  unfold track_Tell.f track_May.f
  cases tellB a0 a1_0 a1_1 a2_0 a2_1 a2_2 a2_3 a2_4 <;> simp [clavierlaw15_TrackTells.j0]

end Go.Proofs.Ytpljdaahkiabkaa.Pure
