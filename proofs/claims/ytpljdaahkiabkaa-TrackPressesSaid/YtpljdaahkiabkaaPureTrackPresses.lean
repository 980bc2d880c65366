import Derived.Test.YtpljdaahkiabkaaTrackPlain
import Derived.Test.YtpljdaahkiabkaaQ8
namespace Go.Proofs.Ytpljdaahkiabkaa.Pure
open Go.RowKit Go.Proofs.YtpljdaahkiabkaaW.PrintWords Go.Proofs.Ytpljdaahkiabkaa.Q Go.Proofs.Ytpljdaahkiabkaa.H

set_option linter.unusedVariables false
theorem TrackPresses (a0_0 : Int) (a0_1 : Int) (a1_0 : Int) (a1_1 : Int) (a1_2 : Int) (a1_3 : Int) (a1_4 : Int) (a2 : Int) (g0_0 : (Lit.int .i64 a0_0).wf = true) (g0_1 : (Lit.int .i64 a0_1).wf = true) (g1_0 : (Lit.int .i64 a1_0).wf = true) (g1_1 : (Lit.int .i64 a1_1).wf = true) (g1_2 : (Lit.int .i64 a1_2).wf = true) (g1_3 : (Lit.int .i64 a1_3).wf = true) (g1_4 : (Lit.int .i64 a1_4).wf = true) (g2 : (Lit.int .u8 a2).wf = true) :
    ∃ k, clavierlaw15_TrackPresses.f k a0_0 a0_1 a1_0 a1_1 a1_2 a1_3 a1_4 a2 = some true := by
  have hb : 0 ≤ a2 ∧ a2 ≤ 255 := by
    simp only [Lit.wf, Bool.and_eq_true, decide_eq_true_eq] at g2
    exact g2
  have h0 : 0 ≤ Int.tmod a2 3 := Int.tmod_nonneg 3 hb.1
  have h3 : Int.tmod a2 3 < 3 := by rw [Int.tmod_eq_emod_of_nonneg hb.1]; omega
  refine ⟨4, ?_⟩
  unfold clavierlaw15_TrackPresses.f
  rw [awake 3, Option.bind_some]
  unfold track_May.f
  rw [Option.bind_some]
  cases hm : mayB a1_0 a1_1 a1_2 a1_3 a1_4 with
  | false => simp [clavierlaw15_TrackPresses.j0]
  | true =>
    rw [if_pos rfl]
    by_cases h4 : a1_1 = 4
    · simp [clavierlaw15_TrackPresses.j0, h4]
    · have hmode : ∃ mode, rd [1000, 1002, 1003] (Int.tmod a2 3) = mode ∧ (mode = 1000 ∨ mode = 1002 ∨ mode = 1003) := by
        have : Int.tmod a2 3 = 0 ∨ Int.tmod a2 3 = 1 ∨ Int.tmod a2 3 = 2 := by omega
        rcases this with e | e | e <;> rw [e] <;> exact ⟨_, rfl, by decide⟩
      obtain ⟨mode, hr, hmo⟩ := hmode
      have ht : tellB mode a0_0 a0_1 a1_0 a1_1 a1_2 a1_3 a1_4 = true := by
        rw [tellB_eq, hm]
        have : wantB mode a1_0 a1_1 = true := decide_eq_true (by omega)
        simp [this, h4]
      have h9 : tellB 9 a0_0 a0_1 a1_0 a1_1 a1_2 a1_3 a1_4 = decide (a1_1 = 1 ∧ a1_0 ≤ 3) := by
        rw [tellB_eq, hm]
        have : wantB 9 a1_0 a1_1 = decide (a1_1 = 1 ∧ a1_0 ≤ 3) := by
          unfold wantB
          rw [Bool.eq_iff_iff]
          simp
        simp [this, h4]
      have e4 : (a1_1 == 4) = false := beq_eq_false_iff_ne.2 h4
      simp only [clavierlaw15_TrackPresses.j0, e4, Option.bind_some, List.length_cons, List.length_nil]
      rw [if_neg (by decide), if_pos h0, if_pos (by omega), hr]
      unfold track_Tell.f
      rw [ht, h9, if_pos rfl, Option.bind_some]
      by_cases h1 : a1_1 = 1
      · by_cases hb3 : a1_0 ≤ 3 <;> simp [clavierlaw15_TrackPresses.j1, h1, hb3]
      · simp [clavierlaw15_TrackPresses.j1, h1]

end Go.Proofs.Ytpljdaahkiabkaa.Pure
