import Derived.Test.YtpljdaahkiabkaaR3
namespace Go.Proofs.Ytpljdaahkiabkaa.Pure
open Go.RowKit Go.Proofs.YtpljdaahkiabkaaW.PrintWords Go.Proofs.Ytpljdaahkiabkaa.R Go.Proofs.Ytpljdaahkiabkaa.H

set_option linter.unusedVariables false
theorem TrackMay (a0 : Int) (a1_0 : Int) (a1_1 : Int) (a1_2 : Int) (a1_3 : Int) (a1_4 : Int) (g0 : (Lit.int .i64 a0).wf = true) (g1_0 : (Lit.int .i64 a1_0).wf = true) (g1_1 : (Lit.int .i64 a1_1).wf = true) (g1_2 : (Lit.int .i64 a1_2).wf = true) (g1_3 : (Lit.int .i64 a1_3).wf = true) (g1_4 : (Lit.int .i64 a1_4).wf = true) :
    clavierlaw15_TrackMay.f a0 a1_0 a1_1 a1_2 a1_3 a1_4 = some true := by
  have h1 : track_Tell.f 1002 0 0 1 4 3 4 0 = some (3, 4, true) := by decide
  have h2 : track_Tell.f 1002 3 4 1 4 3 4 0 = some (3, 4, false) := by decide
  have h3 : track_Tell.f 1000 0 0 1 4 3 4 0 = some (0, 0, false) := by decide
  have h4 : track_May.f 1 4 3 4 0 = some true := by decide
  have up : clavierlaw15_awake.f = some true := by
    unfold clavierlaw15_awake.f
    rw [h1, Option.bind_some]
    show (track_Tell.f 1002 3 4 1 4 3 4 0).bind _ = _
    rw [h2, Option.bind_some, h3, Option.bind_some]
    simp [h4]
  clear h1 h2 h3 h4
  have hm0 : mayB a1_0 a1_1 a1_2 a1_3 a1_4 = false → tellB a0 0 0 a1_0 a1_1 a1_2 a1_3 a1_4 = false := by
    intro h
    unfold tellB
    rw [h]
    exact decide_eq_false (by simp)
  have hw : 4 ≤ a1_0 → a1_0 ≤ 7 → ¬ a1_1 = 1 → mayB a1_0 a1_1 a1_2 a1_3 a1_4 = false := fun _ _ _ => decide_eq_false (by omega)
  unfold clavierlaw15_TrackMay.f
  rw [up, Option.bind_some]
  unfold track_Tell.f track_May.f
  cases hm : mayB a1_0 a1_1 a1_2 a1_3 a1_4 with
  | false => simp [hm0 hm]
  | true =>
    have hne : 4 ≤ a1_0 → a1_0 ≤ 7 → a1_1 = 1 := by
      intro x y
      by_cases h : a1_1 = 1
      · exact h
      · rw [hw x y h] at hm
        cases hm
    cases tellB a0 0 0 a1_0 a1_1 a1_2 a1_3 a1_4
    all_goals
      by_cases c1 : 4 ≤ a1_0
      · by_cases c2 : a1_0 ≤ 7
        · simp [hne c1 c2]
        · simp [c2]
      · simp [c1]

end Go.Proofs.Ytpljdaahkiabkaa.Pure
