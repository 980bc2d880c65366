import Derived.Test.YtpljdaahkiabkaaM3
namespace Go.Proofs.Ytpljdaahkiabkaa.Pure
open Go.RowKit Go.Proofs.YtpljdaahkiabkaaW.PrintWords Go.Proofs.Ytpljdaahkiabkaa.M Go.Proofs.Ytpljdaahkiabkaa.H

theorem awakeM : clavierlaw15_awake.f = some true := by
  have h1 : track_Tell.f 1002 0 0 1 4 3 4 0 = some (3, 4, true) := by decide
  have h2 : track_Tell.f 1002 3 4 1 4 3 4 0 = some (3, 4, false) := by decide
  have h3 : track_Tell.f 1000 0 0 1 4 3 4 0 = some (0, 0, false) := by decide
  have h4 : track_May.f 1 4 3 4 0 = some true := by decide
  unfold clavierlaw15_awake.f
  rw [h1, Option.bind_some]
  show (track_Tell.f 1002 3 4 1 4 3 4 0).bind _ = _
  rw [h2, Option.bind_some, h3, Option.bind_some]
  simp [h4]
theorem buttonM (b : Int) : clavierref15_button.f b = some (decide (1 ≤ b ∧ b ≤ 3 ∨ 8 ≤ b ∧ b ≤ 11)) := by
  unfold clavierref15_button.f
  repeat' split
  all_goals (congr 1; rw [Bool.eq_iff_iff]; simp <;> omega)
theorem ref_MayM (k : Nat) (b t x y m : Int) : clavierref15_May.f (k + 1) b t x y m = some (mayB b t x y m) := by
  by_cases hr : 1 ≤ x ∧ x ≤ 65535 ∧ 1 ≤ y ∧ y ≤ 65535 ∧ 0 ≤ m ∧ m ≤ 255
  · have e : clavierref15_May.f (k + 1) b t x y m = clavierref15_May.j0 (k + 1) false b t x y m := by
      unfold clavierref15_May.f
      rw [if_neg (by omega), if_neg (by omega), if_neg (by omega), if_neg (by omega), if_neg (by omega), decide_eq_false (by omega)]
    rw [e]
    simp only [clavierref15_May.j0]
    rw [buttonM]
    simp only [Option.bind_some]
    unfold mayB
    rw [if_neg (by decide)]
    repeat' split
    all_goals (congr 1; rw [Bool.eq_iff_iff]; simp <;> omega)
  · have e : clavierref15_May.f (k + 1) b t x y m = clavierref15_May.j0 (k + 1) true b t x y m := by
      unfold clavierref15_May.f
      repeat' split
      all_goals (first | rfl | rw [decide_eq_true (by omega)])
    rw [e]
    simp only [clavierref15_May.j0]
    have hm : mayB b t x y m = false := decide_eq_false (by omega)
    rw [hm]
    simp

set_option linter.unusedVariables false
theorem TrackMoves (a0_0 : Int) (a0_1 : Int) (a0_2 : Int) (a0_3 : Int) (a0_4 : Int) (a1_0 : Int) (a1_1 : Int) (a2 : Bool) (g0_0 : (Lit.int .i64 a0_0).wf = true) (g0_1 : (Lit.int .i64 a0_1).wf = true) (g0_2 : (Lit.int .i64 a0_2).wf = true) (g0_3 : (Lit.int .i64 a0_3).wf = true) (g0_4 : (Lit.int .i64 a0_4).wf = true) (g1_0 : (Lit.int .i64 a1_0).wf = true) (g1_1 : (Lit.int .i64 a1_1).wf = true) :
    ∃ k, clavierlaw15_TrackMoves.f k a0_0 a0_1 a0_2 a0_3 a0_4 a1_0 a1_1 a2 = some true := by
  refine ⟨1, ?_⟩
  unfold clavierlaw15_TrackMoves.f
  rw [awakeM, Option.bind_some]
  show (if mayB a0_0 a0_1 a0_2 a0_3 a0_4 = true then _ else _) = _
  have jt : clavierlaw15_TrackMoves.j0 1 a2 true true a0_0 a0_1 a0_2 a0_3 a0_4 a1_0 a1_1 = some true := by
    rw [clavierlaw15_TrackMoves.j0, if_pos rfl]
  have mt : ∀ m sx sy b t x y d, tellB m sx sy b t x y d = true → track_Tell.f m sx sy b t x y d = some (x, y, true) := fun m sx sy b t x y d h => if_pos h
  have mf : ∀ m sx sy b t x y d, tellB m sx sy b t x y d = false → track_Tell.f m sx sy b t x y d = some (sx, sy, false) := fun m sx sy b t x y d h => if_neg (by rw [h]; decide)
  have jf : mayB a0_0 a0_1 a0_2 a0_3 a0_4 = true → a0_1 = 4 → ¬ (a1_0 = a0_2 ∧ a1_1 = a0_3) → mayB 0 4 a1_0 a1_1 0 = true → clavierlaw15_TrackMoves.j0 1 a2 true false a0_0 a0_1 a0_2 a0_3 a0_4 a1_0 a1_1 = some true := by
    intro hm h4 hn hr
    subst h4
    have hb : mayB a0_0 4 a1_0 a1_1 a0_4 = true := by
      unfold mayB at hm hr ⊢
      rw [decide_eq_true_eq] at hm hr ⊢
      omega
    rw [clavierlaw15_TrackMoves.j0, if_neg (by decide)]
    cases a2
    · rw [if_neg (by decide)]
      rw [mt _ _ _ _ _ _ _ _ (decide_eq_true ⟨hm, by omega, by omega⟩)]
      simp only [Option.bind_some]
      rw [mf _ _ _ _ _ _ _ _ (decide_eq_false (by omega)), mt _ _ _ _ _ _ _ _ (decide_eq_true ⟨hb, by omega, by omega⟩)]
      rfl
    · rw [if_pos rfl]
      by_cases h0 : a0_0 = 0
      · subst h0
        rw [mf _ _ _ _ _ _ _ _ (decide_eq_false (by omega))]
        simp only [Option.bind_some]
        rw [mf _ _ _ _ _ _ _ _ (decide_eq_false (by omega)), mf _ _ _ _ _ _ _ _ (decide_eq_false (by omega))]
        rfl
      · rw [mt _ _ _ _ _ _ _ _ (decide_eq_true ⟨hm, by omega, by omega⟩)]
        simp only [Option.bind_some]
        rw [mf _ _ _ _ _ _ _ _ (decide_eq_false (by omega)), mt _ _ _ _ _ _ _ _ (decide_eq_true ⟨hb, by omega, by omega⟩)]
        simp [h0]
  by_cases hm : mayB a0_0 a0_1 a0_2 a0_3 a0_4 = true
  · rw [if_pos hm]
    by_cases h4 : a0_1 = 4
    · rw [if_pos h4]
      have jj : ∀ b : Bool, (¬ (a1_0 = a0_2 ∧ a1_1 = a0_3)) → ((clavierref15_May.f 1 0 4 a1_0 a1_1 0).bind fun t122 => (clavierlaw15_TrackMoves.j0 1 a2 true (!t122) a0_0 a0_1 a0_2 a0_3 a0_4 a1_0 a1_1)) = some true := by
        intro _ hn
        rw [ref_MayM 0, Option.bind_some]
        cases hr : mayB 0 4 a1_0 a1_1 0
        · exact jt
        · exact jf hm h4 hn hr
      by_cases hx : a1_0 = a0_2
      · rw [if_pos hx]
        by_cases hy : a1_1 = a0_3
        · rw [if_pos hy]
          exact jt
        · rw [if_neg hy]
          exact jj true (by omega)
      · rw [if_neg hx]
        exact jj true (by omega)
    · rw [if_neg h4]
      exact jt
  · rw [if_neg hm]
    exact jt

end Go.Proofs.Ytpljdaahkiabkaa.Pure
