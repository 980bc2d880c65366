import Derived.Test.YtehnppklfaoikaaF1
/- What Few says. -/
namespace Go.Proofs.Ytehnppklfaoikaa.L
open Go Go.RowKit Go.Proofs.Ytehnppklfaoikaa.F Go.Proofs.YtehnppklfaoikaaW.PrintWords Go.Proofs.YtehnppklfaoikaaW.PrintLast Go.Proofs.YtehnppklfaoikaaW.PrintMore

theorem Few_from (l : List (S32)) : ∀ m i : Nat, i + m = 31 → ∃ k b, clavierref04_Few.l0 k l (i : Int) = some b ∧ (b = true → l.length ≤ 30 ∧ ∀ t : Nat, i ≤ t → t < l.length → ((rd_T32 l (t : Int)).f0).length ≤ 200) := by
  intro m
  induction m with
  | zero =>
    intro i hi
    refine ⟨2, decide ((l.length : Int) ≤ 30), ?_, fun h => ⟨by have := of_decide_eq_true h; omega, fun t h1 h2 => by have := of_decide_eq_true h; omega⟩⟩
    obtain rfl : i = 31 := by omega
    simp only [clavierref04_Few.l0]
    split
    · rw [decide_eq_false (by omega)]; simp only [clavierref04_Few.j1]; rw [if_neg (by decide)]
    · simp only [clavierref04_Few.j1]; rw [if_neg (by decide)]
  | succ m ih =>
    intro i hi
    by_cases h1 : i < l.length
    · by_cases h2 : ((rd_T32 l (i : Int)).f0).length > 200
      · refine ⟨2, false, ?_, fun h => by cases h⟩
        simp only [clavierref04_Few.l0]
        rw [if_pos (by omega), decide_eq_true (by omega)]
        simp only [clavierref04_Few.j1]
        rw [if_pos trivial, if_pos (by omega), if_pos (by omega), if_pos (by omega)]
      · obtain ⟨k, b, hk, hb⟩ := ih (i + 1) (by omega)
        refine ⟨k + 2, b, ?_, fun h => ⟨(hb h).1, fun t h3 h4 => ?_⟩⟩
        · simp only [clavierref04_Few.l0]
          rw [if_pos (by omega), decide_eq_true (by omega)]
          simp only [clavierref04_Few.j1]
          rw [if_pos trivial, if_pos (by omega), if_pos (by omega), if_neg (by omega), IntWalk.wrap64_in _ (by omega)]
          exact hk
        · rcases Nat.lt_or_ge i t with h5 | h5
          · exact (hb h).2 t h5 h4
          · obtain rfl : t = i := by omega
            omega
    · refine ⟨2, decide ((l.length : Int) ≤ 30), ?_, fun h => ⟨by have := of_decide_eq_true h; omega, fun t h3 h4 => by omega⟩⟩
      simp only [clavierref04_Few.l0]
      rw [if_neg (by omega)]
      simp only [clavierref04_Few.j1]
      rw [if_neg (by decide)]
theorem Few_says (l : List (S32)) : ∃ k b, clavierref04_Few.f k l = some b ∧ (b = true → l.length ≤ 30 ∧ ∀ t : Nat, t < l.length → ((rd_T32 l (t : Int)).f0).length ≤ 200) := by
  obtain ⟨k, b, h1, h2⟩ := Few_from l 31 0 rfl
  exact ⟨k, b, h1, fun h => ⟨(h2 h).1, fun t => (h2 h).2 t (Nat.zero_le _)⟩⟩

end Go.Proofs.Ytehnppklfaoikaa.L
