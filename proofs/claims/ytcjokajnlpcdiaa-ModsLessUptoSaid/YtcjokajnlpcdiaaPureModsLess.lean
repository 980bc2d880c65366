import Derived.Test.YtcjokajnlpcdiaaModsPlain
import Derived.Test.YtcjokajnlpcdiaaR9
namespace Go.Proofs.Ytcjokajnlpcdiaa.Pure
open Go.RowKit Go.Proofs.YtcjokajnlpcdiaaW.PrintWords Go.Proofs.Ytcjokajnlpcdiaa.R Go.Proofs.Ytcjokajnlpcdiaa.H
set_option linter.unusedVariables false

theorem clean_empty : cleanB (allC (numsS ⟨#[]⟩)).1 (allC (numsS ⟨#[]⟩)).2 = true := by decide +kernel
theorem ModsLess (a0_0 : Int) (a0_1 : Int) (a0_2 : Int) (a0_3 : Int) (a0_4 : Int) (a0_5 : ByteArray) (a1 : Int) (g0_0 : (Lit.int .i64 a0_0).wf = true) (g0_1 : (Lit.int .i64 a0_1).wf = true) (g0_2 : (Lit.int .i64 a0_2).wf = true) (g0_3 : (Lit.int .i64 a0_3).wf = true) (g0_4 : (Lit.int .i64 a0_4).wf = true) (g0_5 : a0_5.size ≤ maxLen) (g1 : (Lit.int .u8 a1).wf = true) (u0 : a0_5.size ≤ 1048576) :
    ∃ k, clavierlaw10_ModsLess.f k a0_0 a0_1 a0_2 a0_3 a0_4 a0_5 a1 = some true := by
  have hk := mwf8 g1
  refine ⟨0 + 11, ?_⟩
  unfold clavierlaw10_ModsLess.f
  rw [awake, Option.bind_some, refmay_eq 0 _ _ _ _ _ (by omega), Option.bind_some]
  cases hm : mayB a0_0 a0_1 a0_2 a0_3 a0_4 a0_5
  · rw [if_neg (by decide), if_pos rfl, umay_eq _ _ _ _ _ (by omega), hm]; rfl
  · have hm' := hm
    rw [may_split] at hm
    simp only [Bool.and_eq_true, decide_eq_true_eq] at hm
    obtain ⟨⟨⟨h1, h2, h3, h4⟩, h5⟩, h6, h7, h8⟩ := hm
    have hw : wrap64 (1 + wrap64 a1) = 1 + a1 := by rw [w64 (n := a1) (by omega) (by omega), w64 (by omega) (by omega)]
    have hmod : 0 ≤ Int.tmod a0_1 (1 + a1) ∧ Int.tmod a0_1 (1 + a1) ≤ 255 := by
      rw [Int.tmod_eq_emod_of_nonneg h1]
      have := Int.emod_nonneg a0_1 (show 1 + a1 ≠ 0 by omega)
      have := Int.emod_lt_of_pos a0_1 (show 0 < 1 + a1 by omega)
      omega
    have m1 : mayB a0_0 a0_1 a0_2 0 0 a0_5 = true := by
      rw [may_split]
      simp only [Bool.and_eq_true, decide_eq_true_eq]
      exact ⟨⟨⟨h1, h2, h3, h4⟩, h5⟩, rfl, rfl, h8⟩
    have m2 : mayB a0_0 a0_1 a0_2 a0_3 a0_4 ⟨#[]⟩ = true := by
      rw [may_split]
      simp only [Bool.and_eq_true, decide_eq_true_eq]
      exact ⟨⟨⟨h1, h2, h3, h4⟩, h5⟩, h6, h7, clean_empty⟩
    have m3 : mayB a0_0 (Int.tmod a0_1 (1 + a1)) a0_2 a0_3 a0_4 a0_5 = true := by
      rw [may_split]
      simp only [Bool.and_eq_true, decide_eq_true_eq]
      exact ⟨⟨⟨hmod.1, hmod.2, h3, h4⟩, h5⟩, h6, h7, h8⟩
    rw [if_pos rfl, hw, if_neg (by omega), if_pos rfl, umay_eq _ _ _ _ _ (by omega), hm', Option.bind_some, if_pos rfl, umay_eq _ _ _ _ _ (by omega), m1, Option.bind_some, if_pos rfl, umay_eq _ _ _ _ _ (by decide), m2, Option.bind_some, if_pos rfl, umay_eq _ _ _ _ _ (by omega), m3, Option.bind_some]

end Go.Proofs.Ytcjokajnlpcdiaa.Pure
