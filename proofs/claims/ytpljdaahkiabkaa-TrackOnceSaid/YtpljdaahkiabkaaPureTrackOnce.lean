import Derived.Test.YtpljdaahkiabkaaTrackPlain
import Derived.Test.YtpljdaahkiabkaaQ7
namespace Go.Proofs.Ytpljdaahkiabkaa.Pure
open Go.RowKit Go.Proofs.YtpljdaahkiabkaaW.PrintWords Go.Proofs.Ytpljdaahkiabkaa.Q Go.Proofs.Ytpljdaahkiabkaa.H

theorem once_loop (a0 : Int) (hb : 0 ≤ a0 ∧ a0 ≤ 255) (l1 : List S25) (hl : (l1.length : Int) ≤ 40) (d : Nat) : ∀ (i s0 s1 : Int) (k : Nat), 0 ≤ i → (l1.length : Int) - i = d → 2 * d + 1 ≤ k →
    clavierlaw15_TrackOnce.l0 k a0 l1 true [9, 1000, 1002, 1003, 0] i s0 s1 = some true := by
  have h0 : 0 ≤ Int.tmod a0 5 := Int.tmod_nonneg 5 hb.1
  have h3 : Int.tmod a0 5 < 5 := by rw [Int.tmod_eq_emod_of_nonneg hb.1]; omega
  induction d with
  | zero =>
    intro i s0 s1 k hi hd hk
    obtain ⟨k, rfl⟩ : ∃ m, k = m + 1 := ⟨k - 1, by omega⟩
    rw [clavierlaw15_TrackOnce.l0, if_neg (by omega)]
  | succ d ih =>
    intro i s0 s1 k hi hd hk
    obtain ⟨k, rfl⟩ : ∃ m, k = m + 1 + 1 := ⟨k - 2, by omega⟩
    have hw : wrap64 (i + 1) = i + 1 := by unfold wrap64; omega
    have next : ∀ s0 s1, clavierlaw15_TrackOnce.j1 (k + 1) a0 l1 true [9, 1000, 1002, 1003, 0] i false s0 s1 = some true := by
      intro s0 s1
      rw [clavierlaw15_TrackOnce.j1, if_neg (by decide), hw]
      exact ih (i + 1) s0 s1 k (by omega) (by omega) (by omega)
    rw [clavierlaw15_TrackOnce.l0, if_pos (by omega), if_pos h0, if_pos (by simp; omega), if_pos hi]
    generalize rd [9, 1000, 1002, 1003, 0] (Int.tmod a0 5) = mode
    generalize rd_T25 l1 i = z
    unfold track_Tell.f
    by_cases ht : tellB mode s0 s1 z.f0 z.f1 z.f2 z.f3 z.f4 = true
    · rw [if_pos ht, Option.bind_some, if_pos rfl, if_neg (by simp)]
      by_cases h4 : z.f1 = 4
      · rw [if_pos h4, if_neg ?_]
        · exact next _ _
        · rw [tellB_eq] at ht
          simp only [Bool.and_eq_true, h4] at ht
          have := ht.2
          simp at this
          simp
          intro e
          exact this.resolve_left (fun h => h e)
      · rw [if_neg h4]
        exact next _ _
    · rw [if_neg ht, Option.bind_some, if_neg (by simp)]
      have : (!(s0 == s0) || !(s1 == s1)) = false := by simp
      simp only [this]
      exact next _ _

set_option linter.unusedVariables false
theorem TrackOnce (a0 : Int) (l1 : List S25) (g0 : (Lit.int .u8 a0).wf = true) (g1 : (∀ z ∈ l1, (Lit.int .i64 z.f0).wf = true ∧ ((Lit.int .i64 z.f1).wf = true ∧ ((Lit.int .i64 z.f2).wf = true ∧ ((Lit.int .i64 z.f3).wf = true ∧ (Lit.int .i64 z.f4).wf = true))))) :
    ∃ k, clavierlaw15_TrackOnce.f k a0 l1 = some true := by
  have hb : 0 ≤ a0 ∧ a0 ≤ 255 := by
    simp only [Lit.wf, Bool.and_eq_true, decide_eq_true_eq] at g0
    exact g0
  unfold clavierlaw15_TrackOnce.f
  by_cases hl : (l1.length : Int) > 40
  · exact ⟨1, by rw [awake 0, Option.bind_some, if_pos hl]⟩
  · refine ⟨2 * l1.length + 2, ?_⟩
    rw [awake (2 * l1.length + 1), Option.bind_some, if_neg hl]
    exact once_loop a0 hb l1 (by omega) l1.length 0 0 0 _ (by omega) (by omega) (by omega)

end Go.Proofs.Ytpljdaahkiabkaa.Pure
