import Derived.Test.YtpljdaahkiabkaaTrackPlain
import Derived.Test.YtpljdaahkiabkaaQ6
namespace Go.Proofs.Ytpljdaahkiabkaa.Pure
open Go.RowKit Go.Proofs.YtpljdaahkiabkaaW.PrintWords Go.Proofs.Ytpljdaahkiabkaa.Q Go.Proofs.Ytpljdaahkiabkaa.H

set_option linter.unusedVariables false
theorem TrackMore (a0_0 : Int) (a0_1 : Int) (a1_0 : Int) (a1_1 : Int) (a1_2 : Int) (a1_3 : Int) (a1_4 : Int) (a2 : Int) (g0_0 : (Lit.int .i64 a0_0).wf = true) (g0_1 : (Lit.int .i64 a0_1).wf = true) (g1_0 : (Lit.int .i64 a1_0).wf = true) (g1_1 : (Lit.int .i64 a1_1).wf = true) (g1_2 : (Lit.int .i64 a1_2).wf = true) (g1_3 : (Lit.int .i64 a1_3).wf = true) (g1_4 : (Lit.int .i64 a1_4).wf = true) (g2 : (Lit.int .i64 a2).wf = true) :
    ∃ k, clavierlaw15_TrackMore.f k a0_0 a0_1 a1_0 a1_1 a1_2 a1_3 a1_4 a2 = some true := by
  have hw : ∀ z : Int, wrap64 (z + 1) = z + 1 ∨ True := fun _ => .inr trivial
  have w0 : wrap64 (0 + 1) = 1 := by unfold wrap64; omega
  have w1 : wrap64 (1 + 1) = 2 := by unfold wrap64; omega
  have w2 : wrap64 (2 + 1) = 3 := by unfold wrap64; omega
  have w3 : wrap64 (3 + 1) = 4 := by unfold wrap64; omega
  have r0 : rd [9, 1000, 1002, 1003] 0 = 9 := rfl
  have r1 : rd [9, 1000, 1002, 1003] 1 = 1000 := rfl
  have r2 : rd [9, 1000, 1002, 1003] 2 = 1002 := rfl
  have r3 : rd [9, 1000, 1002, 1003] 3 = 1003 := rfl
  have tell : ∀ mode, ∃ x y, track_Tell.f mode a0_0 a0_1 a1_0 a1_1 a1_2 a1_3 a1_4 = some (x, y, tellB mode a0_0 a0_1 a1_0 a1_1 a1_2 a1_3 a1_4) ∧ (tellB mode a0_0 a0_1 a1_0 a1_1 a1_2 a1_3 a1_4 = false → x = a0_0 ∧ y = a0_1) := by
    intro mode
    unfold track_Tell.f
    cases h : tellB mode a0_0 a0_1 a1_0 a1_1 a1_2 a1_3 a1_4
    · exact ⟨a0_0, a0_1, by simp, fun _ => ⟨rfl, rfl⟩⟩
    · exact ⟨a1_2, a1_3, by simp, fun h => by cases h⟩
  have up : ∀ m1 m2, (wantB m1 a1_0 a1_1 = true → wantB m2 a1_0 a1_1 = true) → tellB m1 a0_0 a0_1 a1_0 a1_1 a1_2 a1_3 a1_4 = true → tellB m2 a0_0 a0_1 a1_0 a1_1 a1_2 a1_3 a1_4 = true := by
    intro m1 m2 h h1
    rw [tellB_eq] at h1 ⊢
    simp only [Bool.and_eq_true] at h1 ⊢
    exact ⟨⟨h1.1.1, h h1.1.2⟩, h1.2⟩
  have wd : ∀ m, wantB m a1_0 a1_1 = true ↔ ((m = 9 ∧ a1_1 = 1 ∧ a1_0 ≤ 3) ∨ (m = 1000 ∧ a1_1 ≠ 4) ∨ (m = 1002 ∧ (a1_1 ≠ 4 ∨ a1_0 ≠ 0)) ∨ m = 1003) := fun m => decide_eq_true_iff
  have u1 := up 9 1000 (fun h => by rw [wd] at h ⊢; omega)
  have u2 := up 1000 1002 (fun h => by rw [wd] at h ⊢; omega)
  have u3 := up 1002 1003 (fun h => by rw [wd] at h ⊢; omega)
  have un : ¬ a2 = 9 → ¬ a2 = 1000 → ¬ a2 = 1002 → ¬ a2 = 1003 → tellB a2 a0_0 a0_1 a1_0 a1_1 a1_2 a1_3 a1_4 = false := by
    intro n1 n2 n3 n4
    have : wantB a2 a1_0 a1_1 = false := decide_eq_false (by omega)
    rw [tellB_eq, this]
    simp
  obtain ⟨x9, y9, t9, _⟩ := tell 9
  obtain ⟨x10, y10, t10, _⟩ := tell 1000
  obtain ⟨x12, y12, t12, _⟩ := tell 1002
  obtain ⟨x13, y13, t13, _⟩ := tell 1003
  obtain ⟨x2, y2, t2, s2⟩ := tell a2
  revert u1 u2 u3 un t9 t10 t12 t13 t2 s2
  clear up tell
  generalize tellB 9 a0_0 a0_1 a1_0 a1_1 a1_2 a1_3 a1_4 = B9
  generalize tellB 1000 a0_0 a0_1 a1_0 a1_1 a1_2 a1_3 a1_4 = B10
  generalize tellB 1002 a0_0 a0_1 a1_0 a1_1 a1_2 a1_3 a1_4 = B12
  generalize tellB 1003 a0_0 a0_1 a1_0 a1_1 a1_2 a1_3 a1_4 = B13
  generalize tellB a2 a0_0 a0_1 a1_0 a1_1 a1_2 a1_3 a1_4 = B2
  intro u1 u2 u3 un t9 t10 t12 t13 t2 s2
  refine ⟨20, ?_⟩
  unfold clavierlaw15_TrackMore.f
  rw [awake 19, Option.bind_some]
  have lend : ∀ k b, clavierlaw15_TrackMore.l0 (k + 4) a2 true [9, 1000, 1002, 1003] b 4 a0_0 a0_1 a1_0 a1_1 a1_2 a1_3 a1_4 = some true := by
    intro k b
    rw [clavierlaw15_TrackMore.l0, if_neg (by decide), t2, Option.bind_some]
    by_cases n1 : a2 = 9
    · rw [if_pos n1]; simp [clavierlaw15_TrackMore.j2, clavierlaw15_TrackMore.j3]
    · rw [if_neg n1]
      by_cases n2 : a2 = 1000
      · rw [if_pos n2]; simp [clavierlaw15_TrackMore.j2, clavierlaw15_TrackMore.j3]
      · rw [if_neg n2]
        by_cases n3 : a2 = 1002
        · rw [if_pos n3]; simp [clavierlaw15_TrackMore.j2, clavierlaw15_TrackMore.j3]
        · rw [if_neg n3]
          by_cases n4 : a2 = 1003
          · simp [clavierlaw15_TrackMore.j2, clavierlaw15_TrackMore.j3, n4]
          · have hb := un n1 n2 n3 n4
            obtain ⟨e1, e2⟩ := s2 hb
            subst e1 e2 hb
            simp [clavierlaw15_TrackMore.j2, clavierlaw15_TrackMore.j3, n4]
  have l3 : ∀ k b, (b = true → B13 = true) → clavierlaw15_TrackMore.l0 (k + 6) a2 true [9, 1000, 1002, 1003] b 3 a0_0 a0_1 a1_0 a1_1 a1_2 a1_3 a1_4 = some true := by
    intro k b h
    rw [clavierlaw15_TrackMore.l0, if_pos (by decide), if_pos (by decide), r3, t13, Option.bind_some, clavierlaw15_TrackMore.j1, w3, lend]
    cases b <;> simp_all
  have l2 : ∀ k b, (b = true → B12 = true) → clavierlaw15_TrackMore.l0 (k + 8) a2 true [9, 1000, 1002, 1003] b 2 a0_0 a0_1 a1_0 a1_1 a1_2 a1_3 a1_4 = some true := by
    intro k b h
    rw [clavierlaw15_TrackMore.l0, if_pos (by decide), if_pos (by decide), r2, t12, Option.bind_some, clavierlaw15_TrackMore.j1, w2, l3 k B12 u3]
    cases b <;> simp_all
  have l1 : ∀ k b, (b = true → B10 = true) → clavierlaw15_TrackMore.l0 (k + 10) a2 true [9, 1000, 1002, 1003] b 1 a0_0 a0_1 a1_0 a1_1 a1_2 a1_3 a1_4 = some true := by
    intro k b h
    rw [clavierlaw15_TrackMore.l0, if_pos (by decide), if_pos (by decide), r1, t10, Option.bind_some, clavierlaw15_TrackMore.j1, w1, l2 k B10 u2]
    cases b <;> simp_all
  rw [clavierlaw15_TrackMore.l0, if_pos (by decide), if_pos (by decide), r0, t9, Option.bind_some, clavierlaw15_TrackMore.j1, w0, l1 8 B9 u1]
  simp

end Go.Proofs.Ytpljdaahkiabkaa.Pure
