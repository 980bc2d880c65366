import Derived.Test.YtpljdaahkiabkaaQ4
/- What the references and the laws' own check come to, in plain words. -/
namespace Go.Proofs.Ytpljdaahkiabkaa.Pure
open Go.RowKit Go.Proofs.YtpljdaahkiabkaaW.PrintWords Go.Proofs.Ytpljdaahkiabkaa.Q Go.Proofs.Ytpljdaahkiabkaa.H

theorem awake (k : Nat) : clavierlaw15_awake.f (k + 1) = some true := by
  have h1 : track_Tell.f 1002 0 0 1 4 3 4 0 = some (3, 4, true) := by decide
  have h2 : track_Tell.f 1002 3 4 1 4 3 4 0 = some (3, 4, false) := by decide
  have h3 : track_Tell.f 1000 0 0 1 4 3 4 0 = some (0, 0, false) := by decide
  have h4 : track_May.f 1 4 3 4 0 = some true := by decide
  unfold clavierlaw15_awake.f
  rw [h1, Option.bind_some]
  show (track_Tell.f 1002 3 4 1 4 3 4 0).bind _ = _
  rw [h2, Option.bind_some, h3, Option.bind_some]
  simp [h4, clavierlaw15_awake.j0]

theorem button (k : Nat) (b : Int) : clavierref15_button.f (k + 1) b = some (decide (1 ≤ b ∧ b ≤ 3 ∨ 8 ≤ b ∧ b ≤ 11)) := by
  unfold clavierref15_button.f
  simp only [clavierref15_button.j0]
  repeat' split
  all_goals (congr 1; rw [Bool.eq_iff_iff]; simp <;> omega)

theorem ref_May (k : Nat) (b t x y m : Int) : clavierref15_May.f (k + 3) b t x y m = some (mayB b t x y m) := by
  have hb : clavierref15_button.f (k + 2) b = some (decide (1 ≤ b ∧ b ≤ 3 ∨ 8 ≤ b ∧ b ≤ 11)) := button (k + 1) b
  by_cases hr : 1 ≤ x ∧ x ≤ 65535 ∧ 1 ≤ y ∧ y ≤ 65535 ∧ 0 ≤ m ∧ m ≤ 255
  · have e : clavierref15_May.f (k + 3) b t x y m = clavierref15_May.j0 (k + 3) false b t x y m := by
      unfold clavierref15_May.f
      rw [if_neg (by omega), if_neg (by omega), if_neg (by omega), if_neg (by omega), if_neg (by omega), decide_eq_false (by omega)]
    rw [e]
    simp only [clavierref15_May.j0, clavierref15_May.j1]
    rw [hb]
    simp only [Option.bind_some]
    unfold mayB
    rw [if_neg (by decide)]
    repeat' split
    all_goals (congr 1; rw [Bool.eq_iff_iff]; simp <;> omega)
  · have e : clavierref15_May.f (k + 3) b t x y m = clavierref15_May.j0 (k + 3) true b t x y m := by
      unfold clavierref15_May.f
      repeat' split
      all_goals (first | rfl | rw [decide_eq_true (by omega)])
    rw [e]
    simp only [clavierref15_May.j0]
    have hm : mayB b t x y m = false := decide_eq_false (by omega)
    rw [hm]
    simp

/-- Does the mode ask for it? -/
def wantB (mode b t : Int) : Bool := decide ((mode = 9 ∧ t = 1 ∧ b ≤ 3) ∨ (mode = 1000 ∧ t ≠ 4) ∨ (mode = 1002 ∧ (t ≠ 4 ∨ b ≠ 0)) ∨ mode = 1003)
theorem tellB_eq (mode sx sy b t x y m : Int) : tellB mode sx sy b t x y m = (mayB b t x y m && wantB mode b t && !(decide (t = 4) && decide (x = sx) && decide (y = sy))) := by
  unfold tellB wantB
  rw [Bool.eq_iff_iff]
  simp only [decide_eq_true_eq, Bool.and_eq_true, Bool.not_eq_true', Bool.and_eq_false_iff, decide_eq_false_iff_not]
  constructor
  · rintro ⟨h1, h2, h3⟩
    exact ⟨⟨h1, h2⟩, by omega⟩
  · rintro ⟨⟨h1, h2⟩, h3⟩
    exact ⟨h1, h2, by omega⟩
/-- What the reference tells of a mode. -/
theorem wanted (mode b t x y m : Int) : clavierref15_wanted.f mode b t x y m = some (wantB mode b t) := by
  unfold clavierref15_wanted.f wantB
  repeat' split
  all_goals (congr 1; rw [Bool.eq_iff_iff]; simp <;> omega)

theorem ref_Tell (k : Nat) (mode sx sy b t x y m : Int) : clavierref15_Tell.f (k + 3) mode sx sy b t x y m = track_Tell.f mode sx sy b t x y m := by
  unfold clavierref15_Tell.f track_Tell.f
  rw [ref_May, wanted, tellB_eq]
  simp only [Option.bind_some, clavierref15_Tell.j0]
  cases hm : mayB b t x y m <;> cases hw : wantB mode b t
  · simp
  · simp
  · simp
  · by_cases h4 : t = 4
    · subst h4
      by_cases hx : x = sx
      · subst hx
        by_cases hy : y = sy
        · subst hy
          simp
        · simp [hy, Ne.symm hy]
      · simp [hx, Ne.symm hx]
    · simp [h4]
end Go.Proofs.Ytpljdaahkiabkaa.Pure
