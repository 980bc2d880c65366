import Derived.Test.YtpljdaahkiabkaaHTell1
import Derived.Test.YtpljdaahkiabkaaHTell2
/- The contracts of track.May and track.Tell, in the form that the printed callers ask. -/
namespace Go.Proofs.Ytpljdaahkiabkaa.H
open Go.RowKit Go.Maps Go.Proofs.YtpljdaahkiabkaaW.PrintWords

/-- Is it told? -/
def tellB (mode sx sy b t x y m : Int) : Bool := decide (mayB b t x y m = true ∧ ((mode = 9 ∧ t = 1 ∧ b ≤ 3) ∨ (mode = 1000 ∧ t ≠ 4) ∨ (mode = 1002 ∧ (t ≠ 4 ∨ b ≠ 0)) ∨ mode = 1003) ∧ ¬ (t = 4 ∧ x = sx ∧ y = sy))
def track_May.f (b t x y m : Int) : Option Bool := some (mayB b t x y m)
def track_Tell.f (mode sx sy b t x y m : Int) : Option (Int × Int × Bool) := if tellB mode sx sy b t x y m = true then some (x, y, true) else some (sx, sy, false)

theorem track_May.calls (b t x y m : Int) (r : Bool) (w : World) (h : track_May.f b t x y m = some r) :
    Calls Try.prog 12 #[.agg #[.int .i64 b, .int .i64 t, .int .i64 x, .int .i64 y, .int .i64 m]] w fun e w' => e = .returned (.bool r) ∧ Below w.heap.size w w' := by
  obtain rfl := Option.some.inj h
  exact track_May_any b t x y m w

theorem tell_or (mode sx sy b t x y m : Int) (w : World) :
    (tellB mode sx sy b t x y m = true ∧ Calls Try.prog 10 #[.int .i64 mode, .agg #[.int .i64 sx, .int .i64 sy], .agg #[.int .i64 b, .int .i64 t, .int .i64 x, .int .i64 y, .int .i64 m]] w (Yes x y w)) ∨
    (tellB mode sx sy b t x y m = false ∧ Calls Try.prog 10 #[.int .i64 mode, .agg #[.int .i64 sx, .int .i64 sy], .agg #[.int .i64 b, .int .i64 t, .int .i64 x, .int .i64 y, .int .i64 m]] w (Nay sx sy w)) := by
  have yes : ∀ {p : Prop} [Decidable p], p → decide p = true := fun h => decide_eq_true h
  have no : ∀ {p : Prop} [Decidable p], ¬ p → decide p = false := fun h => decide_eq_false h
  by_cases k1 : mode = 9
  · subst k1
    cases hm : mayB b t x y m with
    | false => exact .inr ⟨no (by simp [hm]), Tell9_may _ _ _ _ _ _ _ w hm⟩
    | true =>
      by_cases ht : t = 1
      · subst ht
        by_cases hb : b ≤ 3
        · exact .inl ⟨yes ⟨hm, by omega, by omega⟩, Tell9_yes _ _ _ _ _ _ w hm hb⟩
        · exact .inr ⟨no (by omega), Tell9_big _ _ _ _ _ _ w hm hb (decide_eq_false hb)⟩
      · exact .inr ⟨no (by omega), Tell9_no _ _ _ _ _ _ _ w hm (beq_eq_false_iff_ne.2 ht)⟩
  by_cases k2 : mode = 1000
  · subst k2
    cases hm : mayB b t x y m with
    | false => exact .inr ⟨no (by simp [hm]), Tell1000_may _ _ _ _ _ _ _ w hm⟩
    | true =>
      by_cases ht : t = 4
      · subst ht
        exact .inr ⟨no (by omega), Tell1000_no _ _ _ _ _ _ w hm⟩
      · exact .inl ⟨yes ⟨hm, by omega, by omega⟩, Tell1000_yes _ _ _ _ _ _ _ w hm (bne_iff_ne.2 ht) (beq_eq_false_iff_ne.2 ht)⟩
  by_cases k3 : mode = 1002
  · subst k3
    cases hm : mayB b t x y m with
    | false => exact .inr ⟨no (by simp [hm]), Tell1002_may _ _ _ _ _ _ _ w hm⟩
    | true =>
      by_cases ht : t = 4
      · subst ht
        by_cases hb : b = 0
        · subst hb
          exact .inr ⟨no (by omega), Tell1002_none _ _ _ _ _ w hm⟩
        · have c1 := bne_iff_ne.2 hb
          have c2 := beq_eq_false_iff_ne.2 hb
          by_cases hx : x = sx
          · subst hx
            by_cases hy : y = sy
            · subst hy
              exact .inr ⟨no (by omega), Tell1002_same _ _ _ _ w hm c1 c2⟩
            · exact .inl ⟨yes ⟨hm, by omega, by omega⟩, Tell1002_row _ _ _ _ _ w hm (beq_eq_false_iff_ne.2 hy) c1 c2⟩
          · exact .inl ⟨yes ⟨hm, by omega, by omega⟩, Tell1002_col _ _ _ _ _ _ w hm (beq_eq_false_iff_ne.2 hx) c1 c2⟩
      · exact .inl ⟨yes ⟨hm, by omega, by omega⟩, Tell1002_yes _ _ _ _ _ _ _ w hm (bne_iff_ne.2 ht) (beq_eq_false_iff_ne.2 ht)⟩
  by_cases k4 : mode = 1003
  · subst k4
    cases hm : mayB b t x y m with
    | false => exact .inr ⟨no (by simp [hm]), Tell1003_may _ _ _ _ _ _ _ w hm⟩
    | true =>
      by_cases ht : t = 4
      · subst ht
        by_cases hx : x = sx
        · subst hx
          by_cases hy : y = sy
          · subst hy
            exact .inr ⟨no (by omega), Tell1003_same _ _ _ _ w hm⟩
          · exact .inl ⟨yes ⟨hm, by omega, by omega⟩, Tell1003_row _ _ _ _ _ w hm (beq_eq_false_iff_ne.2 hy)⟩
        · exact .inl ⟨yes ⟨hm, by omega, by omega⟩, Tell1003_col _ _ _ _ _ _ w hm (beq_eq_false_iff_ne.2 hx)⟩
      · exact .inl ⟨yes ⟨hm, by omega, by omega⟩, Tell1003_yes _ _ _ _ _ _ _ w hm (bne_iff_ne.2 ht) (beq_eq_false_iff_ne.2 ht)⟩
  exact .inr ⟨no (by omega), Tell_other _ _ _ _ _ _ _ _ w k1 k2 k3 k4⟩

theorem track_Tell.calls (mode sx sy b t x y m : Int) (r1 r2 : Int) (r3 : Bool) (w : World) (h : track_Tell.f mode sx sy b t x y m = some (r1, r2, r3)) :
    Calls Try.prog 10 #[.int .i64 mode, .agg #[.int .i64 sx, .int .i64 sy], .agg #[.int .i64 b, .int .i64 t, .int .i64 x, .int .i64 y, .int .i64 m]] w fun e w' => e = .returned (.tuple #[.agg #[.int .i64 r1, .int .i64 r2], .bool r3]) ∧ Below w.heap.size w w' := by
  unfold track_Tell.f at h
  rcases tell_or mode sx sy b t x y m w with ⟨ht, hc⟩ | ⟨ht, hc⟩
  · rw [if_pos ht] at h
    cases h
    exact hc
  · rw [ht, if_neg (by decide)] at h
    cases h
    exact hc
end Go.Proofs.Ytpljdaahkiabkaa.H
