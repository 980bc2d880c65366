import Derived.Test.YtgbjfjdmhieejaaUtfPlainT
import Derived.Test.YtgbjfjdmhieejaaR4
namespace Go.Proofs.Ytgbjfjdmhieejaa.Pure
open Go.RowKit Go.Proofs.YtgbjfjdmhieejaaW.PrintWords Go.Proofs.Ytgbjfjdmhieejaa.R Go.Proofs.Ytgbjfjdmhieejaa.H
set_option linter.unusedVariables false

/-- Two rows of bytes, one less than the other. -/
theorem less_cons (a b : Int) (x y : List Int) (ha : 0 ≤ a ∧ a ≤ 255) (hb : 0 ≤ b ∧ b ≤ 255) : Op.bytesLess ((strOfNums (a :: x)).toList) ((strOfNums (b :: y)).toList) = (decide (a < b) || (decide (a = b) && Op.bytesLess ((strOfNums x).toList) ((strOfNums y).toList))) := by
  rw [Go.Lib.strOfNums_toList, Go.Lib.strOfNums_toList, Go.Lib.strOfNums_toList, Go.Lib.strOfNums_toList]
  show (decide (UInt8.ofNat a.toNat < UInt8.ofNat b.toNat) || (UInt8.ofNat a.toNat == UInt8.ofNat b.toNat && _)) = _
  have e1 : (UInt8.ofNat a.toNat).toNat = a.toNat := by rw [UInt8.toNat_ofNat']; exact Nat.mod_eq_of_lt (by omega)
  have e2 : (UInt8.ofNat b.toNat).toNat = b.toNat := by rw [UInt8.toNat_ofNat']; exact Nat.mod_eq_of_lt (by omega)
  congr 1
  · exact decide_eq_decide.mpr (by rw [UInt8.lt_iff_toNat_lt, e1, e2]; omega)
  · congr 1
    by_cases h : a = b
    · subst h; simp
    · rw [decide_eq_false h]
      exact beq_eq_false_iff_ne.mpr (fun e => h (by have := congrArg UInt8.toNat e; rw [e1, e2] at this; omega))
theorem less_nil (x : List Int) : Op.bytesLess ((strOfNums x).toList) ((strOfNums []).toList) = false := by
  rw [Go.Lib.strOfNums_toList, Go.Lib.strOfNums_toList]
  show Op.bytesLess _ [] = false
  unfold Op.bytesLess
  rfl
theorem order (a b : Int) (ha : isR a) (hb : isR b) : Op.bytesLess ((strOfNums (putP a)).toList) ((strOfNums (putP b)).toList) = decide (a < b) ∧ (a ≤ b → (putP a).length ≤ (putP b).length) := by
  have hha := ha
  have hhb := hb
  unfold isR at hha hhb
  have hd (p : Prop) [Decidable p] (q : Prop) [Decidable q] (h : p ↔ q) : decide p = decide q := decide_eq_decide.mpr h
  rcases four a ha with h1 | ⟨h1, h2⟩ | ⟨h1, h2⟩ | h1 <;> rcases four b hb with k1 | ⟨k1, k2⟩ | ⟨k1, k2⟩ | k1
  all_goals (first | rw [put_1 ha h1] | rw [put_2 ha h1 h2] | rw [put_3 ha h1 h2] | rw [put_4 ha h1]) <;> (first | rw [put_1 hb k1] | rw [put_2 hb k1 k2] | rw [put_3 hb k1 k2] | rw [put_4 hb k1])
  all_goals refine ⟨?_, by simp <;> omega⟩
  all_goals rw [less_cons _ _ _ _ (by omega) (by omega)]
  all_goals repeat rw [less_cons _ _ _ _ (by omega) (by omega)]
  all_goals (try rw [less_nil])
  all_goals (rw [Bool.eq_iff_iff]; simp only [Bool.or_eq_true, Bool.and_eq_true, decide_eq_true_eq, Bool.false_eq_true, and_false, or_false])
  all_goals omega
theorem UtfOrder (a0 : Int) (a1 : Int) (g0 : (Lit.int .i64 a0).wf = true) (g1 : (Lit.int .i64 a1).wf = true) :
    ∃ k, clavierlaw02_UtfOrder.f k a0 a1 = some true := by
  refine ⟨2, ?_⟩
  unfold clavierlaw02_UtfOrder.f
  rw [awake, Option.bind_some, is_eq, Option.bind_some]
  by_cases h : isR a0
  · rw [if_pos (decide_eq_true h), is_eq, Option.bind_some]
    by_cases k : isR a1
    · rw [decide_eq_true k, clavierlaw02_UtfOrder.j0, if_neg (by decide), uput_eq, Option.bind_some, uput_eq, Option.bind_some, if_pos rfl]
      obtain ⟨h1, h2⟩ := order a0 a1 h k
      have := put_len h
      rw [h1, if_pos (by simp), strOfNums_size, strOfNums_size, show decide (((putP a0).length : Int) > 0) = true from decide_eq_true (by omega)]
      by_cases h3 : a0 > a1
      · rw [if_pos h3]
      · rw [if_neg h3, if_pos (by have := h2 (by omega); omega)]
    · rw [decide_eq_false k, clavierlaw02_UtfOrder.j0, if_pos (by decide)]
  · rw [if_neg (by simp [h]), clavierlaw02_UtfOrder.j0, if_pos rfl]

end Go.Proofs.Ytgbjfjdmhieejaa.Pure
