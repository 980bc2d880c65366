import Derived.Test.YtcjokajnlpcdiaaHLook
import Derived.Test.YtcjokajnlpcdiaaR3
/- The reference's Look is the program's. -/
namespace Go.Proofs.Ytcjokajnlpcdiaa.KeysRef
open Go.RowKit Go.Proofs.YtcjokajnlpcdiaaW.PrintWords Go.Proofs.YtcjokajnlpcdiaaW.PrintLast Go.Proofs.Ytcjokajnlpcdiaa.H Go.Proofs.Ytcjokajnlpcdiaa.R
set_option linter.unusedVariables false

theorem wr {n : Int} (h0 : -9223372036854775808 ≤ n) (h1 : n ≤ 9223372036854775807) : wrap64 n = n := by unfold wrap64; omega
theorem wf64 {n : Int} (h : (Lit.int .i64 n).wf = true) : -9223372036854775808 ≤ n ∧ n ≤ 9223372036854775807 := by
  simp only [Lit.wf, IntKind.min, IntKind.max, IntKind.signed, IntKind.bits, Bool.and_eq_true, decide_eq_true_eq, if_true] at h
  have : (2 : Int) ^ (64 - 1) = 9223372036854775808 := by decide
  omega
theorem wf8 {n : Int} (h : (Lit.int .u8 n).wf = true) : 0 ≤ n ∧ n ≤ 255 := by
  simp [Lit.wf, IntKind.min, IntKind.max, IntKind.signed, IntKind.bits] at h
  omega
/-- A code of the table. -/
def inT (a : Int) : Bool := a == 9 || a == 13 || a == 27 || a == 127 || (decide (57348 ≤ a) && decide (a ≤ 57454))
theorem codes : (ENTS 21).all (fun x => inT x.1) = true := by decide +kernel
theorem look_out {a : Int} (h : inT a = false) : lookE a = restL a :=
  look_miss (fun x hx e => by have := List.all_eq_true.1 codes x hx; rw [e, h] at this; cases this)
/-- From a first number on, so many: what holds of each. -/
theorem each {P : Int → Prop} (lo : Int) (n : Nat) (h : ∀ i : Fin n, P (lo + (i.val : Int))) (a : Int) (h0 : lo ≤ a) (h1 : a < lo + n) : P a := by
  have := h ⟨(a - lo).toNat, by omega⟩
  simp only [Int.toNat_of_nonneg (show 0 ≤ a - lo by omega)] at this
  rw [show lo + (a - lo) = a by omega] at this
  exact this
/-- A code is one of the table, or the rest's. -/
theorem look_cases (a : Int) : (∃ x ∈ ENTS 21, x.1 = a ∧ lookE a = x.2) ∨ lookE a = restL a := by
  by_cases h : ∃ x ∈ ENTS 21, x.1 = a
  · obtain ⟨x, hx, rfl⟩ := h
    exact .inl ⟨x, hx, rfl, look_hit hx⟩
  · exact .inr (look_miss (fun x hx e => h ⟨x, hx, e⟩))
theorem ref_in : ∀ i : Fin 130, clavierref09_Look.f 10 (57340 + (i.val : Int)) = some (lookE (57340 + (i.val : Int))) := by decide +kernel
theorem ref_low : clavierref09_Look.f 10 9 = some (lookE 9) ∧ clavierref09_Look.f 10 13 = some (lookE 13) ∧ clavierref09_Look.f 10 27 = some (lookE 27) ∧ clavierref09_Look.f 10 127 = some (lookE 127) := ⟨by decide +kernel, by decide +kernel, by decide +kernel, by decide +kernel⟩
theorem letter_out (k : Nat) (a : Int) (h : a < 57340 ∨ 57470 ≤ a) : clavierref09_letter.f (k + 9) a = some 0 := by
  have ne : ∀ c : Int, 57340 ≤ c → c < 57470 → a ≠ c := fun c h1 h2 e => by omega
  have nb : ∀ c : Int, 57340 ≤ c → c < 57470 → (a == c) = false := fun c h1 h2 => beq_eq_false_iff_ne.mpr (ne c h1 h2)
  simp only [clavierref09_letter.f, clavierref09_letter.j0, clavierref09_letter.j1, clavierref09_letter.j2, clavierref09_letter.j3, clavierref09_letter.j4, clavierref09_letter.j5, nb 57350 (by decide) (by decide), nb 57417 (by decide) (by decide), nb 57351 (by decide) (by decide), nb 57418 (by decide) (by decide), nb 57352 (by decide) (by decide), nb 57419 (by decide) (by decide), nb 57353 (by decide) (by decide), nb 57420 (by decide) (by decide), nb 57356 (by decide) (by decide), nb 57423 (by decide) (by decide), nb 57357 (by decide) (by decide), nb 57424 (by decide) (by decide), ne 57427 (by decide) (by decide), ne 57364 (by decide) (by decide), ne 57365 (by decide) (by decide), ne 57366 (by decide) (by decide), ne 57367 (by decide) (by decide), if_false, ite_self, Bool.false_eq_true]
theorem number_out (a : Int) (h : a < 57340 ∨ 57470 ≤ a) : clavierref09_number.f a = some 0 := by
  have : numL.find? (fun x => x.1 == a) = none := List.find?_eq_none.2 (by
    intro x hx
    have hr : 57340 ≤ x.1 ∧ x.1 < 57470 := by
      unfold numL at hx
      simp only [List.mem_cons, List.not_mem_nil, or_false] at hx
      rcases hx with rfl | rfl | rfl | rfl | rfl | rfl | rfl | rfl | rfl | rfl | rfl | rfl | rfl | rfl | rfl | rfl | rfl <;> decide
    simp
    omega)
  unfold clavierref09_number.f numC
  rw [this]
theorem isB_of {a : Int} : clavierref02_Is.f a = some (isB a) := by
  unfold clavierref02_Is.f isB
  by_cases h1 : a ≥ 0
  · by_cases h2 : a ≤ 1114111
    · by_cases h3 : a < 55296
      · rw [if_pos h1, if_pos h2, if_pos h3]; exact congrArg some (decide_eq_true (by omega)).symm
      · rw [if_pos h1, if_pos h2, if_neg h3]; exact congrArg some (decide_eq_decide.mpr (by omega))
    · rw [if_pos h1, if_neg h2]; exact congrArg some (decide_eq_false (by omega)).symm
  · rw [if_neg h1]; exact congrArg some (decide_eq_false (by omega)).symm
theorem rest_out (k : Nat) (a : Int) (h : a < 57340 ∨ 57470 ≤ a) (h1 : a ≠ 9) (h2 : a ≠ 13) (h3 : a ≠ 27) (h4 : a ≠ 127) : clavierref09_rest.f (k + 9) a = some (restL a).1 := by
  have e4 : (a == 127) = false := beq_eq_false_iff_ne.mpr h4
  have e2 : clavierref09_rest.j1 (k + 8) a false = clavierref09_rest.j2 (k + 7) a false := by
    rw [clavierref09_rest.j1, if_neg (by decide)]
    by_cases q : a ≥ 57441
    · rw [if_pos q, decide_eq_false (by omega)]
    · rw [if_neg q]
  have e1 : clavierref09_rest.f (k + 9) a = clavierref09_rest.j2 (k + 7) a false := by
    rw [clavierref09_rest.f, if_neg h1, if_neg h2, if_neg h3, e4, clavierref09_rest.j0, if_neg (by decide)]
    by_cases q1 : a ≥ 57358
    · rw [if_pos q1, if_neg (by omega), if_pos (by omega), if_neg (by omega), if_pos (by omega), decide_eq_false (by omega), e2]
    · rw [if_neg q1, if_neg (by omega), if_neg (by omega), e2]
  rw [e1, clavierref09_rest.j2, if_neg (by decide), isB_of, Option.bind_some]
  unfold restL
  by_cases hb : isB a = true
  · rw [if_pos hb]
    by_cases q1 : a < 32
    · rw [if_pos q1, if_pos (.inl (.inl q1))]
    rw [if_neg q1]
    by_cases q2 : a ≥ 127
    · rw [if_pos q2]
      by_cases q3 : a ≤ 159
      · rw [if_pos q3, if_pos (.inl (.inr ⟨q2, q3⟩))]
      rw [if_neg q3]
      by_cases q4 : a ≥ 57344
      · rw [if_pos q4]
        by_cases q5 : a ≤ 63743
        · rw [if_pos q5, if_pos (.inr (.inl ⟨q4, by omega⟩))]
        · rw [if_neg q5, if_neg (by rw [hb]; simp; omega)]
      · rw [if_neg q4, if_neg (by rw [hb]; simp; omega)]
    · rw [if_neg q2, if_neg (by omega), if_neg (by rw [hb]; simp; omega)]
  · rw [if_neg hb, if_pos (.inr (.inr (by simpa using hb)))]
theorem ref_mono (k : Nat) (a : Int) {r : LookT} (h : clavierref09_Look.f 10 a = some r) : clavierref09_Look.f (k + 10) a = some r := by
  induction k with
  | zero => rw [Nat.zero_add]; exact h
  | succ k ih => rw [show k + 1 + 10 = (k + 10) + 1 by omega]; exact clavierref09_Look.mono a (k + 10) _ ih
theorem ref_look (k : Nat) (a : Int) : clavierref09_Look.f (k + 10) a = some (lookE a) := by
  by_cases h : a < 57340 ∨ 57470 ≤ a
  · by_cases hT : inT a = true
    · have : a = 9 ∨ a = 13 ∨ a = 27 ∨ a = 127 := by
        unfold inT at hT
        simp only [Bool.or_eq_true, Bool.and_eq_true, beq_iff_eq, decide_eq_true_eq] at hT
        omega
      rcases this with rfl | rfl | rfl | rfl
      · exact ref_mono k _ ref_low.1
      · exact ref_mono k _ ref_low.2.1
      · exact ref_mono k _ ref_low.2.2.1
      · exact ref_mono k _ ref_low.2.2.2
    · have hT' : inT a = false := by simpa using hT
      have h' := hT'
      unfold inT at h'
      simp only [Bool.or_eq_false_iff, beq_eq_false_iff_ne] at h'
      rw [look_out hT', clavierref09_Look.f, letter_out (k + 1) a h, Option.bind_some, if_pos rfl, number_out a h, Option.bind_some, if_pos rfl]
      have e : clavierref09_Look.j0 (k + 10) a false = some (restL a) := by
        rw [clavierref09_Look.j0, if_neg (by decide), rest_out k a h h'.1.1.1.1 h'.1.1.1.2 h'.1.1.2 h'.1.2, Option.bind_some]
        unfold restL
        split <;> rfl
      by_cases q : a ≥ 57399
      · rw [if_pos q, decide_eq_false (by omega), e]
      · rw [if_neg q, e]
  · exact ref_mono k a (each (P := fun a => clavierref09_Look.f 10 a = some (lookE a)) 57340 130 ref_in a (by omega) (by omega))
end Go.Proofs.Ytcjokajnlpcdiaa.KeysRef
