import Derived.Test.YtcjokajnlpcdiaaKeysRef
import Derived.Test.YtcjokajnlpcdiaaR1
import Derived.Test.YtcjokajnlpcdiaaR6
/- mods.May, Shown, Old in plain words; the reference's May and Shown are the program's. -/
namespace Go.Proofs.Ytcjokajnlpcdiaa.Pure
open Go.RowKit Go.Proofs.YtcjokajnlpcdiaaW.PrintWords Go.Proofs.YtcjokajnlpcdiaaW.PrintLast Go.Proofs.YtcjokajnlpcdiaaW.PrintMore Go.Proofs.Ytcjokajnlpcdiaa.H Go.Proofs.Ytcjokajnlpcdiaa.R
set_option linter.unusedVariables false

theorem w64 {n : Int} (h0 : -9223372036854775808 ≤ n) (h1 : n ≤ 9223372036854775807) : wrap64 n = n := by unfold wrap64; omega
theorem mwf64 {n : Int} (h : (Lit.int .i64 n).wf = true) : -9223372036854775808 ≤ n ∧ n ≤ 9223372036854775807 := by
  simp only [Lit.wf, IntKind.min, IntKind.max, IntKind.signed, IntKind.bits, Bool.and_eq_true, decide_eq_true_eq, if_true] at h
  have : (2 : Int) ^ (64 - 1) = 9223372036854775808 := by decide
  omega
theorem mwf8 {n : Int} (h : (Lit.int .u8 n).wf = true) : 0 ≤ n ∧ n ≤ 255 := by
  simp [Lit.wf, IntKind.min, IntKind.max, IntKind.signed, IntKind.bits] at h
  omega
theorem i64_w' : ∀ n : Int, IntKind.i64.wrap n = wrap64 n := fun n => i64_w n
theorem and_low (a : Int) (h : a ≤ 9223372036854775807) (m : Nat) (hm : m ≤ 10) : Go.bits .and .i64 (mx a 0) ((2 ^ m - 1 : Nat) : Int) = (mx a 0) % (2 ^ m : Nat) := by
  obtain ⟨n, hn⟩ : ∃ n : Nat, mx a 0 = (n : Int) := ⟨(mx a 0).toNat, by unfold mx; split <;> omega⟩
  have hb : n < 9223372036854775808 := by
    unfold mx at hn
    split at hn <;> omega
  have hp : 2 ^ m ≤ 2 ^ 10 := Nat.pow_le_pow_right (by decide) hm
  have hp1 : 1 ≤ 2 ^ m := Nat.one_le_two_pow
  rw [hn]
  have h1 : (BitVec.ofInt 64 (n : Int)).toNat = n := by
    rw [BitVec.ofInt_natCast, BitVec.toNat_ofNat]; exact Nat.mod_eq_of_lt (by omega)
  have h2 : (BitVec.ofInt 64 ((2 ^ m - 1 : Nat) : Int)).toNat = 2 ^ m - 1 := by
    rw [BitVec.ofInt_natCast, BitVec.toNat_ofNat]; exact Nat.mod_eq_of_lt (by omega)
  show IntKind.i64.wrap ((BitVec.ofInt 64 (n : Int) &&& BitVec.ofInt 64 ((2 ^ m - 1 : Nat) : Int)).toNat : Int) = _
  rw [BitVec.toNat_and, h1, h2, Nat.and_two_pow_sub_one_eq_mod, i64_w', w64 (by omega) (by have := Nat.mod_lt n (show 0 < 2 ^ m by omega); omega)]
  rfl
theorem and1 (a : Int) (h : a ≤ 9223372036854775807) : Go.bits .and .i64 (mx a 0) 1 = (mx a 0) % 2 := and_low a h 1 (by decide)
theorem and7 (a : Int) (h : a ≤ 9223372036854775807) : Go.bits .and .i64 (mx a 0) 7 = (mx a 0) % 8 := and_low a h 3 (by decide)
theorem mx_0 (a : Int) : mx a 0 = if a ≤ 0 then 0 else a := by unfold mx; split <;> split <;> omega
theorem awake : clavierlaw10_awake.f = some true := by decide +kernel
theorem text_eq (k : Nat) (a : Int) : clavierref10_text.f (k + 10) a = some ((lookE a).1 == 1) := by
  unfold clavierref10_text.f
  rw [KeysRef.ref_look, Option.bind_some]
theorem clean_eq {s : ByteArray} (hs : s.size ≤ 1100000) : clavierref10_clean.f s = some (cleanB (allC (numsS s)).1 (allC (numsS s)).2) := if_pos hs
theorem umay_eq (a0 a1 a2 a3 a4 : Int) {s : ByteArray} (hs : s.size ≤ 1100000) : mods_May.f a0 a1 a2 a3 a4 s = some (mayB a0 a1 a2 a3 a4 s) := if_pos hs
/-- What may be, in the reference's words. -/
theorem may_split (a0 a1 a2 a3 a4 : Int) (s : ByteArray) : mayB a0 a1 a2 a3 a4 s = ((decide (0 ≤ a1 ∧ a1 ≤ 255 ∧ 1 ≤ a2 ∧ a2 ≤ 3) && ((lookE a0).1 != 0)) && (textB a3 && (textB a4 && cleanB (allC (numsS s)).1 (allC (numsS s)).2))) := by
  unfold mayB cleanB
  rw [Bool.eq_iff_iff]
  simp only [Bool.and_eq_true, decide_eq_true_eq]
  constructor
  · rintro ⟨⟨h1, h2⟩, h3, h4, h5, ⟨h6, h7, h8, h9⟩, h10⟩
    exact ⟨⟨⟨h6, h7, h8, h9⟩, h10⟩, h4, h5, h1, h3, h2⟩
  · rintro ⟨⟨⟨h6, h7, h8, h9⟩, h10⟩, h4, h5, h1, h3, h2⟩
    exact ⟨⟨h1, h2⟩, h3, h4, h5, ⟨h6, h7, h8, h9⟩, h10⟩
theorem refmay_eq (k : Nat) (a0 a1 a2 a3 a4 : Int) {s : ByteArray} (hs : s.size ≤ 1100000) : clavierref10_May.f (k + 11) a0 a1 a2 a3 a4 s = some (mayB a0 a1 a2 a3 a4 s) := by
  have j_true : clavierref10_May.j0 (k + 11) true a0 a1 a2 a3 a4 s = some false := by rw [clavierref10_May.j0, if_pos rfl]
  rw [may_split]
  unfold clavierref10_May.f
  rw [show k + 11 = (k + 1) + 10 by omega, KeysRef.ref_look, Option.bind_some, show (k + 1) + 10 = k + 11 by omega]
  by_cases h0 : (lookE a0).1 = 0
  · rw [if_pos h0, j_true]; simp [h0]
  rw [if_neg h0]
  by_cases h1 : a1 < 0
  · rw [if_pos h1, j_true, decide_eq_false (by omega)]; rfl
  rw [if_neg h1]
  by_cases h2 : a1 > 255
  · rw [if_pos h2, j_true, decide_eq_false (by omega)]; rfl
  rw [if_neg h2]
  by_cases h3 : a2 < 1
  · rw [if_pos h3, j_true, decide_eq_false (by omega)]; rfl
  rw [if_neg h3]
  by_cases h4 : a2 > 3
  · rw [decide_eq_true h4, j_true, decide_eq_false (by omega)]; rfl
  rw [decide_eq_false h4, decide_eq_true (by omega), show ((lookE a0).1 != 0) = true from bne_iff_ne.mpr h0]
  rw [clavierref10_May.j0, if_neg (by decide), clean_eq hs]
  have e3 : textB a3 = (a3 == 0 || (lookE a3).1 == 1) := rfl
  have e4 : textB a4 = (a4 == 0 || (lookE a4).1 == 1) := rfl
  by_cases q3 : a3 = 0
  · rw [if_pos q3, e3, show (a3 == 0) = true from beq_iff_eq.mpr q3]
    by_cases q4 : a4 = 0
    · rw [if_pos q4, e4, show (a4 == 0) = true from beq_iff_eq.mpr q4]; rfl
    · rw [if_neg q4, e4, show (a4 == 0) = false from beq_eq_false_iff_ne.mpr q4, text_eq, Option.bind_some]
      by_cases t4 : (lookE a4).1 = 1
      · rw [show ((lookE a4).1 == 1) = true from beq_iff_eq.mpr t4, if_pos rfl]; rfl
      · rw [show ((lookE a4).1 == 1) = false from beq_eq_false_iff_ne.mpr t4, if_neg (by decide)]; rfl
  · rw [if_neg q3, e3, show (a3 == 0) = false from beq_eq_false_iff_ne.mpr q3, text_eq, Option.bind_some]
    by_cases t3 : (lookE a3).1 = 1
    · rw [show ((lookE a3).1 == 1) = true from beq_iff_eq.mpr t3, if_pos rfl]
      by_cases q4 : a4 = 0
      · rw [if_pos q4, e4, show (a4 == 0) = true from beq_iff_eq.mpr q4]; rfl
      · rw [if_neg q4, e4, show (a4 == 0) = false from beq_eq_false_iff_ne.mpr q4, text_eq, Option.bind_some]
        by_cases t4 : (lookE a4).1 = 1
        · rw [show ((lookE a4).1 == 1) = true from beq_iff_eq.mpr t4, if_pos rfl]; rfl
        · rw [show ((lookE a4).1 == 1) = false from beq_eq_false_iff_ne.mpr t4, if_neg (by decide)]; rfl
    · rw [show ((lookE a3).1 == 1) = false from beq_eq_false_iff_ne.mpr t3, if_neg (by decide)]; rfl
/-- The character that is shown. -/
def shownC (a0 a1 a3 : Int) : Int := if (mx a1 0) % 2 = 0 then a0 else if a3 = 0 then (if 97 ≤ a0 ∧ a0 ≤ 122 then a0 - 32 else a0) else a3
theorem shown_eq (a0 a1 a2 a3 a4 : Int) (s : ByteArray) (h : a1 ≤ 9223372036854775807) : mods_Shown.f a0 a1 a2 a3 a4 s = some (shownC a0 a1 a3) := by
  unfold mods_Shown.f shownC
  rw [and1 a1 h]
  by_cases h0 : (mx a1 0) % 2 = 0
  · rw [if_pos h0, if_pos h0]
  rw [if_neg h0, if_neg h0]
  by_cases h3 : a3 = 0
  · rw [if_pos h3, if_pos h3]
    by_cases q : a0 ≥ 97
    · rw [if_pos q]
      by_cases q2 : a0 ≤ 122
      · rw [if_pos q2, if_pos ⟨q, q2⟩, w64 (n := a0 - 97) (by omega) (by omega), w64 (by omega) (by omega)]; congr 1; omega
      · rw [if_neg q2, if_neg (by omega)]
    · rw [if_neg q, if_neg (by omega)]
  · rw [if_neg h3, if_neg h3]
theorem refshown_eq (a0 a1 a2 a3 a4 : Int) (s : ByteArray) (h : a1 ≤ 9223372036854775807) : clavierref10_Shown.f a0 a1 a2 a3 a4 s = some (shownC a0 a1 a3) := by
  unfold clavierref10_Shown.f shownC clavierref10_Has.f
  have hm : 0 ≤ mx a1 0 ∧ mx a1 0 ≤ 9223372036854775807 := by unfold mx; split <;> omega
  rw [if_neg (by decide), Option.bind_some, Int.ediv_one, w64 (by omega) (by omega), Int.tmod_eq_emod_of_nonneg hm.1]
  by_cases h0 : (mx a1 0) % 2 = 0
  · rw [if_pos h0, h0, if_neg (by decide)]
  rw [if_neg h0, show (mx a1 0) % 2 = 1 by omega, if_pos (by decide)]
  by_cases h3 : a3 = 0
  · rw [if_pos h3, if_pos h3]
    by_cases q : a0 ≥ 97
    · rw [if_pos q]
      by_cases q2 : a0 ≤ 122
      · rw [if_pos q2, if_pos ⟨q, q2⟩, w64 (by omega) (by omega)]
      · rw [if_neg q2, if_neg (by omega)]
    · rw [if_neg q, if_neg (by omega)]
  · rw [if_neg h3, if_neg h3]
end Go.Proofs.Ytcjokajnlpcdiaa.Pure
