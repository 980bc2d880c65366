import Derived.Test.YtcjokajnlpcdiaaModsPlain
import Derived.Test.YtcjokajnlpcdiaaR8
namespace Go.Proofs.Ytcjokajnlpcdiaa.Pure
open Go.RowKit Go.Proofs.YtcjokajnlpcdiaaW.PrintWords Go.Proofs.Ytcjokajnlpcdiaa.R Go.Proofs.Ytcjokajnlpcdiaa.H
set_option linter.unusedVariables false

theorem fold_some : ∀ x ∈ foldL, 0 ≤ x.2 ∧ (x.2 < 32 ∨ x.2 = 127) := by
  intro x hx
  unfold foldL at hx
  simp only [List.mem_cons, List.not_mem_nil, or_false] at hx
  rcases hx with rfl | rfl | rfl | rfl | rfl | rfl | rfl | rfl | rfl | rfl | rfl | rfl | rfl | rfl | rfl | rfl <;> decide
theorem fold_range (a : Int) : ((foldC a).2 = true → 0 ≤ (foldC a).1 ∧ ((foldC a).1 < 32 ∨ (foldC a).1 = 127)) ∧ ((foldC a).2 = false → (foldC a).1 = 0) := by
  unfold foldC
  by_cases h1 : 97 ≤ a ∧ a ≤ 122
  · rw [if_pos h1]; exact ⟨fun _ => ⟨by dsimp only; omega, .inl (by dsimp only; omega)⟩, fun h => by cases h⟩
  rw [if_neg h1]
  by_cases h2 : 65 ≤ a ∧ a ≤ 90
  · rw [if_pos h2]; exact ⟨fun _ => ⟨by dsimp only; omega, .inl (by dsimp only; omega)⟩, fun h => by cases h⟩
  rw [if_neg h2]
  by_cases h3 : a < 0 ∨ 255 < a
  · rw [if_pos h3]; exact ⟨fun h => (by cases h), fun _ => rfl⟩
  rw [if_neg h3]
  cases hf : foldL.find? (fun x => x.1 == a) with
  | none => exact ⟨fun h => (by cases h), fun _ => rfl⟩
  | some x => exact ⟨fun _ => fold_some x (List.mem_of_find?_eq_some hf), fun h => (by cases h)⟩
theorem ModsCase (a0_0 : Int) (a0_1 : Int) (a0_2 : Int) (a0_3 : Int) (a0_4 : Int) (a0_5 : ByteArray) (a1 : Int) (g0_0 : (Lit.int .i64 a0_0).wf = true) (g0_1 : (Lit.int .i64 a0_1).wf = true) (g0_2 : (Lit.int .i64 a0_2).wf = true) (g0_3 : (Lit.int .i64 a0_3).wf = true) (g0_4 : (Lit.int .i64 a0_4).wf = true) (g0_5 : a0_5.size ≤ maxLen) (g1 : (Lit.int .u8 a1).wf = true) :
    clavierlaw10_ModsCase.f a0_0 a0_1 a0_2 a0_3 a0_4 a0_5 a1 = some true := by
  have h := mwf64 g0_1
  have k := mwf8 g1
  unfold clavierlaw10_ModsCase.f
  have hr : Int.tmod a1 26 = a1 % 26 := Int.tmod_eq_emod_of_nonneg k.1
  have h26 : 0 ≤ a1 % 26 ∧ a1 % 26 < 26 := by omega
  rw [awake, Option.bind_some, hr, w64 (n := a1 % 26) (by omega) (by omega), w64 (n := 97 + a1 % 26) (by omega) (by omega), w64 (n := 97 + a1 % 26 - 32) (by omega) (by omega), w64 (n := a1 % 26 + 1) (by omega) (by omega)]
  have f1 : mods_Fold.f (97 + a1 % 26) = some (a1 % 26 + 1, true) := by
    unfold mods_Fold.f foldC
    rw [if_pos (by omega)]
    congr 2
    omega
  have f2 : mods_Fold.f (97 + a1 % 26 - 32) = some (a1 % 26 + 1, true) := by
    unfold mods_Fold.f foldC
    rw [if_neg (by omega), if_pos (by omega)]
    congr 2
    omega
  rw [f1, Option.bind_some, f2, Option.bind_some, show mods_Fold.f a0_0 = some (foldC a0_0) from rfl, Option.bind_some, if_pos rfl, if_pos rfl, if_pos rfl, if_pos rfl, if_pos rfl]
  have ht : Int.tmod a0_1 2 = a0_1 % 2 ∨ Int.tmod a0_1 2 = -(a0_1 % 2) := by
    have := Int.tmod_def a0_1 2
    have := Int.mul_tdiv_add_tmod a0_1 2
    have h1 : -2 < Int.tmod a0_1 2 := by have := Int.lt_tmod_of_pos a0_1 (show (0 : Int) < 2 by decide); omega
    have h2 : Int.tmod a0_1 2 < 2 := Int.tmod_lt_of_pos a0_1 (by decide)
    omega
  have hs : ∀ a2 a3 a4 s, mods_Shown.f a0_0 (wrap64 (a0_1 - Int.tmod a0_1 2)) a2 a3 a4 s = some a0_0 := by
    intro a2 a3 a4 s
    have hq := Int.mul_tdiv_add_tmod a0_1 2
    have h1 : -2 < Int.tmod a0_1 2 := by have := Int.lt_tmod_of_pos a0_1 (show (0 : Int) < 2 by decide); omega
    have h2 : Int.tmod a0_1 2 < 2 := Int.tmod_lt_of_pos a0_1 (by decide)
    have hneg : a0_1 < 0 → Int.tmod a0_1 2 ≤ 0 := fun hn => by
      have h3 : Int.tmod (-a0_1) 2 = -(Int.tmod a0_1 2) := Int.neg_tmod a0_1 2
      have h4 := Int.tmod_nonneg 2 (show 0 ≤ -a0_1 by omega)
      omega
    have hpos : 0 ≤ a0_1 → 0 ≤ Int.tmod a0_1 2 := fun hn => Int.tmod_nonneg 2 hn
    have hb : -9223372036854775808 ≤ a0_1 - Int.tmod a0_1 2 ∧ a0_1 - Int.tmod a0_1 2 ≤ 9223372036854775807 := by omega
    rw [w64 hb.1 hb.2, shown_eq _ _ _ _ _ _ hb.2]
    unfold shownC
    rw [if_pos (by unfold mx; split <;> omega)]
  obtain ⟨r1, r2⟩ := fold_range a0_0
  cases hb : (foldC a0_0).2
  · rw [if_neg (by decide), if_pos (r2 hb), hs, Option.bind_some]; simp
  · obtain ⟨q1, q2⟩ := r1 hb
    rw [if_pos rfl, if_pos q1]
    by_cases q : (foldC a0_0).1 < 32
    · rw [if_pos q, hs, Option.bind_some]; simp
    · rw [if_neg q, if_pos (by omega), hs, Option.bind_some]; simp

end Go.Proofs.Ytcjokajnlpcdiaa.Pure
