import Derived.Test.YtkbepgelgcoihaaKeysPlainT
import Derived.Test.YtkbepgelgcoihaaS4
namespace Go.Proofs.Ytkbepgelgcoihaa.Pure
open Go.RowKit Go.Proofs.YtkbepgelgcoihaaW.PrintWords Go.Proofs.Ytkbepgelgcoihaa.S Go.Proofs.Ytkbepgelgcoihaa.H
set_option linter.unusedVariables false

theorem main_at (i : Nat) (h : i < 55) : mainL.drop i = (57344 + (i : Int), lookE (57344 + (i : Int))) :: mainL.drop (i + 1) := by
  have hl : i < mainL.length := by unfold mainL; rw [List.length_map, List.length_range]; exact h
  rw [List.drop_eq_getElem_cons hl]
  have : mainL[i] = (57344 + (i : Int), lookE (57344 + (i : Int))) := by simp [mainL]
  rw [this]
theorem main_end : mainL.drop 55 = [] := by
  apply List.drop_eq_nil_of_le
  unfold mainL
  rw [List.length_map, List.length_range]
  exact Nat.le_refl _
theorem find_loop (a0 a1 : Int) : ∀ (m i : Nat) (k : Nat), i + m = 55 → clavierref09_Find.l0 (k + (m + 11)) a0 a1 (57344 + (i : Int)) = some (match (mainL.drop i).find? (hitR a0 a1) with | some x => (x.1, true) | none => (0, false)) := by
  intro m
  induction m with
  | zero =>
    intro i k hi
    obtain rfl : i = 55 := by omega
    rw [show k + (0 + 11) = (k + 10) + 1 by omega, clavierref09_Find.l0, if_neg (by decide), main_end]
    rfl
  | succ m ih =>
    intro i k hi
    rw [show k + (m + 1 + 11) = (k + (m + 11)) + 1 by omega, clavierref09_Find.l0, if_pos (by omega), show k + (m + 11) = (k + m + 1) + 10 by omega, ref_look, Option.bind_some, main_at i (by omega), List.find?_cons]
    have hn := ih (i + 1) k (by omega)
    rw [show k + (m + 11) = (k + m + 1) + 10 by omega, show (57344 : Int) + ((i + 1 : Nat) : Int) = 57344 + (i : Int) + 1 by omega] at hn
    rw [wr (by omega) (by omega), hn]
    generalize 57344 + (i : Int) = c
    obtain ⟨kd, fi, nu, ch, ks⟩ : LookT := lookE c
    unfold hitR
    dsimp only
    generalize hG : (match List.find? (hitR a0 a1) (mainL.drop (i + 1)) with | some x => (x.1, true) | none => ((0 : Int), false)) = G
    by_cases h3 : kd = 3
    · rw [if_pos h3]
      by_cases hf : fi = a0
      · rw [if_pos hf]; simp [h3, hf]
      · rw [if_neg hf, if_neg (by omega)]; simp [h3, hf, hG, beq_eq_false_iff_ne.mpr hf]
    · rw [if_neg h3]
      by_cases h4 : kd = 4
      · rw [if_pos h4]
        by_cases hx : a0 = 126
        · rw [if_pos hx]
          by_cases hn2 : nu = a1
          · rw [if_pos hn2]; simp [h4, hx, hn2]
          · rw [if_neg hn2]; simp [h4, hx, hG, beq_eq_false_iff_ne.mpr hn2]
        · rw [if_neg hx]; simp [h4, hG, beq_eq_false_iff_ne.mpr hx]
      · rw [if_neg h4]; simp [hG, beq_eq_false_iff_ne.mpr h3, beq_eq_false_iff_ne.mpr h4]
theorem KeysFind (a0 : Int) (a1 : Int) (g0 : (Lit.int .u8 a0).wf = true) (g1 : (Lit.int .i64 a1).wf = true) :
    ∃ k, clavierlaw09_KeysFind.f k a0 a1 = some true := by
  refine ⟨0 + (55 + 11), ?_⟩
  unfold clavierlaw09_KeysFind.f
  have h := find_loop a0 a1 55 0 0 (by omega)
  rw [awake, Option.bind_some, show keys_Find.f a0 a1 = some (findE a0 a1) from rfl, Option.bind_some]
  unfold clavierref09_Find.f
  rw [show (57344 : Int) = 57344 + ((0 : Nat) : Int) from rfl, h, Option.bind_some, if_pos rfl, List.drop_zero, ← find_main]
  unfold findE
  cases (ENTS 21).find? (hitB a0 a1) <;> simp

end Go.Proofs.Ytkbepgelgcoihaa.Pure
