import Derived.Test.YtcjokajnlpcdiaaModsPlain
import Derived.Test.YtcjokajnlpcdiaaR7
namespace Go.Proofs.Ytcjokajnlpcdiaa.Pure
open Go.RowKit Go.Proofs.YtcjokajnlpcdiaaW.PrintWords Go.Proofs.Ytcjokajnlpcdiaa.R Go.Proofs.Ytcjokajnlpcdiaa.H
set_option linter.unusedVariables false

theorem fold_in : ∀ n : Fin 256, clavierref10_Fold.f 5 (n.val : Int) = some (foldC (n.val : Int)) := by decide +kernel
theorem fold_mono (k : Nat) (a : Int) {r : Int × Bool} (h : clavierref10_Fold.f 5 a = some r) : clavierref10_Fold.f (k + 5) a = some r := by
  induction k with
  | zero => rw [Nat.zero_add]; exact h
  | succ k ih => rw [show k + 1 + 5 = (k + 5) + 1 by omega]; exact clavierref10_Fold.mono a (k + 5) _ ih
theorem fold_out (a : Int) (h : a < 0 ∨ 255 < a) : clavierref10_Fold.f 5 a = some (0, false) := by
  rw [clavierref10_Fold.f, if_neg (by omega), if_neg (by omega), show (a == 64) = false from beq_eq_false_iff_ne.mpr (by omega), clavierref10_Fold.j0, if_neg (by decide)]
  have j3 : ∀ k, clavierref10_Fold.j3 (k + 1) a false = some (0, false) := fun k => by rw [clavierref10_Fold.j3, if_neg (by decide), if_neg (by omega), if_neg (by omega), if_neg (by omega)]
  have j2 : ∀ k, clavierref10_Fold.j2 (k + 2) a false = some (0, false) := fun k => by
    rw [clavierref10_Fold.j2, if_neg (by decide)]
    by_cases q : a ≥ 51
    · rw [if_pos q, decide_eq_false (by omega), j3]
    · rw [if_neg q, j3]
  have j1 : ∀ k, clavierref10_Fold.j1 (k + 3) a false = some (0, false) := fun k => by
    rw [clavierref10_Fold.j1, if_neg (by decide)]
    by_cases q : a ≥ 65
    · rw [if_pos q, decide_eq_false (by omega), j2]
    · rw [if_neg q, j2]
  by_cases q : a ≥ 97
  · rw [if_pos q, decide_eq_false (by omega), j1]
  · rw [if_neg q, j1]
theorem reffold_eq (k : Nat) (a : Int) : clavierref10_Fold.f (k + 5) a = some (foldC a) := by
  by_cases h : a < 0 ∨ 255 < a
  · have e : foldC a = (0, false) := by
      unfold foldC
      rw [if_neg (by omega), if_neg (by omega), if_pos h]
    rw [e]
    exact fold_mono k a (fold_out a h)
  · exact fold_mono k a (KeysRef.each (P := fun a => clavierref10_Fold.f 5 a = some (foldC a)) 0 256 (fun i => by rw [Int.zero_add]; exact fold_in i) a (by omega) (by omega))
theorem fold_loop (x y : Int) (b c : Bool) : ∀ (m i k : Nat), i + m = 201 → clavierlaw10_ModsFold.l0 (k + (m + 6)) true x b x b i = some true := by
  intro m
  induction m with
  | zero =>
    intro i k hi
    rw [show k + (0 + 6) = (k + 5) + 1 by omega, clavierlaw10_ModsFold.l0, if_neg (by omega), if_pos rfl, if_pos rfl]
    simp
  | succ m ih =>
    intro i k hi
    rw [show k + (m + 1 + 6) = (k + (m + 6)) + 1 by omega, clavierlaw10_ModsFold.l0, if_pos (by omega), show ∀ c, mods_Fold.f c = some (foldC c) from fun _ => rfl, Option.bind_some, show k + (m + 6) = (k + m + 1) + 5 by omega, reffold_eq, Option.bind_some, if_pos rfl, if_neg (by simp), w64 (by omega) (by omega), show (i : Int) + 1 = ((i + 1 : Nat) : Int) by omega]
    have := ih (i + 1) k (by omega)
    rw [show k + (m + 6) = (k + m + 1) + 5 by omega] at this
    exact this
theorem ModsFold (a0 : Int) (g0 : (Lit.int .i64 a0).wf = true) :
    ∃ k, clavierlaw10_ModsFold.f k a0 = some true := by
  refine ⟨0 + (201 + 6), ?_⟩
  unfold clavierlaw10_ModsFold.f
  rw [awake, Option.bind_some, show ∀ c, mods_Fold.f c = some (foldC c) from fun _ => rfl, Option.bind_some, show 0 + (201 + 6) = 202 + 5 from rfl, reffold_eq, Option.bind_some]
  exact fold_loop _ 0 _ false 201 0 0 (by omega)

end Go.Proofs.Ytcjokajnlpcdiaa.Pure
