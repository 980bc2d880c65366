import Derived.Test.YtlnnjdjdpfifiaaStackPlainT
import Derived.Test.YtlnnjdjdpfifiaaR7
namespace Go.Proofs.Ytlnnjdjdpfifiaa.Pure
open Go.RowKit Go.Proofs.YtlnnjdjdpfifiaaW.PrintWords Go.Proofs.Ytlnnjdjdpfifiaa.R Go.Proofs.Ytlnnjdjdpfifiaa.H

theorem fin32 {P : Int → Int → Prop} (h : ∀ n f : Fin 32, P (n.val : Int) (f.val : Int)) (n f : Int) (hn : 0 ≤ n ∧ n < 32) (hf : 0 ≤ f ∧ f < 32) : P n f := by
  have := h ⟨n.toNat, by omega⟩ ⟨f.toNat, by omega⟩
  simp only [Int.toNat_of_nonneg hn.1, Int.toNat_of_nonneg hf.1] at this
  exact this
theorem both_ok (n f : Int) (hn : 0 ≤ n ∧ n < 32) (hf : 0 ≤ f ∧ f < 32) : clavierlaw08_both.f 7 n f = some (n + f - Go.bits .or .i64 n f) ∧ Go.bits .andNot .i64 (Go.bits .or .i64 n f) f = n - (n + f - Go.bits .or .i64 n f) ∧ 0 ≤ Go.bits .or .i64 n f ∧ Go.bits .or .i64 n f < 32 :=
  fin32 (P := fun n f => clavierlaw08_both.f 7 n f = some (n + f - Go.bits .or .i64 n f) ∧ Go.bits .andNot .i64 (Go.bits .or .i64 n f) f = n - (n + f - Go.bits .or .i64 n f) ∧ 0 ≤ Go.bits .or .i64 n f ∧ Go.bits .or .i64 n f < 32) (by decide +kernel) n f hn hf
theorem both_k (k : Nat) (n f : Int) (hn : 0 ≤ n ∧ n < 32) (hf : 0 ≤ f ∧ f < 32) : clavierlaw08_both.f (k + 7) n f = some (n + f - Go.bits .or .i64 n f) := by
  induction k with
  | zero => exact (both_ok n f hn hf).1
  | succ k ih => exact clavierlaw08_both.mono n f (k + 7) _ ih
set_option linter.unusedVariables false
theorem StackPuts (a0_0 : Int) (l0_1 : List Int) (a1 : Int) (a2_0 : Int) (l2_1 : List Int) (g0_0 : (Lit.int .i64 a0_0).wf = true) (g0_1 : (∀ z ∈ l0_1, (Lit.int .i64 z).wf = true)) (g1 : (Lit.int .i64 a1).wf = true) (g2_0 : (Lit.int .i64 a2_0).wf = true) (g2_1 : (∀ z ∈ l2_1, (Lit.int .i64 z).wf = true)) :
    ∃ k, clavierlaw08_StackPuts.f k a0_0 l0_1 a1 a2_0 l2_1 = some true := by

  have ha := wf64 g1
  refine ⟨12, ?_⟩
  unfold clavierlaw08_StackPuts.f
  rw [awake, Option.bind_some, flags_eq 3, Option.bind_some, flags_eq 3, Option.bind_some]
  have hn := F_range a0_0
  have hf := F_range a1
  have hL : ((l0_1.take 8).map F).length ≤ 8 := by rw [List.length_map, List.length_take]; omega
  have hM : ((l2_1.take 8).map F).length ≤ 8 := by rw [List.length_map, List.length_take]; omega
  generalize (l0_1.take 8).map F = L at hL
  generalize (l2_1.take 8).map F = M at hM
  dsimp only
  show (some (F a0_0, L)).bind _ = _
  rw [Option.bind_some, ref_Flags, Option.bind_some]
  dsimp only
  rw [put_eq _ _ _ _ (by omega), Option.bind_some]
  dsimp only
  rw [put_eq _ _ _ _ (by omega), Option.bind_some, put_eq _ _ _ _ (by omega), Option.bind_some, if_pos rfl]
  obtain ⟨b1, b2, b3, b4⟩ := both_ok (F a0_0) (F a1) hn hf
  have e2 : putNow (F a0_0) a1 2 = Go.bits .or .i64 (F a0_0) (F a1) := by
    unfold putNow
    rw [if_neg (by decide), if_pos rfl, fl_F ha.2]
  have e3 : ∀ x, putNow x a1 3 = Go.bits .andNot .i64 x (F a1) := by
    intro x
    unfold putNow
    rw [if_neg (by decide), if_neg (by decide), if_pos rfl, fl_F ha.2]
  have e4 : putNow (F a0_0) a1 4 = F a0_0 := by
    unfold putNow
    rw [if_neg (by decide), if_neg (by decide), if_neg (by decide)]
  have e0 : ∀ x, putNow x 0 1 = 0 := by
    intro x
    unfold putNow
    rw [if_pos rfl]
    decide
  rw [both_k 5 _ _ hn hf, Option.bind_some, e2, e3, e4, b2]
  rw [w64 (n := F a0_0 + F a1) (by omega) (by omega), w64 (n := F a0_0 + F a1 - _) (by omega) (by omega)]
  rw [if_pos (by omega), Option.bind_some, w64 (n := F a0_0 - _) (by omega) (by omega), if_pos rfl]
  dsimp only
  rw [same_eq _ _ _ _ _ (by omega) (by omega), Option.bind_some, if_pos (by simp)]
  show (some (F a2_0, M)).bind _ = _
  rw [Option.bind_some]
  dsimp only
  rw [stackSame_eq _ _ _ _ _ (by omega) (by omega), Option.bind_some, refSame_eq _ _ _ _ _ (by omega) (by omega), Option.bind_some, if_pos (by simp), put_eq _ _ _ _ (by omega), Option.bind_some, put_eq _ _ _ _ (by omega), Option.bind_some]
  dsimp only
  rw [e0, e0, stackSame_eq _ _ _ _ _ (by omega) (by omega)]
  simp

end Go.Proofs.Ytlnnjdjdpfifiaa.Pure
