import Derived.Test.YtlnnjdjdpfifiaaStackPlainT
import Derived.Test.YtlnnjdjdpfifiaaR8
namespace Go.Proofs.Ytlnnjdjdpfifiaa.Pure
open Go.RowKit Go.Proofs.YtlnnjdjdpfifiaaW.PrintWords Go.Proofs.Ytlnnjdjdpfifiaa.R Go.Proofs.Ytlnnjdjdpfifiaa.H

theorem last8_snoc (L : List Int) (x : Int) : last8 (L ++ [x]) = L.drop (L.length - 7) ++ [x] := by
  unfold last8
  rw [List.length_append, List.length_cons, List.length_nil, show L.length + (0 + 1) - 8 = L.length - 7 by omega, List.drop_append_of_le_length (by omega)]
theorem pop_one (n : Int) (D : List Int) (x : Int) : popNow n (D ++ [x]) 1 = x ∧ popKept (D ++ [x]) 1 = D := by
  have hl : (D ++ [x]).length = D.length + 1 := by simp
  rw [pn1 (by decide) (by omega), pk1 (by decide) (by omega), hl, show D.length + 1 - (1 : Int).toNat = D.length by show D.length + 1 - 1 = _; omega]
  constructor
  · unfold left
    rw [if_pos (by omega), List.getD_eq_getElem?_getD, List.getElem?_append_right (Nat.le_refl _)]
    simp
  · simp
set_option linter.unusedVariables false
theorem StackTop (a0_0 : Int) (l0_1 : List Int) (a1 : Int) (g0_0 : (Lit.int .i64 a0_0).wf = true) (g0_1 : (∀ z ∈ l0_1, (Lit.int .i64 z).wf = true)) (g1 : (Lit.int .i64 a1).wf = true) :
    ∃ k, clavierlaw08_StackTop.f k a0_0 l0_1 a1 = some true := by

  have ha := wf64 g1
  refine ⟨12, ?_⟩
  unfold clavierlaw08_StackTop.f
  rw [awake, Option.bind_some, flags_eq 3, Option.bind_some]
  show (stack_Push.f (F a0_0) ((l0_1.take 8).map F) a1).bind _ = _
  have hL : ((l0_1.take 8).map F).length ≤ 8 := by rw [List.length_map, List.length_take]; omega
  generalize (l0_1.take 8).map F = L at hL
  rw [push_eq _ _ _ (by omega) ha.2, Option.bind_some, last8_snoc]
  have hD : (L.drop (L.length - 7)).length ≤ 7 := by rw [List.length_drop]; omega
  have hD8 : L.length = 8 → (L.drop (L.length - 7)).length = 7 := fun h => by rw [List.length_drop]; omega
  have hDL : L.length ≠ 8 → L.drop (L.length - 7) = L := fun h => by rw [show L.length - 7 = 0 by omega]; rfl
  generalize L.drop (L.length - 7) = D at hD hD8 hDL
  have hl : (D ++ [F a0_0]).length = D.length + 1 := by simp
  show (if wrap64 (((D ++ [F a0_0]).length : Int) - 1) < 0 then _ else _) = _
  dsimp only
  rw [w64 (by omega) (by omega), if_neg (by omega), pop_eq _ _ _ (by omega), Option.bind_some, if_pos rfl, ref_Flags, Option.bind_some]
  obtain ⟨e1, e2⟩ := pop_one (F a1) D (F a0_0)
  dsimp only
  rw [if_pos rfl, if_pos (by omega), if_pos (by omega)]
  have hr : rd (D ++ [F a0_0]) (((D ++ [F a0_0]).length : Int) - 1) = F a0_0 := by
    rw [show (((D ++ [F a0_0]).length : Int) - 1) = ((D.length : Nat) : Int) by omega, rd_nat _ _ (by omega)]
    simp
  rw [hr, if_pos rfl, e1, e2, if_pos rfl]
  by_cases h8 : L.length = 8
  · rw [if_pos (by omega), hD8 h8]
    rfl
  · rw [if_neg (by omega), hDL h8, stackSame_eq _ _ _ _ _ (by omega) (by omega), Option.bind_some]
    simp
    try omega

end Go.Proofs.Ytlnnjdjdpfifiaa.Pure
