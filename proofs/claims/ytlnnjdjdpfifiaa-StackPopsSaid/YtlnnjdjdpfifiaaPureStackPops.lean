import Derived.Test.YtlnnjdjdpfifiaaStackPlain
import Derived.Test.YtlnnjdjdpfifiaaR6
namespace Go.Proofs.Ytlnnjdjdpfifiaa.Pure
open Go.RowKit Go.Proofs.YtlnnjdjdpfifiaaW.PrintWords Go.Proofs.Ytlnnjdjdpfifiaa.R Go.Proofs.Ytlnnjdjdpfifiaa.H


set_option linter.unusedVariables false
theorem StackPops (a0_0 : Int) (l0_1 : List Int) (a1 : Int) (a2 : Int) (g0_0 : (Lit.int .i64 a0_0).wf = true) (g0_1 : (∀ z ∈ l0_1, (Lit.int .i64 z).wf = true)) (g1 : (Lit.int .u8 a1).wf = true) (g2 : (Lit.int .u8 a2).wf = true) :
    ∃ k, clavierlaw08_StackPops.f k a0_0 l0_1 a1 a2 = some true := by

  have ha := wf8 g1
  have hb := wf8 g2
  refine ⟨12, ?_⟩
  unfold clavierlaw08_StackPops.f
  rw [awake, Option.bind_some, flags_eq 3, Option.bind_some]
  show (stack_Pop.f (F a0_0) ((l0_1.take 8).map F) (wrap64 (wrap64 a1 + wrap64 a2))).bind _ = _
  have hL : ((l0_1.take 8).map F).length ≤ 8 := by rw [List.length_map, List.length_take]; omega
  generalize (l0_1.take 8).map F = L at hL
  rw [w64 (n := a1) (by omega) (by omega), w64 (n := a2) (by omega) (by omega), w64 (by omega) (by omega), pop_eq _ _ _ (by omega), Option.bind_some]
  show (stack_Pop.f (F a0_0) L a1).bind _ = _
  rw [pop_eq _ _ _ (by omega), Option.bind_some]
  have hk := popKept_len L a1
  show (stack_Pop.f (popNow (F a0_0) L a1) (popKept L a1) a2).bind _ = _
  rw [pop_eq _ _ _ (by omega), Option.bind_some, if_pos rfl]
  dsimp only
  obtain ⟨e1, e2⟩ := pop_pop (F a0_0) L a1 a2 ha.1 hb.1
  have hk2 := popKept_len L (a1 + a2)
  rw [e1, e2, stackSame_eq _ _ _ _ _ (by omega) (by omega)]
  simp

end Go.Proofs.Ytlnnjdjdpfifiaa.Pure
