import Derived.Test.YtlnnjdjdpfifiaaStackPlain
import Derived.Test.YtlnnjdjdpfifiaaR5
namespace Go.Proofs.Ytlnnjdjdpfifiaa.Pure
open Go.RowKit Go.Proofs.YtlnnjdjdpfifiaaW.PrintWords Go.Proofs.Ytlnnjdjdpfifiaa.R Go.Proofs.Ytlnnjdjdpfifiaa.H

theorem pops_all (n : Int) (l : List Int) (a : Int) (h : (l.length : Int) < a) (h0 : 0 < a) : popNow n l a = 0 ∧ popKept l a = [] := by
  exact ⟨pn2 (by omega) (by omega), pk2 (by omega) (by omega)⟩
theorem deep_loop (l : List Int) (a : Int) (ha : 0 ≤ a ∧ a ≤ 255) (hl : l.length ≤ 40) (hw : ∀ z ∈ l, z ≤ 9223372036854775807) : ∀ (m i k : Nat) (n : Int) (acc : List Int), i + m = l.length → acc.length ≤ 8 →
    clavierlaw08_StackDeep.l0 (k + m + 1) l a true i n acc = some true := by
  intro m
  induction m with
  | zero =>
    intro i k n acc hi hacc
    rw [clavierlaw08_StackDeep.l0, if_neg (by omega), w64 (n := a) (by omega) (by omega), w64 (by omega) (by omega), pop_eq n acc _ (by omega), Option.bind_some, if_pos rfl]
    obtain ⟨e1, e2⟩ := pops_all n acc (9 + a) (by omega) (by omega)
    rw [e1, e2, if_pos rfl]
    rfl
  | succ m ih =>
    intro i k n acc hi hacc
    have hil : i < l.length := by omega
    rw [show k + (m + 1) + 1 = (k + m + 1) + 1 by omega, clavierlaw08_StackDeep.l0, if_pos (by omega), if_pos (by omega), rd_nat l i hil]
    have hz := hw l[i] (List.getElem_mem hil)
    rw [push_eq n acc _ (by omega) hz, Option.bind_some, ref_Flags]
    have h8 := last8_len (acc ++ [n])
    rw [if_neg (by show ¬ ((last8 (acc ++ [n])).length : Int) > 8; omega), Option.bind_some, if_pos rfl, w64 (by omega) (by omega)]
    have := ih (i + 1) k (F l[i]) (last8 (acc ++ [n])) (by omega) h8
    rw [← this]
    norm_cast
set_option linter.unusedVariables false
theorem StackDeep (l0 : List Int) (a1 : Int) (g0 : (∀ z ∈ l0, (Lit.int .i64 z).wf = true)) (g1 : (Lit.int .u8 a1).wf = true) :
    ∃ k, clavierlaw08_StackDeep.f k l0 a1 = some true := by

  have ha := wf8 g1
  refine ⟨42, ?_⟩
  unfold clavierlaw08_StackDeep.f
  rw [awake, Option.bind_some]
  by_cases h : (l0.length : Int) > 40
  · rw [if_pos h]
  · rw [if_neg h]
    have := deep_loop l0 a1 ha (by omega) (fun z hz => (wf64 (g0 z hz)).2) l0.length 0 (41 - l0.length) 0 [] (by omega) (by simp)
    rw [show 41 - l0.length + l0.length + 1 = 42 by omega] at this
    exact this

end Go.Proofs.Ytlnnjdjdpfifiaa.Pure
