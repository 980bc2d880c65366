import Derived.Test.YtlnnjdjdpfifiaaStackPlain
import Derived.Test.YtlnnjdjdpfifiaaR6
namespace Go.Proofs.Ytlnnjdjdpfifiaa.Pure
open Go.RowKit Go.Proofs.YtlnnjdjdpfifiaaW.PrintWords Go.Proofs.Ytlnnjdjdpfifiaa.R Go.Proofs.Ytlnnjdjdpfifiaa.H

theorem big_get (l : List Int) (x : Int) (i : Nat) (h : i < l.length) : (F x :: l.map F).getD (i + 1) 0 = F l[i] := by
  rw [List.getD_eq_getElem?_getD, List.getElem?_cons_succ, List.getElem?_map, List.getElem?_eq_getElem h]; rfl
theorem back_loop (l : List Int) (x : Int) (hl : l.length ≤ 8) (hw : ∀ z ∈ l, z ≤ 9223372036854775807) : ∀ (m i k : Nat), i + m = l.length →
    clavierlaw08_StackBack.l0 (k + m + 11) l true i ((F x :: l.map F).getD i 0) ((F x :: l.map F).take i) (F x) = some true := by
  intro m
  induction m with
  | zero =>
    intro i k hi
    have hlen : ((F x :: l.map F).take i).length = i := by rw [List.length_take, List.length_cons, List.length_map]; omega
    rw [show k + 0 + 11 = (k + 10) + 1 by omega, clavierlaw08_StackBack.l0, if_neg (by omega), if_pos rfl, pop_eq _ _ _ (by omega), Option.bind_some]
    have e : popNow ((F x :: l.map F).getD i 0) ((F x :: l.map F).take i) (l.length : Int) = F x ∧ popKept ((F x :: l.map F).take i) (l.length : Int) = [] := by
      by_cases h0 : i = 0
      · subst h0
        rw [pn0 (by omega), pk0 (by omega)]
        exact ⟨rfl, rfl⟩
      · rw [pn1 (by omega) (by omega), pk1 (by omega) (by omega), show ((F x :: l.map F).take i).length - ((l.length : Int)).toNat = 0 by omega]
        obtain ⟨j, rfl⟩ : ∃ j, i = j + 1 := ⟨i - 1, by omega⟩
        constructor
        · unfold left
          rw [if_pos (by omega)]
          rfl
        · rfl
    rw [e.1, e.2, stackSame_eq _ _ _ _ _ (by simp) (by simp), Option.bind_some]
    simp only [and_self, decide_true, if_true, hlen]
    rw [show i = l.length by omega]
    simp
  | succ m ih =>
    intro i k hi
    have hil : i < l.length := by omega
    have hlen : ((F x :: l.map F).take i).length = i := by rw [List.length_take, List.length_cons, List.length_map]; omega
    rw [show k + (m + 1) + 11 = (k + m + 11) + 1 by omega, clavierlaw08_StackBack.l0, if_pos (by omega), if_pos (by omega), rd_nat l i hil]
    have hz := hw l[i] (List.getElem_mem hil)
    rw [push_eq _ _ _ (by omega) hz, Option.bind_some, w64 (by omega) (by omega), last8_few (by rw [List.length_append, hlen, List.length_cons, List.length_nil]; omega)]
    have := ih (i + 1) k (by omega)
    rw [big_get l x i hil, List.take_add_one] at this
    have e : ((F x :: l.map F)[i]?).toList = [(F x :: l.map F).getD i 0] := by
      have hb : i < (F x :: l.map F).length := by rw [List.length_cons, List.length_map]; omega
      rw [List.getD_eq_getElem?_getD, List.getElem?_eq_getElem hb]; rfl
    rw [e] at this
    rw [← this]
    norm_cast
set_option linter.unusedVariables false
theorem StackBack (a0 : Int) (l1 : List Int) (g0 : (Lit.int .i64 a0).wf = true) (g1 : (∀ z ∈ l1, (Lit.int .i64 z).wf = true)) :
    ∃ k, clavierlaw08_StackBack.f k a0 l1 = some true := by

  refine ⟨20, ?_⟩
  unfold clavierlaw08_StackBack.f
  rw [awake, Option.bind_some]
  by_cases h : (l1.length : Int) > 8
  · rw [if_pos h]
  · rw [if_neg h, ref_Flags, Option.bind_some]
    have := back_loop l1 a0 (by omega) (fun z hz => (wf64 (g1 z hz)).2) l1.length 0 (9 - l1.length) (by omega)
    rw [show 9 - l1.length + l1.length + 11 = 20 by omega] at this
    exact this

end Go.Proofs.Ytlnnjdjdpfifiaa.Pure
