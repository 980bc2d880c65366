/- QueueSplits: whatever the arguments, the law answers true, and the arguments read as they did. No condition. -/
import Derived.Test.YtehnppklfaoikaaRows
import Derived.Test.YtehnppklfaoikaaL5
import Derived.Test.YtehnppklfaoikaaPureQueueSplits
import Derived.Test.YtehnppklfaoikaaHOpen
import Derived.WalkKit
import Derived.ProofKit
import Derived.OpenShut
import Derived.ShutString
import Derived.ChangeOld
import Derived.Below
import Derived.SizedLaws
namespace Go.Proofs.Ytehnppklfaoikaa.queueSplits
open Go.ChangeShapes Go.WideShapes Go.ChangeAt Go.RowKit Go.Proofs.YtehnppklfaoikaaW.PrintWords Go.Proofs.Ytehnppklfaoikaa.L Go.Proofs.Ytehnppklfaoikaa.H Go.Proofs.Ytehnppklfaoikaa.F
open Go.ChangeMaps (open_string shut_string)
set_option linter.unusedVariables false
theorem own : ownKnob Try.prog.godebug = none := by kernel_rfl
theorem laidOut : laidOutB Try.prog = true := by kernel_rfl
theorem op32 : Opens Try.prog 32 k32 (fun z => (∀ y ∈ z.f0, (Lit.int .u8 y).wf = true) ∧ (Lit.int .i64 z.f1).wf = true) := by
  have h := opens_iso (f := fun x : S32 => (x.f0, x.f1)) (fun a => (⟨a.1, a.2⟩ : S32)) (fun _ => rfl) (opens_struct Try.underlying32 (by kernel_rfl) rfl (opensF_cons (opens_slice Try.underlying28 (by kernel_rfl) (opens_int Try.underlying5)) (by kernel_rfl) rfl (opensF_last (opens_int Try.underlying3) (by kernel_rfl) rfl rfl)))
  exact h
set_option maxRecDepth 100000 in
set_option maxHeartbeats 1000000 in
theorem lifted (os : Os) (started : os.Started) (H : Type) (enc : TypeId × Value → H) :
    ReturnsInHanded {} Try.checked os 5 .any (Rows.queueSplitsSpec.pre6 enc Try.prog Try.f5 Rows.queueSplitsRow.domain false) (Rows.queueSplitsSpec.post enc Try.prog Try.f5 false true false false) := by
  refine returnsInHanded_of_change (C := Try.checked) own started (by kernel_rfl) Try.func5
    (ChangeSpec.witness6 (enc := enc) (C := Try.checked) false ⟨#[], #[.slice none 0 0, .agg #[.int .i64 0, .int .i64 0]], []⟩ 8 (by kernel_rfl) (by kernel_rfl) (by kernel_rfl) (by kernel_rfl)) ?_
  intro W base args ds gs before hval0 hW hcnd _
  have hval : ∀ (j : Nat) t v, Try.f5.params[j]? = some t → args[j]? = some v → Value.okWide Try.prog W .any base t v := hval0
  have hW' := hW
  obtain ⟨p, q, hA0, hV, rfl, hfz, hnd⟩ := hW
  have hA : DataW.TrodAll enc Try.prog W 0 (fun _ => true) true Try.f5.params.toList args.toList ds p := hA0
  rw [Try.params5] at hA hval
  obtain ⟨v0, vs0, d0, ds0, p0, q0, hargs, rfl, rfl, h0, r0⟩ := trodAll_cons hA
  obtain ⟨v1, vs1, d1, ds1, p1, q1, rfl, rfl, rfl, h1, r1⟩ := trodAll_cons r0
  obtain ⟨rfl, rfl, rfl⟩ := trodAll_nil r1
  obtain rfl : args = #[v0, v1] := by cases args; simp_all
  obtain ⟨rfl, rfl⟩ := trodVars_none hV
  have k0 := h0
  have lt0 : ∀ x ∈ p0, x.block < W.heap.size := by obtain ⟨m, hm⟩ := k0; exact DataW.trod_lt m _ _ _ hm
  obtain ⟨a0, len0, cap0, rfl⟩ := okWide_slice Try.underlying22 (hval 0 22 v0 rfl rfl)
  obtain ⟨l0, ⟨A0, c0, hcs0, hc0, hr0⟩, g0⟩ := opens_arg (opens_slice Try.underlying22 (by kernel_rfl) op32) h0
  simp [Value.cells] at hcs0
  obtain ⟨rfl, rfl, rfl⟩ := hcs0
  have k1 := h1
  have lt1 : ∀ x ∈ p1, x.block < W.heap.size := by obtain ⟨m, hm⟩ := k1; exact DataW.trod_lt m _ _ _ hm
  obtain ⟨cs1, rfl, _⟩ := okWide_array Try.underlying43 (hval 1 43 v1 rfl rfl)
  obtain ⟨⟨a1_0, a1_1⟩, hK1, hg1⟩ := opens_arg (opens_array2 Try.underlying43 (by kernel_rfl) (by kernel_rfl) (opens_int Try.underlying3)) h1
  obtain ⟨_, _, hcs1, rfl, rfl⟩ := hK1
  obtain ⟨g1_0, g1_1⟩ := hg1
  obtain rfl : cs1 = #[.int .i64 a1_0, .int .i64 a1_1] := by
    have e := congrArg List.toArray hcs1
    simpa [Value.cells] using e
  clear hA0 hval0
  have hk := Pure.QueueSplits l0 a1_0 a1_1 g0 g1_0 g1_1
  refine (clavierlaw04_QueueSplits.calls a0 cap0 l0 a1_0 a1_1 true W hr0 hc0 hk).mono fun e W' ⟨he, bel0⟩ => ?_
  have bel : Below W.heap.size W W' := bel0
  subst he
  exact ⟨_, rfl, _, _, _, [], _, [], hW', trodAll_mk1 (shut_bool Try.underlying4 _), (trodAll_cons_mk (Below.trod laidOut (by kernel_rfl) (of_decide_eq_true (by kernel_rfl)) k0 bel lt0) (trodAll_cons_mk (Below.trod laidOut (by kernel_rfl) (of_decide_eq_true (by kernel_rfl)) k1 bel lt1) trodAll_mk0)), rfl, bel.frame _, fun h => by cases h⟩
theorem over : Rows.queueSplitsRow.holds Try.pinned (OpenSpec.ofChange Rows.queueSplitsSpec) :=
  OpenClaim.holds_of_wide 5 Try.f5 rfl rfl rfl rfl rfl rfl rfl ⟨rfl, rfl, rfl, rfl, rfl⟩ rfl rfl rfl rfl rfl (by kernel_rfl) Try.func5 (by kernel_rfl)
    (of_decide_eq_true (by kernel_rfl)) (by unfold Func.isWrapper; first | (rw [if_pos (by decide +kernel)]; kernel_rfl) | (rw [if_neg (by decide +kernel)]; exact ⟨rfl, rfl⟩))
    (fun os started H enc _ => lifted os started H enc)
theorem proved : Rows.QueueSplitsSaid := over
#print axioms proved
end Go.Proofs.Ytehnppklfaoikaa.queueSplits
namespace Go.Proofs.Ytehnppklfaoikaa
/-- The row, under a short name, for the claim. -/
theorem queueSplits_holds : Rows.QueueSplitsSaid := queueSplits.proved
end Go.Proofs.Ytehnppklfaoikaa
