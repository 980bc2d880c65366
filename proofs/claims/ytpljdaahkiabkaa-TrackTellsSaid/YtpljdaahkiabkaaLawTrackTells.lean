/- TrackTells: whatever the arguments, the law answers true, and the arguments read as they did. No condition. -/
import Derived.Test.YtpljdaahkiabkaaRows
import Derived.Test.YtpljdaahkiabkaaQ5
import Derived.Test.YtpljdaahkiabkaaPureTrackTells
import Derived.Test.YtpljdaahkiabkaaHOpen
import Derived.WalkKit
import Derived.ProofKit
import Derived.OpenShut
import Derived.ShutString
import Derived.ChangeOld
import Derived.Below
import Derived.SizedLaws
namespace Go.Proofs.Ytpljdaahkiabkaa.trackTells
open Go.ChangeShapes Go.WideShapes Go.ChangeAt Go.RowKit Go.Proofs.YtpljdaahkiabkaaW.PrintWords Go.Proofs.Ytpljdaahkiabkaa.Q Go.Proofs.Ytpljdaahkiabkaa.H
open Go.ChangeMaps (open_string shut_string)
set_option linter.unusedVariables false
theorem own : ownKnob Try.prog.godebug = none := by kernel_rfl
theorem laidOut : laidOutB Try.prog = true := by kernel_rfl
set_option maxRecDepth 100000 in
set_option maxHeartbeats 1000000 in
theorem lifted (os : Os) (started : os.Started) (H : Type) (enc : TypeId × Value → H) :
    ReturnsInHanded {} Try.checked os 3 .any (Rows.trackTellsSpec.pre6 enc Try.prog Try.f3 Rows.trackTellsRow.domain false) (Rows.trackTellsSpec.post enc Try.prog Try.f3 false true false false) := by
  refine returnsInHanded_of_change (C := Try.checked) own started (by kernel_rfl) Try.func3
    (ChangeSpec.witness6 (enc := enc) (C := Try.checked) false ⟨#[], #[.int .i64 0, .agg #[.int .i64 0, .int .i64 0], .agg #[.int .i64 0, .int .i64 0, .int .i64 0, .int .i64 0, .int .i64 0]], []⟩ 8 (by kernel_rfl) (by kernel_rfl) (by kernel_rfl) (by kernel_rfl)) ?_
  intro W base args ds gs before hval0 hW hcnd _
  have hval : ∀ (j : Nat) t v, Try.f3.params[j]? = some t → args[j]? = some v → Value.okWide Try.prog W .any base t v := hval0
  have hW' := hW
  obtain ⟨p, q, hA0, hV, rfl, hfz, hnd⟩ := hW
  have hA : DataW.TrodAll enc Try.prog W 0 (fun _ => true) true Try.f3.params.toList args.toList ds p := hA0
  rw [Try.params3] at hA hval
  obtain ⟨v0, vs0, d0, ds0, p0, q0, hargs, rfl, rfl, h0, r0⟩ := trodAll_cons hA
  obtain ⟨v1, vs1, d1, ds1, p1, q1, rfl, rfl, rfl, h1, r1⟩ := trodAll_cons r0
  obtain ⟨v2, vs2, d2, ds2, p2, q2, rfl, rfl, rfl, h2, r2⟩ := trodAll_cons r1
  obtain ⟨rfl, rfl, rfl⟩ := trodAll_nil r2
  obtain rfl : args = #[v0, v1, v2] := by cases args; simp_all
  obtain ⟨rfl, rfl⟩ := trodVars_none hV
  have k0 := h0
  have lt0 : ∀ x ∈ p0, x.block < W.heap.size := by obtain ⟨m, hm⟩ := k0; exact DataW.trod_lt m _ _ _ hm
  obtain ⟨a0, rfl, rfl, rfl, g0⟩ := open_int Try.underlying3 (hval 0 3 v0 rfl rfl) h0
  have k1 := h1
  have lt1 : ∀ x ∈ p1, x.block < W.heap.size := by obtain ⟨m, hm⟩ := k1; exact DataW.trod_lt m _ _ _ hm
  obtain ⟨cs1, rfl, _⟩ := okWide_struct Try.underlying23 (hval 1 23 v1 rfl rfl)
  obtain ⟨⟨a1_0, a1_1⟩, hK1, hg1⟩ := opens_arg (opens_struct Try.underlying23 (by kernel_rfl) rfl (opensF_cons (opens_int Try.underlying3) (by kernel_rfl) rfl (opensF_last (opens_int Try.underlying3) (by kernel_rfl) rfl rfl))) h1
  obtain ⟨_, _, hcs1, rfl, rfl⟩ := hK1
  obtain ⟨g1_0, g1_1⟩ := hg1
  obtain rfl : cs1 = #[.int .i64 a1_0, .int .i64 a1_1] := by
    have e := congrArg List.toArray hcs1
    simpa [Value.cells] using e
  have k2 := h2
  have lt2 : ∀ x ∈ p2, x.block < W.heap.size := by obtain ⟨m, hm⟩ := k2; exact DataW.trod_lt m _ _ _ hm
  obtain ⟨cs2, rfl, _⟩ := okWide_struct Try.underlying25 (hval 2 25 v2 rfl rfl)
  obtain ⟨⟨a2_0, a2_1, a2_2, a2_3, a2_4⟩, hK2, hg2⟩ := opens_arg (opens_struct Try.underlying25 (by kernel_rfl) rfl (opensF_cons (opens_int Try.underlying3) (by kernel_rfl) rfl (opensF_cons (opens_int Try.underlying3) (by kernel_rfl) rfl (opensF_cons (opens_int Try.underlying3) (by kernel_rfl) rfl (opensF_cons (opens_int Try.underlying3) (by kernel_rfl) rfl (opensF_last (opens_int Try.underlying3) (by kernel_rfl) rfl rfl)))))) h2
  obtain ⟨_, _, hcs2, rfl, ⟨_, _, rfl, rfl, ⟨_, _, rfl, rfl, ⟨_, _, rfl, rfl, rfl⟩⟩⟩⟩ := hK2
  obtain ⟨g2_0, g2_1, g2_2, g2_3, g2_4⟩ := hg2
  obtain rfl : cs2 = #[.int .i64 a2_0, .int .i64 a2_1, .int .i64 a2_2, .int .i64 a2_3, .int .i64 a2_4] := by
    have e := congrArg List.toArray hcs2
    simpa [Value.cells] using e
  clear hA0 hval0
  obtain ⟨k, hk⟩ := Pure.TrackTells a0 a1_0 a1_1 a2_0 a2_1 a2_2 a2_3 a2_4 g0 g1_0 g1_1 g2_0 g2_1 g2_2 g2_3 g2_4
  refine (clavierlaw15_TrackTells.calls k a0 a1_0 a1_1 a2_0 a2_1 a2_2 a2_3 a2_4 true W hk).mono fun e W' ⟨he, bel0⟩ => ?_
  have bel : Below W.heap.size W W' := bel0
  subst he
  exact ⟨_, rfl, _, _, _, [], _, [], hW', trodAll_mk1 (shut_bool Try.underlying4 _), (trodAll_cons_mk (Below.trod laidOut (by kernel_rfl) (of_decide_eq_true (by kernel_rfl)) k0 bel lt0) (trodAll_cons_mk (Below.trod laidOut (by kernel_rfl) (of_decide_eq_true (by kernel_rfl)) k1 bel lt1) (trodAll_cons_mk (Below.trod laidOut (by kernel_rfl) (of_decide_eq_true (by kernel_rfl)) k2 bel lt2) trodAll_mk0))), rfl, bel.frame _, fun h => by cases h⟩
theorem over : Rows.trackTellsRow.holds Try.pinned (OpenSpec.ofChange Rows.trackTellsSpec) :=
  OpenClaim.holds_of_wide 3 Try.f3 rfl rfl rfl rfl rfl rfl rfl ⟨rfl, rfl, rfl, rfl, rfl⟩ rfl rfl rfl rfl rfl (by kernel_rfl) Try.func3 (by kernel_rfl)
    (of_decide_eq_true (by kernel_rfl)) (by unfold Func.isWrapper; first | (rw [if_pos (by decide +kernel)]; kernel_rfl) | (rw [if_neg (by decide +kernel)]; exact ⟨rfl, rfl⟩))
    (fun os started H enc _ => lifted os started H enc)
theorem proved : Rows.TrackTellsSaid := over
#print axioms proved
end Go.Proofs.Ytpljdaahkiabkaa.trackTells
namespace Go.Proofs.Ytpljdaahkiabkaa
/-- The row, under a short name, for the claim. -/
theorem trackTells_holds : Rows.TrackTellsSaid := trackTells.proved
end Go.Proofs.Ytpljdaahkiabkaa
