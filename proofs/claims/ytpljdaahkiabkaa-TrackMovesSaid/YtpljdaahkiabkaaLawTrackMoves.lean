/- TrackMoves: whatever the arguments, the law answers true, and the arguments read as they did. No condition. -/
import Derived.Test.YtpljdaahkiabkaaRows
import Derived.Test.YtpljdaahkiabkaaM3
import Derived.Test.YtpljdaahkiabkaaPureTrackMoves
import Derived.Test.YtpljdaahkiabkaaHOpen
import Derived.WalkKit
import Derived.ProofKit
import Derived.OpenShut
import Derived.ShutString
import Derived.ChangeOld
import Derived.Below
import Derived.SizedLaws
namespace Go.Proofs.Ytpljdaahkiabkaa.trackMoves
open Go.ChangeShapes Go.WideShapes Go.ChangeAt Go.RowKit Go.Proofs.YtpljdaahkiabkaaW.PrintWords Go.Proofs.Ytpljdaahkiabkaa.M Go.Proofs.Ytpljdaahkiabkaa.H
open Go.ChangeMaps (open_string shut_string)
set_option linter.unusedVariables false
theorem own : ownKnob Try.prog.godebug = none := by kernel_rfl
theorem laidOut : laidOutB Try.prog = true := by kernel_rfl
set_option maxRecDepth 100000 in
set_option maxHeartbeats 1000000 in
theorem lifted (os : Os) (started : os.Started) (H : Type) (enc : TypeId × Value → H) :
    ReturnsInHanded {} Try.checked os 8 .any (Rows.trackMovesSpec.pre6 enc Try.prog Try.f8 Rows.trackMovesRow.domain false) (Rows.trackMovesSpec.post enc Try.prog Try.f8 false true false false) := by
  refine returnsInHanded_of_change (C := Try.checked) own started (by kernel_rfl) Try.func8
    (ChangeSpec.witness6 (enc := enc) (C := Try.checked) false ⟨#[], #[.agg #[.int .i64 0, .int .i64 0, .int .i64 0, .int .i64 0, .int .i64 0], .agg #[.int .i64 0, .int .i64 0], .bool false], []⟩ 8 (by kernel_rfl) (by kernel_rfl) (by kernel_rfl) (by kernel_rfl)) ?_
  intro W base args ds gs before hval0 hW hcnd _
  have hval : ∀ (j : Nat) t v, Try.f8.params[j]? = some t → args[j]? = some v → Value.okWide Try.prog W .any base t v := hval0
  have hW' := hW
  obtain ⟨p, q, hA0, hV, rfl, hfz, hnd⟩ := hW
  have hA : DataW.TrodAll enc Try.prog W 0 (fun _ => true) true Try.f8.params.toList args.toList ds p := hA0
  rw [Try.params8] at hA hval
  obtain ⟨v0, vs0, d0, ds0, p0, q0, hargs, rfl, rfl, h0, r0⟩ := trodAll_cons hA
  obtain ⟨v1, vs1, d1, ds1, p1, q1, rfl, rfl, rfl, h1, r1⟩ := trodAll_cons r0
  obtain ⟨v2, vs2, d2, ds2, p2, q2, rfl, rfl, rfl, h2, r2⟩ := trodAll_cons r1
  obtain ⟨rfl, rfl, rfl⟩ := trodAll_nil r2
  obtain rfl : args = #[v0, v1, v2] := by cases args; simp_all
  obtain ⟨rfl, rfl⟩ := trodVars_none hV
  have k0 := h0
  have lt0 : ∀ x ∈ p0, x.block < W.heap.size := by obtain ⟨m, hm⟩ := k0; exact DataW.trod_lt m _ _ _ hm
  obtain ⟨cs0, rfl, _⟩ := okWide_struct Try.underlying25 (hval 0 25 v0 rfl rfl)
  obtain ⟨⟨a0_0, a0_1, a0_2, a0_3, a0_4⟩, hK0, hg0⟩ := opens_arg (opens_struct Try.underlying25 (by kernel_rfl) rfl (opensF_cons (opens_int Try.underlying3) (by kernel_rfl) rfl (opensF_cons (opens_int Try.underlying3) (by kernel_rfl) rfl (opensF_cons (opens_int Try.underlying3) (by kernel_rfl) rfl (opensF_cons (opens_int Try.underlying3) (by kernel_rfl) rfl (opensF_last (opens_int Try.underlying3) (by kernel_rfl) rfl rfl)))))) h0
  obtain ⟨_, _, hcs0, rfl, ⟨_, _, rfl, rfl, ⟨_, _, rfl, rfl, ⟨_, _, rfl, rfl, rfl⟩⟩⟩⟩ := hK0
  obtain ⟨g0_0, g0_1, g0_2, g0_3, g0_4⟩ := hg0
  obtain rfl : cs0 = #[.int .i64 a0_0, .int .i64 a0_1, .int .i64 a0_2, .int .i64 a0_3, .int .i64 a0_4] := by
    have e := congrArg List.toArray hcs0
    simpa [Value.cells] using e
  have k1 := h1
  have lt1 : ∀ x ∈ p1, x.block < W.heap.size := by obtain ⟨m, hm⟩ := k1; exact DataW.trod_lt m _ _ _ hm
  obtain ⟨cs1, rfl, _⟩ := okWide_struct Try.underlying23 (hval 1 23 v1 rfl rfl)
  obtain ⟨⟨a1_0, a1_1⟩, hK1, hg1⟩ := opens_arg (opens_struct Try.underlying23 (by kernel_rfl) rfl (opensF_cons (opens_int Try.underlying3) (by kernel_rfl) rfl (opensF_last (opens_int Try.underlying3) (by kernel_rfl) rfl rfl))) h1
  obtain ⟨_, _, hcs1, rfl, rfl⟩ := hK1
  obtain ⟨g1_0, g1_1⟩ := hg1
  obtain rfl : cs1 = #[.int .i64 a1_0, .int .i64 a1_1] := by
    have e := congrArg List.toArray hcs1
    simpa [Value.cells] using e
  have k2 := h2
  have lt2 : ∀ x ∈ p2, x.block < W.heap.size := by obtain ⟨m, hm⟩ := k2; exact DataW.trod_lt m _ _ _ hm
  obtain ⟨a2, rfl, rfl, rfl⟩ := open_bool Try.underlying4 (hval 2 4 v2 rfl rfl) h2
  clear hA0 hval0
  obtain ⟨k, hk⟩ := Pure.TrackMoves a0_0 a0_1 a0_2 a0_3 a0_4 a1_0 a1_1 a2 g0_0 g0_1 g0_2 g0_3 g0_4 g1_0 g1_1
  refine (clavierlaw15_TrackMoves.calls k a0_0 a0_1 a0_2 a0_3 a0_4 a1_0 a1_1 a2 true W hk).mono fun e W' ⟨he, bel0⟩ => ?_
  have bel : Below W.heap.size W W' := bel0
  subst he
  exact ⟨_, rfl, _, _, _, [], _, [], hW', trodAll_mk1 (shut_bool Try.underlying4 _), (trodAll_cons_mk (Below.trod laidOut (by kernel_rfl) (of_decide_eq_true (by kernel_rfl)) k0 bel lt0) (trodAll_cons_mk (Below.trod laidOut (by kernel_rfl) (of_decide_eq_true (by kernel_rfl)) k1 bel lt1) (trodAll_cons_mk (Below.trod laidOut (by kernel_rfl) (of_decide_eq_true (by kernel_rfl)) k2 bel lt2) trodAll_mk0))), rfl, bel.frame _, fun h => by cases h⟩
theorem over : Rows.trackMovesRow.holds Try.pinned (OpenSpec.ofChange Rows.trackMovesSpec) :=
  OpenClaim.holds_of_wide 8 Try.f8 rfl rfl rfl rfl rfl rfl rfl ⟨rfl, rfl, rfl, rfl, rfl⟩ rfl rfl rfl rfl rfl (by kernel_rfl) Try.func8 (by kernel_rfl)
    (of_decide_eq_true (by kernel_rfl)) (by unfold Func.isWrapper; first | (rw [if_pos (by decide +kernel)]; kernel_rfl) | (rw [if_neg (by decide +kernel)]; exact ⟨rfl, rfl⟩))
    (fun os started H enc _ => lifted os started H enc)
theorem proved : Rows.TrackMovesSaid := over
#print axioms proved
end Go.Proofs.Ytpljdaahkiabkaa.trackMoves
namespace Go.Proofs.Ytpljdaahkiabkaa
/-- The row, under a short name, for the claim. -/
theorem trackMoves_holds : Rows.TrackMovesSaid := trackMoves.proved
end Go.Proofs.Ytpljdaahkiabkaa
