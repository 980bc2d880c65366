/- ModsCase: whatever the arguments, the law answers true, and the arguments read as they did. No condition. -/
import Derived.Test.YtcjokajnlpcdiaaRows
import Derived.Test.YtcjokajnlpcdiaaR8
import Derived.Test.YtcjokajnlpcdiaaPureModsCase
import Derived.Test.YtcjokajnlpcdiaaHOpen
import Derived.WalkKit
import Derived.ProofKit
import Derived.OpenShut
import Derived.ShutString
import Derived.ChangeOld
import Derived.Below
import Derived.SizedLaws
namespace Go.Proofs.Ytcjokajnlpcdiaa.modsCase
open Go.ChangeShapes Go.WideShapes Go.ChangeAt Go.RowKit Go.Proofs.YtcjokajnlpcdiaaW.PrintWords Go.Proofs.Ytcjokajnlpcdiaa.R Go.Proofs.Ytcjokajnlpcdiaa.H
open Go.ChangeMaps (open_string shut_string)
set_option linter.unusedVariables false
theorem own : ownKnob Try.prog.godebug = none := by kernel_rfl
theorem laidOut : laidOutB Try.prog = true := by kernel_rfl
set_option maxRecDepth 100000 in
set_option maxHeartbeats 1000000 in
theorem lifted (os : Os) (started : os.Started) (H : Type) (enc : TypeId × Value → H) :
    ReturnsInHanded {} Try.checked os 5 .any (Rows.modsCaseSpec.pre6 enc Try.prog Try.f5 Rows.modsCaseRow.domain false) (Rows.modsCaseSpec.post enc Try.prog Try.f5 false true false false) := by
  refine returnsInHanded_of_change (C := Try.checked) own started (by kernel_rfl) Try.func5
    (ChangeSpec.witness6 (enc := enc) (C := Try.checked) false ⟨#[], #[.agg #[.int .i64 0, .int .i64 0, .int .i64 0, .int .i64 0, .int .i64 0, .string ByteArray.empty], .int .u8 0], []⟩ 8 (by kernel_rfl) (by kernel_rfl) (by kernel_rfl) (by kernel_rfl)) ?_
  intro W base args ds gs before hval0 hW hcnd _
  have hval : ∀ (j : Nat) t v, Try.f5.params[j]? = some t → args[j]? = some v → Value.okWide Try.prog W .any base t v := hval0
  have hW' := hW
  obtain ⟨p, q, hA0, hV, rfl, hfz, hnd⟩ := hW
  have hA : DataW.TrodAll enc Try.prog W 0 (fun _ => true) true Try.f5.params.toList args.toList ds p := hA0
  rw [Try.params5] at hA hval
  obtain ⟨v0, vs0, d0, ds0, p0, q0, hargs, rfl, rfl, h0, r0⟩ := trodAll_cons hA
  obtain ⟨v1, vs1, d1, ds1, p1, q1, rfl, rfl, rfl, h1, r1⟩ := trodAll_cons r0
  obtain ⟨rfl, rfl, rfl⟩ := trodAll_nil r1
  obtain rfl : args = #[v0, v1] := by cases args; simp_all
  obtain ⟨rfl, rfl⟩ := trodVars_none hV
  have k0 := h0
  have lt0 : ∀ x ∈ p0, x.block < W.heap.size := by obtain ⟨m, hm⟩ := k0; exact DataW.trod_lt m _ _ _ hm
  obtain ⟨cs0, rfl, _⟩ := okWide_struct Try.underlying23 (hval 0 23 v0 rfl rfl)
  obtain ⟨⟨a0_0, a0_1, a0_2, a0_3, a0_4, a0_5⟩, hK0, hg0⟩ := opens_arg (opens_struct Try.underlying23 (by kernel_rfl) rfl (opensF_cons (opens_int Try.underlying3) (by kernel_rfl) rfl (opensF_cons (opens_int Try.underlying3) (by kernel_rfl) rfl (opensF_cons (opens_int Try.underlying3) (by kernel_rfl) rfl (opensF_cons (opens_int Try.underlying3) (by kernel_rfl) rfl (opensF_cons (opens_int Try.underlying3) (by kernel_rfl) rfl (opensF_last (opens_string Try.underlying9) (by kernel_rfl) rfl rfl))))))) h0
  obtain ⟨_, _, hcs0, rfl, ⟨_, _, rfl, rfl, ⟨_, _, rfl, rfl, ⟨_, _, rfl, rfl, ⟨_, _, rfl, rfl, rfl⟩⟩⟩⟩⟩ := hK0
  obtain ⟨g0_0, g0_1, g0_2, g0_3, g0_4, g0_5⟩ := hg0
  obtain rfl : cs0 = #[.int .i64 a0_0, .int .i64 a0_1, .int .i64 a0_2, .int .i64 a0_3, .int .i64 a0_4, .string a0_5] := by
    have e := congrArg List.toArray hcs0
    simpa [Value.cells] using e
  have k1 := h1
  have lt1 : ∀ x ∈ p1, x.block < W.heap.size := by obtain ⟨m, hm⟩ := k1; exact DataW.trod_lt m _ _ _ hm
  obtain ⟨a1, rfl, rfl, rfl, g1⟩ := open_int Try.underlying5 (hval 1 5 v1 rfl rfl) h1
  clear hA0 hval0
  have hk := Pure.ModsCase a0_0 a0_1 a0_2 a0_3 a0_4 a0_5 a1 g0_0 g0_1 g0_2 g0_3 g0_4 g0_5 g1
  refine (clavierlaw10_ModsCase.calls a0_0 a0_1 a0_2 a0_3 a0_4 a0_5 a1 true W hk).mono fun e W' ⟨he, bel0⟩ => ?_
  have bel : Below W.heap.size W W' := bel0
  subst he
  exact ⟨_, rfl, _, _, _, [], _, [], hW', trodAll_mk1 (shut_bool Try.underlying4 _), (trodAll_cons_mk (Below.trod laidOut (by kernel_rfl) (of_decide_eq_true (by kernel_rfl)) k0 bel lt0) (trodAll_cons_mk (Below.trod laidOut (by kernel_rfl) (of_decide_eq_true (by kernel_rfl)) k1 bel lt1) trodAll_mk0)), rfl, bel.frame _, fun h => by cases h⟩
theorem over : Rows.modsCaseRow.holds Try.pinned (OpenSpec.ofChange Rows.modsCaseSpec) :=
  OpenClaim.holds_of_wide 5 Try.f5 rfl rfl rfl rfl rfl rfl rfl ⟨rfl, rfl, rfl, rfl, rfl⟩ rfl rfl rfl rfl rfl (by kernel_rfl) Try.func5 (by kernel_rfl)
    (of_decide_eq_true (by kernel_rfl)) (by unfold Func.isWrapper; first | (rw [if_pos (by decide +kernel)]; kernel_rfl) | (rw [if_neg (by decide +kernel)]; exact ⟨rfl, rfl⟩))
    (fun os started H enc _ => lifted os started H enc)
theorem proved : Rows.ModsCaseSaid := over
#print axioms proved
end Go.Proofs.Ytcjokajnlpcdiaa.modsCase
namespace Go.Proofs.Ytcjokajnlpcdiaa
/-- The row, under a short name, for the claim. -/
theorem modsCase_holds : Rows.ModsCaseSaid := modsCase.proved
end Go.Proofs.Ytcjokajnlpcdiaa
