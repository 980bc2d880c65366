import Derived.Test.YtkbepgelgcoihaaKeysPlain
import Derived.Test.YtkbepgelgcoihaaS4
namespace Go.Proofs.Ytkbepgelgcoihaa.Pure
open Go.RowKit Go.Proofs.YtkbepgelgcoihaaW.PrintWords Go.Proofs.Ytkbepgelgcoihaa.S Go.Proofs.Ytkbepgelgcoihaa.H
set_option linter.unusedVariables false

theorem awake2 : clavierlaw09_awake.f = some true := by decide +kernel
theorem kinds_in : (ENTS 21).all (fun x => clavierlaw09_KeysKinds.f x.1 == some true) = true := by decide +kernel
theorem KeysKinds (a0 : Int) (g0 : (Lit.int .i64 a0).wf = true) :
    clavierlaw09_KeysKinds.f a0 = some true := by
  by_cases h : ∃ x ∈ ENTS 21, x.1 = a0
  · obtain ⟨x, hx, rfl⟩ := h
    have := List.all_eq_true.1 kinds_in x hx
    simpa using this
  · have e : lookE a0 = restL a0 := look_miss (fun x hx e => h ⟨x, hx, e⟩)
    unfold clavierlaw09_KeysKinds.f
    rw [awake2, Option.bind_some, show keys_Look.f a0 = some (lookE a0) from rfl, Option.bind_some, e]
    unfold restL
    by_cases q : (a0 < 32 ∨ (127 ≤ a0 ∧ a0 ≤ 159)) ∨ (57344 ≤ a0 ∧ a0 < 63744) ∨ isB a0 = false
    · rw [if_pos q]
      simp
    · rw [if_neg q]
      have hb : isB a0 = true := by simpa using fun hh => q (.inr (.inr hh))
      have hi : 0 ≤ a0 ∧ a0 ≤ 1114111 ∧ (a0 < 55296 ∨ a0 > 57343) := of_decide_eq_true hb
      dsimp only
      rw [if_pos rfl, if_pos rfl, if_pos (by omega), if_pos (by omega), if_neg (by omega)]
      by_cases q2 : a0 < 128
      · rw [if_pos q2]; rfl
      · rw [if_neg q2, if_pos (by omega)]; rfl

end Go.Proofs.Ytkbepgelgcoihaa.Pure
