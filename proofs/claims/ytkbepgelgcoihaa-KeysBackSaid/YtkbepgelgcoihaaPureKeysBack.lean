import Derived.Test.YtkbepgelgcoihaaKeysPlain
import Derived.Test.YtkbepgelgcoihaaB3
namespace Go.Proofs.Ytkbepgelgcoihaa.Pure
open Go.RowKit Go.Proofs.YtkbepgelgcoihaaW.PrintWords Go.Proofs.Ytkbepgelgcoihaa.B Go.Proofs.Ytkbepgelgcoihaa.H
set_option linter.unusedVariables false

theorem awakeB : clavierlaw09_awake.f 20 = some true := by decide +kernel
/-- What the law's last part asks. -/
theorem back_right (a1 a2 : Int) : ∃ b t, findE a1 a2 = (b, t) ∧ (t = true → (lookE b).2.2.2.2 = false ∧ (((lookE b).1 = 3 ∧ (lookE b).2.1 = a1) ∨ ((lookE b).1 = 4 ∧ a1 = 126 ∧ (lookE b).2.2.1 = a2))) := by
  obtain ⟨b, t, h⟩ : ∃ b t, findE a1 a2 = (b, t) := ⟨_, _, rfl⟩
  refine ⟨b, t, h, fun ht => ?_⟩
  subst ht
  obtain ⟨x, hx, rfl, hh⟩ := find_some h
  rw [look_hit hx]
  obtain ⟨c, kd, fi, nu, ch, ks⟩ := x
  simp only [hitB, Bool.or_eq_true, Bool.and_eq_true, beq_iff_eq] at hh
  rcases hh with ⟨h1, h2, h3, h4, h5⟩ | ⟨h0, h1, h2, h3, h4, h5⟩
  · exact ⟨h5, .inl ⟨h1, h2⟩⟩
  · exact ⟨h5, .inr ⟨h1, h0, h3⟩⟩
/-- A code on the main board with a form is found by it. -/
theorem back_main (a0 : Int) (h : (lookE a0).1 = 3 ∨ (lookE a0).1 = 4) (hk : (lookE a0).2.2.2.2 = false) : findE (if (lookE a0).1 = 4 then 126 else (lookE a0).2.1) (lookE a0).2.2.1 = (a0, true) := by
  rcases look_cases a0 with ⟨x, hx, rfl, e⟩ | e
  · have hl := List.all_eq_true.1 likes x hx
    rw [e] at h hk ⊢
    obtain ⟨c, kd, fi, nu, ch, ks⟩ := x
    simp only [likeB, Bool.and_eq_true, Bool.or_eq_true, bne_iff_ne, beq_iff_eq, ne_eq] at hl
    dsimp only at h hk
    rcases hl.2 with (⟨h3, h4⟩ | h5) | h6
    · omega
    · rw [hk] at h5; cases h5
    · exact h6
  · rw [e] at h
    unfold restL at h
    split at h <;> simp at h
theorem j2_eq (k : Nat) (x0 x10 : Int) (x11 x12 x14 x16 : Bool) (p q r s : Int) (ks : Bool) (h1 : x12 = true → x11 = true ∧ x10 = x0) (h2 : x14 = true → x16 = true ∧ ks = false) : clavierlaw09_KeysBack.j2 (k + 2) x0 true x10 x11 x12 x14 x16 p q r s ks = some true := by
  rw [clavierlaw09_KeysBack.j2, if_pos rfl]
  cases x12
  · rw [if_neg (by decide)]
    cases x14
    · rw [if_neg (by decide)]; rfl
    · obtain ⟨rfl, rfl⟩ := h2 rfl
      rw [if_pos rfl, if_pos rfl]; rfl
  · obtain ⟨rfl, rfl⟩ := h1 rfl
    rw [if_pos rfl, if_pos rfl, if_pos rfl]
    cases x14
    · rw [if_neg (by decide)]; rfl
    · obtain ⟨rfl, rfl⟩ := h2 rfl
      rw [if_pos rfl, if_pos rfl]; rfl
theorem j1_eq (k : Nat) (x0 x1 x2 x10 : Int) (x11 x12 : Bool) (h1 : x12 = true → x11 = true ∧ x10 = x0) : clavierlaw09_KeysBack.j1 (k + 3) x0 x1 x2 true x10 x11 x12 = some true := by
  obtain ⟨b, t, hf, hr⟩ := back_right x1 x2
  rw [clavierlaw09_KeysBack.j1, show keys_Find.f x1 x2 = some (findE x1 x2) from rfl, Option.bind_some, hf]
  dsimp only
  rw [show keys_Look.f b = some (lookE b) from rfl, Option.bind_some]
  generalize lookE b = y at hr
  obtain ⟨kd, fi, nu, ch, ks⟩ := y
  dsimp only at hr ⊢
  by_cases h3 : kd = 3
  · rw [if_pos h3]
    by_cases hfi : fi = x1
    · rw [if_pos hfi]
      exact j2_eq k _ _ _ _ _ _ _ _ _ _ _ h1 (fun ht => ⟨rfl, (hr ht).1⟩)
    · rw [if_neg hfi, if_neg (by omega)]
      exact j2_eq k _ _ _ _ _ _ _ _ _ _ _ h1 (fun ht => by rcases (hr ht).2 with h | h <;> omega)
  · rw [if_neg h3]
    by_cases h4 : kd = 4
    · rw [if_pos h4]
      by_cases hx : x1 = 126
      · rw [if_pos hx]
        exact j2_eq k _ _ _ _ _ _ _ _ _ _ _ h1 (fun ht => ⟨by rcases (hr ht).2 with h | h <;> simp <;> omega, (hr ht).1⟩)
      · rw [if_neg hx]
        exact j2_eq k _ _ _ _ _ _ _ _ _ _ _ h1 (fun ht => by rcases (hr ht).2 with h | h <;> omega)
    · rw [if_neg h4]
      exact j2_eq k _ _ _ _ _ _ _ _ _ _ _ h1 (fun ht => by rcases (hr ht).2 with h | h <;> omega)
theorem KeysBack (a0 : Int) (a1 : Int) (a2 : Int) (g0 : (Lit.int .i64 a0).wf = true) (g1 : (Lit.int .u8 a1).wf = true) (g2 : (Lit.int .i64 a2).wf = true) :
    ∃ k, clavierlaw09_KeysBack.f k a0 a1 a2 = some true := by
  refine ⟨20, ?_⟩
  unfold clavierlaw09_KeysBack.f
  rw [awakeB, Option.bind_some, show keys_Look.f a0 = some (lookE a0) from rfl, Option.bind_some]
  have hm := back_main a0
  generalize lookE a0 = y at hm
  obtain ⟨kd, fi, nu, ch, ks⟩ := y
  dsimp only at hm ⊢
  have go : ∀ f, (f = if kd = 4 then 126 else fi) → clavierlaw09_KeysBack.j0 20 a0 a1 a2 true f kd fi nu ch ks = some true := by
    intro f hf
    rw [← hf] at hm
    rw [clavierlaw09_KeysBack.j0, show keys_Find.f f nu = some (findE f nu) from rfl, Option.bind_some]
    by_cases h3 : kd = 3
    · rw [if_pos h3]
      exact j1_eq 16 _ _ _ _ _ _ (fun hk => by rw [hm (.inl h3) (by simpa using hk)]; exact ⟨rfl, rfl⟩)
    · rw [if_neg h3]
      by_cases h4 : kd = 4
      · rw [if_pos h4]
        exact j1_eq 16 _ _ _ _ _ _ (fun hk => by rw [hm (.inr h4) (by simpa using hk)]; exact ⟨rfl, rfl⟩)
      · rw [if_neg h4]
        exact j1_eq 16 _ _ _ _ _ _ (fun hk => by cases hk)
  by_cases h4 : kd = 4
  · rw [if_pos h4]
    exact go 126 (if_pos h4).symm
  · rw [if_neg h4]
    exact go fi (if_neg h4).symm

end Go.Proofs.Ytkbepgelgcoihaa.Pure
