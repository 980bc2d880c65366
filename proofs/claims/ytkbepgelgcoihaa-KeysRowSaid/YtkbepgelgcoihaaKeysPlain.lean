import Derived.Test.YtkbepgelgcoihaaHFind
/- The table of the keys, in plain words. -/
namespace Go.Proofs.Ytkbepgelgcoihaa.Pure
open Go.RowKit Go.Proofs.YtkbepgelgcoihaaW.PrintWords Go.Proofs.YtkbepgelgcoihaaW.PrintLast Go.Proofs.Ytkbepgelgcoihaa.H
set_option linter.unusedVariables false

theorem wr {n : Int} (h0 : -9223372036854775808 ≤ n) (h1 : n ≤ 9223372036854775807) : wrap64 n = n := by unfold wrap64; omega
theorem wf64 {n : Int} (h : (Lit.int .i64 n).wf = true) : -9223372036854775808 ≤ n ∧ n ≤ 9223372036854775807 := by
  simp only [Lit.wf, IntKind.min, IntKind.max, IntKind.signed, IntKind.bits, Bool.and_eq_true, decide_eq_true_eq, if_true] at h
  have : (2 : Int) ^ (64 - 1) = 9223372036854775808 := by decide
  omega
theorem wf8 {n : Int} (h : (Lit.int .u8 n).wf = true) : 0 ≤ n ∧ n ≤ 255 := by
  simp [Lit.wf, IntKind.min, IntKind.max, IntKind.signed, IntKind.bits] at h
  omega
/-- A code of the table. -/
def inT (a : Int) : Bool := a == 9 || a == 13 || a == 27 || a == 127 || (decide (57348 ≤ a) && decide (a ≤ 57454))
theorem codes : (ENTS 21).all (fun x => inT x.1) = true := by decide +kernel
theorem look_out {a : Int} (h : inT a = false) : lookE a = restL a :=
  look_miss (fun x hx e => by have := List.all_eq_true.1 codes x hx; rw [e, h] at this; cases this)
/-- From a first number on, so many: what holds of each. -/
theorem each {P : Int → Prop} (lo : Int) (n : Nat) (h : ∀ i : Fin n, P (lo + (i.val : Int))) (a : Int) (h0 : lo ≤ a) (h1 : a < lo + n) : P a := by
  have := h ⟨(a - lo).toNat, by omega⟩
  simp only [Int.toNat_of_nonneg (show 0 ≤ a - lo by omega)] at this
  rw [show lo + (a - lo) = a by omega] at this
  exact this
/-- What an entry is like. -/
def likeB (x : EntT) : Bool :=
  (x.2.1 != 1) && (x.2.1 != 0) && decide (2 ≤ x.2.1 ∧ x.2.1 ≤ 7) &&
  (x.2.1 != 2 || (x.1 == 9 || x.1 == 13 || x.1 == 27 || x.1 == 127)) &&
  (x.2.1 == 2 || decide (57348 ≤ x.1 ∧ x.1 ≤ 57454)) &&
  (x.2.1 != 5 || (decide (x.2.2.2.2.1 > 0) && x.2.2.2.2.2)) &&
  ((x.2.1 != 3 && x.2.1 != 4) || x.2.2.2.2.2 || (findE (if x.2.1 = 4 then 126 else x.2.2.1) x.2.2.2.1 == (x.1, true)))
theorem likes : (ENTS 21).all likeB = true := by decide +kernel
/-- What is found has that form. -/
theorem find_some {a0 a1 b : Int} (h : findE a0 a1 = (b, true)) : ∃ x ∈ ENTS 21, x.1 = b ∧ hitB a0 a1 x = true := by
  unfold findE at h
  split at h
  · rename_i x hx
    cases h
    exact ⟨x, List.mem_of_find?_eq_some hx, rfl, List.find?_some hx⟩
  · cases h
/-- A code is one of the table, or the rest's. -/
theorem look_cases (a : Int) : (∃ x ∈ ENTS 21, x.1 = a ∧ lookE a = x.2) ∨ lookE a = restL a := by
  by_cases h : ∃ x ∈ ENTS 21, x.1 = a
  · obtain ⟨x, hx, rfl⟩ := h
    exact .inl ⟨x, hx, rfl, look_hit hx⟩
  · exact .inr (look_miss (fun x hx e => h ⟨x, hx, e⟩))
/-- The main board. -/
def mainL : List EntT := (List.range 55).map (fun (i : Nat) => (57344 + (i : Int), lookE (57344 + (i : Int))))
theorem main_eq : (ENTS 21).take 4 ++ mainL.drop 4 ++ (ENTS 21).drop 55 = ENTS 21 := by decide +kernel
theorem main_head : (mainL.take 4).all (fun x => x.2 == (0, 0, 0, 0, false)) = true := by decide +kernel
theorem ents_head : ((ENTS 21).take 4).all (fun x => x.2.1 == 2) = true := by decide +kernel
theorem ents_tail : ((ENTS 21).drop 55).all (fun x => (x.2.1 != 3 && x.2.1 != 4) || x.2.2.2.2.2) = true := by decide +kernel
/-- The reference's test. -/
def hitR (a0 a1 : Int) (x : EntT) : Bool := (x.2.1 == 3 && x.2.2.1 == a0) || (x.2.1 == 4 && (a0 == 126 && x.2.2.2.1 == a1))
theorem main_like : mainL.all (fun x => (x.2.1 != 3 || (x.2.2.2.1 == 0 && x.2.2.2.2.1 == 0 && x.2.2.2.2.2 == false)) && (x.2.1 != 4 || (x.2.2.1 == 0 && x.2.2.2.2.1 == 0 && x.2.2.2.2.2 == false))) = true := by decide +kernel
theorem hit_same (a0 a1 : Int) {x : EntT} (hx : x ∈ mainL) : hitB a0 a1 x = hitR a0 a1 x := by
  have h := List.all_eq_true.1 main_like x hx
  obtain ⟨c, kd, fi, nu, ch, ks⟩ := x
  simp only [Bool.and_eq_true, Bool.or_eq_true, bne_iff_ne, beq_iff_eq, ne_eq] at h
  unfold hitB hitR
  by_cases h3 : kd = 3
  · subst h3
    obtain ⟨⟨rfl, rfl⟩, rfl⟩ := h.1.resolve_left (by simp)
    simp
  · by_cases h4 : kd = 4
    · subst h4
      obtain ⟨⟨rfl, rfl⟩, rfl⟩ := h.2.resolve_left (by simp)
      simp
    · simp [beq_eq_false_iff_ne.mpr h3, beq_eq_false_iff_ne.mpr h4]
theorem find_main (a0 a1 : Int) : (ENTS 21).find? (hitB a0 a1) = mainL.find? (hitR a0 a1) := by
  have e1 : ((ENTS 21).take 4).find? (hitB a0 a1) = none := List.find?_eq_none.2 (fun x hx => by
    have := List.all_eq_true.1 ents_head x hx
    simp only [beq_iff_eq] at this
    simp [hitB, this])
  have e2 : ((ENTS 21).drop 55).find? (hitB a0 a1) = none := List.find?_eq_none.2 (fun x hx => by
    have := List.all_eq_true.1 ents_tail x hx
    obtain ⟨c, kd, fi, nu, ch, ks⟩ := x
    simp only [Bool.or_eq_true, Bool.and_eq_true, bne_iff_ne, ne_eq] at this
    rcases this with ⟨h3, h4⟩ | hk
    · simp [hitB, beq_eq_false_iff_ne.mpr h3, beq_eq_false_iff_ne.mpr h4]
    · subst hk
      simp [hitB])
  have e3 : (mainL.take 4).find? (hitR a0 a1) = none := List.find?_eq_none.2 (fun x hx => by
    have := List.all_eq_true.1 main_head x hx
    simp only [beq_iff_eq] at this
    simp [hitR, this])
  have e4 : ∀ l : List EntT, (∀ x ∈ l, x ∈ mainL) → l.find? (hitB a0 a1) = l.find? (hitR a0 a1) := by
    intro l
    induction l with
    | nil => intro _; rfl
    | cons x l ih =>
      intro h
      rw [List.find?_cons, List.find?_cons, hit_same a0 a1 (h x List.mem_cons_self), ih (fun y hy => h y (List.mem_cons_of_mem _ hy))]
  conv => lhs; rw [← main_eq]
  conv => rhs; rw [← List.take_append_drop 4 mainL]
  rw [List.find?_append, List.find?_append, List.find?_append, e1, e2, e3, e4 _ (fun x hx => List.mem_of_mem_drop hx)]
  simp
end Go.Proofs.Ytkbepgelgcoihaa.Pure
