import Derived.Test.YtlnnjdjdpfifiaaStackPlain
import Derived.Test.YtlnnjdjdpfifiaaR4
namespace Go.Proofs.Ytlnnjdjdpfifiaa.Pure
open Go.RowKit Go.Proofs.YtlnnjdjdpfifiaaW.PrintWords Go.Proofs.Ytlnnjdjdpfifiaa.R Go.Proofs.Ytlnnjdjdpfifiaa.H

theorem fin32' {P : Int → Int → Prop} (h : ∀ n f : Fin 32, P (n.val : Int) (f.val : Int)) (n f : Int) (hn : 0 ≤ n ∧ n < 32) (hf : 0 ≤ f ∧ f < 32) : P n f := by
  have := h ⟨n.toNat, by omega⟩ ⟨f.toNat, by omega⟩
  simp only [Int.toNat_of_nonneg hn.1, Int.toNat_of_nonneg hf.1] at this
  exact this
theorem refPush_eq (n : Int) (l : List Int) (a : Int) (hl : l.length < 1000) : clavierref08_Push.f n l a = some (F a, last8 (l ++ [n])) := by
  have hy : (l ++ [n]).length = l.length + 1 := by simp
  unfold clavierref08_Push.f
  rw [Option.bind_some, if_pos (by simp; omega), Option.bind_some, if_pos (by simp; omega), Option.bind_some, List.nil_append]
  by_cases h : ((l ++ [n]).length : Int) > 8
  · rw [if_pos h, w64 (by omega) (by omega), if_pos (by omega), if_pos (by omega), ref_Flags, Option.bind_some]
    unfold last8
    rw [show (((l ++ [n]).length : Int) - 8).toNat = (l ++ [n]).length - 8 by omega]
  · rw [if_neg h, ref_Flags, Option.bind_some, last8_few (by omega)]
theorem pop_step (n : Int) (l : List Int) (h : 0 < l.length) : popNow n l 1 = rd l ((l.length - 1 : Nat) : Int) ∧ popKept l 1 = l.take (l.length - 1) := by
  rw [pn1 (by decide) (by omega), pk1 (by decide) (by omega)]
  constructor
  · unfold left
    rw [if_pos (by show l.length - 1 < l.length; omega)]
    rfl
  · rfl
theorem refPop_loop (a : Int) (N : Nat) (hN : N < 1000) : ∀ (m i k : Nat) (n : Int) (l : List Int), l.length = m → i + m = N →
    clavierref08_Pop.l0 (k + 2 * m + 2) a ((N : Int) + 1) i n l = some (popNow n l (a - i), popKept l (a - i)) := by
  intro m
  induction m with
  | zero =>
    intro i k n l hl hi
    have hnil : l = [] := List.eq_nil_of_length_eq_zero hl
    subst hnil
    rw [clavierref08_Pop.l0]
    by_cases h : (i : Int) < a
    · rw [if_pos h, clavierref08_Pop.j1, if_pos (decide_eq_true (by omega)), if_pos (show ((([] : List Int).length : Int)) = 0 from rfl), pn2 (by omega) (by simp; omega), pk2 (by omega) (by simp; omega)]
    · rw [if_neg h, clavierref08_Pop.j1, if_neg (by decide), pn0 (by omega), pk0 (by omega)]
  | succ m ih =>
    intro i k n l hl hi
    rw [show k + 2 * (m + 1) + 2 = (k + 2 * m + 2) + 1 + 1 by omega, clavierref08_Pop.l0]
    by_cases h : (i : Int) < a
    · rw [if_pos h, clavierref08_Pop.j1, if_pos (decide_eq_true (by omega)), if_neg (by omega), w64 (by omega) (by omega), if_pos (by omega), if_pos (by omega), if_pos (by omega), w64 (by omega) (by omega)]
      have := ih (i + 1) k (rd l ((l.length : Int) - 1)) (l.take ((l.length : Int) - 1).toNat) (by rw [List.length_take]; omega) (by omega)
      rw [show ((i : Int) + 1) = ((i + 1 : Nat) : Int) by omega, this]
      obtain ⟨s1, s2⟩ := pop_step n l (by omega)
      obtain ⟨p1, p2⟩ := pop_pop n l 1 (a - i - 1) (by decide) (by omega)
      rw [s1, s2] at p1
      rw [s2] at p2
      rw [show ((l.length : Int) - 1) = ((l.length - 1 : Nat) : Int) by omega, Int.toNat_natCast, show a - ((i + 1 : Nat) : Int) = a - i - 1 by omega, p1, p2, show 1 + (a - i - 1) = a - i by omega]
    · rw [if_neg h, clavierref08_Pop.j1, if_neg (by decide), pn0 (by omega), pk0 (by omega)]
theorem refPop_eq (k : Nat) (n : Int) (l : List Int) (a : Int) (hl : l.length ≤ 8) : clavierref08_Pop.f (k + 18) n l a = some (popNow n l a, popKept l a) := by
  unfold clavierref08_Pop.f
  rw [w64 (by omega) (by omega)]
  have := refPop_loop a l.length (by omega) l.length 0 (k + 16 - 2 * l.length) n l rfl (by omega)
  rw [show k + 16 - 2 * l.length + 2 * l.length + 2 = k + 18 by omega] at this
  rw [show ((0 : Int)) = ((0 : Nat) : Int) from rfl, this]
  simp
theorem put_l : ∀ (k : Nat) (h f x b n : Int) (l : List Int), clavierref08_Put.l0 k h f x b n l = (clavierref08_Put.l0 k h f x b n []).map fun p => (p.1, l) := by
  intro k
  induction k with
  | zero => intro h f x b n l; rfl
  | succ k ih =>
    intro h f x b n l
    rw [clavierref08_Put.l0, clavierref08_Put.l0]
    cases clavierref08_has.f n b <;> cases clavierref08_has.f f b <;> simp only [Option.bind_none, Option.bind_some] <;> (repeat' split) <;> first | rfl | exact ih _ _ _ _ _ _
theorem put_other (k : Nat) (h f n b : Int) (l : List Int) (h1 : ¬ h = 1) (h2 : ¬ h = 2) (h3 : ¬ h = 3) (hb : b < 32) (hb0 : 0 ≤ b) : clavierref08_Put.l0 (k + 1) h f 0 b n l = clavierref08_Put.l0 k h f 0 (b * 2) n l := by
  rw [clavierref08_Put.l0, if_pos hb, if_neg h2, if_neg h3, if_neg h1, w64 (by omega) (by omega)]
theorem refPut_eq (k : Nat) (n : Int) (l : List Int) (a h : Int) (hn : 0 ≤ n ∧ n < 32) (ha : a ≤ 9223372036854775807) : clavierref08_Put.f (k + 7) n l a h = some (putNow n a h, l) := by
  have hm : ∀ r, clavierref08_Put.f 7 n l a h = some r → clavierref08_Put.f (k + 7) n l a h = some r := by
    intro r hr
    induction k with
    | zero => exact hr
    | succ k ih => exact clavierref08_Put.mono n l a h (k + 7) _ ih
  apply hm
  have hf := F_range a
  unfold clavierref08_Put.f putNow
  rw [ref_Flags, Option.bind_some, fl_F ha]
  generalize F a = f at hf
  by_cases h1 : h = 1
  · subst h1
    rw [put_l, fin32' (P := fun n f => clavierref08_Put.l0 7 1 f 0 1 n [] = some (f, [])) (by decide +kernel) n f hn hf]
    rfl
  by_cases h2 : h = 2
  · subst h2
    rw [put_l, fin32' (P := fun n f => clavierref08_Put.l0 7 2 f 0 1 n [] = some (Go.bits .or .i64 n f, [])) (by decide +kernel) n f hn hf]
    rfl
  by_cases h3 : h = 3
  · subst h3
    rw [put_l, fin32' (P := fun n f => clavierref08_Put.l0 7 3 f 0 1 n [] = some (Go.bits .andNot .i64 n f, [])) (by decide +kernel) n f hn hf]
    rfl
  rw [if_neg h1, if_neg h2, if_neg h3]
  rw [put_other 6 _ _ _ _ _ h1 h2 h3 (by decide) (by decide), put_other 5 _ _ _ _ _ h1 h2 h3 (by decide) (by decide), put_other 4 _ _ _ _ _ h1 h2 h3 (by decide) (by decide), put_other 3 _ _ _ _ _ h1 h2 h3 (by decide) (by decide), put_other 2 _ _ _ _ _ h1 h2 h3 (by decide) (by decide), clavierref08_Put.l0, if_neg (by decide)]
  by_cases h4 : h ≥ 1
  · rw [if_pos h4, if_neg (by omega)]
  · rw [if_neg h4]
set_option linter.unusedVariables false
theorem StackTells (a0_0 : Int) (l0_1 : List Int) (a1 : Int) (a2 : Int) (g0_0 : (Lit.int .i64 a0_0).wf = true) (g0_1 : (∀ z ∈ l0_1, (Lit.int .i64 z).wf = true)) (g1 : (Lit.int .i64 a1).wf = true) (g2 : (Lit.int .i64 a2).wf = true) :
    ∃ k, clavierlaw08_StackTells.f k a0_0 l0_1 a1 a2 = some true := by

  have ha := wf64 g1
  refine ⟨20, ?_⟩
  unfold clavierlaw08_StackTells.f
  rw [awake, Option.bind_some, flags_eq 11, Option.bind_some]
  have hn := F_range a0_0
  have hL : ((l0_1.take 8).map F).length ≤ 8 := by rw [List.length_map, List.length_take]; omega
  generalize (l0_1.take 8).map F = L at hL
  dsimp only
  show (some (F a0_0, L)).bind _ = _
  rw [Option.bind_some, if_pos rfl]
  dsimp only
  have h8 := last8_len (L ++ [F a0_0])
  have hk := popKept_len L a1
  rw [push_eq _ _ _ (by omega) ha.2, Option.bind_some, refPush_eq _ _ _ (by omega), Option.bind_some]
  dsimp only
  rw [same_eq _ _ _ _ _ (by omega) (by omega), Option.bind_some, if_pos (by simp), pop_eq _ _ _ (by omega), Option.bind_some, refPop_eq 2 _ _ _ hL, Option.bind_some]
  dsimp only
  rw [same_eq _ _ _ _ _ (by omega) (by omega), Option.bind_some, if_pos (by simp), put_eq _ _ _ _ (by omega), Option.bind_some, refPut_eq 13 _ _ _ _ hn ha.2, Option.bind_some]
  dsimp only
  rw [same_eq _ _ _ _ _ (by omega) (by omega), Option.bind_some, if_pos (by simp), same_eq _ _ _ _ _ (by omega) (by omega)]
  simp

end Go.Proofs.Ytlnnjdjdpfifiaa.Pure
