import Derived.Test.YtgbjfjdmhieejaaUtfPlain
import Derived.Test.YtgbjfjdmhieejaaR2
/- The reference's Put and Take, awake. -/
namespace Go.Proofs.Ytgbjfjdmhieejaa.Pure
open Go.RowKit Go.Proofs.YtgbjfjdmhieejaaW.PrintWords Go.Proofs.YtgbjfjdmhieejaaW.PrintLast Go.Proofs.Ytgbjfjdmhieejaa.H Go.Proofs.Ytgbjfjdmhieejaa.R
set_option linter.unusedVariables false

theorem wf64 {n : Int} (h : (Lit.int .i64 n).wf = true) : -9223372036854775808 ≤ n ∧ n ≤ 9223372036854775807 := by
  simp only [Lit.wf, IntKind.min, IntKind.max, IntKind.signed, IntKind.bits, Bool.and_eq_true, decide_eq_true_eq, if_true] at h
  have : (2 : Int) ^ (64 - 1) = 9223372036854775808 := by decide
  omega
theorem wf8 {n : Int} (h : (Lit.int .u8 n).wf = true) : 0 ≤ n ∧ n ≤ 255 := by
  simp [Lit.wf, IntKind.min, IntKind.max, IntKind.signed, IntKind.bits] at h
  omega
theorem wfB {l : List Int} (h : ∀ z ∈ l, (Lit.int .u8 z).wf = true) : bytes l := fun z hz => wf8 (h z hz)
theorem awake : clavierlaw02_awake.f = some true := by kernel_rfl
theorem is_eq (r : Int) : clavierref02_Is.f r = some (decide (isR r)) := by
  unfold clavierref02_Is.f isR
  by_cases h1 : r ≥ 0
  · by_cases h2 : r ≤ 1114111
    · by_cases h3 : r < 55296
      · rw [if_pos h1, if_pos h2, if_pos h3]; exact congrArg some (decide_eq_true (by omega)).symm
      · rw [if_pos h1, if_pos h2, if_neg h3]; exact congrArg some (decide_eq_decide.mpr (by omega))
    · rw [if_pos h1, if_neg h2]; exact congrArg some (decide_eq_false (by omega)).symm
  · rw [if_neg h1]; exact congrArg some (decide_eq_false (by omega)).symm
theorem uis_eq (r : Int) : utf_is.f r = some (decide (isR r)) := is_eq r
theorem uput_eq (r : Int) : utf_Put.f r = some (putP r) := rfl
theorem utake_eq (l : List Int) : utf_Take.f l = some (takeC l) := rfl
theorem refput_eq (r : Int) : clavierref02_Put.f r = some (putP r) := by
  unfold clavierref02_Put.f
  rw [is_eq, Option.bind_some]
  by_cases h : isR r
  · rw [if_pos (decide_eq_true h)]
    have hh := h
    unfold isR at hh
    have w {n : Int} (h0 : -9223372036854775808 ≤ n) (h1 : n ≤ 9223372036854775807) : wrap64 n = n := wr h0 h1
    have t1 : Int.tdiv r 64 = r / 64 := Int.tdiv_eq_ediv_of_nonneg hh.1
    have t2 : Int.tdiv r 4096 = r / 4096 := Int.tdiv_eq_ediv_of_nonneg hh.1
    have t3 : Int.tdiv r 262144 = r / 262144 := Int.tdiv_eq_ediv_of_nonneg hh.1
    have t4 : Int.tmod r 64 = r % 64 := Int.tmod_eq_emod_of_nonneg hh.1
    have t5 : Int.tmod (r / 64) 64 = r / 64 % 64 := Int.tmod_eq_emod_of_nonneg (by omega)
    have t6 : Int.tmod (r / 4096) 64 = r / 4096 % 64 := Int.tmod_eq_emod_of_nonneg (by omega)
    have w1 : wrap64 (r / 64) = r / 64 := w (by omega) (by omega)
    have w2 : wrap64 (r / 4096) = r / 4096 := w (by omega) (by omega)
    have w3 : wrap64 (r / 262144) = r / 262144 := w (by omega) (by omega)
    have m1 : r % 64 < 64 ∧ 0 ≤ r % 64 := by omega
    have m2 : r / 64 % 64 < 64 ∧ 0 ≤ r / 64 % 64 := by omega
    have m3 : r / 4096 % 64 < 64 ∧ 0 ≤ r / 4096 % 64 := by omega
    rw [t1, t2, t3, t4, w1, w2, w3, t5, t6, w (n := 192 + r / 64) (by omega) (by omega), w (n := 128 + r % 64) (by omega) (by omega), w (n := 224 + r / 4096) (by omega) (by omega), w (n := 128 + r / 64 % 64) (by omega) (by omega), w (n := 240 + r / 262144) (by omega) (by omega), w (n := 128 + r / 4096 % 64) (by omega) (by omega)]
    rcases four r h with h1 | ⟨h1, h2⟩ | ⟨h1, h2⟩ | h1
    · rw [put_1 h h1, if_pos (by omega), Int.emod_eq_of_lt (by omega) (by omega)]
    · rw [put_2 h h1 h2, if_neg (by omega), if_pos (by omega)]
      congr 2
      · omega
      · congr 1; omega
    · rw [put_3 h h1 h2, if_neg (by omega), if_neg (by omega), if_pos (by omega)]
      congr 2
      · omega
      · congr 1
        · omega
        · congr 1; omega
    · rw [put_4 h h1, if_neg (by omega), if_neg (by omega), if_neg (by omega)]
      congr 2
      · omega
      · congr 1
        · omega
        · congr 1
          · omega
          · congr 1; omega
  · rw [if_neg (by simp [h]), put_none h]
theorem guess_some (l : List Int) (n : Int) (h1 : 1 ≤ n) (h2 : n ≤ 4) (h3 : n ≤ l.length) : ∃ g, clavierref02_guess.f l n = some g := by
  unfold clavierref02_guess.f
  repeat' split
  all_goals first | exact ⟨_, rfl⟩ | (exfalso; omega)
theorem guess_put {r : Int} (h : isR r) (m : List Int) : clavierref02_guess.f (putP r ++ m) ((putP r).length : Int) = some r := by
  have hh := h
  unfold isR at hh
  unfold clavierref02_guess.f
  rcases four r h with h1 | ⟨h1, h2⟩ | ⟨h1, h2⟩ | h1
  · rw [put_1 h h1]
    rw [if_pos (by simp), if_pos (by simp <;> omega)]
    show some (wrap64 r) = _
    rw [wr (by omega) (by omega)]
  · rw [put_2 h h1 h2]
    rw [if_neg (by simp), if_pos (by simp), if_pos (by simp; omega), if_pos (by simp; omega)]
    show some (((192 + r / 64 - 192) % 256) * 64 + (128 + r % 64 - 128) % 256) = _
    congr 1; omega
  · rw [put_3 h h1 h2]
    rw [if_neg (by simp), if_neg (by simp), if_pos (by simp), if_pos (by simp; omega), if_pos (by simp; omega), if_pos (by simp; omega)]
    show some ((((224 + r / 64 / 64 - 224) % 256) * 4096 + ((128 + r / 64 % 64 - 128) % 256) * 64) + (128 + r % 64 - 128) % 256) = _
    congr 1; omega
  · rw [put_4 h h1]
    rw [if_neg (by simp), if_neg (by simp), if_neg (by simp), if_pos (by simp; omega), if_pos (by simp; omega), if_pos (by simp; omega), if_pos (by simp; omega)]
    show some (((((240 + r / 64 / 64 / 64 - 240) % 256) * 262144 + ((128 + r / 64 / 64 % 64 - 128) % 256) * 4096) + ((128 + r / 64 % 64 - 128) % 256) * 64) + (128 + r % 64 - 128) % 256) = _
    congr 1; omega
theorem guess_take {l : List Int} {r n : Int} (h : takeC l = (r, n)) (hn : n ≠ 0) : clavierref02_guess.f l n = some r := by
  obtain ⟨h1, h2, h3, h4, h5⟩ := take_some h hn
  have := guess_put h4 (l.drop n.toNat)
  rw [show ((putP r).length : Int) = n by rw [h5, List.length_take]; omega, h5, List.take_append_drop] at this
  exact this
theorem take_step {l : List Int} (hl : bytes l) (k : Nat) (n : Nat) (h1 : 1 ≤ n) (h2 : n ≤ 4) (h3 : n ≤ l.length) (hlt : (takeC l).2 = 0 ∨ (n : Int) ≤ (takeC l).2)
    (hs : ((takeC l).2 = 0 ∨ (n : Int) + 1 ≤ (takeC l).2) → clavierref02_Take.l0 k l ((n : Int) + 1) = some (takeC l)) : clavierref02_Take.l0 (k + 2) l n = some (takeC l) := by
  rw [clavierref02_Take.l0, if_pos (by omega), clavierref02_Take.j1, if_pos (decide_eq_true (by omega))]
  obtain ⟨g, hg⟩ := guess_some l n (by omega) (by omega) (by omega)
  rw [hg, Option.bind_some, refput_eq, Option.bind_some]
  have hno : ¬ putP g = l.take n → clavierref02_Take.l0 k l (wrap64 ((n : Int) + 1)) = some (takeC l) := by
    intro hne
    rw [wr (by omega) (by omega)]
    refine hs ?_
    rcases hlt with h | h
    · exact .inl h
    · right
      by_cases e : (takeC l).2 = (n : Int)
      · exfalso
        have hn : (takeC l).2 ≠ 0 := by omega
        have hgt := guess_take (l := l) (r := (takeC l).1) (n := (takeC l).2) rfl hn
        rw [e, hg] at hgt
        cases hgt
        have := (take_some (l := l) (r := (takeC l).1) (n := (takeC l).2) rfl hn).2.2.2.2
        rw [e] at this
        exact hne this
      · omega
  by_cases hlen : ((putP g).length : Int) = n
  · rw [if_pos hlen, Option.bind_some, if_pos (by omega), if_pos (by omega)]
    rw [show (n : Int).toNat = n by omega]
    by_cases he : putP g = l.take n
    · rw [if_pos (by rw [he]), take_of hl h1 h3 he]
    · rw [if_neg (fun h => he ((str_eq (put_bytes g) (bytes_take hl n)).mp h))]
      exact hno he
  · rw [if_neg hlen]
    exact hno (fun e => hlen (by rw [e, List.length_take]; omega))
theorem take_stop {l : List Int} (k : Nat) (n : Nat) (h : 4 < n ∨ l.length < n) (hlt : (takeC l).2 = 0 ∨ (n : Int) ≤ (takeC l).2) : clavierref02_Take.l0 (k + 2) l n = some (takeC l) := by
  have hz : (takeC l).2 = 0 := by
    rcases hlt with h0 | h0
    · exact h0
    · by_cases hn : (takeC l).2 = 0
      · exact hn
      · obtain ⟨a, b, c, -⟩ := take_some (l := l) (r := (takeC l).1) (n := (takeC l).2) rfl hn
        omega
  have e : clavierref02_Take.j1 (k + 1) l n false = some (takeC l) := by
    rw [clavierref02_Take.j1, if_neg (by decide), take_zero hz]
  rw [clavierref02_Take.l0]
  split
  · rw [show decide ((n : Int) ≤ (l.length : Int)) = false from decide_eq_false (by omega)]
    exact e
  · exact e
theorem reftake_eq {l : List Int} (hl : bytes l) (k : Nat) : clavierref02_Take.f (k + 10) l = some (takeC l) := by
  have go : ∀ (m : Nat) (n : Nat), 1 ≤ n → n + m = 5 → ∀ k, ((takeC l).2 = 0 ∨ (n : Int) ≤ (takeC l).2) → clavierref02_Take.l0 (k + (2 * m + 2)) l n = some (takeC l) := by
    intro m
    induction m with
    | zero => intro n h1 h2 k hlt; exact take_stop k n (by omega) hlt
    | succ m ih =>
      intro n h1 h2 k hlt
      by_cases h3 : n ≤ l.length
      · rw [show k + (2 * (m + 1) + 2) = (k + (2 * m + 2)) + 2 by omega]
        exact take_step hl _ n h1 (by omega) h3 hlt (fun h => ih (n + 1) (by omega) (by omega) k h)
      · rw [show k + (2 * (m + 1) + 2) = (k + (2 * m + 2)) + 2 by omega]
        exact take_stop _ n (by omega) hlt
  unfold clavierref02_Take.f
  refine go 4 1 (by omega) (by omega) k ?_
  rcases takeC_len l with h | h
  · exact .inl h
  · exact .inr h.1
end Go.Proofs.Ytgbjfjdmhieejaa.Pure
