import Derived.Test.YtgbjfjdmhieejaaUtfPlainT
import Derived.Test.YtgbjfjdmhieejaaR4
namespace Go.Proofs.Ytgbjfjdmhieejaa.Pure
open Go.RowKit Go.Proofs.YtgbjfjdmhieejaaW.PrintWords Go.Proofs.YtgbjfjdmhieejaaW.PrintLast Go.Proofs.Ytgbjfjdmhieejaa.R Go.Proofs.Ytgbjfjdmhieejaa.H
set_option linter.unusedVariables false

/- The reference's All, Text on both sides, Ints. -/
theorem ints_loop (a b : List Int) (hl : a.length = b.length) (hlen : a.length < 1000000) : ∀ (m i k : Nat), i + m = a.length → m < k → clavierref02_Ints.l0 k a b i = some (decide (a.drop i = b.drop i)) := by
  intro m
  induction m with
  | zero =>
    intro i k hi hk
    obtain ⟨k, rfl⟩ : ∃ j, k = j + 1 := ⟨k - 1, by omega⟩
    rw [clavierref02_Ints.l0, if_neg (by omega), List.drop_eq_nil_of_le (by omega), List.drop_eq_nil_of_le (by omega)]
    simp
  | succ m ih =>
    intro i k hi hk
    obtain ⟨k, rfl⟩ : ∃ j, k = j + 1 := ⟨k - 1, by omega⟩
    have ha : i < a.length := by omega
    have hb : i < b.length := by omega
    rw [clavierref02_Ints.l0, if_pos (by omega), if_pos (by omega), if_pos (by omega)]
    have ra : rd a i = a[i] := by show a.getD _ 0 = _; rw [show (i : Int).toNat = i by omega, List.getD_eq_getElem?_getD, List.getElem?_eq_getElem ha]; rfl
    have rb : rd b i = b[i] := by show b.getD _ 0 = _; rw [show (i : Int).toNat = i by omega, List.getD_eq_getElem?_getD, List.getElem?_eq_getElem hb]; rfl
    rw [ra, rb, List.drop_eq_getElem_cons ha, List.drop_eq_getElem_cons hb]
    by_cases he : a[i] = b[i]
    · rw [if_pos he, wr (by omega) (by omega), show (i : Int) + 1 = ((i + 1 : Nat) : Int) by omega, ih (i + 1) k (by omega) (by omega)]
      congr 1
      exact decide_eq_decide.mpr ⟨fun h => by rw [he, h], fun h => by injection h⟩
    · rw [if_neg he]
      exact congrArg some (decide_eq_false (fun h => he (by injection h))).symm
theorem ints_eq (a b : List Int) (k : Nat) (hk : a.length < k) (hlen : a.length < 1000000) : clavierref02_Ints.f k a b = some (decide (a = b)) := by
  unfold clavierref02_Ints.f
  by_cases hl : a.length = b.length
  · rw [if_pos (by omega)]
    exact ints_loop a b hl hlen a.length 0 k (by omega) hk
  · rw [if_neg (by omega)]
    exact congrArg some (decide_eq_false (fun h => hl (by rw [h]))).symm
theorem refall_loop {b : List Int} (hb : bytes b) (hlen : b.length < 1000000) : ∀ (m i : Nat) (out : List Int) (k : Nat), b.length - i ≤ m → i ≤ b.length → out.length ≤ i → m + 11 < k →
    clavierref02_All.l0 k b out i = some (if (allC (b.drop i)).2 = true then (out ++ (allC (b.drop i)).1, true) else ([], false)) := by
  intro m
  induction m with
  | zero =>
    intro i out k h1 h2 h3 h4
    obtain ⟨k, rfl⟩ : ∃ j, k = j + 1 := ⟨k - 1, by omega⟩
    rw [clavierref02_All.l0, if_neg (by omega), List.drop_eq_nil_of_le (by omega), all_nil, if_pos rfl, List.append_nil]
  | succ m ih =>
    intro i out k h1 h2 h3 h4
    obtain ⟨k, rfl⟩ : ∃ j, k = j + 1 := ⟨k - 1, by omega⟩
    by_cases hi : i < b.length
    · rw [clavierref02_All.l0, if_pos (by omega), if_pos (by omega), if_pos (by omega), show (i : Int).toNat = i by omega]
      obtain ⟨j, rfl⟩ : ∃ j, k = j + 10 := ⟨k - 10, by omega⟩
      rw [reftake_eq (bytes_drop hb i), Option.bind_some]
      have hne : b.drop i ≠ [] := fun e => by have := congrArg List.length e; rw [List.length_drop, List.length_nil] at this; omega
      by_cases hz : (takeC (b.drop i)).2 = 0
      · rw [if_pos hz, all_bad hne hz, if_neg (by decide)]
      · obtain ⟨e1, e2, e3, -⟩ := take_some (l := b.drop i) (r := (takeC (b.drop i)).1) (n := (takeC (b.drop i)).2) rfl hz
        rw [List.length_drop] at e3
        rw [if_neg hz, if_pos (by omega), wr (by omega) (by omega)]
        generalize hn : (takeC (b.drop i)).2 = n at *
        rw [show (i : Int) + n = ((i + n.toNat : Nat) : Int) by omega, ih (i + n.toNat) _ _ (by omega) (by omega) (by rw [List.length_append, List.length_singleton]; omega) (by omega)]
        rw [all_step (l := b.drop i) (r := (takeC (b.drop i)).1) (n := n) (by rw [← hn]) hz, List.drop_drop]
        by_cases hd : (allC (b.drop (i + n.toNat))).2 = true
        · rw [if_pos hd, if_pos hd, if_pos rfl, List.append_assoc]; rfl
        · rw [if_neg hd, if_neg hd, if_neg (by decide)]
    · rw [clavierref02_All.l0, if_neg (by omega), List.drop_eq_nil_of_le (by omega), all_nil, if_pos rfl, List.append_nil]
theorem all_pair (b : List Int) : (if (allC b).2 = true then ((allC b).1, true) else (([] : List Int), false)) = allC b := by
  by_cases h : (allC b).2 = true
  · rw [if_pos h, ← h]
  · rw [if_neg h]
    unfold allC at h ⊢
    split at h
    · simp at h
    · rename_i k; rw [if_neg k]
theorem refall_eq {b : List Int} (hb : bytes b) (hlen : b.length < 1000000) (k : Nat) (hk : b.length + 11 < k) : clavierref02_All.f k b = some (allC b) := by
  have := refall_loop hb hlen b.length 0 [] k (by omega) (by omega) (by simp) hk
  rw [List.drop_zero, List.nil_append, all_pair] at this
  exact this
theorem uall_eq {b : List Int} (hlen : b.length ≤ 1000000) : utf_All.f b = some (allC b) := if_pos hlen
theorem uvalid_eq {b : List Int} (hlen : b.length ≤ 1000000) : utf_Valid.f b = some (allC b).2 := by
  unfold utf_Valid.f; rw [uall_eq hlen]; rfl
/-- Numbers as bytes: none if one is no code point. -/
def textC (l : List Int) : List Int × Bool := if ∀ r ∈ l, isR r then (textP l, true) else ([], false)
theorem text_next (l : List Int) (i : Nat) (hi : i < l.length) (h : isR l[i]) : (∀ r ∈ l.drop i, isR r) ↔ ∀ r ∈ l.drop (i + 1), isR r := by
  rw [List.drop_eq_getElem_cons hi]
  exact ⟨fun k r hr => k r (List.mem_cons_of_mem _ hr), fun k r hr => by rcases List.mem_cons.1 hr with rfl | hr; exact h; exact k r hr⟩
theorem rd_at (l : List Int) (i : Nat) (hi : i < l.length) : rd l i = l[i] := by
  show l.getD _ 0 = _
  rw [show (i : Int).toNat = i by omega, List.getD_eq_getElem?_getD, List.getElem?_eq_getElem hi]; rfl
theorem put_le (r : Int) : (putP r).length ≤ 4 := by
  by_cases h : isR r
  · exact (put_len h).2
  · rw [put_none h]; simp
theorem utext_loop (l : List Int) (hlen : l.length < 1000000) : ∀ (m i : Nat) (out : List Int) (k : Nat), i + m = l.length → out.length ≤ 4 * i → m < k →
    utf_Text.l0 k out l (l.length : Int) i = some (if ∀ r ∈ l.drop i, isR r then (out ++ textP (l.drop i), true) else ([], false)) := by
  intro m
  induction m with
  | zero =>
    intro i out k h1 h2 h3
    obtain ⟨k, rfl⟩ : ∃ j, k = j + 1 := ⟨k - 1, by omega⟩
    rw [utf_Text.l0, if_neg (by omega), List.drop_eq_nil_of_le (by omega), if_pos (by simp)]
    show _ = some (out ++ [], true)
    rw [List.append_nil]
  | succ m ih =>
    intro i out k h1 h2 h3
    obtain ⟨k, rfl⟩ : ∃ j, k = j + 1 := ⟨k - 1, by omega⟩
    have hi : i < l.length := by omega
    rw [utf_Text.l0, if_pos (by omega), if_pos (by omega), if_pos (by omega), rd_at l i hi, uis_eq, Option.bind_some]
    by_cases h : isR l[i]
    · have := put_le l[i]
      rw [if_pos (decide_eq_true h), uput_eq, Option.bind_some, if_pos (by omega), wr (by omega) (by omega), show (i : Int) + 1 = ((i + 1 : Nat) : Int) by omega,
        ih (i + 1) _ k (by omega) (by rw [List.length_append]; omega) (by omega)]
      by_cases hd : ∀ r ∈ l.drop (i + 1), isR r
      · rw [if_pos hd, if_pos ((text_next l i hi h).mpr hd), List.drop_eq_getElem_cons hi, textP_cons, List.append_assoc]
      · rw [if_neg hd, if_neg (fun k => hd ((text_next l i hi h).mp k))]
    · rw [if_neg (by simp [h]), if_neg (fun k => h (k _ (by rw [List.drop_eq_getElem_cons hi]; exact List.mem_cons_self)))]
theorem utext_eq (l : List Int) (hlen : l.length < 1000000) (k : Nat) (hk : l.length < k) : utf_Text.f k l = some (textC l) := by
  have := utext_loop l hlen l.length 0 [] k (by omega) (by simp) hk
  rw [List.drop_zero, List.nil_append] at this
  exact this
theorem reftext_loop (l : List Int) (hlen : l.length < 1000000) : ∀ (m i : Nat) (out : List Int) (k : Nat), i + m = l.length → out.length ≤ 4 * i → m < k →
    clavierref02_Text.l0 k l out i = some (if ∀ r ∈ l.drop i, isR r then (out ++ textP (l.drop i), true) else ([], false)) := by
  intro m
  induction m with
  | zero =>
    intro i out k h1 h2 h3
    obtain ⟨k, rfl⟩ : ∃ j, k = j + 1 := ⟨k - 1, by omega⟩
    rw [clavierref02_Text.l0, if_neg (by omega), List.drop_eq_nil_of_le (by omega), if_pos (by simp)]
    show _ = some (out ++ [], true)
    rw [List.append_nil]
  | succ m ih =>
    intro i out k h1 h2 h3
    obtain ⟨k, rfl⟩ : ∃ j, k = j + 1 := ⟨k - 1, by omega⟩
    have hi : i < l.length := by omega
    rw [clavierref02_Text.l0, if_pos (by omega), if_pos (by omega), rd_at l i hi, is_eq, Option.bind_some]
    by_cases h : isR l[i]
    · have := put_le l[i]
      rw [if_pos (decide_eq_true h), refput_eq, Option.bind_some, if_pos (by omega), wr (by omega) (by omega), show (i : Int) + 1 = ((i + 1 : Nat) : Int) by omega,
        ih (i + 1) _ k (by omega) (by rw [List.length_append]; omega) (by omega)]
      by_cases hd : ∀ r ∈ l.drop (i + 1), isR r
      · rw [if_pos hd, if_pos ((text_next l i hi h).mpr hd), List.drop_eq_getElem_cons hi, textP_cons, List.append_assoc]
      · rw [if_neg hd, if_neg (fun k => hd ((text_next l i hi h).mp k))]
    · rw [if_neg (by simp [h]), if_neg (fun k => h (k _ (by rw [List.drop_eq_getElem_cons hi]; exact List.mem_cons_self)))]
theorem reftext_eq (l : List Int) (hlen : l.length < 1000000) (k : Nat) (hk : l.length < k) : clavierref02_Text.f k l = some (textC l) := by
  have := reftext_loop l hlen l.length 0 [] k (by omega) (by simp) hk
  rw [List.drop_zero, List.nil_append] at this
  exact this
end Go.Proofs.Ytgbjfjdmhieejaa.Pure
