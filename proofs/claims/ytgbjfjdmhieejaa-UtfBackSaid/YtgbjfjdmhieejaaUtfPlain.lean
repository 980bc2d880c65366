import Derived.Test.YtgbjfjdmhieejaaUtfBytes
import Derived.Test.YtgbjfjdmhieejaaHAll
import Derived.Lib.Bytes
/- Code points and bytes, in plain lists. -/
namespace Go.Proofs.Ytgbjfjdmhieejaa.Pure
open Go.RowKit Go.Proofs.YtgbjfjdmhieejaaW.PrintWords Go.Proofs.YtgbjfjdmhieejaaW.PrintLast Go.Proofs.Ytgbjfjdmhieejaa.H
set_option linter.unusedVariables false

def isR (r : Int) : Prop := 0 ≤ r ∧ r ≤ 1114111 ∧ (r < 55296 ∨ r > 57343)
instance (r : Int) : Decidable (isR r) := by unfold isR; infer_instance
def bytes (l : List Int) : Prop := ∀ z ∈ l, 0 ≤ z ∧ z ≤ 255
theorem bytes_drop {l : List Int} (h : bytes l) (n : Nat) : bytes (l.drop n) := fun z hz => h z (List.mem_of_mem_drop hz)
theorem bytes_take {l : List Int} (h : bytes l) (n : Nat) : bytes (l.take n) := fun z hz => h z (List.mem_of_mem_take hz)
theorem bytes_app {a b : List Int} (ha : bytes a) (hb : bytes b) : bytes (a ++ b) := fun z hz => by
  rcases List.mem_append.1 hz with h | h
  · exact ha z h
  · exact hb z h

theorem put_none {r : Int} (h : ¬ isR r) : putP r = [] := by
  unfold putP isB
  exact if_neg (by simp; unfold isR at h; omega)
theorem put_1 {r : Int} (h : isR r) (h1 : r ≤ 127) : putP r = [r] := by
  unfold putP isB; rw [if_pos (decide_eq_true (show 0 ≤ r ∧ r ≤ 1114111 ∧ (r < 55296 ∨ r > 57343) from h)), if_pos h1]
theorem put_2 {r : Int} (h : isR r) (h1 : 127 < r) (h2 : r ≤ 2047) : putP r = [192 + r / 64, 128 + r % 64] := by
  unfold putP isB; rw [if_pos (decide_eq_true (show 0 ≤ r ∧ r ≤ 1114111 ∧ (r < 55296 ∨ r > 57343) from h)), if_neg (by omega), if_pos h2]
theorem put_3 {r : Int} (h : isR r) (h1 : 2047 < r) (h2 : r ≤ 65535) : putP r = [224 + r / 64 / 64, 128 + r / 64 % 64, 128 + r % 64] := by
  unfold putP isB; rw [if_pos (decide_eq_true (show 0 ≤ r ∧ r ≤ 1114111 ∧ (r < 55296 ∨ r > 57343) from h)), if_neg (by omega), if_neg (by omega), if_pos h2]
theorem put_4 {r : Int} (h : isR r) (h1 : 65535 < r) : putP r = [240 + r / 64 / 64 / 64, 128 + r / 64 / 64 % 64, 128 + r / 64 % 64, 128 + r % 64] := by
  unfold putP isB; rw [if_pos (decide_eq_true (show 0 ≤ r ∧ r ≤ 1114111 ∧ (r < 55296 ∨ r > 57343) from h)), if_neg (by omega), if_neg (by omega), if_neg (by omega)]
theorem four (r : Int) (h : isR r) : r ≤ 127 ∨ (127 < r ∧ r ≤ 2047) ∨ (2047 < r ∧ r ≤ 65535) ∨ 65535 < r := by omega
theorem put_bytes (r : Int) : bytes (putP r) := by
  by_cases h : isR r
  · have hh := h
    unfold isR at hh
    rcases four r h with h1 | ⟨h1, h2⟩ | ⟨h1, h2⟩ | h1
    · rw [put_1 h h1]; intro z hz; simp only [List.mem_cons, List.not_mem_nil, or_false] at hz; omega
    · rw [put_2 h h1 h2]; intro z hz; simp only [List.mem_cons, List.not_mem_nil, or_false] at hz; omega
    · rw [put_3 h h1 h2]; intro z hz; simp only [List.mem_cons, List.not_mem_nil, or_false] at hz; omega
    · rw [put_4 h h1]; intro z hz; simp only [List.mem_cons, List.not_mem_nil, or_false] at hz; omega
  · rw [put_none h]; intro z hz; simp at hz
theorem put_len {r : Int} (h : isR r) : 1 ≤ (putP r).length ∧ (putP r).length ≤ 4 := by
  rcases four r h with h1 | ⟨h1, h2⟩ | ⟨h1, h2⟩ | h1
  · rw [put_1 h h1]; simp
  · rw [put_2 h h1 h2]; simp
  · rw [put_3 h h1 h2]; simp
  · rw [put_4 h h1]; simp
theorem takeS_1 {a : Int} {t : List Int} (h1 : a < 128) : takeS (a :: t) = (a, 1) := by
  rcases t with _ | ⟨b, _ | ⟨c, _ | ⟨d, r⟩⟩⟩ <;> exact if_pos h1
theorem takeS_2 {a b : Int} {t : List Int} (h1 : ¬ a < 128) (h2 : g2 a b) : takeS (a :: b :: t) = (n2 a b, 2) := by
  rcases t with _ | ⟨c, _ | ⟨d, r⟩⟩ <;> exact (if_neg h1).trans (if_pos h2)
theorem takeS_3 {a b c : Int} {t : List Int} (h1 : ¬ a < 128) (h2 : ¬ g2 a b) (h3 : g3 a b c) : takeS (a :: b :: c :: t) = (n3 a b c, 3) := by
  rcases t with _ | ⟨d, r⟩ <;> exact (if_neg h1).trans ((if_neg h2).trans (if_pos h3))
theorem takeS_4 {a b c d : Int} {t : List Int} (h1 : ¬ a < 128) (h2 : ¬ g2 a b) (h3 : ¬ g3 a b c) (h4 : g4 a b c d) : takeS (a :: b :: c :: d :: t) = (n4 a b c d, 4) :=
  (if_neg h1).trans ((if_neg h2).trans ((if_neg h3).trans (if_pos h4)))
/-- Told there and back. -/
theorem take_put {r : Int} (h : isR r) {m : List Int} (hm : bytes m) : takeC (putP r ++ m) = (r, ((putP r).length : Int)) := by
  rw [takeC_S _ (bytes_app (put_bytes r) hm)]
  have hh := h
  unfold isR at hh
  rcases four r h with h1 | ⟨h1, h2⟩ | ⟨h1, h2⟩ | h1
  · rw [put_1 h h1]
    exact takeS_1 (by omega)
  · rw [put_2 h h1 h2]
    have e : n2 (192 + r / 64) (128 + r % 64) = r := by unfold n2; omega
    have k2 : g2 (192 + r / 64) (128 + r % 64) := by unfold g2 tl; rw [e]; omega
    refine (takeS_2 (by omega) k2).trans ?_
    rw [e]; rfl
  · rw [put_3 h h1 h2]
    have e : n3 (224 + r / 64 / 64) (128 + r / 64 % 64) (128 + r % 64) = r := by unfold n3; omega
    have k2 : ¬ g2 (224 + r / 64 / 64) (128 + r / 64 % 64) := by unfold g2; omega
    have k3 : g3 (224 + r / 64 / 64) (128 + r / 64 % 64) (128 + r % 64) := by unfold g3 tl; rw [e]; omega
    refine (takeS_3 (by omega) k2 k3).trans ?_
    rw [e]; rfl
  · rw [put_4 h h1]
    have e : n4 (240 + r / 64 / 64 / 64) (128 + r / 64 / 64 % 64) (128 + r / 64 % 64) (128 + r % 64) = r := by unfold n4; omega
    have k2 : ¬ g2 (240 + r / 64 / 64 / 64) (128 + r / 64 / 64 % 64) := by unfold g2; omega
    have k3 : ¬ g3 (240 + r / 64 / 64 / 64) (128 + r / 64 / 64 % 64) (128 + r / 64 % 64) := by unfold g3; omega
    have k4 : g4 (240 + r / 64 / 64 / 64) (128 + r / 64 / 64 % 64) (128 + r / 64 % 64) (128 + r % 64) := by unfold g4 tl; rw [e]; omega
    refine (takeS_4 (by omega) k2 k3 k4).trans ?_
    rw [e]; rfl
theorem isR_of_put {r : Int} (h : putP r ≠ []) : isR r := Classical.byContradiction fun k => h (put_none k)
/-- What was found are the bytes of what it is. -/
theorem take_some {l : List Int} {r n : Int} (h : takeC l = (r, n)) (hn : n ≠ 0) : 1 ≤ n ∧ n ≤ 4 ∧ n ≤ l.length ∧ isR r ∧ putP r = l.take n.toNat := by
  have key : ∀ j : Nat, 1 ≤ j → j ≤ l.length → putP r = l.take j → isR r := fun j hj1 hj2 he => isR_of_put (by rw [he]; intro e; have := congrArg List.length e; rw [List.length_take, List.length_nil] at this; omega)
  unfold takeC at h
  split at h
  · rename_i k; cases h; exact ⟨by omega, by omega, by have := k.1; omega, key 1 (by decide) k.1 k.2.2, k.2.2⟩
  split at h
  · rename_i k; cases h; exact ⟨by omega, by omega, by have := k.1; omega, key 2 (by decide) k.1 k.2.2, k.2.2⟩
  split at h
  · rename_i k; cases h; exact ⟨by omega, by omega, by have := k.1; omega, key 3 (by decide) k.1 k.2.2, k.2.2⟩
  split at h
  · rename_i k; cases h; exact ⟨by omega, by omega, by have := k.1; omega, key 4 (by decide) k.1 k.2.2, k.2.2⟩
  · cases h; exact absurd rfl hn
theorem take_zero {l : List Int} (h : (takeC l).2 = 0) : takeC l = (0, 0) := by
  unfold takeC at h ⊢
  by_cases h1 : ok1 l
  · rw [if_pos h1] at h; exact absurd (show (_ : Int) = 0 from h) (by intro k; simp at k)
  by_cases h2 : ok2 l
  · rw [if_neg h1, if_pos h2] at h; exact absurd (show (_ : Int) = 0 from h) (by intro k; simp at k)
  by_cases h3 : ok3 l
  · rw [if_neg h1, if_neg h2, if_pos h3] at h; exact absurd (show (_ : Int) = 0 from h) (by intro k; simp at k)
  by_cases h4 : ok4 l
  · rw [if_neg h1, if_neg h2, if_neg h3, if_pos h4] at h; exact absurd (show (_ : Int) = 0 from h) (by intro k; simp at k)
  rw [if_neg h1, if_neg h2, if_neg h3, if_neg h4]
theorem take_nil : takeC [] = (0, 0) := by
  rcases takeC_len [] with h | ⟨h1, h2⟩
  · exact take_zero h
  · exfalso; simp at h2; omega
/-- Bytes that are a code point's are found. -/
theorem take_of {l : List Int} (hl : bytes l) {r : Int} {n : Nat} (h1 : 1 ≤ n) (h2 : n ≤ l.length) (h : putP r = l.take n) : takeC l = (r, (n : Int)) := by
  have hlen : (putP r).length = n := by rw [h, List.length_take]; omega
  have hr : isR r := isR_of_put (by intro e; rw [e] at hlen; simp at hlen; omega)
  have := take_put hr (bytes_drop hl n)
  rw [h, List.take_append_drop] at this
  rw [this, ← h, hlen]

/-- The points, with fuel enough. -/
theorem pts_fuel : ∀ (k : Nat) (l : List Int) (k' : Nat), l.length < k → l.length < k' → pts k l = pts k' l := by
  intro k
  induction k with
  | zero => intro l k' h; omega
  | succ k ih =>
    intro l k' h h'
    obtain ⟨j, rfl⟩ : ∃ j, k' = j + 1 := ⟨k' - 1, by omega⟩
    rw [pts, pts]
    split
    · rfl
    split
    · rfl
    · rename_i h1 h2
      obtain ⟨e1, e2, e3, -⟩ := take_some (l := l) (r := (takeC l).1) (n := (takeC l).2) rfl h2
      have hl : (l.drop (takeC l).2.toNat).length < l.length := by rw [List.length_drop]; omega
      rw [ih _ j (by omega) (by omega)]
theorem all_nil : allC [] = ([], true) := rfl
theorem all_bad {l : List Int} (h : l ≠ []) (h0 : (takeC l).2 = 0) : allC l = ([], false) := by
  have e : pts (l.length + 1) l = [((takeC l).1, false)] := by
    rw [pts, if_neg (fun e => h (List.length_eq_zero_iff.1 e)), if_pos h0]
  unfold allC
  rw [e, if_neg (fun k => by have := k _ (List.mem_cons_self); simp at this)]
theorem all_step {l : List Int} {r n : Int} (h : takeC l = (r, n)) (hn : n ≠ 0) : allC l = if (allC (l.drop n.toNat)).2 = true then (r :: (allC (l.drop n.toNat)).1, true) else ([], false) := by
  obtain ⟨e1, e2, e3, -⟩ := take_some h hn
  have e : pts (l.length + 1) l = (r, true) :: pts ((l.drop n.toNat).length + 1) (l.drop n.toNat) := by
    rw [pts, if_neg (by omega), h]
    dsimp only
    rw [if_neg hn, pts_fuel l.length _ ((l.drop n.toNat).length + 1) (by rw [List.length_drop]; omega) (by omega)]
  unfold allC
  rw [e]
  generalize pts ((l.drop n.toNat).length + 1) (l.drop n.toNat) = P
  by_cases hP : ∀ x ∈ P, x.2 = true
  · rw [if_pos (show ∀ x ∈ (r, true) :: P, x.2 = true by intro x hx; rcases List.mem_cons.1 hx with rfl | hx; rfl; exact hP x hx), if_pos hP]
    rfl
  · rw [if_neg (fun k => hP (fun x hx => k x (List.mem_cons_of_mem _ hx))), if_neg (by rw [if_neg hP]; decide)]
/-- Bytes of code points. -/
def textP (l : List Int) : List Int := l.flatMap putP
theorem textP_cons (r : Int) (l : List Int) : textP (r :: l) = putP r ++ textP l := rfl
theorem textP_bytes (l : List Int) : bytes (textP l) := fun z hz => by
  obtain ⟨r, _, h⟩ := List.mem_flatMap.1 hz
  exact put_bytes r z h
theorem all_put {r : Int} (h : isR r) {m : List Int} (hm : bytes m) : allC (putP r ++ m) = if (allC m).2 = true then (r :: (allC m).1, true) else ([], false) := by
  have hl := put_len h
  rw [all_step (take_put h hm) (by omega)]
  have : (putP r ++ m).drop ((putP r).length : Int).toNat = m := by
    rw [show ((putP r).length : Int).toNat = (putP r).length by omega, List.drop_left]
  rw [this]
/-- Code points' bytes ahead of others. -/
theorem all_text : ∀ (k : List Int) (m : List Int), (∀ r ∈ k, isR r) → bytes m → allC (textP k ++ m) = if (allC m).2 = true then (k ++ (allC m).1, true) else ([], false) := by
  intro k
  induction k with
  | nil =>
    intro m _ hm
    show allC m = _
    rcases h : allC m with ⟨a, b⟩
    cases b
    · simp
      unfold allC at h
      split at h <;> cases h
      rfl
    · simp
  | cons r k ih =>
    intro m hk hm
    rw [textP_cons, List.append_assoc, all_put (hk r List.mem_cons_self) (bytes_app (textP_bytes k) hm), ih m (fun z hz => hk z (List.mem_cons_of_mem _ hz)) hm]
    by_cases h : (allC m).2 = true
    · rw [if_pos h, if_pos h, if_pos rfl]; rfl
    · rw [if_neg h, if_neg h, if_neg (by decide)]
theorem all_of_text {k : List Int} (hk : ∀ r ∈ k, isR r) : allC (textP k) = (k, true) := by
  have := all_text k [] hk (fun z hz => by simp at hz)
  rw [List.append_nil] at this
  rw [this, all_nil, if_pos rfl, List.append_nil]
/-- Bytes that are valid are those of what they are. -/
theorem text_of_all : ∀ (n : Nat) (b : List Int), b.length ≤ n → (allC b).2 = true → textP (allC b).1 = b ∧ ∀ r ∈ (allC b).1, isR r := by
  intro n
  induction n with
  | zero =>
    intro b hb _
    obtain rfl : b = [] := List.length_eq_zero_iff.1 (by omega)
    rw [all_nil]
    exact ⟨rfl, fun r hr => by simp at hr⟩
  | succ n ih =>
    intro b hb h
    by_cases h0 : b = []
    · subst h0
      rw [all_nil]
      exact ⟨rfl, fun r hr => by simp at hr⟩
    by_cases hz : (takeC b).2 = 0
    · rw [all_bad h0 hz] at h; simp at h
    obtain ⟨e1, e2, e3, e4, e5⟩ := take_some (l := b) (r := (takeC b).1) (n := (takeC b).2) rfl hz
    have hs := all_step (l := b) (r := (takeC b).1) (n := (takeC b).2) rfl hz
    rw [hs] at h ⊢
    by_cases hd : (allC (b.drop (takeC b).2.toNat)).2 = true
    · rw [if_pos hd]
      obtain ⟨i1, i2⟩ := ih (b.drop (takeC b).2.toNat) (by rw [List.length_drop]; omega) hd
      constructor
      · show putP _ ++ textP _ = _
        rw [i1, e5, List.take_append_drop]
      · intro r hr
        rcases List.mem_cons.1 hr with rfl | hr
        · exact e4
        · exact i2 r hr
    · rw [if_neg hd] at h; simp at h
theorem all_len : ∀ (b : List Int), (allC b).1.length ≤ b.length := by
  intro b
  by_cases h : (allC b).2 = true
  · obtain ⟨e, hr⟩ := text_of_all _ b (Nat.le_refl _) h
    have : ∀ k : List Int, (∀ r ∈ k, isR r) → k.length ≤ (textP k).length := by
      intro k
      induction k with
      | nil => intro _; exact Nat.le_refl _
      | cons r k ih =>
        intro hk
        have := put_len (hk r List.mem_cons_self)
        have := ih (fun z hz => hk z (List.mem_cons_of_mem _ hz))
        rw [textP_cons, List.length_append, List.length_cons]
        omega
    have := this _ hr
    rwa [e] at this
  · have : allC b = ([], false) := by
      unfold allC at h ⊢
      split at h
      · simp at h
      · rename_i k; rw [if_neg k]
    rw [this]
    exact Nat.zero_le _
theorem text_len : ∀ (k : List Int), (textP k).length ≤ 4 * k.length := by
  intro k
  induction k with
  | nil => exact Nat.le_refl _
  | cons r k ih =>
    have : (putP r).length ≤ 4 := by
      by_cases h : isR r
      · exact (put_len h).2
      · rw [put_none h]; simp
    rw [textP_cons, List.length_append, List.length_cons]
    omega
/-- Strings of bytes are alike if the bytes are. -/
theorem str_eq {a b : List Int} (ha : bytes a) (hb : bytes b) : (strOfNums a).toList = (strOfNums b).toList ↔ a = b := by
  refine ⟨fun h => ?_, fun h => by rw [h]⟩
  rw [Go.Lib.strOfNums_toList, Go.Lib.strOfNums_toList] at h
  unfold Go.Lib.bytesOf at h
  have key : ∀ (x y : List Int), bytes x → bytes y → x.map (fun n => UInt8.ofNat n.toNat) = y.map (fun n => UInt8.ofNat n.toNat) → x = y := by
    intro x
    induction x with
    | nil => intro y _ _ h; cases y with
      | nil => rfl
      | cons _ _ => simp at h
    | cons u x ih =>
      intro y hx hy h
      cases y with
      | nil => simp at h
      | cons v y =>
        rw [List.map_cons, List.map_cons] at h
        injection h with h1 h2
        have hu := hx u List.mem_cons_self
        have hv := hy v List.mem_cons_self
        have : u.toNat = v.toNat := by
          have := congrArg UInt8.toNat h1
          simpa [UInt8.toNat_ofNat', Nat.mod_eq_of_lt (show u.toNat < 256 by omega), Nat.mod_eq_of_lt (show v.toNat < 256 by omega)] using this
        rw [ih y (fun z hz => hx z (List.mem_cons_of_mem _ hz)) (fun z hz => hy z (List.mem_cons_of_mem _ hz)) h2, show u = v by omega]
  exact key a b ha hb h
end Go.Proofs.Ytgbjfjdmhieejaa.Pure
