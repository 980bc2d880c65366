import Derived.Test.YtgbjfjdmhieejaaHUTake
/- utf.Take in plain numbers. -/
namespace Go.Proofs.Ytgbjfjdmhieejaa.Pure
open Go.RowKit Go.Proofs.YtgbjfjdmhieejaaW.PrintWords Go.Proofs.YtgbjfjdmhieejaaW.PrintLast Go.Proofs.Ytgbjfjdmhieejaa.H
set_option linter.unusedVariables false

theorem byteF {P : Int → Prop} (h : ∀ n : Fin 256, P (n.val : Int)) (b : Int) (hb : 0 ≤ b ∧ b ≤ 255) : P b := by
  have := h ⟨b.toNat, by omega⟩
  simp only [Int.toNat_of_nonneg hb.1] at this
  exact this
set_option maxRecDepth 100000 in
theorem byte_and (b : Int) (hb : 0 ≤ b ∧ b ≤ 255) : Go.bits .and .u8 b 127 = b % 128 ∧ Go.bits .and .u8 b 31 = b % 32 ∧ Go.bits .and .u8 b 15 = b % 16 ∧ Go.bits .and .u8 b 7 = b % 8 ∧ Go.bits .and .u8 b 63 = b % 64 :=
  byteF (P := fun b => Go.bits .and .u8 b 127 = b % 128 ∧ Go.bits .and .u8 b 31 = b % 32 ∧ Go.bits .and .u8 b 15 = b % 16 ∧ Go.bits .and .u8 b 7 = b % 8 ∧ Go.bits .and .u8 b 63 = b % 64) (by decide +kernel) b hb
set_option maxRecDepth 100000 in
theorem byte_not (b : Int) (hb : 0 ≤ b ∧ b ≤ 255) : (Go.bits .andNot .u8 b 127 = 0 ↔ b < 128) ∧ (Go.bits .andNot .u8 b 31 = 192 ↔ 192 ≤ b ∧ b < 224) ∧ (Go.bits .andNot .u8 b 15 = 224 ↔ 224 ≤ b ∧ b < 240) ∧ (Go.bits .andNot .u8 b 7 = 240 ↔ 240 ≤ b ∧ b < 248) :=
  byteF (P := fun b => (Go.bits .andNot .u8 b 127 = 0 ↔ b < 128) ∧ (Go.bits .andNot .u8 b 31 = 192 ↔ 192 ≤ b ∧ b < 224) ∧ (Go.bits .andNot .u8 b 15 = 224 ↔ 224 ≤ b ∧ b < 240) ∧ (Go.bits .andNot .u8 b 7 = 240 ↔ 240 ≤ b ∧ b < 248)) (by decide +kernel) b hb
theorem or_low (x y : Int) (hx : 0 ≤ x ∧ x < 1099511627776) (hy : 0 ≤ y ∧ y < 64) : Go.bits .or .i64 (x * 64) y = x * 64 + y := by
  obtain ⟨m, rfl⟩ : ∃ m : Nat, x = (m : Int) := ⟨x.toNat, by omega⟩
  obtain ⟨n, rfl⟩ : ∃ n : Nat, y = (n : Int) := ⟨y.toNat, by omega⟩
  have e1 : (BitVec.ofInt 64 ((m : Int) * 64)).toNat = m * 64 := by
    rw [show (m : Int) * 64 = ((m * 64 : Nat) : Int) by omega, BitVec.ofInt_natCast, BitVec.toNat_ofNat]; exact Nat.mod_eq_of_lt (by omega)
  have e2 : (BitVec.ofInt 64 (n : Int)).toNat = n := by
    rw [BitVec.ofInt_natCast, BitVec.toNat_ofNat]; exact Nat.mod_eq_of_lt (by omega)
  show IntKind.i64.wrap ((BitVec.ofInt 64 ((m : Int) * 64) ||| BitVec.ofInt 64 (n : Int)).toNat : Int) = _
  rw [BitVec.toNat_or, e1, e2, i64_w]
  have h : m * 64 ||| n = m * 64 + n := by
    have := Nat.shiftLeft_add_eq_or_of_lt (a := m) (b := n) (i := 6) (by omega)
    rw [Nat.shiftLeft_eq] at this
    exact this.symm
  rw [h]
  unfold wrap64
  omega
theorem wr {n : Int} (h0 : -9223372036854775808 ≤ n) (h1 : n ≤ 9223372036854775807) : wrap64 n = n := by unfold wrap64; omega
theorem tStep_eq (x c : Int) (hx : 0 ≤ x ∧ x < 1000000000) (hc : 0 ≤ c ∧ c ≤ 255) : tStep x c = x * 64 + c % 64 := by
  unfold tStep
  rw [(byte_and c hc).2.2.2.2, wr (by omega) (by omega), wr (by omega) (by omega), or_low x (c % 64) (by omega) (by omega)]
theorem tStart_eq (b : Int) (hb : 0 ≤ b ∧ b ≤ 255) : tStart 127 b = b % 128 ∧ tStart 31 b = b % 32 ∧ tStart 15 b = b % 16 ∧ tStart 7 b = b % 8 := by
  obtain ⟨h1, h2, h3, h4, _⟩ := byte_and b hb
  unfold tStart
  rw [h1, h2, h3, h4, wr (by omega) (by omega), wr (by omega) (by omega), wr (by omega) (by omega), wr (by omega) (by omega)]
  exact ⟨rfl, rfl, rfl, rfl⟩

/-- The number that two, three, four bytes are of. -/
def n2 (a b : Int) : Int := a % 32 * 64 + b % 64
def n3 (a b c : Int) : Int := (a % 16 * 64 + b % 64) * 64 + c % 64
def n4 (a b c d : Int) : Int := ((a % 8 * 64 + b % 64) * 64 + c % 64) * 64 + d % 64
/-- A byte behind the first one. -/
def tl (b : Int) : Prop := 128 ≤ b ∧ b < 192
instance (b : Int) : Decidable (tl b) := by unfold tl; infer_instance
def g2 (a b : Int) : Prop := 192 ≤ a ∧ a < 224 ∧ tl b ∧ 128 ≤ n2 a b
def g3 (a b c : Int) : Prop := 224 ≤ a ∧ a < 240 ∧ tl b ∧ tl c ∧ 2048 ≤ n3 a b c ∧ (n3 a b c < 55296 ∨ 57343 < n3 a b c)
def g4 (a b c d : Int) : Prop := 240 ≤ a ∧ a < 248 ∧ tl b ∧ tl c ∧ tl d ∧ 65536 ≤ n4 a b c d ∧ n4 a b c d ≤ 1114111
instance (a b : Int) : Decidable (g2 a b) := by unfold g2; infer_instance
instance (a b c : Int) : Decidable (g3 a b c) := by unfold g3; infer_instance
instance (a b c d : Int) : Decidable (g4 a b c d) := by unfold g4; infer_instance
/-- The code point with which bytes begin, and how many these are. -/
def takeS : List Int → Int × Int
  | [] => (0, 0)
  | [a] => if a < 128 then (a, 1) else (0, 0)
  | [a, b] => if a < 128 then (a, 1) else if g2 a b then (n2 a b, 2) else (0, 0)
  | [a, b, c] => if a < 128 then (a, 1) else if g2 a b then (n2 a b, 2) else if g3 a b c then (n3 a b c, 3) else (0, 0)
  | a :: b :: c :: d :: _ => if a < 128 then (a, 1) else if g2 a b then (n2 a b, 2) else if g3 a b c then (n3 a b c, 3) else if g4 a b c d then (n4 a b c d, 4) else (0, 0)

theorem put1_iff (a : Int) (ha : 0 ≤ a ∧ a ≤ 255) (h : a < 128) : putP (a % 128) = [a] := by
  unfold putP isB
  rw [if_pos (decide_eq_true (by omega)), if_pos (by omega)]
  congr 1
  omega
theorem put2_iff (a b : Int) (ha : 192 ≤ a ∧ a < 224) (hb : 0 ≤ b ∧ b ≤ 255) : putP (n2 a b) = [a, b] ↔ g2 a b := by
  have hr : 0 ≤ n2 a b ∧ n2 a b ≤ 2047 := by unfold n2; omega
  unfold putP isB g2 tl
  rw [if_pos (decide_eq_true (by omega))]
  by_cases h1 : n2 a b ≤ 127
  · rw [if_pos h1]
    simp
    omega
  · rw [if_neg h1, if_pos hr.2]
    simp only [List.cons.injEq, and_true]
    unfold n2 at *
    omega
theorem put3_iff (a b c : Int) (ha : 224 ≤ a ∧ a < 240) (hb : 0 ≤ b ∧ b ≤ 255) (hc : 0 ≤ c ∧ c ≤ 255) : putP (n3 a b c) = [a, b, c] ↔ g3 a b c := by
  have hr : 0 ≤ n3 a b c ∧ n3 a b c ≤ 65535 := by unfold n3; omega
  unfold putP isB g3 tl
  by_cases hs : n3 a b c < 55296 ∨ n3 a b c > 57343
  · rw [if_pos (decide_eq_true (by omega))]
    by_cases h1 : n3 a b c ≤ 127
    · rw [if_pos h1]
      simp
      omega
    · rw [if_neg h1]
      by_cases h2 : n3 a b c ≤ 2047
      · rw [if_pos h2]
        simp
        omega
      · rw [if_neg h2, if_pos hr.2]
        simp only [List.cons.injEq, and_true]
        unfold n3 at *
        omega
  · rw [if_neg (by simp; omega)]
    simp
    omega
theorem put4_iff (a b c d : Int) (ha : 240 ≤ a ∧ a < 248) (hb : 0 ≤ b ∧ b ≤ 255) (hc : 0 ≤ c ∧ c ≤ 255) (hd : 0 ≤ d ∧ d ≤ 255) : putP (n4 a b c d) = [a, b, c, d] ↔ g4 a b c d := by
  have hr : 0 ≤ n4 a b c d ∧ n4 a b c d ≤ 2097151 := by unfold n4; omega
  unfold putP isB g4 tl
  by_cases hs : n4 a b c d ≤ 1114111 ∧ (n4 a b c d < 55296 ∨ n4 a b c d > 57343)
  · rw [if_pos (decide_eq_true (by omega))]
    by_cases h1 : n4 a b c d ≤ 127
    · rw [if_pos h1]
      simp
      omega
    · rw [if_neg h1]
      by_cases h2 : n4 a b c d ≤ 2047
      · rw [if_pos h2]
        simp
        omega
      · rw [if_neg h2]
        by_cases h3 : n4 a b c d ≤ 65535
        · rw [if_pos h3]
          simp
          omega
        · rw [if_neg h3]
          simp only [List.cons.injEq, and_true]
          unfold n4 at *
          omega
  · rw [if_neg (by simp; omega)]
    simp
    omega

theorem ok1_of (a : Int) (r : List Int) (ha : 0 ≤ a ∧ a ≤ 255) : (ok1 (a :: r) ↔ a < 128) ∧ acc1 (a :: r) = a % 128 := by
  have e : acc1 (a :: r) = a % 128 := (tStart_eq a ha).1
  refine ⟨?_, e⟩
  unfold ok1
  rw [e]
  show 1 ≤ r.length + 1 ∧ Go.bits .andNot .u8 a 127 = 0 ∧ putP (a % 128) = [a] ↔ _
  rw [(byte_not a ha).1]
  exact ⟨fun h => h.2.1, fun h => ⟨by omega, h, put1_iff a ha h⟩⟩
theorem ok2_of (a b : Int) (r : List Int) (ha : 0 ≤ a ∧ a ≤ 255) (hb : 0 ≤ b ∧ b ≤ 255) : (ok2 (a :: b :: r) ↔ g2 a b) ∧ acc2 (a :: b :: r) = n2 a b := by
  have e : acc2 (a :: b :: r) = n2 a b := by
    show tStep (tStart 31 a) b = _
    rw [(tStart_eq a ha).2.1, tStep_eq _ _ (by omega) hb]
    rfl
  refine ⟨?_, e⟩
  unfold ok2
  rw [e]
  show 2 ≤ r.length + 1 + 1 ∧ Go.bits .andNot .u8 a 31 = 192 ∧ putP (n2 a b) = [a, b] ↔ _
  rw [(byte_not a ha).2.1]
  constructor
  · rintro ⟨_, h1, h2⟩
    exact (put2_iff a b h1 hb).mp h2
  · intro h
    exact ⟨by omega, ⟨h.1, h.2.1⟩, (put2_iff a b ⟨h.1, h.2.1⟩ hb).mpr h⟩
theorem ok3_of (a b c : Int) (r : List Int) (ha : 0 ≤ a ∧ a ≤ 255) (hb : 0 ≤ b ∧ b ≤ 255) (hc : 0 ≤ c ∧ c ≤ 255) : (ok3 (a :: b :: c :: r) ↔ g3 a b c) ∧ acc3 (a :: b :: c :: r) = n3 a b c := by
  have e : acc3 (a :: b :: c :: r) = n3 a b c := by
    show tStep (tStep (tStart 15 a) b) c = _
    rw [(tStart_eq a ha).2.2.1, tStep_eq _ _ (by omega) hb, tStep_eq _ _ (by omega) hc]
    rfl
  refine ⟨?_, e⟩
  unfold ok3
  rw [e]
  show 3 ≤ r.length + 1 + 1 + 1 ∧ Go.bits .andNot .u8 a 15 = 224 ∧ putP (n3 a b c) = [a, b, c] ↔ _
  rw [(byte_not a ha).2.2.1]
  constructor
  · rintro ⟨_, h1, h2⟩
    exact (put3_iff a b c h1 hb hc).mp h2
  · intro h
    exact ⟨by omega, ⟨h.1, h.2.1⟩, (put3_iff a b c ⟨h.1, h.2.1⟩ hb hc).mpr h⟩
theorem ok4_of (a b c d : Int) (r : List Int) (ha : 0 ≤ a ∧ a ≤ 255) (hb : 0 ≤ b ∧ b ≤ 255) (hc : 0 ≤ c ∧ c ≤ 255) (hd : 0 ≤ d ∧ d ≤ 255) : (ok4 (a :: b :: c :: d :: r) ↔ g4 a b c d) ∧ acc4 (a :: b :: c :: d :: r) = n4 a b c d := by
  have e : acc4 (a :: b :: c :: d :: r) = n4 a b c d := by
    show tStep (tStep (tStep (tStart 7 a) b) c) d = _
    rw [(tStart_eq a ha).2.2.2, tStep_eq _ _ (by omega) hb, tStep_eq _ _ (by omega) hc, tStep_eq _ _ (by omega) hd]
    rfl
  refine ⟨?_, e⟩
  unfold ok4
  rw [e]
  show 4 ≤ r.length + 1 + 1 + 1 + 1 ∧ Go.bits .andNot .u8 a 7 = 240 ∧ putP (n4 a b c d) = [a, b, c, d] ↔ _
  rw [(byte_not a ha).2.2.2]
  constructor
  · rintro ⟨_, h1, h2⟩
    exact (put4_iff a b c d h1 hb hc hd).mp h2
  · intro h
    exact ⟨by omega, ⟨h.1, h.2.1⟩, (put4_iff a b c d ⟨h.1, h.2.1⟩ hb hc hd).mpr h⟩
theorem takeC_S (l : List Int) (hl : ∀ z ∈ l, 0 ≤ z ∧ z ≤ 255) : takeC l = takeS l := by
  have n2_ : l.length < 2 → ¬ ok2 l := fun h k => by have := k.1; omega
  have n3_ : l.length < 3 → ¬ ok3 l := fun h k => by have := k.1; omega
  have n4_ : l.length < 4 → ¬ ok4 l := fun h k => by have := k.1; omega
  rcases l with _ | ⟨a, t⟩
  · exact takeC_4 ⟨fun _ h => by have := h.1; simp at this, fun _ => n2_ (by simp), fun _ => n3_ (by simp), fun _ => n4_ (by simp)⟩
  have ha := hl a (by simp)
  obtain ⟨i1, a1⟩ := ok1_of a t ha
  by_cases h1 : a < 128
  · have : takeS (a :: t) = (a, 1) := by
      rcases t with _ | ⟨b, _ | ⟨c, _ | ⟨d, r⟩⟩⟩ <;> exact if_pos h1
    rw [this, takeC_0 (i1.mpr h1), a1, Int.emod_eq_of_lt ha.1 h1]
  have k1 : ¬ ok1 (a :: t) := fun h => h1 (i1.mp h)
  rcases t with _ | ⟨b, t⟩
  · rw [takeC_4 ⟨fun _ => k1, fun _ => n2_ (by simp), fun _ => n3_ (by simp), fun _ => n4_ (by simp)⟩]
    exact (if_neg h1).symm
  have hb := hl b (by simp)
  obtain ⟨i2, a2⟩ := ok2_of a b t ha hb
  have m1 : nots (a :: b :: t) 1 := nots_next1 (nots_0 _) k1
  by_cases h2 : g2 a b
  · have : takeS (a :: b :: t) = (n2 a b, 2) := by
      rcases t with _ | ⟨c, _ | ⟨d, r⟩⟩ <;> exact (if_neg h1).trans (if_pos h2)
    rw [this, takeC_1 m1 (i2.mpr h2), a2]
  have k2 : ¬ ok2 (a :: b :: t) := fun h => h2 (i2.mp h)
  have m2 := nots_next2 m1 k2
  rcases t with _ | ⟨c, t⟩
  · rw [takeC_4 ⟨fun _ => k1, fun _ => k2, fun _ => n3_ (by simp), fun _ => n4_ (by simp)⟩]
    exact ((if_neg h1).trans (if_neg h2)).symm
  have hc := hl c (by simp)
  obtain ⟨i3, a3⟩ := ok3_of a b c t ha hb hc
  by_cases h3 : g3 a b c
  · have : takeS (a :: b :: c :: t) = (n3 a b c, 3) := by
      rcases t with _ | ⟨d, r⟩ <;> exact (if_neg h1).trans ((if_neg h2).trans (if_pos h3))
    rw [this, takeC_2 m2 (i3.mpr h3), a3]
  have k3 : ¬ ok3 (a :: b :: c :: t) := fun h => h3 (i3.mp h)
  have m3 := nots_next3 m2 k3
  rcases t with _ | ⟨d, t⟩
  · rw [takeC_4 ⟨fun _ => k1, fun _ => k2, fun _ => k3, fun _ => n4_ (by simp)⟩]
    exact ((if_neg h1).trans ((if_neg h2).trans (if_neg h3))).symm
  have hd := hl d (by simp)
  obtain ⟨i4, a4⟩ := ok4_of a b c d t ha hb hc hd
  by_cases h4 : g4 a b c d
  · have : takeS (a :: b :: c :: d :: t) = (n4 a b c d, 4) := (if_neg h1).trans ((if_neg h2).trans ((if_neg h3).trans (if_pos h4)))
    rw [this, takeC_3 m3 (i4.mpr h4), a4]
  · rw [takeC_4 (nots_next4 m3 (fun h => h4 (i4.mp h)))]
    exact ((if_neg h1).trans ((if_neg h2).trans ((if_neg h3).trans (if_neg h4)))).symm
end Go.Proofs.Ytgbjfjdmhieejaa.Pure
