import Derived.Test.YtlnnjdjdpfifiaaR2
import Derived.Test.YtlnnjdjdpfifiaaR5
/- The functions of the stack, in plain words. -/
namespace Go.Proofs.Ytlnnjdjdpfifiaa.Pure
open Go.RowKit Go.Proofs.YtlnnjdjdpfifiaaW.PrintWords Go.Proofs.YtlnnjdjdpfifiaaW.PrintMore Go.Proofs.Ytlnnjdjdpfifiaa.R Go.Proofs.Ytlnnjdjdpfifiaa.H

theorem w64 {n : Int} (h0 : -9223372036854775808 ≤ n) (h1 : n ≤ 9223372036854775807) : wrap64 n = n := by unfold wrap64; omega
theorem wf64 {n : Int} (h : (Lit.int .i64 n).wf = true) : -9223372036854775808 ≤ n ∧ n ≤ 9223372036854775807 := by
  simp only [Lit.wf, IntKind.min, IntKind.max, IntKind.signed, IntKind.bits, Bool.and_eq_true, decide_eq_true_eq, if_true] at h
  have : (2 : Int) ^ (64 - 1) = 9223372036854775808 := by decide
  omega
theorem wf8 {n : Int} (h : (Lit.int .u8 n).wf = true) : 0 ≤ n ∧ n ≤ 255 := by
  simp [Lit.wf, IntKind.min, IntKind.max, IntKind.signed, IntKind.bits] at h
  omega

/-- A number's flags. -/
def F (a : Int) : Int := (mx a 0) % 32
theorem F_range (a : Int) : 0 ≤ F a ∧ F a < 32 := by unfold F; omega
theorem F_F (a : Int) : F (F a) = F a := by
  have := F_range a
  show (mx (F a) 0) % 32 = F a
  unfold mx
  split <;> omega
theorem fl_F {a : Int} (h : a ≤ 9223372036854775807) : fl a = F a := by
  unfold fl F
  obtain ⟨n, hn⟩ : ∃ n : Nat, mx a 0 = (n : Int) := ⟨(mx a 0).toNat, by unfold mx; split <;> omega⟩
  have hb : n < 9223372036854775808 := by
    unfold mx at hn
    split at hn <;> omega
  rw [hn]
  have h1 : (BitVec.ofInt 64 (n : Int)).toNat = n := by
    rw [BitVec.ofInt_natCast, BitVec.toNat_ofNat]; exact Nat.mod_eq_of_lt (by omega)
  have h2 : (BitVec.ofInt 64 (31 : Int)).toNat = 31 := by decide
  show IntKind.i64.wrap ((BitVec.ofInt 64 (n : Int) &&& BitVec.ofInt 64 (31 : Int)).toNat : Int) = _
  rw [BitVec.toNat_and, h1, h2, show (31 : Nat) = 2 ^ 5 - 1 from rfl, Nat.and_two_pow_sub_one_eq_mod]
  have : n % 2 ^ 5 < 32 := Nat.mod_lt _ (by decide)
  have h3 : (n % 2 ^ 5 : Nat) = n % 32 := rfl
  rw [i64_w', h3]
  unfold wrap64
  omega
where i64_w' : ∀ n : Int, IntKind.i64.wrap n = wrap64 n := fun n => Go.Proofs.YtlnnjdjdpfifiaaW.PrintLast.i64_w n
theorem ref_Flags (a : Int) : clavierref08_Flags.f a = some (F a) := rfl

/-- The last eight. -/
def last8 (l : List Int) : List Int := l.drop (l.length - 8)
theorem last8_len (l : List Int) : (last8 l).length ≤ 8 := by unfold last8; rw [List.length_drop]; omega
theorem last8_few {l : List Int} (h : l.length ≤ 8) : last8 l = l := by unfold last8; rw [show l.length - 8 = 0 by omega]; rfl
theorem push_eq (n : Int) (l : List Int) (a : Int) (hl : l.length < 1000) (ha : a ≤ 9223372036854775807) : stack_Push.f n l a = some (F a, last8 (l ++ [n])) := by
  unfold stack_Push.f
  rw [show slices_Clone_int_int.f l = some l from if_pos (by omega), Option.bind_some]
  simp only [Option.bind_some]
  rw [if_pos (by simp only [List.length_cons, List.length_nil]; omega)]
  rw [show stack_flagsOf.f a = some (fl a) from rfl, Option.bind_some, fl_F ha]
  have hy : (l ++ [n]).length = l.length + 1 := by simp
  rw [w64 (by omega) (by omega)]
  have hm : 0 ≤ mx (((l ++ [n]).length : Int) - 8) 0 ∧ mx (((l ++ [n]).length : Int) - 8) 0 ≤ ((l ++ [n]).length : Int) ∧ (mx (((l ++ [n]).length : Int) - 8) 0).toNat = (l ++ [n]).length - 8 := by
    unfold mx
    split <;> omega
  rw [if_pos hm.1, if_pos hm.2.1, hm.2.2]
  rfl
theorem pop_eq (n : Int) (l : List Int) (a : Int) (hl : l.length < 1000) : stack_Pop.f n l a = some (popNow n l a, popKept l a) := if_pos (by omega)
theorem put_eq (n : Int) (l : List Int) (a h : Int) (hl : l.length < 1000) : stack_Put.f n l a h = some (putNow n a h, l) := if_pos (by omega)

theorem awake : clavierlaw08_awake.f = some true := by
  have e1 : stack_Push.f 0 [] 1 = some (1, [0]) := by rw [push_eq _ _ _ (by decide) (by decide)]; decide
  have e2 : stack_Push.f 1 [0] 5 = some (5, [0, 1]) := by rw [push_eq _ _ _ (by decide) (by decide)]; decide
  have e3 : stack_Pop.f 5 [0, 1] 1 = some (1, [0]) := by decide
  have e4 : stack_Pop.f 5 [0, 1] 2 = some (0, []) := by decide
  have e5 : stack_Put.f 5 [0, 1] 3 2 = some (7, [0, 1]) := by decide
  have e6 : stack_Put.f 5 [0, 1] 1 3 = some (4, [0, 1]) := by decide
  have e7 : stack_Put.f 5 [0, 1] 9 1 = some (9, [0, 1]) := by decide
  unfold clavierlaw08_awake.f
  rw [e1, Option.bind_some]
  show (stack_Push.f 1 [0] 5).bind _ = _
  rw [e2, Option.bind_some]
  show (stack_Pop.f 5 [0, 1] 1).bind _ = _
  rw [e3, Option.bind_some, if_pos rfl, if_pos (by decide), if_pos rfl]
  show (stack_Pop.f 5 [0, 1] 2).bind _ = _
  rw [e4, Option.bind_some, if_pos rfl]
  show (stack_Put.f 5 [0, 1] 3 2).bind _ = _
  rw [e5, Option.bind_some, if_pos rfl]
  show (stack_Put.f 5 [0, 1] 1 3).bind _ = _
  rw [e6, Option.bind_some, if_pos rfl]
  show (stack_Put.f 5 [0, 1] 9 1).bind _ = _
  rw [e7, Option.bind_some]
  rfl

theorem rd_nat (l : List Int) (i : Nat) (h : i < l.length) : rd l (i : Int) = l[i] := by
  show l.getD ((i : Int)).toNat 0 = _
  rw [Int.toNat_natCast, List.getD_eq_getElem?_getD, List.getElem?_eq_getElem h]; rfl

theorem flags_loop (n : Int) (l : List Int) (x : Int) : ∀ (m i : Nat) (k : Nat) (acc : List Int), i + m = min l.length 8 → acc.length = i → acc = (l.take i).map F →
    clavierlaw08_flags.l0 (k + m + 1) i n l x acc = some (x, (l.take 8).map F) := by
  intro m
  induction m with
  | zero =>
    intro i k acc hi hl ha
    rw [clavierlaw08_flags.l0]
    have hfin : acc = (l.take 8).map F := by
      rw [ha]
      by_cases h : l.length ≤ 8
      · rw [List.take_of_length_le (by omega), List.take_of_length_le h]
      · rw [show i = 8 by omega]
    by_cases h1 : (i : Int) < (l.length : Int)
    · rw [if_pos h1, if_neg (by omega), hfin]
    · rw [if_neg h1, hfin]
  | succ m ih =>
    intro i k acc hi hl ha
    rw [show k + (m + 1) + 1 = (k + m + 1) + 1 by omega, clavierlaw08_flags.l0]
    have hil : i < l.length := by omega
    rw [if_pos (by omega), if_pos (by omega), if_pos (by omega), ref_Flags, Option.bind_some, if_pos (by omega), w64 (by omega) (by omega)]
    have := ih (i + 1) k (acc ++ [F (rd l i)]) (by omega) (by rw [List.length_append, hl]; rfl) (by
      rw [ha, rd_nat l i hil, List.take_add_one, List.getElem?_eq_getElem hil, Option.toList_some, List.map_append, List.map_cons, List.map_nil])
    rw [← this]
    norm_cast
theorem flags_eq (k : Nat) (n : Int) (l : List Int) : clavierlaw08_flags.f (k + 9) n l = some (F n, (l.take 8).map F) := by
  unfold clavierlaw08_flags.f
  rw [ref_Flags, Option.bind_some]
  have := flags_loop n l (F n) (min l.length 8) 0 (k + 8 - min l.length 8) [] (by omega) rfl (by simp)
  rw [show k + 8 - min l.length 8 + min l.length 8 + 1 = k + 9 by omega] at this
  exact this

theorem ints_loop (l m : List Int) (hlm : l.length = m.length) (hb : l.length < 1000) : ∀ (r i k : Nat), i + r = l.length →
    clavierref02_Ints.l0 (k + r + 1) l m i = some (decide (l.drop i = m.drop i)) := by
  intro r
  induction r with
  | zero =>
    intro i k hi
    rw [clavierref02_Ints.l0, if_neg (by omega), List.drop_of_length_le (by omega), List.drop_of_length_le (by omega)]
    simp
  | succ r ih =>
    intro i k hi
    rw [show k + (r + 1) + 1 = (k + r + 1) + 1 by omega, clavierref02_Ints.l0, if_pos (by omega), if_pos (by omega), if_pos (by omega)]
    have h1 : i < l.length := by omega
    have h2 : i < m.length := by omega
    rw [rd_nat l i h1, rd_nat m i h2, List.drop_eq_getElem_cons h1, List.drop_eq_getElem_cons h2]
    by_cases h : l[i] = m[i]
    · rw [if_pos h, w64 (by omega) (by omega)]
      have := ih (i + 1) k (by omega)
      rw [show ((i : Int) + 1) = ((i + 1 : Nat) : Int) by omega, this, h]
      exact congrArg some (decide_eq_decide.mpr ⟨fun e => by rw [e], fun e => (List.cons.inj e).2⟩)
    · rw [if_neg h]
      exact congrArg some (decide_eq_false (fun e => h (List.cons.inj e).1)).symm
theorem ints_eq (k : Nat) (l m : List Int) (hl : l.length < 1000) (hk : l.length + 1 ≤ k) : clavierref02_Ints.f k l m = some (decide (l = m)) := by
  unfold clavierref02_Ints.f
  by_cases h : l.length = m.length
  · rw [if_pos (by omega)]
    have := ints_loop l m h hl l.length 0 (k - l.length - 1) (by omega)
    rw [show k - l.length - 1 + l.length + 1 = k by omega] at this
    exact this
  · rw [if_neg (by omega)]
    have : ¬ l = m := fun e => h (by rw [e])
    simp [this]
theorem equal_loop (l m : List Int) (hlm : l.length = m.length) (hb : l.length < 1000) : ∀ (r i k : Nat), i + r = l.length →
    slices_Equal_int_int.l0 (k + r + 1) l m (l.length : Int) i = some (decide (l.drop i = m.drop i)) := by
  intro r
  induction r with
  | zero =>
    intro i k hi
    rw [slices_Equal_int_int.l0, if_neg (by omega), List.drop_of_length_le (by omega), List.drop_of_length_le (by omega)]
    simp
  | succ r ih =>
    intro i k hi
    rw [show k + (r + 1) + 1 = (k + r + 1) + 1 by omega, slices_Equal_int_int.l0, if_pos (by omega), if_pos (by omega), if_pos (by omega), if_pos (by omega)]
    have h1 : i < l.length := by omega
    have h2 : i < m.length := by omega
    rw [rd_nat l i h1, rd_nat m i h2, List.drop_eq_getElem_cons h1, List.drop_eq_getElem_cons h2]
    by_cases h : l[i] = m[i]
    · rw [if_pos h, w64 (by omega) (by omega)]
      have := ih (i + 1) k (by omega)
      rw [show ((i : Int) + 1) = ((i + 1 : Nat) : Int) by omega, this, h]
      exact congrArg some (decide_eq_decide.mpr ⟨fun e => by rw [e], fun e => (List.cons.inj e).2⟩)
    · rw [if_neg h]
      exact congrArg some (decide_eq_false (fun e => h (List.cons.inj e).1)).symm
theorem equal_eq (k : Nat) (l m : List Int) (hl : l.length < 1000) (hk : l.length + 1 ≤ k) : slices_Equal_int_int.f k l m = some (decide (l = m)) := by
  unfold slices_Equal_int_int.f
  by_cases h : l.length = m.length
  · rw [if_pos (by omega)]
    have := equal_loop l m h hl l.length 0 (k - l.length - 1) (by omega)
    rw [show k - l.length - 1 + l.length + 1 = k by omega] at this
    exact this
  · rw [if_neg (by omega)]
    have : ¬ l = m := fun e => h (by rw [e])
    simp [this]
theorem refSame_eq (k : Nat) (x : Int) (l : List Int) (y : Int) (m : List Int) (hl : l.length < 1000) (hk : l.length + 1 ≤ k) : clavierref08_Same.f k x l y m = some (decide (x = y ∧ l = m)) := by
  unfold clavierref08_Same.f
  by_cases h : x = y
  · rw [if_pos h, ints_eq k l m hl hk]
    simp [h]
  · rw [if_neg h]
    simp [h]
theorem same_eq (k : Nat) (x : Int) (l : List Int) (y : Int) (m : List Int) (hl : l.length < 1000) (hk : l.length + 1 ≤ k) : clavierlaw08_same.f k x l y m = some (decide (x = y ∧ l = m)) := by
  unfold clavierlaw08_same.f
  rw [refSame_eq k x l y m hl hk]
  rfl
theorem stackSame_eq (k : Nat) (x : Int) (l : List Int) (y : Int) (m : List Int) (hl : l.length < 1000) (hk : l.length + 1 ≤ k) : stack_Same.f k x l y m = some (decide (x = y ∧ l = m)) := by
  unfold stack_Same.f
  by_cases h : x = y
  · rw [if_pos h, equal_eq k l m hl hk]
    simp [h]
  · rw [if_neg h]
    simp [h]
theorem popKept_len (l : List Int) (a : Int) : (popKept l a).length ≤ l.length := by
  unfold popKept
  repeat' split
  · exact Nat.le_refl _
  · rw [List.length_take]; omega
  · simp
theorem left_take (n n' : Int) (l : List Int) (i j : Nat) (hj : j < i) (hi : i ≤ l.length) : left n (l.take i) j = left n' l j := by
  unfold left
  rw [List.length_take, if_pos (by omega), if_pos (by omega), List.getD_eq_getElem?_getD, List.getD_eq_getElem?_getD, List.getElem?_take_of_lt hj]
theorem pn0 {n : Int} {l : List Int} {a : Int} (h : a ≤ 0) : popNow n l a = n := if_pos h
theorem pk0 {l : List Int} {a : Int} (h : a ≤ 0) : popKept l a = l := if_pos h
theorem pn1 {n : Int} {l : List Int} {a : Int} (h : ¬ a ≤ 0) (h1 : a ≤ l.length) : popNow n l a = left n l (l.length - a.toNat) := (if_neg h).trans (if_pos h1)
theorem pk1 {l : List Int} {a : Int} (h : ¬ a ≤ 0) (h1 : a ≤ l.length) : popKept l a = l.take (l.length - a.toNat) := (if_neg h).trans (if_pos h1)
theorem pn2 {n : Int} {l : List Int} {a : Int} (h : ¬ a ≤ 0) (h1 : ¬ a ≤ l.length) : popNow n l a = 0 := (if_neg h).trans (if_neg h1)
theorem pk2 {l : List Int} {a : Int} (h : ¬ a ≤ 0) (h1 : ¬ a ≤ l.length) : popKept l a = [] := (if_neg h).trans (if_neg h1)
theorem pop_pop (n : Int) (l : List Int) (a b : Int) (ha : 0 ≤ a) (hb : 0 ≤ b) : popNow (popNow n l a) (popKept l a) b = popNow n l (a + b) ∧ popKept (popKept l a) b = popKept l (a + b) := by
  by_cases h0 : a = 0
  · subst h0
    rw [pn0 (Int.le_refl 0), pk0 (Int.le_refl 0), Int.zero_add]
    exact ⟨rfl, rfl⟩
  by_cases h2 : b = 0
  · subst h2
    rw [Int.add_zero]
    exact ⟨pn0 (Int.le_refl 0), pk0 (Int.le_refl 0)⟩
  by_cases h1 : a ≤ l.length
  · have hl : (l.take (l.length - a.toNat)).length = l.length - a.toNat := by rw [List.length_take]; omega
    rw [pn1 (by omega) h1, pk1 (by omega) h1]
    by_cases h3 : a + b ≤ l.length
    · rw [pn1 (by omega) (by omega), pk1 (by omega) (by omega), pn1 (by omega) h3, pk1 (by omega) h3, hl]
      constructor
      · rw [show l.length - (a + b).toNat = l.length - a.toNat - b.toNat by omega]
        exact left_take _ _ _ _ _ (by omega) (by omega)
      · rw [List.take_take]
        congr 1
        omega
    · rw [pn2 (by omega) (by omega), pk2 (by omega) (by omega), pn2 (by omega) h3, pk2 (by omega) h3]
      exact ⟨rfl, rfl⟩
  · rw [pn2 (by omega) h1, pk2 (by omega) h1, pn2 (by omega) (by simp; omega), pk2 (by omega) (by simp; omega), pn2 (by omega) (by omega), pk2 (by omega) (by omega)]
    exact ⟨rfl, rfl⟩
end Go.Proofs.Ytlnnjdjdpfifiaa.Pure
