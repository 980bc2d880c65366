import Derived.Test.YtehnppklfaoikaaHQu4
/- QueueNobody. -/
namespace Go.Proofs.Ytehnppklfaoikaa.L
open Go Go.RowKit Go.Proofs.Ytehnppklfaoikaa.H Go.Proofs.YtehnppklfaoikaaW.PrintWords Go.Proofs.YtehnppklfaoikaaW.PrintLast Go.Proofs.YtehnppklfaoikaaW.PrintMore
set_option linter.unusedVariables false
set_option linter.unusedSimpArgs false
set_option maxHeartbeats 4000000
set_option maxRecDepth 100000

theorem Nobody_long (A0 : Option Addr) (n c0 : Nat) (a1 : Int) (w : World) (hn : 200 < n) :
    Calls Try.prog 7 #[.slice A0 n c0, .int .i64 a1] w fun e w' => e = .returned (.bool true) ∧ Below w.heap.size w w' := by
  have e1 : decide ((200 : Int) < n) = true := decide_eq_true (by omega)
  clear hn
  go_enter Try.func7, Try.ntmps7
  go_wp2_with (first | (go_at_call 9; refine (awake_calls w).mono ?_; rintro e W1 ⟨rfl, hb⟩; have HB1 := Aside0.mk hb; clear hb))
  go_ret
  exact ⟨rfl, HB1.out⟩
theorem Nobody_some (A0 : Option Addr) (n c0 : Nat) (a1 : Int) (w : World) (h1 : 0 < n) (h2 : n ≤ 200) :
    Calls Try.prog 7 #[.slice A0 n c0, .int .i64 a1] w fun e w' => e = .returned (.bool true) ∧ Below w.heap.size w w' := by
  have e1 : decide ((200 : Int) < n) = false := decide_eq_false (by omega)
  have e2 : decide ((0 : Int) < n) = true := decide_eq_true (by omega)
  have e3 : ((n : Int) == 0) = false := beq_eq_false_iff_ne.2 (by omega)
  have H1 := Aside0.mk h1
  have H2 := Aside0.mk h2
  clear h1 h2
  go_enter Try.func7, Try.ntmps7
  go_wp2_with (first | (go_at_call 9; refine (awake_calls w).mono ?_; rintro e W1 ⟨rfl, hb⟩; have HB1 := Aside0.mk hb; clear hb) | (go_at_call 13; have hz_ := HB1; clear hz_; refine (Push_none A0 _ c0 W1).mono ?_; rintro e W2 ⟨rfl, hb⟩; have HB2 := Aside0.mk (below_step HB1.out hb); clear hb HB1) | (go_at_call 15; have hz_ := HB2; clear hz_; refine (Drain_none a1 W2).mono ?_; rintro e W3 ⟨rfl, hb⟩; have HB3 := Aside0.mk (below_step HB2.out hb); clear hb HB2) | (go_at_call 11; refine (New_some 64 W3 (fun _ => False) (by decide)).mono ?_; rintro e W4 ⟨q, rfl, hq, hb⟩; have HQ4 := Aside0.mk (hq.lower (below_size HB3.out)); have HB4 := Aside0.mk (below_step HB3.out hb); have HL4 := Aside0.mk hq.lt; have HQ0 := Aside0.mk (HQ4.out.1); clear hq hb HB3) | ((with_reducible refine gate_ (.makeSlice 28 (.const (.int .i64 64)) (.const (.int .i64 64))) rfl ?_); refine Kd.R_make (Kd.int .u8) (w0 := w) w.heap.size 5 rfl (N := 26) rfl 28 (.const (.int .i64 64)) (.const (.int .i64 64)) rfl 64 rfl rfl Try.underlying28 (.int .u8 0) 1 infoU8 rfl (by decide) (by decide) 0 (ok := fun k => W4.heap.size ≤ k) (okp := fun _ => False) rfl (fun _ h => h.elim) (Nat.le_refl _) (by decide) (by decide) HB4.out (below_size HB4.out) ?_; intro v1 W5 ho hb hg hat; have HQ5 := Aside0.mk (Qu.kept HQ4.out (Kept.of_grown hg (Kept.refl W4 (fun _ => False)) (fun k h => by cases h)) (fun h => h) (fun _ _ h => h)); have HB5 := Aside0.mk hb; obtain ⟨A3, c3, e3⟩ := Kd.R_slice ho; subst e3; have HO := Aside0.mk (show Kd.R (Kd.int .u8) 5 W5 w.heap.size (fun k => W4.heap.size ≤ k) (.slice A3 64 c3) (List.replicate 64 0) from ho); clear ho hb hg hat HB4 HQ4) | (go_at_call 13; refine (Push_ok w W5 q (fun _ => False) ⟨[], 64, 0⟩ A3 (List.replicate 64 0) c3 HB5.out HQ5.out (read_new HO.out (fun k h1 h2 => by rcases h2 with h2 | h2; exact h2; have := HL4.out; omega)) (Kd.R_reads' HO.out).2.1 (by decide) (by decide)).mono ?_; rintro e W6 ⟨rfl, hq, hb, hk⟩; have HQ6 := Aside0.mk hq.bound; have HB6 := Aside0.mk hb; clear hq hb hk HQ5 HB5 HO HL4) | (go_at_call 13; refine (Push_ok w W6 q _ ⟨[] ++ List.replicate 64 0, 64, 0⟩ none [] 0 HB6.out HQ6.out read_nil (Nat.le_refl _) (by decide) (by decide)).mono ?_; rintro e W7 ⟨rfl, hq, hb, hk⟩; have HQ7 := Aside0.mk hq.bound; have HB7 := Aside0.mk hb; clear hq hb hk HQ6 HB6) | (go_at_call 13; refine (Push_big w W7 q _ ⟨([] ++ List.replicate 64 0) ++ [], 64, 0⟩ A0 n c0 HB7.out HQ7.out (by have := H1.out; show (64 : Int) < 64 + n; omega) (by have := H2.out; show 64 + n < 4294967296; omega)).mono ?_; rintro e W8 ⟨rfl, hq, hb, hk⟩; have HQ8 := Aside0.mk (hq.bound.dr_ 1 (by simp [wrap64])); have HB8 := Aside0.mk hb; clear hq hb hk HQ7 HB7) | (go_at_call 17; have hz_ := HB8; clear hz_; refine (Len_none W8).mono ?_; rintro e W9 ⟨rfl, hb⟩; have HQ9 := Aside0.mk (HQ8.out.below hb); have HB9 := Aside0.mk (below_step HB8.out hb); clear hb HQ8 HB8) | (go_at_call 18; have hz_ := HB9; clear hz_; refine (Dropped_none W9).mono ?_; rintro e W10 ⟨rfl, hb⟩; have HQ10 := Aside0.mk (HQ9.out.below hb); have HB10 := Aside0.mk (below_step HB9.out hb); clear hb HQ9 HB9) | (go_at_call 18; refine (Dropped_calls W10 _ q _ _ HQ10.out (by decide)).mono ?_; rintro e W11 ⟨rfl, hb⟩; have HQ11 := Aside0.mk (HQ10.out.below hb); have HB11 := Aside0.mk (below_step HB10.out hb); clear hb HQ10 HB10) | (go_at_call 15; refine (Drain_calls w W11 q _ _ 0 HB11.out HQ11.out (by decide)).mono ?_; rintro e W12 ⟨v, rfl, ho, hq, hb, hk⟩; obtain ⟨A9, c9, e9⟩ := Kd.R_slice ho; subst e9; have HB12 := Aside0.mk hb; clear ho hq hb hk))
  all_goals first | exact absurd H1.out ‹¬ 0 < n› | (go_ret; exact ⟨rfl, HB12.out⟩)
theorem Nobody_nil (A0 : Option Addr) (c0 : Nat) (a1 : Int) (w : World) (hr : Kd.C (Kd.int .u8) w A0 ([] : List Int).length []) :
    Calls Try.prog 7 #[.slice A0 0 c0, .int .i64 a1] w fun e w' => e = .returned (.bool true) ∧ Below w.heap.size w w' := by
  have HR := Aside0.mk hr
  clear hr
  go_enter Try.func7, Try.ntmps7
  go_wp2_with (first | (go_at_call 9; refine (awake_calls w).mono ?_; rintro e W1 ⟨rfl, hb⟩; have HB1 := Aside0.mk hb; clear hb) | (go_at_call 13; have hz_ := HB1; clear hz_; refine (Push_none A0 _ c0 W1).mono ?_; rintro e W2 ⟨rfl, hb⟩; have HB2 := Aside0.mk (below_step HB1.out hb); clear hb HB1) | (go_at_call 15; have hz_ := HB2; clear hz_; refine (Drain_none a1 W2).mono ?_; rintro e W3 ⟨rfl, hb⟩; have HB3 := Aside0.mk (below_step HB2.out hb); clear hb HB2) | (go_at_call 11; refine (New_some 64 W3 (fun _ => False) (by decide)).mono ?_; rintro e W4 ⟨q, rfl, hq, hb⟩; have HQ4 := Aside0.mk (hq.lower (below_size HB3.out)); have HB4 := Aside0.mk (below_step HB3.out hb); have HL4 := Aside0.mk hq.lt; have HQ0 := Aside0.mk (HQ4.out.1); clear hq hb HB3) | ((with_reducible refine gate_ (.makeSlice 28 (.const (.int .i64 64)) (.const (.int .i64 64))) rfl ?_); refine Kd.R_make (Kd.int .u8) (w0 := w) w.heap.size 5 rfl (N := 26) rfl 28 (.const (.int .i64 64)) (.const (.int .i64 64)) rfl 64 rfl rfl Try.underlying28 (.int .u8 0) 1 infoU8 rfl (by decide) (by decide) 0 (ok := fun k => W4.heap.size ≤ k) (okp := fun _ => False) rfl (fun _ h => h.elim) (Nat.le_refl _) (by decide) (by decide) HB4.out (below_size HB4.out) ?_; intro v1 W5 ho hb hg hat; have HQ5 := Aside0.mk (Qu.kept HQ4.out (Kept.of_grown hg (Kept.refl W4 (fun _ => False)) (fun k h => by cases h)) (fun h => h) (fun _ _ h => h)); have HB5 := Aside0.mk hb; obtain ⟨A3, c3, e3⟩ := Kd.R_slice ho; subst e3; have HO := Aside0.mk (show Kd.R (Kd.int .u8) 5 W5 w.heap.size (fun k => W4.heap.size ≤ k) (.slice A3 64 c3) (List.replicate 64 0) from ho); clear ho hb hg hat HB4 HQ4) | (go_at_call 13; refine (Push_ok w W5 q (fun _ => False) ⟨[], 64, 0⟩ A3 (List.replicate 64 0) c3 HB5.out HQ5.out (read_new HO.out (fun k h1 h2 => by rcases h2 with h2 | h2; exact h2; have := HL4.out; omega)) (Kd.R_reads' HO.out).2.1 (by decide) (by decide)).mono ?_; rintro e W6 ⟨rfl, hq, hb, hk⟩; have HQ6 := Aside0.mk hq.bound; have HB6 := Aside0.mk hb; clear hq hb hk HQ5 HB5 HO HL4) | (go_at_call 13; refine (Push_ok w W6 q _ ⟨[] ++ List.replicate 64 0, 64, 0⟩ none [] 0 HB6.out HQ6.out read_nil (Nat.le_refl _) (by decide) (by decide)).mono ?_; rintro e W7 ⟨rfl, hq, hb, hk⟩; have HQ7 := Aside0.mk hq.bound; have HB7 := Aside0.mk hb; clear hq hb hk HQ6 HB6) | (go_at_call 13; refine (Push_ok w W7 q _ ⟨([] ++ List.replicate 64 0) ++ [], 64, 0⟩ A0 [] c0 HB7.out HQ7.out (read_old HR.out HB7.out HQ0.out (fun k hk => hk.2.1)) (Nat.zero_le _) (by decide) (by decide)).mono ?_; rintro e W8 ⟨rfl, hq, hb, hk⟩; have HQ8 := Aside0.mk (hq.bound.dr_ 0 rfl); have HB8 := Aside0.mk hb; clear hq hb hk HQ7 HB7) | (go_at_call 17; have hz_ := HB8; clear hz_; refine (Len_none W8).mono ?_; rintro e W9 ⟨rfl, hb⟩; have HQ9 := Aside0.mk (HQ8.out.below hb); have HB9 := Aside0.mk (below_step HB8.out hb); clear hb HQ8 HB8) | (go_at_call 18; have hz_ := HB9; clear hz_; refine (Dropped_none W9).mono ?_; rintro e W10 ⟨rfl, hb⟩; have HQ10 := Aside0.mk (HQ9.out.below hb); have HB10 := Aside0.mk (below_step HB9.out hb); clear hb HQ9 HB9) | (go_at_call 18; refine (Dropped_calls W10 _ q _ _ HQ10.out (by decide)).mono ?_; rintro e W11 ⟨rfl, hb⟩; have HQ11 := Aside0.mk (HQ10.out.below hb); have HB11 := Aside0.mk (below_step HB10.out hb); clear hb HQ10 HB10) | (go_at_call 15; refine (Drain_calls w W11 q _ _ 0 HB11.out HQ11.out (by decide)).mono ?_; rintro e W12 ⟨v, rfl, ho, hq, hb, hk⟩; obtain ⟨A9, c9, e9⟩ := Kd.R_slice ho; subst e9; have HB12 := Aside0.mk hb; clear ho hq hb hk))
  go_ret
  exact ⟨rfl, HB12.out⟩

/-- The law answers true. -/
def clavierlaw04_QueueNobody.f (l0 : List Int) (a1 : Int) : Option Bool := some true
theorem clavierlaw04_QueueNobody.calls (A0 : Option Addr) (c0 : Nat) (l0 : List Int) (a1 : Int) (r : Bool) (w : World) (hr0 : Kd.C (Kd.int .u8) w A0 l0.length l0) (hc0 : l0.length ≤ c0) (h : clavierlaw04_QueueNobody.f l0 a1 = some r) :
    Calls Try.prog 7 #[.slice A0 l0.length c0, .int .i64 a1] w fun e w' => e = .returned (.bool r) ∧ Below w.heap.size w w' := by
  obtain rfl : true = r := Option.some.inj h
  by_cases h1 : 200 < l0.length
  · exact Nobody_long A0 l0.length c0 a1 w h1
  · by_cases h2 : 0 < l0.length
    · exact Nobody_some A0 l0.length c0 a1 w h2 (by omega)
    · obtain rfl : l0 = [] := List.eq_nil_of_length_eq_zero (by omega)
      exact Nobody_nil A0 c0 a1 w hr0

end Go.Proofs.Ytehnppklfaoikaa.L
