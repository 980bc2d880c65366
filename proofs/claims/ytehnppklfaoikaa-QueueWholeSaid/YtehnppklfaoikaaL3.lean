import Derived.Test.YtehnppklfaoikaaHQu5
/- QueueWhole. -/
namespace Go.Proofs.Ytehnppklfaoikaa.L
open Go Go.RowKit Go.Proofs.Ytehnppklfaoikaa.H Go.Proofs.Ytehnppklfaoikaa.F Go.Proofs.YtehnppklfaoikaaW.PrintWords Go.Proofs.YtehnppklfaoikaaW.PrintLast Go.Proofs.YtehnppklfaoikaaW.PrintMore
set_option linter.unusedVariables false
set_option linter.unusedSimpArgs false
set_option maxHeartbeats 4000000
set_option maxRecDepth 100000

theorem all_taken {bs tl dl : List Int} {n : Int} (h1 : bs = tl ++ dl) (h2 : tl.length = (min (max n 0) (bs.length : Int)).toNat) (h : (bs.length : Int) ≤ n) : bs = tl ∧ dl = [] := by
  have h3 := congrArg List.length h1
  rw [List.length_append] at h3
  have h4 : dl = [] := List.eq_nil_of_length_eq_zero (by omega)
  subst h4
  exact ⟨by rw [h1, List.append_nil], rfl⟩

theorem Whole_main (a0 : Int) (n : Int) (A1 : Option Addr) (c1 : Nat) (l : List (S32)) (k : Nat) (w : World) (hr0 : Kd.C k32 w A1 l.length l) (hc0 : l.length ≤ c1) (hn : 64 ≤ n ∧ n ≤ 563) (ha : wrap64 (64 + wrap64 (a0.tmod 500)) = n)
    (hf : clavierref04_Few.f k l = some true) (hl : l.length ≤ 30) (hi : ∀ t : Nat, t < l.length → ((rd_T32 l (t : Int)).f0).length ≤ 200) :
    Calls Try.prog 4 #[.int .u16 a0, .slice A1 l.length c1] w fun e w' => e = .returned (.bool true) ∧ Below w.heap.size w w' := by
  have HR0 := Aside0.mk hr0
  have HC0 := Aside0.mk hc0
  have HF := Aside0.mk hf
  have HLL := Aside0.mk hl
  have HI0 := Aside0.mk hi
  have HN0 := Aside0.mk (show 64 ≤ n ∧ n ≤ 65536 by omega)
  clear hr0 hc0 hf hl hi hn
  go_enter Try.func4, Try.ntmps4
  go_wp2_with (first | (go_at_call 9; refine (awake_calls w).mono ?_; rintro e W1 ⟨rfl, hb⟩; have HB1 := Aside0.mk hb; clear hb) | (go_at_call 10; have hz_ := HB1; clear hz_; refine (clavierref04_Few.calls k A1 c1 l true W1 (Kd.C_below HR0.out HB1.out) HC0.out HF.out).mono ?_; rintro e W2 ⟨rfl, hd⟩; have HB2 := Aside0.mk (below_drawn HB1.out hd); clear hd HB1) | (go_at_call 11; have hz_ := HB2; clear hz_; refine (New_some n W2 (fun k => False) HN0.out).mono ?_; rintro e W4 ⟨q, rfl, hq, hb⟩; have HQ4 := Aside0.mk (St.start (hq.lower (below_size HB2.out))); have HB4 := Aside0.mk (below_step HB2.out hb); clear hq hb HB2))
  clear ha
  go_loopg [8, 9, 10] (l.length + 1) (fun kq v8 v9 v10 W => ∃ (x10 : Int) (bs inl outl : List Int) (dr : Int), v10 = .int .i64 x10 ∧ Aside0 (0 ≤ x10 ∧ x10 ≤ l.length ∧ l.length - x10 < kq) ∧ Aside0 (St W w.heap.size q ⟨bs, n, dr⟩ v8 inl v9 outl) ∧ Aside0 (Below w.heap.size w W) ∧ Aside0 (inl = outl ++ bs ∧ (inl.length : Int) ≤ 200 * x10 ∧ (bs.length : Int) ≤ n ∧ 0 ≤ dr ∧ dr ≤ x10 ∧ x10 ≤ 30))
  case atStart => exact ⟨0, [], [], [], 0, rfl, ⟨by omega⟩, HQ4, HB4, ⟨rfl, by simp, by have := HN0.out; simp; omega, by omega, by omega, by omega⟩⟩
  case round =>
    obtain ⟨x8, bs, inl, outl, dr, rfl, HN, HSr, HBr, HX⟩ := hrel
    cases gk with
    | zero => exact absurd HN.out (by omega)
    | succ k1 =>
      by_cases hx : x8 < (l.length : Int)
      · have c1b : decide (x8 < (l.length : Int)) = true := decide_eq_true hx
        have HX8 := Aside0.mk hx
        obtain ⟨ad, Ai, ci, eA, hx0, hx1, hci, hri⟩ := at_T32 HR0.out x8 HN.out.1 hx
        cases eA
        have hlt := lt_of_cell hx0
        obtain ⟨it, hit⟩ : ∃ it, (rd_T32 l x8).f0 = it := ⟨_, rfl⟩
        obtain ⟨ni, hni⟩ : ∃ ni, (rd_T32 l x8).f1 = ni := ⟨_, rfl⟩
        have HIT := Aside0.mk (show it.length ≤ 200 by
          have h_ := HI0.out x8.toNat (by have := HN.out; omega)
          rwa [Int.toNat_of_nonneg HN.out.1, hit] at h_)
        rw [hit] at hx0 hci hri
        rw [hni] at hx1
        have HCi := Aside0.mk hci
        have HI := Aside0.mk hri
        clear hit hni hci hri
        have p101 := eq_true HN.out.1
        have q101 := eq_true hx
        clear hx
        have hy0 := (HBr.out.cell hlt).trans hx0
        have hy1 := (HBr.out.cell (p := ⟨_, _, none⟩) hlt).trans hx1
        by_cases fit : (bs.length : Int) + it.length ≤ n
        · have HFT := Aside0.mk fit
          obtain ⟨b2, hb2⟩ : ∃ b2, bs ++ it = b2 := ⟨_, rfl⟩
          obtain ⟨i2, hi2⟩ : ∃ i2, inl ++ it = i2 := ⟨_, rfl⟩
          have HBL := Aside0.mk (show (b2.length : Int) ≤ n by rw [← hb2, List.length_append]; omega)
          have e5 : decide (n < (b2.length : Int)) = false := decide_eq_false (Int.not_lt.2 HBL.out)
          have HB2 := Aside0.mk hb2
          have HI2 := Aside0.mk hi2
          clear fit hb2 hi2
          go_wp2_with (first | (go_at_call 13; have hz_ := HBr; clear hz_; refine (Push_ok_St w wr q ⟨bs, n, dr⟩ u8 u9 inl outl Ai it ci HBr.out HSr.out HI.out HCi.out HFT.out (by have := HX.out; have := HIT.out; have := HN0.out; show bs.length + it.length < 4294967296; omega)).mono ?_; rintro e W5 ⟨rfl, hs, hb⟩; rw [HB2.out] at hs; have HS5 := Aside0.mk hs; have HB5 := Aside0.mk hb; clear hs hb HSr HBr; clear hy0 hy1; have hy0 := (HB5.out.cell hlt).trans hx0; have hy1 := (HB5.out.cell (p := ⟨_, _, none⟩) hlt).trans hx1) | ((with_reducible refine gate_builtin (b := .append) (xs := #[.tmp 35, .tmp 40]) rfl ?_); refine append_in rfl (.tmp 35) (.tmp 40) rfl q _ u8 u9 inl outl it Ai ci rfl rfl HS5.out (Kd.C_below HI.out HB5.out) HB5.out (by have := HX.out; have := HIT.out; omega) ?_; intro p8 W6 hs hb; rw [HI2.out] at hs; have HS6 := Aside0.mk hs; have HB6 := Aside0.mk hb; clear hs hb HS5 HB5; clear hy0 hy1; have hy0 := (HB6.out.cell hlt).trans hx0; have hy1 := (HB6.out.cell (p := ⟨_, _, none⟩) hlt).trans hx1) | (go_at_call 17; have hz_ := HB6; clear hz_; refine (Len_St W6 _ q _ _ _ _ _ HS6.out).mono ?_; rintro e W7 ⟨rfl, hb⟩; have HS7 := Aside0.mk (HS6.out.below hb); have HB7 := Aside0.mk (below_step HB6.out hb); clear hb HS6 HB6; clear hy0 hy1; have hy0 := (HB7.out.cell hlt).trans hx0; have hy1 := (HB7.out.cell (p := ⟨_, _, none⟩) hlt).trans hx1) | (go_at_call 15; have hz_ := HB7; clear hz_; refine (Drain_St w W7 q ⟨b2, n, dr⟩ p8 u9 i2 outl ni HB7.out HS7.out (by have := HX.out; have := HBL.out; have := HN0.out; show b2.length < 4294967296; omega)).mono ?_; rintro e W8 ⟨A9, tl, dl, c9, rfl, e1, e2, hc, hs, hb⟩; have HE1 := Aside0.mk (show b2 = tl ++ dl from e1); have HC8 := Aside0.mk hc; have HS8 := Aside0.mk hs; have HB8 := Aside0.mk hb; clear e1 e2 hc hs hb HS7 HB7; clear hy0 hy1; have hy0 := (HB8.out.cell hlt).trans hx0; have hy1 := (HB8.out.cell (p := ⟨_, _, none⟩) hlt).trans hx1) | ((with_reducible refine gate_builtin (b := .append) (xs := #[.tmp 46, .tmp 53]) rfl ?_); refine append_out rfl (.tmp 46) (.tmp 53) rfl q _ p8 u9 i2 outl tl A9 c9 rfl rfl HS8.out HC8.out HB8.out (by have := HX.out; have := HIT.out; have := HBL.out; have := HN0.out; have h_ := congrArg List.length HE1.out; rw [List.length_append] at h_; have h2_ := congrArg List.length HX.out.1; rw [List.length_append] at h2_; omega) ?_; intro p9 W9 hs hb; have HS9 := Aside0.mk hs; have HB9 := Aside0.mk hb; clear hs hb HS8 HB8; clear hy0 hy1))
          go_roundg k1
          case measure => omega
          case rel => exact ⟨x8 + 1, dl, i2, outl ++ tl, dr, by rw [IntWalk.wrap64_in _ (by have := HN.out; have := HX8.out; have := HLL.out; omega)], ⟨by have := HN.out; have := HX8.out; omega⟩, HS9, HB9, ⟨by rw [← HI2.out, HX.out.1, List.append_assoc, HB2.out, HE1.out, List.append_assoc], by have h_ := congrArg List.length HI2.out; rw [List.length_append] at h_; have := HX.out; have := HIT.out; omega, by have h_ := congrArg List.length HE1.out; rw [List.length_append] at h_; have := HBL.out; omega, by have := HX.out; omega, by have := HX.out; omega, by have := HX8.out; have := HLL.out; omega⟩⟩
        · have HFT := Aside0.mk (Int.not_le.1 fit)
          have HBL := Aside0.mk (show (bs.length : Int) ≤ n from HX.out.2.2.1)
          have e5 : decide (n < (bs.length : Int)) = false := decide_eq_false (Int.not_lt.2 HBL.out)
          clear fit
          go_wp2_with (first | (go_at_call 13; have hz_ := HBr; clear hz_; refine (Push_big_St w wr q ⟨bs, n, dr⟩ u8 u9 inl outl Ai it.length ci HBr.out HSr.out HFT.out (by have := HX.out; have := HIT.out; have := HN0.out; show bs.length + it.length < 4294967296; omega)).mono ?_; rintro e W6 ⟨rfl, hs, hb⟩; have HS6 := Aside0.mk hs; have HB6 := Aside0.mk hb; clear hs hb HSr HBr; clear hy0 hy1; have hy0 := (HB6.out.cell hlt).trans hx0; have hy1 := (HB6.out.cell (p := ⟨_, _, none⟩) hlt).trans hx1) | (go_at_call 17; have hz_ := HB6; clear hz_; refine (Len_St W6 _ q _ _ _ _ _ HS6.out).mono ?_; rintro e W7 ⟨rfl, hb⟩; have HS7 := Aside0.mk (HS6.out.below hb); have HB7 := Aside0.mk (below_step HB6.out hb); clear hb HS6 HB6; clear hy0 hy1; have hy0 := (HB7.out.cell hlt).trans hx0; have hy1 := (HB7.out.cell (p := ⟨_, _, none⟩) hlt).trans hx1) | (go_at_call 15; have hz_ := HB7; clear hz_; refine (Drain_St w W7 q ⟨bs, n, wrap64 (dr + 1)⟩ u8 u9 inl outl ni HB7.out HS7.out (by have := HX.out; have := HBL.out; have := HN0.out; show bs.length < 4294967296; omega)).mono ?_; rintro e W8 ⟨A9, tl, dl, c9, rfl, e1, e2, hc, hs, hb⟩; have HE1 := Aside0.mk (show bs = tl ++ dl from e1); have HC8 := Aside0.mk hc; have HS8 := Aside0.mk hs; have HB8 := Aside0.mk hb; clear e1 e2 hc hs hb HS7 HB7; clear hy0 hy1; have hy0 := (HB8.out.cell hlt).trans hx0; have hy1 := (HB8.out.cell (p := ⟨_, _, none⟩) hlt).trans hx1) | ((with_reducible refine gate_builtin (b := .append) (xs := #[.tmp 46, .tmp 53]) rfl ?_); refine append_out rfl (.tmp 46) (.tmp 53) rfl q _ u8 u9 inl outl tl A9 c9 rfl rfl HS8.out HC8.out HB8.out (by have := HX.out; have := HIT.out; have := HBL.out; have := HN0.out; have h_ := congrArg List.length HE1.out; rw [List.length_append] at h_; have h2_ := congrArg List.length HX.out.1; rw [List.length_append] at h2_; omega) ?_; intro p9 W9 hs hb; have HS9 := Aside0.mk hs; have HB9 := Aside0.mk hb; clear hs hb HS8 HB8; clear hy0 hy1))
          go_roundg k1
          case measure => omega
          case rel => exact ⟨x8 + 1, dl, inl, outl ++ tl, wrap64 (dr + 1), by rw [IntWalk.wrap64_in _ (by have := HN.out; have := HX8.out; have := HLL.out; omega)], ⟨by have := HN.out; have := HX8.out; omega⟩, HS9, HB9, ⟨by rw [List.append_assoc, ← HE1.out]; exact HX.out.1, by have := HX.out; omega, by have h_ := congrArg List.length HE1.out; rw [List.length_append] at h_; have := HBL.out; omega, by have := HX.out; rw [IntWalk.wrap64_in _ (by omega)]; omega, by have := HX.out; rw [IntWalk.wrap64_in _ (by omega)]; omega, by have := HX8.out; have := HLL.out; omega⟩⟩
      · have c1b : decide (x8 < (l.length : Int)) = false := decide_eq_false hx
        clear hx
        go_wp2_with (first | (go_at_call 15; have hz_ := HBr; clear hz_; refine (Drain_St w wr q ⟨bs, n, dr⟩ u8 u9 inl outl n HBr.out HSr.out (by have := HX.out; have := HN0.out; show bs.length < 4294967296; omega)).mono ?_; rintro e W8 ⟨A9, tl, dl, c9, rfl, e1, e2, hc, hs, hb⟩; obtain ⟨rfl, rfl⟩ := all_taken (show bs = tl ++ dl from e1) (show tl.length = (min (max n 0) (bs.length : Int)).toNat from e2) HX.out.2.2.1; have HC8 := Aside0.mk hc; have HS8 := Aside0.mk hs; have HB8 := Aside0.mk hb; clear e1 e2 hc hs hb HSr HBr) | ((with_reducible refine gate_builtin (b := .append) (xs := #[.tmp 55, .tmp 58]) rfl ?_); refine append_out rfl (.tmp 55) (.tmp 58) rfl q _ u8 u9 inl outl bs A9 c9 rfl rfl HS8.out HC8.out HB8.out (by have := HX.out; have := HLL.out; have h2_ := congrArg List.length HX.out.1; rw [List.length_append] at h2_; omega) ?_; intro p9 W9 hs hb; rw [← HX.out.1] at hs; obtain ⟨Ao, co, rfl, hco⟩ := hs.co; obtain ⟨Ai, ci, rfl, hci⟩ := hs.ci; have hcv1 := Kd.C_string (P := Try.prog) (c := co) Try.underlying28 Try.underlying5 Try.underlying9 hco; have hcv2 := Kd.C_string (P := Try.prog) (c := ci) Try.underlying28 Try.underlying5 Try.underlying9 hci; have HS9 := Aside0.mk hs; have HB9 := Aside0.mk hb; clear hs hb HS8 HB8 hco hci) | (go_at_call 17; have hz_ := HB9; clear hz_; refine (Len_St W9 _ q _ _ _ _ _ HS9.out).mono ?_; rintro e W10 ⟨rfl, hb⟩; have HB10 := Aside0.mk (below_step HB9.out hb); clear hb HS9 HB9))
        go_ret
        exact ⟨rfl, HB10.out⟩

theorem Whole_off (a0 : Int) (A1 : Option Addr) (c1 : Nat) (l : List (S32)) (k : Nat) (w : World) (hr0 : Kd.C k32 w A1 l.length l) (hc0 : l.length ≤ c1) (hf : clavierref04_Few.f k l = some false) :
    Calls Try.prog 4 #[.int .u16 a0, .slice A1 l.length c1] w fun e w' => e = .returned (.bool true) ∧ Below w.heap.size w w' := by
  have HR0 := Aside0.mk hr0
  have HC0 := Aside0.mk hc0
  have HF := Aside0.mk hf
  clear hr0 hc0 hf
  go_enter Try.func4, Try.ntmps4
  go_wp2_with (first | (go_at_call 9; refine (awake_calls w).mono ?_; rintro e W1 ⟨rfl, hb⟩; have HB1 := Aside0.mk hb; clear hb) | (go_at_call 10; have hz_ := HB1; clear hz_; refine (clavierref04_Few.calls k A1 c1 l false W1 (Kd.C_below HR0.out HB1.out) HC0.out HF.out).mono ?_; rintro e W2 ⟨rfl, hd⟩; have HB2 := Aside0.mk (below_drawn HB1.out hd); clear hd HB1))
  go_ret
  exact ⟨rfl, HB2.out⟩

/-- The law answers true. -/
def clavierlaw04_QueueWhole.f (a0 : Int) (l1 : List (S32)) : Option Bool := if 0 ≤ a0 ∧ a0 < 65536 then some true else none
theorem clavierlaw04_QueueWhole.is (a0 : Int) (l1 : List (S32)) (g0 : (Lit.int .u16 a0).wf = true) : clavierlaw04_QueueWhole.f a0 l1 = some true := by
  simp [Lit.wf, IntKind.min, IntKind.max, IntKind.signed, IntKind.bits] at g0
  exact if_pos (by omega)
theorem clavierlaw04_QueueWhole.calls (a0 : Int) (A1 : Option Addr) (c1 : Nat) (l1 : List (S32)) (r : Bool) (w : World) (hr1 : Kd.C k32 w A1 l1.length l1) (hc1 : l1.length ≤ c1) (h : clavierlaw04_QueueWhole.f a0 l1 = some r) :
    Calls Try.prog 4 #[.int .u16 a0, .slice A1 l1.length c1] w fun e w' => e = .returned (.bool r) ∧ Below w.heap.size w w' := by
  by_cases ha0 : 0 ≤ a0 ∧ a0 < 65536
  · obtain rfl : true = r := Option.some.inj ((if_pos ha0).symm.trans h)
    obtain ⟨k, b, hf, hb⟩ := Few_says l1
    cases b with
    | false => exact Whole_off a0 A1 c1 l1 k w hr1 hc1 hf
    | true =>
      have h1 : a0.tmod 500 = a0 % 500 := Int.tmod_eq_emod_of_nonneg ha0.1
      exact Whole_main a0 (64 + a0 % 500) A1 c1 l1 k w hr1 hc1 (by omega) (by rw [h1, IntWalk.wrap64_in (a0 % 500) (by omega), IntWalk.wrap64_in _ (by omega)]) hf (hb rfl).1 (hb rfl).2
  · exact absurd ((if_neg ha0).symm.trans h) (by simp)

end Go.Proofs.Ytehnppklfaoikaa.L
