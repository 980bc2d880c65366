import Derived.Test.YtehnppklfaoikaaHQu7
import Derived.Deep.RegionHeld3
import Derived.Deep.DrawnRows
/- QueueSplits. -/
namespace Go.Proofs.Ytehnppklfaoikaa.L
open Go Go.RowKit Go.Proofs.Ytehnppklfaoikaa.H Go.Proofs.Ytehnppklfaoikaa.F Go.Proofs.YtehnppklfaoikaaW.PrintWords Go.Proofs.YtehnppklfaoikaaW.PrintLast Go.Proofs.YtehnppklfaoikaaW.PrintMore
set_option linter.unusedVariables false
set_option linter.unusedSimpArgs false
set_option maxHeartbeats 40000000
set_option maxRecDepth 100000
attribute [local go_sem ↓] Go.wp_at_zero Go.wp_at_succ

theorem same_split {bs a dl1 t1 t2 dl2 t3 dl3 : List Int} {n0 n1 n : Int} (ha : ([] ++ t1) ++ t2 = a) (h1 : bs = t1 ++ dl1 ∧ t1.length = (min (max n0 0) (bs.length : Int)).toNat) (h2 : dl1 = t2 ++ dl2 ∧ t2.length = (min (max n1 0) (dl1.length : Int)).toNat)
    (h3 : bs = t3 ++ dl3) (h4 : t3.length = (min (max n 0) (bs.length : Int)).toNat) (b0 : 0 ≤ n0) (b1 : 0 ≤ n1) (hn : n0 + n1 = n) : a = t3 ∧ dl2 = dl3 := by
  obtain ⟨e1, e2⟩ := h1
  obtain ⟨e3, e4⟩ := h2
  subst ha
  have l1 := congrArg List.length e1
  have l2 := congrArg List.length e3
  rw [List.length_append] at l1 l2
  have e5 : (t1 ++ t2) ++ dl2 = t3 ++ dl3 := by rw [List.append_assoc, ← e3, ← e1, h3]
  have e6 := List.append_inj e5 (by rw [List.length_append]; omega)
  exact ⟨by rw [List.nil_append]; exact e6.1, e6.2⟩

theorem Splits_main (A0 : Option Addr) (c0 : Nat) (l : List (S32)) (n0 n1 : Int) (k : Nat) (w : World) (hr0 : Kd.C k32 w A0 l.length l) (hc0 : l.length ≤ c0)
    (hf : clavierref04_Few.f k l = some true) (hl : l.length ≤ 30) (hi : ∀ t : Nat, t < l.length → ((rd_T32 l (t : Int)).f0).length ≤ 200) (b0 : 0 ≤ n0 ∧ n0 ≤ 1000) (b1 : 0 ≤ n1 ∧ n1 ≤ 1000) :
    Calls Try.prog 5 #[.slice A0 l.length c0, .agg #[.int .i64 n0, .int .i64 n1]] w fun e w' => e = .returned (.bool true) ∧ Below w.heap.size w w' := by
  have d0 : decide (n0 < 0) = false := decide_eq_false (by omega)
  have d1 : decide (n1 < 0) = false := decide_eq_false (by omega)
  have d2 : decide ((1000 : Int) < n0) = false := decide_eq_false (by omega)
  have d3 : decide ((1000 : Int) < n1) = false := decide_eq_false (by omega)
  have HR0 := Aside0.mk hr0
  have HC0 := Aside0.mk hc0
  have HF := Aside0.mk hf
  have HLL := Aside0.mk hl
  have HI0 := Aside0.mk hi
  have HN0 := Aside0.mk b0
  have HN1 := Aside0.mk b1
  clear hr0 hc0 hf hl hi b0 b1
  go_enter Try.func5, Try.ntmps5
  go_wp2_with (first | (go_at_call 9; refine (awake_calls _).mono ?_; rintro e W1 ⟨rfl, hb⟩; have hbx1 := Aside0.mk (blk_below (blk_new w _) hb); have HB1 := Aside0.mk (below_step (below_alloc (Below.refl _ _) _) hb); clear hb) | (go_at_call 10; have hz_ := HB1; clear hz_; refine (clavierref04_Few.calls k A0 c0 l true W1 (Kd.C_below HR0.out HB1.out) HC0.out HF.out).mono ?_; rintro e W2 ⟨rfl, hd⟩; obtain ⟨m_, rfl⟩ := hd; have HB2 := Aside0.mk (pw_below_drewN HB1.out m_); have hbx2 := Aside0.mk (blk_drewN hbx1.out m_); have hn0 := (blk_cell hbx2.out 0).trans rfl; have hn1 := (blk_cell hbx2.out 1).trans rfl; generalize W1.drewN m_ = W2 at *; clear HB1 hbx1) | (go_at_call 11; have hz_ := HB2; clear hz_; refine (New_some 300 W2 (fun k => False) (by decide)).mono ?_; rintro e W3 ⟨q, rfl, hq, hb⟩; have hl_ := blk_lt hbx2.out; have HQ3 := Aside0.mk (show w.heap.size < q from Nat.lt_of_lt_of_le hl_ hq.1); have HS3 := Aside0.mk (hq.lower (below_size HB2.out)); have HB3 := Aside0.mk (below_step HB2.out hb); have hbx3 := Aside0.mk (blk_below hbx2.out hb); clear hq hb HB2 hbx2 hn0 hn1 hl_) | (go_at_call 11; have hz_ := HB3; clear hz_; refine (New_some 300 W3 (fun k => False) (by decide)).mono ?_; rintro e W4 ⟨p, rfl, hq, hb⟩; have HS4 := Aside0.mk (Sp.start (HS3.out.below hb) (hq.lower (below_size HB3.out)) (blk_below hbx3.out hb) (Nat.le_refl _) HQ3.out (Nat.lt_of_lt_of_le HS3.out.lt hq.1)); have HB4 := Aside0.mk (below_step HB3.out hb); clear hq hb HB3 HS3 hbx3 HQ3))
  go_loopg [8] (l.length + 1) (fun kq v8 W => ∃ (x8 : Int) (bs : List Int) (dr : Int), v8 = .int .i64 x8 ∧ Aside0 (0 ≤ x8 ∧ x8 ≤ l.length ∧ l.length - x8 < kq) ∧ Aside0 (Sp W w.heap.size q p w.heap.size n0 n1 ⟨bs, 300, dr⟩ ⟨bs, 300, dr⟩ (.slice none 0 0) [] (.slice none 0 0) []) ∧ Aside0 (Below w.heap.size w W) ∧ Aside0 (bs.length ≤ 300))
  case atStart => exact ⟨0, [], 0, rfl, ⟨by omega⟩, HS4, HB4, ⟨by decide⟩⟩
  case round =>
    obtain ⟨x8, bs, dr, rfl, HN, HSr, HBr, HX⟩ := hrel
    cases gk with
    | zero => exact absurd HN.out (by omega)
    | succ k1 =>
      by_cases hx : x8 < (l.length : Int)
      · have c1b : decide (x8 < (l.length : Int)) = true := decide_eq_true hx
        have HX8 := Aside0.mk hx
        obtain ⟨ad, Ai, ci, eA, hx0, hx1, hci, hri⟩ := at_T32 HR0.out x8 HN.out.1 hx
        cases eA
        clear hx1
        have hlt := lt_of_cell hx0
        obtain ⟨it, hit⟩ : ∃ it, (rd_T32 l x8).f0 = it := ⟨_, rfl⟩
        have HIT := Aside0.mk (show it.length ≤ 200 by
          have h_ := HI0.out x8.toNat (by have := HN.out; omega)
          rwa [Int.toNat_of_nonneg HN.out.1, hit] at h_)
        rw [hit] at hx0 hci hri
        have HCi := Aside0.mk hci
        have HI := Aside0.mk hri
        have HLN := Aside0.mk (show bs.length + it.length < 4294967296 by have := HX.out; have := HIT.out; omega)
        clear hit hci hri
        have p101 := eq_true HN.out.1
        have q101 := eq_true hx
        clear hx
        have hy0 := (HBr.out.cell hlt).trans hx0
        by_cases fit : (bs.length : Int) + it.length ≤ 300
        · have HFT := Aside0.mk fit
          clear fit
          go_wp2_with (first | (go_at_call 13; have hz_ := HBr; clear hz_; refine (Push_ok_Sp Ai it ci HBr.out HSr.out HI.out HCi.out HFT.out HLN.out).mono ?_; rintro e W5 ⟨rfl, hs, hb⟩; have HS5 := Aside0.mk hs; have HB5 := Aside0.mk hb; clear hs hb HSr HBr hy0; have hy0 := (HB5.out.cell hlt).trans hx0) | (go_at_call 13; have hz_ := HB5; clear hz_; refine (Push_ok_Sp Ai it ci HB5.out HS5.out.swap HI.out HCi.out HFT.out HLN.out).mono ?_; rintro e W6 ⟨rfl, hs, hb⟩; have HS6 := Aside0.mk hs.swap; have HB6 := Aside0.mk hb; clear hs hb HS5 HB5 hy0; have hy0 := (HB6.out.cell hlt).trans hx0))
          go_roundg k1
          case measure => omega
          case rel => exact ⟨x8 + 1, bs ++ it, dr, by rw [IntWalk.wrap64_in _ (by have := HN.out; have := HX8.out; have := HLL.out; omega)], ⟨by have := HN.out; have := HX8.out; omega⟩, HS6, HB6, ⟨by rw [List.length_append]; have := HFT.out; omega⟩⟩
        · have HFT := Aside0.mk (Int.not_le.1 fit)
          clear fit
          go_wp2_with (first | (go_at_call 13; have hz_ := HBr; clear hz_; refine (Push_big_Sp Ai it.length ci HBr.out HSr.out HFT.out HLN.out).mono ?_; rintro e W5 ⟨rfl, hs, hb⟩; have HS5 := Aside0.mk hs; have HB5 := Aside0.mk hb; clear hs hb HSr HBr hy0; have hy0 := (HB5.out.cell hlt).trans hx0) | (go_at_call 13; have hz_ := HB5; clear hz_; refine (Push_big_Sp Ai it.length ci HB5.out HS5.out.swap HFT.out HLN.out).mono ?_; rintro e W6 ⟨rfl, hs, hb⟩; have HS6 := Aside0.mk hs.swap; have HB6 := Aside0.mk hb; clear hs hb HS5 HB5 hy0; have hy0 := (HB6.out.cell hlt).trans hx0))
          go_roundg k1
          case measure => omega
          case rel => exact ⟨x8 + 1, bs, wrap64 (dr + 1), by rw [IntWalk.wrap64_in _ (by have := HN.out; have := HX8.out; have := HLL.out; omega)], ⟨by have := HN.out; have := HX8.out; omega⟩, HS6, HB6, HX⟩
      · have c1b : decide (x8 < (l.length : Int)) = false := decide_eq_false hx
        clear hx
        have HS := HSr
        have HB := HBr
        clear HSr HBr
        have HM1 := Aside0.mk True.intro
        have HM2 := Aside0.mk True.intro
        go_wp2
        go_region_held3 (fun w' => w'.cell? ⟨w.heap.size, 0, none⟩ = some (.int .i64 n0) ∧ w'.cell? ⟨w.heap.size, 1, none⟩ = some (.int .i64 n1)) (first | exact HS.out.cells | exact (HS.out.lit (below_size HB.out)).cells) (first | (go_at_call 15; have hz_ := HM1; clear hz_; first | ((with_reducible refine (Drain_Sp n0 HB.out HS.out (by have := HX.out; show bs.length < 4294967296; omega)).mono ?_); rintro e W7 ⟨A7, tl7, dl7, c7, rfl, e1, e2, hc, hs, hb⟩; have HE7 := Aside0.mk (And.intro e1 e2); have HS_ := Aside0.mk hs; have HB_ := Aside0.mk hb; clear e1 e2 hc hs hb HS HB HM1; have HS := HS_; have HB := HB_; clear HS_ HB_) | ((with_reducible refine (Drain_Sp n0 (below_alloc HB.out _) (HS.out.lit (below_size HB.out)) (by have := HX.out; show bs.length < 4294967296; omega)).mono ?_); rintro e W7 ⟨A7, tl7, dl7, c7, rfl, e1, e2, hc, hs, hb⟩; have HE7 := Aside0.mk (And.intro e1 e2); have HS_ := Aside0.mk hs; have HB_ := Aside0.mk hb; clear e1 e2 hc hs hb HS HB HM1; have HS := HS_; have HB := HB_; clear HS_ HB_) | ((with_reducible refine (Drain_Sp n0 (below_drew1 (below_alloc HB.out _)) ((HS.out.lit (below_size HB.out)).below (below_drew1 (Below.refl _ _))) (by have := HX.out; show bs.length < 4294967296; omega)).mono ?_); rintro e W7 ⟨A7, tl7, dl7, c7, rfl, e1, e2, hc, hs, hb⟩; have HE7 := Aside0.mk (And.intro e1 e2); have HS_ := Aside0.mk hs; have HB_ := Aside0.mk hb; clear e1 e2 hc hs hb HS HB HM1; have HS := HS_; have HB := HB_; clear HS_ HB_) | ((with_reducible refine (Drain_Sp n0 (below_drew1 HB.out) (HS.out.below (below_drew1 (Below.refl _ _))) (by have := HX.out; show bs.length < 4294967296; omega)).mono ?_); rintro e W7 ⟨A7, tl7, dl7, c7, rfl, e1, e2, hc, hs, hb⟩; have HE7 := Aside0.mk (And.intro e1 e2); have HS_ := Aside0.mk hs; have HB_ := Aside0.mk hb; clear e1 e2 hc hs hb HS HB HM1; have HS := HS_; have HB := HB_; clear HS_ HB_)) | (go_at_call 15; have hz_ := HM2; clear hz_; first | ((with_reducible refine (Drain_Sp n1 HB.out HS.out (by have := HX.out; have h_ := congrArg List.length HE7.out.1; simp only [List.length_append] at h_; show dl7.length < 4294967296; omega)).mono ?_); rintro e W8 ⟨A8, tl8, dl8, c8, rfl, e1, e2, hc, hs, hb⟩; have HE8 := Aside0.mk (And.intro e1 e2); have HS_ := Aside0.mk hs; have HB_ := Aside0.mk hb; clear e1 e2 hc hs hb HS HB HM2; have HS := HS_; have HB := HB_; clear HS_ HB_) | ((with_reducible refine (Drain_Sp n1 (below_alloc HB.out _) (HS.out.lit (below_size HB.out)) (by have := HX.out; have h_ := congrArg List.length HE7.out.1; simp only [List.length_append] at h_; show dl7.length < 4294967296; omega)).mono ?_); rintro e W8 ⟨A8, tl8, dl8, c8, rfl, e1, e2, hc, hs, hb⟩; have HE8 := Aside0.mk (And.intro e1 e2); have HS_ := Aside0.mk hs; have HB_ := Aside0.mk hb; clear e1 e2 hc hs hb HS HB HM2; have HS := HS_; have HB := HB_; clear HS_ HB_) | ((with_reducible refine (Drain_Sp n1 (below_drew1 (below_alloc HB.out _)) ((HS.out.lit (below_size HB.out)).below (below_drew1 (Below.refl _ _))) (by have := HX.out; have h_ := congrArg List.length HE7.out.1; simp only [List.length_append] at h_; show dl7.length < 4294967296; omega)).mono ?_); rintro e W8 ⟨A8, tl8, dl8, c8, rfl, e1, e2, hc, hs, hb⟩; have HE8 := Aside0.mk (And.intro e1 e2); have HS_ := Aside0.mk hs; have HB_ := Aside0.mk hb; clear e1 e2 hc hs hb HS HB HM2; have HS := HS_; have HB := HB_; clear HS_ HB_) | ((with_reducible refine (Drain_Sp n1 (below_drew1 HB.out) (HS.out.below (below_drew1 (Below.refl _ _))) (by have := HX.out; have h_ := congrArg List.length HE7.out.1; simp only [List.length_append] at h_; show dl7.length < 4294967296; omega)).mono ?_); rintro e W8 ⟨A8, tl8, dl8, c8, rfl, e1, e2, hc, hs, hb⟩; have HE8 := Aside0.mk (And.intro e1 e2); have HS_ := Aside0.mk hs; have HB_ := Aside0.mk hb; clear e1 e2 hc hs hb HS HB HM2; have HS := HS_; have HB := HB_; clear HS_ HB_)) | (first | (refine append_Sp (by rfl) (.tmp 57) (.tmp 61) (by rfl) (by rfl) (by rfl) HS.out HB.out (by have := HX.out; have h_ := congrArg List.length HE7.out.1; simp only [List.length_append, List.length_nil] at h_ ⊢; omega) ?_; intro vp Wp hs hb; have HS_ := Aside0.mk hs; have HB_ := Aside0.mk hb; clear hs hb HS HB; have HS := HS_; have HB := HB_; clear HS_ HB_) | (refine append_Sp (by rfl) (.tmp 57) (.tmp 61) (by rfl) (by rfl) (by rfl) (HS.out.lit (below_size HB.out)) (below_alloc HB.out _) (by have := HX.out; have h_ := congrArg List.length HE7.out.1; simp only [List.length_append, List.length_nil] at h_ ⊢; omega) ?_; intro vp Wp hs hb; have HS_ := Aside0.mk hs; have HB_ := Aside0.mk hb; clear hs hb HS HB; have HS := HS_; have HB := HB_; clear HS_ HB_)) | (first | (refine append_Sp (by rfl) (.tmp 62) (.tmp 66) (by rfl) (by rfl) (by rfl) HS.out HB.out (by have := HX.out; have h_ := congrArg List.length HE7.out.1; have h2_ := congrArg List.length HE8.out.1; simp only [List.length_append, List.length_nil] at h_ h2_ ⊢; omega) ?_; intro vr Wr hs hb; have HS_ := Aside0.mk hs; have HB_ := Aside0.mk hb; clear hs hb HS HB; have HS := HS_; have HB := HB_; clear HS_ HB_) | (refine append_Sp (by rfl) (.tmp 62) (.tmp 66) (by rfl) (by rfl) (by rfl) (HS.out.lit (below_size HB.out)) (below_alloc HB.out _) (by have := HX.out; have h_ := congrArg List.length HE7.out.1; have h2_ := congrArg List.length HE8.out.1; simp only [List.length_append, List.length_nil] at h_ h2_ ⊢; omega) ?_; intro vr Wr hs hb; have HS_ := Aside0.mk hs; have HB_ := Aside0.mk hb; clear hs hb HS HB; have HS := HS_; have HB := HB_; clear HS_ HB_)))
        all_goals
          obtain ⟨a, ha⟩ : ∃ a, ([] ++ tl7) ++ tl8 = a := ⟨_, rfl⟩
          have HA := Aside0.mk ha
          have HS_ := HS
          clear HS
          obtain ⟨HS_⟩ := HS_
          rw [ha] at HS_
          clear ha
          obtain ⟨Aa, ca, rfl, hca⟩ := HS_.co
          clear hca
          have HS := Aside0.mk HS_
          clear HS_
          obtain ⟨n01, hn01⟩ : ∃ n01, n0 + n1 = n01 := ⟨_, rfl⟩
          have HNN := Aside0.mk hn01
          have hw1 : wrap64 (n0 + n1) = n01 := by rw [hn01]; exact IntWalk.wrap64_in _ (by have := HN0.out; have := HN1.out; omega)
          have hw2 : IntKind.i64.wrap (n0 + n1) = n01 := by rw [hn01]; exact IntWalk.i64_in _ (by have := HN0.out; have := HN1.out; omega)
          clear hn01
          have HM3 := Aside0.mk True.intro
          have HM4 := Aside0.mk True.intro
          have HM5 := Aside0.mk True.intro
          have hn0 := HS.out.cells.1
          have hn1 := HS.out.cells.2
          have hcva := Kd.C_string (P := Try.prog) (c := ca) Try.underlying28 Try.underlying5 Try.underlying9 (HS.out.below (below_drew1 (Below.refl _ _))).co_
          go_wp2
          go_region_with (first | (go_at_call 15; have hz_ := HM3; clear hz_; first | ((with_reducible refine (Drain_Sp n01 HB.out HS.out.swap (by have := HX.out; show bs.length < 4294967296; omega)).mono ?_); rintro e W9 ⟨A9, tl9, dl9, c9, rfl, e1, e2, hc, hs, hb⟩; obtain ⟨e3, e4⟩ := same_split HA.out HE7.out HE8.out e1 e2 HN0.out.1 HN1.out.1 HNN.out; subst e3; subst e4; have hcv9 := Kd.C_string (P := Try.prog) (c := c9) Try.underlying28 Try.underlying5 Try.underlying9 hc; have hcva9 := Kd.C_string (P := Try.prog) (c := ca) Try.underlying28 Try.underlying5 Try.underlying9 hs.co_; have HS_ := Aside0.mk hs.swap; have HB_ := Aside0.mk hb; clear e1 e2 hc HM3; clear hs hb HS HB; have HS := HS_; have HB := HB_; clear HS_ HB_) | ((with_reducible refine (Drain_Sp n01 (below_drew1 HB.out) (HS.out.below (below_drew1 (Below.refl _ _))).swap (by have := HX.out; show bs.length < 4294967296; omega)).mono ?_); rintro e W9 ⟨A9, tl9, dl9, c9, rfl, e1, e2, hc, hs, hb⟩; obtain ⟨e3, e4⟩ := same_split HA.out HE7.out HE8.out e1 e2 HN0.out.1 HN1.out.1 HNN.out; subst e3; subst e4; have hcv9 := Kd.C_string (P := Try.prog) (c := c9) Try.underlying28 Try.underlying5 Try.underlying9 hc; have hcva9 := Kd.C_string (P := Try.prog) (c := ca) Try.underlying28 Try.underlying5 Try.underlying9 hs.co_; have HS_ := Aside0.mk hs.swap; have HB_ := Aside0.mk hb; clear e1 e2 hc HM3; clear hs hb HS HB; have HS := HS_; have HB := HB_; clear HS_ HB_)) | (go_at_call 17; have hz_ := HM4; clear hz_; first | ((with_reducible refine (Len_Sp HS.out).mono ?_); rintro e W10 ⟨rfl, hb⟩; have HS_ := Aside0.mk (HS.out.below hb); have HB_ := Aside0.mk (below_step HB.out hb); clear HM4; clear hb HS HB; have HS := HS_; have HB := HB_; clear HS_ HB_) | ((with_reducible refine (Len_Sp (HS.out.below (below_drew1 (Below.refl _ _)))).mono ?_); rintro e W10 ⟨rfl, hb⟩; have HS_ := Aside0.mk ((HS.out.below (below_drew1 (Below.refl _ _))).below hb); have HB_ := Aside0.mk (below_step (below_drew1 HB.out) hb); clear HM4; clear hb HS HB; have HS := HS_; have HB := HB_; clear HS_ HB_)) | (go_at_call 17; have hz_ := HM5; clear hz_; first | ((with_reducible refine (Len_Sp HS.out.swap).mono ?_); rintro e W11 ⟨rfl, hb⟩; have HS_ := Aside0.mk (HS.out.below hb); have HB_ := Aside0.mk (below_step HB.out hb); clear HM5; clear hb HS HB; have HS := HS_; have HB := HB_; clear HS_ HB_) | ((with_reducible refine (Len_Sp (HS.out.below (below_drew1 (Below.refl _ _))).swap).mono ?_); rintro e W11 ⟨rfl, hb⟩; have HS_ := Aside0.mk ((HS.out.below (below_drew1 (Below.refl _ _))).below hb); have HB_ := Aside0.mk (below_step (below_drew1 HB.out) hb); clear HM5; clear hb HS HB; have HS := HS_; have HB := HB_; clear HS_ HB_)))
          all_goals
            go_wp2
            go_ret
            exact ⟨rfl, HB.out⟩

theorem Splits_off (A0 : Option Addr) (c0 : Nat) (l : List (S32)) (n0 n1 : Int) (k : Nat) (b : Bool) (w : World) (hr0 : Kd.C k32 w A0 l.length l) (hc0 : l.length ≤ c0)
    (hf : clavierref04_Few.f k l = some b) (h : b = false ∨ n0 < 0 ∨ n1 < 0 ∨ 1000 < n0 ∨ 1000 < n1) :
    Calls Try.prog 5 #[.slice A0 l.length c0, .agg #[.int .i64 n0, .int .i64 n1]] w fun e w' => e = .returned (.bool true) ∧ Below w.heap.size w w' := by
  have HR0 := Aside0.mk hr0
  have HC0 := Aside0.mk hc0
  have HF := Aside0.mk hf
  clear hr0 hc0 hf
  cases b with
  | false =>
    go_enter Try.func5, Try.ntmps5
    go_wp2_with (first | (go_at_call 9; refine (awake_calls _).mono ?_; rintro e W1 ⟨rfl, hb⟩; have hbx1 := Aside0.mk (blk_below (blk_new w _) hb); have HB1 := Aside0.mk (below_step (below_alloc (Below.refl _ _) _) hb); clear hb) | (go_at_call 10; have hz_ := HB1; clear hz_; refine (clavierref04_Few.calls k A0 c0 l false W1 (Kd.C_below HR0.out HB1.out) HC0.out HF.out).mono ?_; rintro e W2 ⟨rfl, hd⟩; obtain ⟨m_, rfl⟩ := hd; have HB2 := Aside0.mk (pw_below_drewN HB1.out m_); have hbx2 := Aside0.mk (blk_drewN hbx1.out m_); have hn0 := (blk_cell hbx2.out 0).trans rfl; have hn1 := (blk_cell hbx2.out 1).trans rfl; generalize W1.drewN m_ = W2 at *; clear HB1 hbx1))
    go_ret
    exact ⟨rfl, HB2.out⟩
  | true =>
    by_cases c0_ : n0 < 0
    · have d0 : decide (n0 < 0) = true := decide_eq_true c0_
      clear h c0_
      go_enter Try.func5, Try.ntmps5
      go_wp2_with (first | (go_at_call 9; refine (awake_calls _).mono ?_; rintro e W1 ⟨rfl, hb⟩; have hbx1 := Aside0.mk (blk_below (blk_new w _) hb); have HB1 := Aside0.mk (below_step (below_alloc (Below.refl _ _) _) hb); clear hb) | (go_at_call 10; have hz_ := HB1; clear hz_; refine (clavierref04_Few.calls k A0 c0 l true W1 (Kd.C_below HR0.out HB1.out) HC0.out HF.out).mono ?_; rintro e W2 ⟨rfl, hd⟩; obtain ⟨m_, rfl⟩ := hd; have HB2 := Aside0.mk (pw_below_drewN HB1.out m_); have hbx2 := Aside0.mk (blk_drewN hbx1.out m_); have hn0 := (blk_cell hbx2.out 0).trans rfl; have hn1 := (blk_cell hbx2.out 1).trans rfl; generalize W1.drewN m_ = W2 at *; clear HB1 hbx1))
      go_ret
      exact ⟨rfl, HB2.out⟩
    · have d0 : decide (n0 < 0) = false := decide_eq_false c0_
      by_cases c1_ : n1 < 0
      · have d1 : decide (n1 < 0) = true := decide_eq_true c1_
        clear h c0_ c1_
        go_enter Try.func5, Try.ntmps5
        go_wp2_with (first | (go_at_call 9; refine (awake_calls _).mono ?_; rintro e W1 ⟨rfl, hb⟩; have hbx1 := Aside0.mk (blk_below (blk_new w _) hb); have HB1 := Aside0.mk (below_step (below_alloc (Below.refl _ _) _) hb); clear hb) | (go_at_call 10; have hz_ := HB1; clear hz_; refine (clavierref04_Few.calls k A0 c0 l true W1 (Kd.C_below HR0.out HB1.out) HC0.out HF.out).mono ?_; rintro e W2 ⟨rfl, hd⟩; obtain ⟨m_, rfl⟩ := hd; have HB2 := Aside0.mk (pw_below_drewN HB1.out m_); have hbx2 := Aside0.mk (blk_drewN hbx1.out m_); have hn0 := (blk_cell hbx2.out 0).trans rfl; have hn1 := (blk_cell hbx2.out 1).trans rfl; generalize W1.drewN m_ = W2 at *; clear HB1 hbx1))
        go_ret
        exact ⟨rfl, HB2.out⟩
      · have d1 : decide (n1 < 0) = false := decide_eq_false c1_
        by_cases c2_ : 1000 < n0
        · have d2 : decide (1000 < n0) = true := decide_eq_true c2_
          clear h c0_ c1_ c2_
          go_enter Try.func5, Try.ntmps5
          go_wp2_with (first | (go_at_call 9; refine (awake_calls _).mono ?_; rintro e W1 ⟨rfl, hb⟩; have hbx1 := Aside0.mk (blk_below (blk_new w _) hb); have HB1 := Aside0.mk (below_step (below_alloc (Below.refl _ _) _) hb); clear hb) | (go_at_call 10; have hz_ := HB1; clear hz_; refine (clavierref04_Few.calls k A0 c0 l true W1 (Kd.C_below HR0.out HB1.out) HC0.out HF.out).mono ?_; rintro e W2 ⟨rfl, hd⟩; obtain ⟨m_, rfl⟩ := hd; have HB2 := Aside0.mk (pw_below_drewN HB1.out m_); have hbx2 := Aside0.mk (blk_drewN hbx1.out m_); have hn0 := (blk_cell hbx2.out 0).trans rfl; have hn1 := (blk_cell hbx2.out 1).trans rfl; generalize W1.drewN m_ = W2 at *; clear HB1 hbx1))
          go_ret
          exact ⟨rfl, HB2.out⟩
        · have d2 : decide (1000 < n0) = false := decide_eq_false c2_
          have d3 : decide (1000 < n1) = true := decide_eq_true (by rcases h with h | h | h | h | h; cases h; all_goals omega)
          clear h c0_ c1_ c2_
          go_enter Try.func5, Try.ntmps5
          go_wp2_with (first | (go_at_call 9; refine (awake_calls _).mono ?_; rintro e W1 ⟨rfl, hb⟩; have hbx1 := Aside0.mk (blk_below (blk_new w _) hb); have HB1 := Aside0.mk (below_step (below_alloc (Below.refl _ _) _) hb); clear hb) | (go_at_call 10; have hz_ := HB1; clear hz_; refine (clavierref04_Few.calls k A0 c0 l true W1 (Kd.C_below HR0.out HB1.out) HC0.out HF.out).mono ?_; rintro e W2 ⟨rfl, hd⟩; obtain ⟨m_, rfl⟩ := hd; have HB2 := Aside0.mk (pw_below_drewN HB1.out m_); have hbx2 := Aside0.mk (blk_drewN hbx1.out m_); have hn0 := (blk_cell hbx2.out 0).trans rfl; have hn1 := (blk_cell hbx2.out 1).trans rfl; generalize W1.drewN m_ = W2 at *; clear HB1 hbx1))
          go_ret
          exact ⟨rfl, HB2.out⟩

/-- The law answers true. -/
def clavierlaw04_QueueSplits.f (l0 : List (S32)) (a1_0 a1_1 : Int) : Option Bool := some true
theorem clavierlaw04_QueueSplits.calls (A0 : Option Addr) (c0 : Nat) (l0 : List (S32)) (a1_0 a1_1 : Int) (r : Bool) (w : World) (hr0 : Kd.C k32 w A0 l0.length l0) (hc0 : l0.length ≤ c0) (h : clavierlaw04_QueueSplits.f l0 a1_0 a1_1 = some r) :
    Calls Try.prog 5 #[.slice A0 l0.length c0, .agg #[.int .i64 a1_0, .int .i64 a1_1]] w fun e w' => e = .returned (.bool r) ∧ Below w.heap.size w w' := by
  obtain rfl : true = r := Option.some.inj h
  obtain ⟨k, b, hf, hb⟩ := Few_says l0
  by_cases h1 : b = false ∨ a1_0 < 0 ∨ a1_1 < 0 ∨ 1000 < a1_0 ∨ 1000 < a1_1
  · exact Splits_off A0 c0 l0 a1_0 a1_1 k b w hr0 hc0 hf h1
  · have hbt : b = true := by cases b <;> simp_all
    subst hbt
    exact Splits_main A0 c0 l0 a1_0 a1_1 k w hr0 hc0 hf (hb rfl).1 (hb rfl).2 (by omega) (by omega)

end Go.Proofs.Ytehnppklfaoikaa.L
