import Derived.Test.YtehnppklfaoikaaHQu6
/- QueueShares. -/
namespace Go.Proofs.Ytehnppklfaoikaa.L
open Go Go.RowKit Go.Proofs.Ytehnppklfaoikaa.H Go.Proofs.Ytehnppklfaoikaa.F Go.Proofs.YtehnppklfaoikaaW.PrintWords Go.Proofs.YtehnppklfaoikaaW.PrintLast Go.Proofs.YtehnppklfaoikaaW.PrintMore
set_option linter.unusedVariables false
set_option linter.unusedSimpArgs false
set_option maxHeartbeats 4000000
set_option maxRecDepth 100000

theorem Shares_main (A0 : Option Addr) (c0 : Nat) (item : List Int) (A1 : Option Addr) (c1 : Nat) (more : List Int) (w : World) (hr0 : Kd.C (Kd.int .u8) w A0 item.length item) (hc0 : item.length ≤ c0) (hr1 : Kd.C (Kd.int .u8) w A1 more.length more) (hc1 : more.length ≤ c1)
    (h0 : item.length ≤ 100) (h1 : more.length ≤ 100) :
    Calls Try.prog 6 #[.slice A0 item.length c0, .slice A1 more.length c1] w fun e w' => e = .returned (.bool true) ∧ Below w.heap.size w w' := by
  have e0 : decide ((100 : Int) < item.length) = false := decide_eq_false (by omega)
  have e1 : decide ((100 : Int) < more.length) = false := decide_eq_false (by omega)
  have HR0 := Aside0.mk hr0
  have HC0 := Aside0.mk hc0
  have HR1 := Aside0.mk hr1
  have HC1 := Aside0.mk hc1
  have HI0 := Aside0.mk h0
  have HI1 := Aside0.mk h1
  clear hr0 hc0 hr1 hc1 h0 h1
  go_enter Try.func6, Try.ntmps6
  go_wp2_with (first | (go_at_call 9; refine (awake_calls w).mono ?_; rintro e W1 ⟨rfl, hb⟩; have HB1 := Aside0.mk hb; clear hb) | (go_at_call 11; have hz_ := HB1; clear hz_; refine (New_some 300 W1 (fun k => False) (by decide)).mono ?_; rintro e W2 ⟨q, rfl, hq, hb⟩; have HS2 := Aside0.mk (St.start (hq.lower (below_size HB1.out))); have HB2 := Aside0.mk (below_step HB1.out hb); clear hq hb HB1) | ((with_reducible refine gate_dst (N := 23) rfl ?_); refine Kd.R_lit (Kd.int .u8) (w0 := w) w.heap.size 5 ?hg (N := 23) ?hd (xs := ([] : List Int)) (inner := []) (ok := fun k => W2.heap.size ≤ k) (okp := fun _ => False) ?hr ?hp (fun _ hk => hk.elim) (Nat.le_refl _) HB2.out (below_size HB2.out) (by simp) ?_; (case hd => rfl); (case hg => rfl); (case hr => first | (go_simp; done) | (go_simp; rfl)); (case hp => exact Reps.none _ _); intro v3 W3 ho hb hg hat; have HS3 := Aside0.mk (HS2.out.new_in hg ho); have HB3 := Aside0.mk hb; clear ho hb hg hat HS2 HB2) | ((with_reducible refine gate_builtin (b := .append) (xs := #[.tmp 23, .tmp 24]) rfl ?_); refine append_in rfl (.tmp 23) (.tmp 24) rfl q _ v3 _ [] [] item A0 c0 rfl rfl HS3.out (Kd.C_below HR0.out HB3.out) HB3.out (by have := HI0.out; simp only [List.length_nil]; omega) ?_; intro v4 W4 hs hb; rw [List.nil_append] at hs; obtain ⟨A4, c4, rfl, hc4⟩ := hs.ci; have HS4 := Aside0.mk hs; have HB4 := Aside0.mk hb; clear hs hb hc4 HS3 HB3) | (go_at_call 13; have hz_ := HS4; clear hz_; refine (Push_own_St w W4 q ⟨[], 300, 0⟩ _ item [] A4 c4 HB4.out HS4.out (by have := HI0.out; show ((([] : List Int).length : Nat) : Int) + item.length ≤ 300; simp only [List.length_nil]; omega) (by have := HI0.out; show ([] : List Int).length + item.length < 4294967296; simp only [List.length_nil]; omega)).mono ?_; rintro e W5 ⟨rfl, hs, hb⟩; have HS5 := Aside0.mk (show St W5 w.heap.size q ⟨item, 300, 0⟩ _ item _ [] from hs); have HB5 := Aside0.mk hb; clear hs hb HS4 HB4))
  go_loopg [8] (item.length + 1) (fun kq v8 W => ∃ (x8 : Int) (li : List Int), v8 = .int .i64 x8 ∧ Aside0 (0 ≤ x8 ∧ x8 ≤ item.length ∧ item.length - x8 < kq) ∧ Aside0 (St W w.heap.size q ⟨item, 300, 0⟩ (.slice A4 item.length c4) li (.slice none 0 0) []) ∧ Aside0 (Below w.heap.size w W))
  case atStart => exact ⟨0, item, rfl, ⟨by omega⟩, HS5, HB5⟩
  case round =>
    obtain ⟨x8, li, rfl, HN, HSr, HBr⟩ := hrel
    cases gk with
    | zero => exact absurd HN.out (by omega)
    | succ k1 =>
      by_cases hx : x8 < (item.length : Int)
      · have c1b : decide (x8 < (item.length : Int)) = true := decide_eq_true hx
        obtain ⟨g, rfl, hcell, hzell, hgb, hset⟩ := HSr.out.cell_in x8 HN.out.1 hx
        have HX8 := Aside0.mk hx
        have HSET := Aside0.mk hset
        have HGB := Aside0.mk hgb
        have p101 := eq_true HN.out.1
        have q101 := eq_true hx
        clear hx hset hgb
        go_wp2
        go_roundg k1
        case measure => omega
        case rel => exact ⟨x8 + 1, _, by rw [IntWalk.wrap64_in _ (by have := HN.out; have := HX8.out; have := HI0.out; omega)], ⟨by have := HN.out; have := HX8.out; omega⟩, ⟨HSET.out _⟩, ⟨below_set HBr.out HGB.out⟩⟩
      · have c1b : decide (x8 < (item.length : Int)) = false := decide_eq_false hx
        clear hx HN
        go_wp2_with (first | (go_at_call 13; have hz_ := HSr; clear hz_; refine (Push_ok_St w wr q ⟨item, 300, 0⟩ _ _ li [] A1 more c1 HBr.out HSr.out HR1.out HC1.out (by have := HI0.out; have := HI1.out; show (item.length : Int) + more.length ≤ 300; omega) (by have := HI0.out; have := HI1.out; show item.length + more.length < 4294967296; omega)).mono ?_; rintro e W6 ⟨rfl, hs, hb⟩; have HS6 := Aside0.mk hs; have HB6 := Aside0.mk hb; clear hs hb HSr HBr) | (go_at_call 15; have hz_ := HS6; clear hz_; refine (Drain_out_St w W6 q 300 0 item more _ _ li [] item.length rfl HB6.out HS6.out (by have := HI0.out; have := HI1.out; omega)).mono ?_; rintro e W7 ⟨A9, c9, rfl, hs, hb⟩; have hcv1 := Kd.C_string (P := Try.prog) (c := c9) Try.underlying28 Try.underlying5 Try.underlying9 hs.co_.2; have hcv2 := Kd.C_string (P := Try.prog) (c := c0) Try.underlying28 Try.underlying5 Try.underlying9 (Kd.C_below HR0.out hb); have HS7 := Aside0.mk hs; have HB7 := Aside0.mk hb; clear hs hb HS6 HB6))
        go_loopg [11] (item.length + 1) (fun kq v11 W => ∃ (x9 : Int) (lo : List Int), v11 = .int .i64 x9 ∧ Aside0 (0 ≤ x9 ∧ x9 ≤ item.length ∧ item.length - x9 < kq) ∧ Aside0 (St W w.heap.size q ⟨more, 300, 0⟩ (.slice A4 item.length c4) li (.slice A9 item.length c9) lo) ∧ Aside0 (Below w.heap.size w W))
        case atStart => exact ⟨0, item, rfl, ⟨by omega⟩, HS7, HB7⟩
        case round =>
          obtain ⟨x9, lo, rfl, HN, HSr, HBr⟩ := hrel
          cases gk with
          | zero => exact absurd HN.out (by omega)
          | succ k2 =>
            clear c1b hcv1 hcv2
            by_cases hx : x9 < (item.length : Int)
            · have c1b : decide (x9 < (item.length : Int)) = true := decide_eq_true hx
              obtain ⟨g, rfl, hcell, hzell, hgb, hset⟩ := HSr.out.cell_out x9 HN.out.1 hx
              have HX8 := Aside0.mk hx
              have HSET := Aside0.mk hset
              have HGB := Aside0.mk hgb
              have p101 := eq_true HN.out.1
              have q101 := eq_true hx
              clear hx hset hgb
              go_wp2
              go_roundg k2
              case measure => omega
              case rel => exact ⟨x9 + 1, _, by rw [IntWalk.wrap64_in _ (by have := HN.out; have := HX8.out; have := HI0.out; omega)], ⟨by have := HN.out; have := HX8.out; omega⟩, ⟨HSET.out _⟩, ⟨below_set HBr.out HGB.out⟩⟩
            · have c1b : decide (x9 < (item.length : Int)) = false := decide_eq_false hx
              clear hx HN
              have HSd := Aside0.mk (HSr.out.below (below_drew1 (Below.refl _ _)))
              have HBd := Aside0.mk (below_drew1 HBr.out)
              have hcv5 := Kd.C_string (P := Try.prog) (c := c1) Try.underlying28 Try.underlying5 Try.underlying9 (Kd.C_below HR1.out HBd.out)
              go_wp2
              go_region_with ((go_at_call 15; refine (Drain_all_St w _ q ⟨more, 300, 0⟩ _ _ li lo 300 (by have := HI1.out; show (more.length : Int) ≤ 300; omega) HBd.out HSd.out (by have := HI1.out; show more.length < 4294967296; omega)).mono ?_; rintro e W9 ⟨A8, c8, rfl, hc, hb⟩; have hcv3 := Kd.C_string (P := Try.prog) (c := c8) Try.underlying28 Try.underlying5 Try.underlying9 hc; have hcv4 := Kd.C_string (P := Try.prog) (c := c1) Try.underlying28 Try.underlying5 Try.underlying9 (Kd.C_below HR1.out hb); have HB9 := Aside0.mk hb; clear hc hb))
              all_goals
                go_wp2
                go_ret
                exact ⟨rfl, HB9.out⟩

theorem Shares_off (A0 : Option Addr) (n0 c0 : Nat) (A1 : Option Addr) (n1 c1 : Nat) (w : World) (h : 100 < n0 ∨ 100 < n1) :
    Calls Try.prog 6 #[.slice A0 n0 c0, .slice A1 n1 c1] w fun e w' => e = .returned (.bool true) ∧ Below w.heap.size w w' := by
  by_cases h0 : 100 < n0
  · have e0 : decide ((100 : Int) < n0) = true := decide_eq_true (by omega)
    clear h h0
    go_enter Try.func6, Try.ntmps6
    go_wp2_with (first | (go_at_call 9; refine (awake_calls w).mono ?_; rintro e W1 ⟨rfl, hb⟩; have HB1 := Aside0.mk hb; clear hb))
    go_ret
    exact ⟨rfl, HB1.out⟩
  · have e0 : decide ((100 : Int) < n0) = false := decide_eq_false (by omega)
    have e1 : decide ((100 : Int) < n1) = true := decide_eq_true (by omega)
    clear h h0
    go_enter Try.func6, Try.ntmps6
    go_wp2_with (first | (go_at_call 9; refine (awake_calls w).mono ?_; rintro e W1 ⟨rfl, hb⟩; have HB1 := Aside0.mk hb; clear hb))
    go_ret
    exact ⟨rfl, HB1.out⟩

/-- The law answers true. -/
def clavierlaw04_QueueShares.f (l0 l1 : List Int) : Option Bool := some true
theorem clavierlaw04_QueueShares.calls (A0 : Option Addr) (c0 : Nat) (l0 : List Int) (A1 : Option Addr) (c1 : Nat) (l1 : List Int) (r : Bool) (w : World) (hr0 : Kd.C (Kd.int .u8) w A0 l0.length l0) (hc0 : l0.length ≤ c0) (hr1 : Kd.C (Kd.int .u8) w A1 l1.length l1) (hc1 : l1.length ≤ c1) (h : clavierlaw04_QueueShares.f l0 l1 = some r) :
    Calls Try.prog 6 #[.slice A0 l0.length c0, .slice A1 l1.length c1] w fun e w' => e = .returned (.bool r) ∧ Below w.heap.size w w' := by
  obtain rfl : true = r := Option.some.inj h
  by_cases h1 : 100 < l0.length ∨ 100 < l1.length
  · exact Shares_off A0 l0.length c0 A1 l1.length c1 w h1
  · exact Shares_main A0 c0 l0 A1 c1 l1 w hr0 hc0 hr1 hc1 (by omega) (by omega)

end Go.Proofs.Ytehnppklfaoikaa.L
