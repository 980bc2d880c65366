-- Written by a program of this session (myprint.py over the kit's printer, some callees given by hand). Lean checks it.
import Derived.Test.YtcjokajnlpcdiaaR0
import Derived.Test.YtcjokajnlpcdiaaR3
namespace Go.Proofs.Ytcjokajnlpcdiaa.R
open Go.Proofs.Ytcjokajnlpcdiaa.H Go.RowKit Go.Proofs.YtcjokajnlpcdiaaW.PrintWords Go.Proofs.YtcjokajnlpcdiaaW.PrintLast Go.Proofs.YtcjokajnlpcdiaaW.PrintMore
attribute [local go_sem] max2_int min2_int max_two min_two max_three min_three max_four min_four   -- for this text's walks alone
set_option linter.unusedVariables false
set_option linter.unusedSimpArgs false

/-! ### clavierref10_May: function 11 -/
def clavierref10_May.j0 : Nat → Bool → Int → Int → Int → Int → Int → ByteArray → Option (Bool)
  | 0, _, _, _, _, _, _, _ => none
  | k + 1, x27, x166000, x166001, x166002, x166003, x166004, x166005 => if x27 = true then (some false) else (if x166003 = 0 then (if x166004 = 0 then ((clavierref10_clean.f x166005).bind fun t171 => (some t171)) else ((clavierref10_text.f k x166004).bind fun t172 => (if t172 = true then ((clavierref10_clean.f x166005).bind fun t173 => (some t173)) else (some false)))) else ((clavierref10_text.f k x166003).bind fun t174 => (if t174 = true then (if x166004 = 0 then ((clavierref10_clean.f x166005).bind fun t175 => (some t175)) else ((clavierref10_text.f k x166004).bind fun t176 => (if t176 = true then ((clavierref10_clean.f x166005).bind fun t177 => (some t177)) else (some false)))) else (some false))))
def clavierref10_May.f (k : Nat) (a0_0 : Int) (a0_1 : Int) (a0_2 : Int) (a0_3 : Int) (a0_4 : Int) (a0_5 : ByteArray) : Option (Bool) := (clavierref09_Look.f k a0_0).bind fun bt166 => (if bt166.1 = 0 then (clavierref10_May.j0 k true a0_0 a0_1 a0_2 a0_3 a0_4 a0_5) else (if a0_1 < 0 then (clavierref10_May.j0 k true a0_0 a0_1 a0_2 a0_3 a0_4 a0_5) else (if a0_1 > 255 then (clavierref10_May.j0 k true a0_0 a0_1 a0_2 a0_3 a0_4 a0_5) else (if a0_2 < 1 then (clavierref10_May.j0 k true a0_0 a0_1 a0_2 a0_3 a0_4 a0_5) else (clavierref10_May.j0 k (decide (a0_2 > 3)) a0_0 a0_1 a0_2 a0_3 a0_4 a0_5)))))
theorem clavierref10_May.mono_l : ∀ k, (∀ y0 y1 y2 y3 y4 y5 y6, LeO (clavierref10_May.j0 k y0 y1 y2 y3 y4 y5 y6) (clavierref10_May.j0 (k + 1) y0 y1 y2 y3 y4 y5 y6))
  | 0 => fun _ _ _ _ _ _ _ r h => by simp [clavierref10_May.j0] at h
  | k + 1 => by
    have ih0 := clavierref10_May.mono_l k
    · intro y0 y1 y2 y3 y4 y5 y6
      unfold clavierref10_May.j0
      repeat' first
      | (with_reducible exact ih0 _ _ _ _ _ _ _)
      | (with_reducible exact clavierref09_Look.mono _ _)
      | (with_reducible exact clavierref10_text.mono _ _)
      | (with_reducible exact LeO.refl _)
      | (with_reducible exact LeO.none _)
      | (with_reducible refine LeO.ite ?_ ?_)
      | (with_reducible refine LeO.bind ?_ (fun _ => ?_))
      | exact ih0 _ _ _ _ _ _ _
      | exact clavierref09_Look.mono _ _
      | exact clavierref10_text.mono _ _
      | exact LeO.none _
      | refine LeO.ite ?_ ?_
      | refine LeO.bind ?_ (fun _ => ?_)
theorem clavierref10_May.mono : ∀ a0 a1 a2 a3 a4 a5 k, LeO (clavierref10_May.f k a0 a1 a2 a3 a4 a5) (clavierref10_May.f (k + 1) a0 a1 a2 a3 a4 a5) := by
  intro a0 a1 a2 a3 a4 a5 k
  have ih0 := clavierref10_May.mono_l k
  unfold clavierref10_May.f
  repeat' first
      | (with_reducible exact ih0 _ _ _ _ _ _ _)
      | (with_reducible exact clavierref09_Look.mono _ _)
      | (with_reducible exact clavierref10_text.mono _ _)
      | (with_reducible exact LeO.refl _)
      | (with_reducible exact LeO.none _)
      | (with_reducible refine LeO.ite ?_ ?_)
      | (with_reducible refine LeO.bind ?_ (fun _ => ?_))
      | exact ih0 _ _ _ _ _ _ _
      | exact clavierref09_Look.mono _ _
      | exact clavierref10_text.mono _ _
      | exact LeO.none _
      | refine LeO.ite ?_ ?_
      | refine LeO.bind ?_ (fun _ => ?_)
set_option maxHeartbeats 8000000 in
set_option maxRecDepth 100000 in
theorem clavierref10_May.calls (k : Nat) (a0_0 : Int) (a0_1 : Int) (a0_2 : Int) (a0_3 : Int) (a0_4 : Int) (a0_5 : ByteArray) (r : Bool) (w : World) (h : clavierref10_May.f k a0_0 a0_1 a0_2 a0_3 a0_4 a0_5 = some r) :
    Calls Try.prog 11 #[.agg #[.int .i64 a0_0, .int .i64 a0_1, .int .i64 a0_2, .int .i64 a0_3, .int .i64 a0_4, .string a0_5]] w fun e w' => e = .returned (.bool r) ∧ Below w.heap.size w w' := by
  have hu23 := Try.underlying23
  have hfd40_0 := field40_0
  have HB := Aside0.mk (Below.refl w.heap.size w)
  have H : ((clavierref09_Look.f k a0_0).bind fun bt166 => (if bt166.1 = 0 then (clavierref10_May.j0 k true a0_0 a0_1 a0_2 a0_3 a0_4 a0_5) else (if a0_1 < 0 then (clavierref10_May.j0 k true a0_0 a0_1 a0_2 a0_3 a0_4 a0_5) else (if a0_1 > 255 then (clavierref10_May.j0 k true a0_0 a0_1 a0_2 a0_3 a0_4 a0_5) else (if a0_2 < 1 then (clavierref10_May.j0 k true a0_0 a0_1 a0_2 a0_3 a0_4 a0_5) else (clavierref10_May.j0 k (decide (a0_2 > 3)) a0_0 a0_1 a0_2 a0_3 a0_4 a0_5)))))) = some r := h
  clear h
  have HC2 := Aside0.mk H
  clear H
  go_enter Try.func11, Try.ntmps11
  go_upto_region 1 with (first | ((with_reducible refine gate_dst (N := 1) rfl ?_); refine box_event ?hg (N := 1) ?hd (cs := #[.int .i64 a0_0, .int .i64 a0_1, .int .i64 a0_2, .int .i64 a0_3, .int .i64 a0_4, .string a0_5]) (t := 23) ?hr ?_; (case hd => rfl); (case hg => rfl); (case hr => first | (go_simp; done) | (go_simp; rfl)); intro gb165 hg w3 hbox hb; have n0_ := Aside0.mk (below_step (by repeat (first | (with_reducible first | exact HB.out | apply below_alloc | apply pw_below_drewN | apply below_drew1) | exact HB.out)) hb); have n1_ := Aside0.mk (hbox); have n2_ := Aside0.mk ((by rw [hg]; exact (below_size (by repeat (first | (with_reducible first | exact HB.out | apply below_alloc | apply pw_below_drewN | apply below_drew1) | exact HB.out))) : w.heap.size ≤ gb165)); have n3_ := Aside0.mk ((by rw [hg]; exact (below_size (by repeat (first | (with_reducible first | exact HB.out | apply below_alloc | apply pw_below_drewN | apply below_drew1) | exact HB.out))) : w.heap.size ≤ gb165)); clear HB; have HB := n0_; have BK165 := n1_; have GW165 := n2_; have GE165 := n3_; clear n0_ n1_ n2_ n3_; clear hb hbox hg))
  (try simp only [Act.put, List.setIfInBounds_toArray, List.set_cons_zero, List.set_cons_succ])
  go_cut [27] (fun v27 wc => ∃ (kq : Nat) (x27_1 : Bool), v27 = .bool x27_1 ∧ Aside0 (clavierref10_May.j0 kq x27_1 a0_0 a0_1 a0_2 a0_3 a0_4 a0_5 = some r) ∧ Aside0 (kq ≤ k) ∧ Aside0 (wc.heap[gb165]? = some (.cells #[.int .i64 a0_0, .int .i64 a0_1, .int .i64 a0_2, .int .i64 a0_3, .int .i64 a0_4, .string a0_5] 23 (0, 0))) ∧ Aside0 (Below w.heap.size w wc))
  case first =>
    have H := HC2.out
    clear HC2
    replace H := Option.bind_eq_some_iff.mp H
    obtain ⟨⟨t166, t167, t168, t169, t170⟩, A40, H⟩ := H
    replace H : (if t166 = 0 then (clavierref10_May.j0 k true a0_0 a0_1 a0_2 a0_3 a0_4 a0_5) else (if a0_1 < 0 then (clavierref10_May.j0 k true a0_0 a0_1 a0_2 a0_3 a0_4 a0_5) else (if a0_1 > 255 then (clavierref10_May.j0 k true a0_0 a0_1 a0_2 a0_3 a0_4 a0_5) else (if a0_2 < 1 then (clavierref10_May.j0 k true a0_0 a0_1 a0_2 a0_3 a0_4 a0_5) else (clavierref10_May.j0 k (decide (a0_2 > 3)) a0_0 a0_1 a0_2 a0_3 a0_4 a0_5))))) = some r := H
    have A4 := Aside0.mk A40
    clear A40
    by_cases c5 : t166 = 0
    · rw [if_pos c5] at H
      have c5b0 : (t166 == 0) = true := beq_iff_eq.mpr c5
      have c5b1 : (t166 != 0) = false := bne_eq_false_iff_eq.mpr c5
      clear c5
      (first | rw [c5b0] | (simp only [i64_w, i32_w]; rw [c5b0]) | skip)
      have H' := Aside0.mk H
      clear H
      have hcz6_0 : w3.cell? ⟨gb165, 0, none⟩ = some (.int .i64 a0_0) := (blk_cell BK165.out 0).trans rfl
      have hcz6_1 : w3.cell? ⟨gb165, 1, none⟩ = some (.int .i64 a0_1) := (blk_cell BK165.out 1).trans rfl
      have hcz6_2 : w3.cell? ⟨gb165, 2, none⟩ = some (.int .i64 a0_2) := (blk_cell BK165.out 2).trans rfl
      have hcz6_3 : w3.cell? ⟨gb165, 3, none⟩ = some (.int .i64 a0_3) := (blk_cell BK165.out 3).trans rfl
      have hcz6_4 : w3.cell? ⟨gb165, 4, none⟩ = some (.int .i64 a0_4) := (blk_cell BK165.out 4).trans rfl
      have hcz6_5 : w3.cell? ⟨gb165, 5, none⟩ = some (.string a0_5) := (blk_cell BK165.out 5).trans rfl
      have hfz6_0 := blk_frozen BK165.out 0
      have hfz6_1 := blk_frozen BK165.out 1
      have hfz6_2 := blk_frozen BK165.out 2
      have hfz6_3 := blk_frozen BK165.out 3
      have hfz6_4 := blk_frozen BK165.out 4
      have hfz6_5 := blk_frozen BK165.out 5
      go_wp2_with (first | ((with_reducible refine gate_callee (f := 25) rfl ?_); refine goesL_ (some 5) rfl rfl Try.func25 (by kernel_rfl) rfl #[.int .i64 a0_0] rfl (by (try simp only [List.map_toArray, List.map_cons, List.map_nil]); first | done | rfl | (simp only [List.length_drop, List.length_take]; rfl)) ?_; (with_reducible refine (clavierref09_Look.calls k a0_0 t166 t167 t168 t169 t170 _ A4.out).mono ?_); rintro e w7 ⟨rfl, hb⟩; refine ⟨_, rfl, ?_⟩; have n0_ := Aside0.mk (blk_below (g := gb165) (o := .cells #[.int .i64 a0_0, .int .i64 a0_1, .int .i64 a0_2, .int .i64 a0_3, .int .i64 a0_4, .string a0_5] 23 (0, 0)) (by (with_reducible repeat (first | refine blk_drewN ?_ _ | refine blk_drew ?_ | refine blk_alloc ?_ _)); exact BK165.out) hb); have n1_ := Aside0.mk (below_step (by repeat (first | (with_reducible first | exact HB.out | apply below_alloc | apply pw_below_drewN | apply below_drew1 | refine below_set ?_ GE165.out) | exact HB.out)) hb); clear BK165; clear HB; have BK165 := n0_; have HB := n1_; clear n0_ n1_; (try clear hb); (try clear hb2); (try clear hk); (try clear hi)))
      go_meet
      case rel => exact ⟨_, (true), (by first | rfl | (simp; done) | (simp [*]; done)), H', ⟨by first | omega | exact Nat.le_refl _⟩, ⟨by (with_reducible repeat (first | refine blk_drewN ?_ _ | refine blk_drew ?_ | refine blk_alloc ?_ _)); exact BK165.out⟩, ⟨by repeat (first | (with_reducible first | exact HB.out | apply below_alloc | apply pw_below_drewN | apply below_drew1 | refine below_set ?_ GE165.out) | exact HB.out)⟩⟩
    · rw [if_neg c5] at H
      have c5b0 : (t166 == 0) = false := beq_eq_false_iff_ne.mpr c5
      have c5b1 : (t166 != 0) = true := bne_iff_ne.mpr c5
      (first | rw [c5b0] | (simp only [i64_w, i32_w]; rw [c5b0]) | skip)
      by_cases c8 : a0_1 < 0
      · rw [if_pos c8] at H
        have c8b0 : decide (a0_1 < 0) = true := decide_eq_true c8
        clear c8
        have H' := Aside0.mk H
        clear H
        have hcz9_0 : w3.cell? ⟨gb165, 0, none⟩ = some (.int .i64 a0_0) := (blk_cell BK165.out 0).trans rfl
        have hcz9_1 : w3.cell? ⟨gb165, 1, none⟩ = some (.int .i64 a0_1) := (blk_cell BK165.out 1).trans rfl
        have hcz9_2 : w3.cell? ⟨gb165, 2, none⟩ = some (.int .i64 a0_2) := (blk_cell BK165.out 2).trans rfl
        have hcz9_3 : w3.cell? ⟨gb165, 3, none⟩ = some (.int .i64 a0_3) := (blk_cell BK165.out 3).trans rfl
        have hcz9_4 : w3.cell? ⟨gb165, 4, none⟩ = some (.int .i64 a0_4) := (blk_cell BK165.out 4).trans rfl
        have hcz9_5 : w3.cell? ⟨gb165, 5, none⟩ = some (.string a0_5) := (blk_cell BK165.out 5).trans rfl
        have hfz9_0 := blk_frozen BK165.out 0
        have hfz9_1 := blk_frozen BK165.out 1
        have hfz9_2 := blk_frozen BK165.out 2
        have hfz9_3 := blk_frozen BK165.out 3
        have hfz9_4 := blk_frozen BK165.out 4
        have hfz9_5 := blk_frozen BK165.out 5
        go_wp2_with (first | ((with_reducible refine gate_callee (f := 25) rfl ?_); refine goesL_ (some 5) rfl rfl Try.func25 (by kernel_rfl) rfl #[.int .i64 a0_0] rfl (by (try simp only [List.map_toArray, List.map_cons, List.map_nil]); first | done | rfl | (simp only [List.length_drop, List.length_take]; rfl)) ?_; (with_reducible refine (clavierref09_Look.calls k a0_0 t166 t167 t168 t169 t170 _ A4.out).mono ?_); rintro e w10 ⟨rfl, hb⟩; refine ⟨_, rfl, ?_⟩; have n0_ := Aside0.mk (blk_below (g := gb165) (o := .cells #[.int .i64 a0_0, .int .i64 a0_1, .int .i64 a0_2, .int .i64 a0_3, .int .i64 a0_4, .string a0_5] 23 (0, 0)) (by (with_reducible repeat (first | refine blk_drewN ?_ _ | refine blk_drew ?_ | refine blk_alloc ?_ _)); exact BK165.out) hb); have n1_ := Aside0.mk (below_step (by repeat (first | (with_reducible first | exact HB.out | apply below_alloc | apply pw_below_drewN | apply below_drew1 | refine below_set ?_ GE165.out) | exact HB.out)) hb); clear BK165; clear HB; have BK165 := n0_; have HB := n1_; clear n0_ n1_; (try clear hb); (try clear hb2); (try clear hk); (try clear hi); have hcz11_0 : w10.cell? ⟨gb165, 0, none⟩ = some (.int .i64 a0_0) := (blk_cell BK165.out 0).trans rfl; have hcz11_1 : w10.cell? ⟨gb165, 1, none⟩ = some (.int .i64 a0_1) := (blk_cell BK165.out 1).trans rfl; have hcz11_2 : w10.cell? ⟨gb165, 2, none⟩ = some (.int .i64 a0_2) := (blk_cell BK165.out 2).trans rfl; have hcz11_3 : w10.cell? ⟨gb165, 3, none⟩ = some (.int .i64 a0_3) := (blk_cell BK165.out 3).trans rfl; have hcz11_4 : w10.cell? ⟨gb165, 4, none⟩ = some (.int .i64 a0_4) := (blk_cell BK165.out 4).trans rfl; have hcz11_5 : w10.cell? ⟨gb165, 5, none⟩ = some (.string a0_5) := (blk_cell BK165.out 5).trans rfl; have hfz11_0 := blk_frozen BK165.out 0; have hfz11_1 := blk_frozen BK165.out 1; have hfz11_2 := blk_frozen BK165.out 2; have hfz11_3 := blk_frozen BK165.out 3; have hfz11_4 := blk_frozen BK165.out 4; have hfz11_5 := blk_frozen BK165.out 5))
        go_meet
        case rel => exact ⟨_, (true), (by first | rfl | (simp; done) | (simp [*]; done)), H', ⟨by first | omega | exact Nat.le_refl _⟩, ⟨by (with_reducible repeat (first | refine blk_drewN ?_ _ | refine blk_drew ?_ | refine blk_alloc ?_ _)); exact BK165.out⟩, ⟨by repeat (first | (with_reducible first | exact HB.out | apply below_alloc | apply pw_below_drewN | apply below_drew1 | refine below_set ?_ GE165.out) | exact HB.out)⟩⟩
      · rw [if_neg c8] at H
        have c8b0 : decide (a0_1 < 0) = false := decide_eq_false c8
        clear c8
        by_cases c12 : a0_1 > 255
        · rw [if_pos c12] at H
          have c12b0 : decide (255 < a0_1) = true := decide_eq_true c12
          clear c12
          have H' := Aside0.mk H
          clear H
          have hcz13_0 : w3.cell? ⟨gb165, 0, none⟩ = some (.int .i64 a0_0) := (blk_cell BK165.out 0).trans rfl
          have hcz13_1 : w3.cell? ⟨gb165, 1, none⟩ = some (.int .i64 a0_1) := (blk_cell BK165.out 1).trans rfl
          have hcz13_2 : w3.cell? ⟨gb165, 2, none⟩ = some (.int .i64 a0_2) := (blk_cell BK165.out 2).trans rfl
          have hcz13_3 : w3.cell? ⟨gb165, 3, none⟩ = some (.int .i64 a0_3) := (blk_cell BK165.out 3).trans rfl
          have hcz13_4 : w3.cell? ⟨gb165, 4, none⟩ = some (.int .i64 a0_4) := (blk_cell BK165.out 4).trans rfl
          have hcz13_5 : w3.cell? ⟨gb165, 5, none⟩ = some (.string a0_5) := (blk_cell BK165.out 5).trans rfl
          have hfz13_0 := blk_frozen BK165.out 0
          have hfz13_1 := blk_frozen BK165.out 1
          have hfz13_2 := blk_frozen BK165.out 2
          have hfz13_3 := blk_frozen BK165.out 3
          have hfz13_4 := blk_frozen BK165.out 4
          have hfz13_5 := blk_frozen BK165.out 5
          go_wp2_with (first | ((with_reducible refine gate_callee (f := 25) rfl ?_); refine goesL_ (some 5) rfl rfl Try.func25 (by kernel_rfl) rfl #[.int .i64 a0_0] rfl (by (try simp only [List.map_toArray, List.map_cons, List.map_nil]); first | done | rfl | (simp only [List.length_drop, List.length_take]; rfl)) ?_; (with_reducible refine (clavierref09_Look.calls k a0_0 t166 t167 t168 t169 t170 _ A4.out).mono ?_); rintro e w14 ⟨rfl, hb⟩; refine ⟨_, rfl, ?_⟩; have n0_ := Aside0.mk (blk_below (g := gb165) (o := .cells #[.int .i64 a0_0, .int .i64 a0_1, .int .i64 a0_2, .int .i64 a0_3, .int .i64 a0_4, .string a0_5] 23 (0, 0)) (by (with_reducible repeat (first | refine blk_drewN ?_ _ | refine blk_drew ?_ | refine blk_alloc ?_ _)); exact BK165.out) hb); have n1_ := Aside0.mk (below_step (by repeat (first | (with_reducible first | exact HB.out | apply below_alloc | apply pw_below_drewN | apply below_drew1 | refine below_set ?_ GE165.out) | exact HB.out)) hb); clear BK165; clear HB; have BK165 := n0_; have HB := n1_; clear n0_ n1_; (try clear hb); (try clear hb2); (try clear hk); (try clear hi); have hcz15_0 : w14.cell? ⟨gb165, 0, none⟩ = some (.int .i64 a0_0) := (blk_cell BK165.out 0).trans rfl; have hcz15_1 : w14.cell? ⟨gb165, 1, none⟩ = some (.int .i64 a0_1) := (blk_cell BK165.out 1).trans rfl; have hcz15_2 : w14.cell? ⟨gb165, 2, none⟩ = some (.int .i64 a0_2) := (blk_cell BK165.out 2).trans rfl; have hcz15_3 : w14.cell? ⟨gb165, 3, none⟩ = some (.int .i64 a0_3) := (blk_cell BK165.out 3).trans rfl; have hcz15_4 : w14.cell? ⟨gb165, 4, none⟩ = some (.int .i64 a0_4) := (blk_cell BK165.out 4).trans rfl; have hcz15_5 : w14.cell? ⟨gb165, 5, none⟩ = some (.string a0_5) := (blk_cell BK165.out 5).trans rfl; have hfz15_0 := blk_frozen BK165.out 0; have hfz15_1 := blk_frozen BK165.out 1; have hfz15_2 := blk_frozen BK165.out 2; have hfz15_3 := blk_frozen BK165.out 3; have hfz15_4 := blk_frozen BK165.out 4; have hfz15_5 := blk_frozen BK165.out 5))
          go_meet
          case rel => exact ⟨_, (true), (by first | rfl | (simp; done) | (simp [*]; done)), H', ⟨by first | omega | exact Nat.le_refl _⟩, ⟨by (with_reducible repeat (first | refine blk_drewN ?_ _ | refine blk_drew ?_ | refine blk_alloc ?_ _)); exact BK165.out⟩, ⟨by repeat (first | (with_reducible first | exact HB.out | apply below_alloc | apply pw_below_drewN | apply below_drew1 | refine below_set ?_ GE165.out) | exact HB.out)⟩⟩
        · rw [if_neg c12] at H
          have c12b0 : decide (255 < a0_1) = false := decide_eq_false c12
          clear c12
          by_cases c16 : a0_2 < 1
          · rw [if_pos c16] at H
            have c16b0 : decide (a0_2 < 1) = true := decide_eq_true c16
            clear c16
            have H' := Aside0.mk H
            clear H
            have hcz17_0 : w3.cell? ⟨gb165, 0, none⟩ = some (.int .i64 a0_0) := (blk_cell BK165.out 0).trans rfl
            have hcz17_1 : w3.cell? ⟨gb165, 1, none⟩ = some (.int .i64 a0_1) := (blk_cell BK165.out 1).trans rfl
            have hcz17_2 : w3.cell? ⟨gb165, 2, none⟩ = some (.int .i64 a0_2) := (blk_cell BK165.out 2).trans rfl
            have hcz17_3 : w3.cell? ⟨gb165, 3, none⟩ = some (.int .i64 a0_3) := (blk_cell BK165.out 3).trans rfl
            have hcz17_4 : w3.cell? ⟨gb165, 4, none⟩ = some (.int .i64 a0_4) := (blk_cell BK165.out 4).trans rfl
            have hcz17_5 : w3.cell? ⟨gb165, 5, none⟩ = some (.string a0_5) := (blk_cell BK165.out 5).trans rfl
            have hfz17_0 := blk_frozen BK165.out 0
            have hfz17_1 := blk_frozen BK165.out 1
            have hfz17_2 := blk_frozen BK165.out 2
            have hfz17_3 := blk_frozen BK165.out 3
            have hfz17_4 := blk_frozen BK165.out 4
            have hfz17_5 := blk_frozen BK165.out 5
            go_wp2_with (first | ((with_reducible refine gate_callee (f := 25) rfl ?_); refine goesL_ (some 5) rfl rfl Try.func25 (by kernel_rfl) rfl #[.int .i64 a0_0] rfl (by (try simp only [List.map_toArray, List.map_cons, List.map_nil]); first | done | rfl | (simp only [List.length_drop, List.length_take]; rfl)) ?_; (with_reducible refine (clavierref09_Look.calls k a0_0 t166 t167 t168 t169 t170 _ A4.out).mono ?_); rintro e w18 ⟨rfl, hb⟩; refine ⟨_, rfl, ?_⟩; have n0_ := Aside0.mk (blk_below (g := gb165) (o := .cells #[.int .i64 a0_0, .int .i64 a0_1, .int .i64 a0_2, .int .i64 a0_3, .int .i64 a0_4, .string a0_5] 23 (0, 0)) (by (with_reducible repeat (first | refine blk_drewN ?_ _ | refine blk_drew ?_ | refine blk_alloc ?_ _)); exact BK165.out) hb); have n1_ := Aside0.mk (below_step (by repeat (first | (with_reducible first | exact HB.out | apply below_alloc | apply pw_below_drewN | apply below_drew1 | refine below_set ?_ GE165.out) | exact HB.out)) hb); clear BK165; clear HB; have BK165 := n0_; have HB := n1_; clear n0_ n1_; (try clear hb); (try clear hb2); (try clear hk); (try clear hi); have hcz19_0 : w18.cell? ⟨gb165, 0, none⟩ = some (.int .i64 a0_0) := (blk_cell BK165.out 0).trans rfl; have hcz19_1 : w18.cell? ⟨gb165, 1, none⟩ = some (.int .i64 a0_1) := (blk_cell BK165.out 1).trans rfl; have hcz19_2 : w18.cell? ⟨gb165, 2, none⟩ = some (.int .i64 a0_2) := (blk_cell BK165.out 2).trans rfl; have hcz19_3 : w18.cell? ⟨gb165, 3, none⟩ = some (.int .i64 a0_3) := (blk_cell BK165.out 3).trans rfl; have hcz19_4 : w18.cell? ⟨gb165, 4, none⟩ = some (.int .i64 a0_4) := (blk_cell BK165.out 4).trans rfl; have hcz19_5 : w18.cell? ⟨gb165, 5, none⟩ = some (.string a0_5) := (blk_cell BK165.out 5).trans rfl; have hfz19_0 := blk_frozen BK165.out 0; have hfz19_1 := blk_frozen BK165.out 1; have hfz19_2 := blk_frozen BK165.out 2; have hfz19_3 := blk_frozen BK165.out 3; have hfz19_4 := blk_frozen BK165.out 4; have hfz19_5 := blk_frozen BK165.out 5))
            go_meet
            case rel => exact ⟨_, (true), (by first | rfl | (simp; done) | (simp [*]; done)), H', ⟨by first | omega | exact Nat.le_refl _⟩, ⟨by (with_reducible repeat (first | refine blk_drewN ?_ _ | refine blk_drew ?_ | refine blk_alloc ?_ _)); exact BK165.out⟩, ⟨by repeat (first | (with_reducible first | exact HB.out | apply below_alloc | apply pw_below_drewN | apply below_drew1 | refine below_set ?_ GE165.out) | exact HB.out)⟩⟩
          · rw [if_neg c16] at H
            have c16b0 : decide (a0_2 < 1) = false := decide_eq_false c16
            clear c16
            have H' := Aside0.mk H
            clear H
            have hcz20_0 : w3.cell? ⟨gb165, 0, none⟩ = some (.int .i64 a0_0) := (blk_cell BK165.out 0).trans rfl
            have hcz20_1 : w3.cell? ⟨gb165, 1, none⟩ = some (.int .i64 a0_1) := (blk_cell BK165.out 1).trans rfl
            have hcz20_2 : w3.cell? ⟨gb165, 2, none⟩ = some (.int .i64 a0_2) := (blk_cell BK165.out 2).trans rfl
            have hcz20_3 : w3.cell? ⟨gb165, 3, none⟩ = some (.int .i64 a0_3) := (blk_cell BK165.out 3).trans rfl
            have hcz20_4 : w3.cell? ⟨gb165, 4, none⟩ = some (.int .i64 a0_4) := (blk_cell BK165.out 4).trans rfl
            have hcz20_5 : w3.cell? ⟨gb165, 5, none⟩ = some (.string a0_5) := (blk_cell BK165.out 5).trans rfl
            have hfz20_0 := blk_frozen BK165.out 0
            have hfz20_1 := blk_frozen BK165.out 1
            have hfz20_2 := blk_frozen BK165.out 2
            have hfz20_3 := blk_frozen BK165.out 3
            have hfz20_4 := blk_frozen BK165.out 4
            have hfz20_5 := blk_frozen BK165.out 5
            go_wp2_with (first | ((with_reducible refine gate_callee (f := 25) rfl ?_); refine goesL_ (some 5) rfl rfl Try.func25 (by kernel_rfl) rfl #[.int .i64 a0_0] rfl (by (try simp only [List.map_toArray, List.map_cons, List.map_nil]); first | done | rfl | (simp only [List.length_drop, List.length_take]; rfl)) ?_; (with_reducible refine (clavierref09_Look.calls k a0_0 t166 t167 t168 t169 t170 _ A4.out).mono ?_); rintro e w21 ⟨rfl, hb⟩; refine ⟨_, rfl, ?_⟩; have n0_ := Aside0.mk (blk_below (g := gb165) (o := .cells #[.int .i64 a0_0, .int .i64 a0_1, .int .i64 a0_2, .int .i64 a0_3, .int .i64 a0_4, .string a0_5] 23 (0, 0)) (by (with_reducible repeat (first | refine blk_drewN ?_ _ | refine blk_drew ?_ | refine blk_alloc ?_ _)); exact BK165.out) hb); have n1_ := Aside0.mk (below_step (by repeat (first | (with_reducible first | exact HB.out | apply below_alloc | apply pw_below_drewN | apply below_drew1 | refine below_set ?_ GE165.out) | exact HB.out)) hb); clear BK165; clear HB; have BK165 := n0_; have HB := n1_; clear n0_ n1_; (try clear hb); (try clear hb2); (try clear hk); (try clear hi); have hcz22_0 : w21.cell? ⟨gb165, 0, none⟩ = some (.int .i64 a0_0) := (blk_cell BK165.out 0).trans rfl; have hcz22_1 : w21.cell? ⟨gb165, 1, none⟩ = some (.int .i64 a0_1) := (blk_cell BK165.out 1).trans rfl; have hcz22_2 : w21.cell? ⟨gb165, 2, none⟩ = some (.int .i64 a0_2) := (blk_cell BK165.out 2).trans rfl; have hcz22_3 : w21.cell? ⟨gb165, 3, none⟩ = some (.int .i64 a0_3) := (blk_cell BK165.out 3).trans rfl; have hcz22_4 : w21.cell? ⟨gb165, 4, none⟩ = some (.int .i64 a0_4) := (blk_cell BK165.out 4).trans rfl; have hcz22_5 : w21.cell? ⟨gb165, 5, none⟩ = some (.string a0_5) := (blk_cell BK165.out 5).trans rfl; have hfz22_0 := blk_frozen BK165.out 0; have hfz22_1 := blk_frozen BK165.out 1; have hfz22_2 := blk_frozen BK165.out 2; have hfz22_3 := blk_frozen BK165.out 3; have hfz22_4 := blk_frozen BK165.out 4; have hfz22_5 := blk_frozen BK165.out 5))
            go_meet
            case rel => exact ⟨_, (decide (a0_2 > 3)), (by first | rfl | (simp; done) | (simp [*]; done)), H', ⟨by first | omega | exact Nat.le_refl _⟩, ⟨by (with_reducible repeat (first | refine blk_drewN ?_ _ | refine blk_drew ?_ | refine blk_alloc ?_ _)); exact BK165.out⟩, ⟨by repeat (first | (with_reducible first | exact HB.out | apply below_alloc | apply pw_below_drewN | apply below_drew1 | refine below_set ?_ GE165.out) | exact HB.out)⟩⟩
  case rest =>
    clear HC2
    try clear c1
    try clear c2
    try clear p2
    try clear c5
    try clear c5b0
    try clear c5b1
    try clear c8
    try clear c8b0
    try clear c11
    try clear c12
    try clear c12b0
    try clear c16
    try clear c16b0
    try clear hcz11_0
    try clear hcz11_1
    try clear hcz11_2
    try clear hcz11_3
    try clear hcz11_4
    try clear hcz11_5
    try clear hcz13_0
    try clear hcz13_1
    try clear hcz13_2
    try clear hcz13_3
    try clear hcz13_4
    try clear hcz13_5
    try clear hcz15_0
    try clear hcz15_1
    try clear hcz15_2
    try clear hcz15_3
    try clear hcz15_4
    try clear hcz15_5
    try clear hcz17_0
    try clear hcz17_1
    try clear hcz17_2
    try clear hcz17_3
    try clear hcz17_4
    try clear hcz17_5
    try clear hcz19_0
    try clear hcz19_1
    try clear hcz19_2
    try clear hcz19_3
    try clear hcz19_4
    try clear hcz19_5
    try clear hcz20_0
    try clear hcz20_1
    try clear hcz20_2
    try clear hcz20_3
    try clear hcz20_4
    try clear hcz20_5
    try clear hcz22_0
    try clear hcz22_1
    try clear hcz22_2
    try clear hcz22_3
    try clear hcz22_4
    try clear hcz22_5
    try clear hcz6_0
    try clear hcz6_1
    try clear hcz6_2
    try clear hcz6_3
    try clear hcz6_4
    try clear hcz6_5
    try clear hcz9_0
    try clear hcz9_1
    try clear hcz9_2
    try clear hcz9_3
    try clear hcz9_4
    try clear hcz9_5
    try clear hfz11_0
    try clear hfz11_1
    try clear hfz11_2
    try clear hfz11_3
    try clear hfz11_4
    try clear hfz11_5
    try clear hfz13_0
    try clear hfz13_1
    try clear hfz13_2
    try clear hfz13_3
    try clear hfz13_4
    try clear hfz13_5
    try clear hfz15_0
    try clear hfz15_1
    try clear hfz15_2
    try clear hfz15_3
    try clear hfz15_4
    try clear hfz15_5
    try clear hfz17_0
    try clear hfz17_1
    try clear hfz17_2
    try clear hfz17_3
    try clear hfz17_4
    try clear hfz17_5
    try clear hfz19_0
    try clear hfz19_1
    try clear hfz19_2
    try clear hfz19_3
    try clear hfz19_4
    try clear hfz19_5
    try clear hfz20_0
    try clear hfz20_1
    try clear hfz20_2
    try clear hfz20_3
    try clear hfz20_4
    try clear hfz20_5
    try clear hfz22_0
    try clear hfz22_1
    try clear hfz22_2
    try clear hfz22_3
    try clear hfz22_4
    try clear hfz22_5
    try clear hfz6_0
    try clear hfz6_1
    try clear hfz6_2
    try clear hfz6_3
    try clear hfz6_4
    try clear hfz6_5
    try clear hfz9_0
    try clear hfz9_1
    try clear hfz9_2
    try clear hfz9_3
    try clear hfz9_4
    try clear hfz9_5
    obtain ⟨kq, x27_1, rfl, HA, HJ1, BK165, HB⟩ := hcut
    cases kq with
    | zero => exact absurd HA.out (by simp [clavierref10_May.j0])
    | succ kj1 =>
      have H := HA.out
      clear HA
      simp only [clavierref10_May.j0] at H
      by_cases c23 : x27_1 = true
      · subst c23
        have H1 : (some false) = some r := by rw [if_pos rfl] at H; exact H
        clear H
        have H := H1
        clear H1
        obtain rfl := Option.some.inj H
        go_wp2
        go_ret
        exact ⟨by first | rfl | (simp [errW_none, errW_some] <;> rfl) | (simp [*, errW_none, errW_some] <;> rfl), by repeat (first | (with_reducible first | exact HB.out | apply below_alloc | apply pw_below_drewN | apply below_drew1 | refine below_set ?_ GE165.out) | exact HB.out)⟩
      · replace c23 := Bool.eq_false_iff.mpr c23
        subst c23
        have H1 : (if a0_3 = 0 then (if a0_4 = 0 then ((clavierref10_clean.f a0_5).bind fun t171 => (some t171)) else ((clavierref10_text.f kj1 a0_4).bind fun t172 => (if t172 = true then ((clavierref10_clean.f a0_5).bind fun t173 => (some t173)) else (some false)))) else ((clavierref10_text.f kj1 a0_3).bind fun t174 => (if t174 = true then (if a0_4 = 0 then ((clavierref10_clean.f a0_5).bind fun t175 => (some t175)) else ((clavierref10_text.f kj1 a0_4).bind fun t176 => (if t176 = true then ((clavierref10_clean.f a0_5).bind fun t177 => (some t177)) else (some false)))) else (some false)))) = some r := by rw [if_neg (show ¬ (false = true) by decide)] at H; exact H
        clear H
        have H := H1
        clear H1
        by_cases c24 : a0_3 = 0
        · rw [if_pos c24] at H
          have c24b0 : (a0_3 == 0) = true := beq_iff_eq.mpr c24
          have c24b1 : (a0_3 != 0) = false := bne_eq_false_iff_eq.mpr c24
          clear c24
          by_cases c25 : a0_4 = 0
          · rw [if_pos c25] at H
            have c25b0 : (a0_4 == 0) = true := beq_iff_eq.mpr c25
            have c25b1 : (a0_4 != 0) = false := bne_eq_false_iff_eq.mpr c25
            clear c25
            replace H := Option.bind_eq_some_iff.mp H
            obtain ⟨t171, A260, H⟩ := H
            replace H : (some t171) = some r := H
            have A26 := Aside0.mk A260
            clear A260
            obtain rfl := Option.some.inj H
            have hcz27_0 : wc.cell? ⟨gb165, 0, none⟩ = some (.int .i64 a0_0) := (blk_cell BK165.out 0).trans rfl
            have hcz27_1 : wc.cell? ⟨gb165, 1, none⟩ = some (.int .i64 a0_1) := (blk_cell BK165.out 1).trans rfl
            have hcz27_2 : wc.cell? ⟨gb165, 2, none⟩ = some (.int .i64 a0_2) := (blk_cell BK165.out 2).trans rfl
            have hcz27_3 : wc.cell? ⟨gb165, 3, none⟩ = some (.int .i64 a0_3) := (blk_cell BK165.out 3).trans rfl
            have hcz27_4 : wc.cell? ⟨gb165, 4, none⟩ = some (.int .i64 a0_4) := (blk_cell BK165.out 4).trans rfl
            have hcz27_5 : wc.cell? ⟨gb165, 5, none⟩ = some (.string a0_5) := (blk_cell BK165.out 5).trans rfl
            have hfz27_0 := blk_frozen BK165.out 0
            have hfz27_1 := blk_frozen BK165.out 1
            have hfz27_2 := blk_frozen BK165.out 2
            have hfz27_3 := blk_frozen BK165.out 3
            have hfz27_4 := blk_frozen BK165.out 4
            have hfz27_5 := blk_frozen BK165.out 5
            go_wp2_with (first | (go_at_call 27; (with_reducible refine (clavierref10_clean.calls a0_5 t171 _ A26.out).mono ?_); rintro e w28 ⟨rfl, hb⟩; have n0_ := Aside0.mk (blk_below (g := gb165) (o := .cells #[.int .i64 a0_0, .int .i64 a0_1, .int .i64 a0_2, .int .i64 a0_3, .int .i64 a0_4, .string a0_5] 23 (0, 0)) (by (with_reducible repeat (first | refine blk_drewN ?_ _ | refine blk_drew ?_ | refine blk_alloc ?_ _)); exact BK165.out) hb); have n1_ := Aside0.mk (below_step (by repeat (first | (with_reducible first | exact HB.out | apply below_alloc | apply pw_below_drewN | apply below_drew1 | refine below_set ?_ GE165.out) | exact HB.out)) hb); clear BK165; clear HB; have BK165 := n0_; have HB := n1_; clear n0_ n1_; (try clear hb); (try clear hb2); (try clear hk); (try clear hi)))
            go_ret
            exact ⟨by first | rfl | (simp [errW_none, errW_some] <;> rfl) | (simp [*, errW_none, errW_some] <;> rfl), by repeat (first | (with_reducible first | exact HB.out | apply below_alloc | apply pw_below_drewN | apply below_drew1 | refine below_set ?_ GE165.out) | exact HB.out)⟩
          · rw [if_neg c25] at H
            have c25b0 : (a0_4 == 0) = false := beq_eq_false_iff_ne.mpr c25
            have c25b1 : (a0_4 != 0) = true := bne_iff_ne.mpr c25
            replace H := Option.bind_eq_some_iff.mp H
            obtain ⟨t172, A290, H⟩ := H
            replace H : (if t172 = true then ((clavierref10_clean.f a0_5).bind fun t173 => (some t173)) else (some false)) = some r := H
            have A29 := Aside0.mk A290
            clear A290
            by_cases c30 : t172 = true
            · subst c30
              have H1 : ((clavierref10_clean.f a0_5).bind fun t173 => (some t173)) = some r := by rw [if_pos rfl] at H; exact H
              clear H
              have H := H1
              clear H1
              replace H := Option.bind_eq_some_iff.mp H
              obtain ⟨t173, A310, H⟩ := H
              replace H : (some t173) = some r := H
              have A31 := Aside0.mk A310
              clear A310
              obtain rfl := Option.some.inj H
              have hcz32_0 : wc.cell? ⟨gb165, 0, none⟩ = some (.int .i64 a0_0) := (blk_cell BK165.out 0).trans rfl
              have hcz32_1 : wc.cell? ⟨gb165, 1, none⟩ = some (.int .i64 a0_1) := (blk_cell BK165.out 1).trans rfl
              have hcz32_2 : wc.cell? ⟨gb165, 2, none⟩ = some (.int .i64 a0_2) := (blk_cell BK165.out 2).trans rfl
              have hcz32_3 : wc.cell? ⟨gb165, 3, none⟩ = some (.int .i64 a0_3) := (blk_cell BK165.out 3).trans rfl
              have hcz32_4 : wc.cell? ⟨gb165, 4, none⟩ = some (.int .i64 a0_4) := (blk_cell BK165.out 4).trans rfl
              have hcz32_5 : wc.cell? ⟨gb165, 5, none⟩ = some (.string a0_5) := (blk_cell BK165.out 5).trans rfl
              have hfz32_0 := blk_frozen BK165.out 0
              have hfz32_1 := blk_frozen BK165.out 1
              have hfz32_2 := blk_frozen BK165.out 2
              have hfz32_3 := blk_frozen BK165.out 3
              have hfz32_4 := blk_frozen BK165.out 4
              have hfz32_5 := blk_frozen BK165.out 5
              go_wp2_with (first | (go_at_call 26; (with_reducible refine (clavierref10_text.calls kj1 a0_4 true _ A29.out).mono ?_); rintro e w33 ⟨rfl, hb⟩; have n0_ := Aside0.mk (blk_below (g := gb165) (o := .cells #[.int .i64 a0_0, .int .i64 a0_1, .int .i64 a0_2, .int .i64 a0_3, .int .i64 a0_4, .string a0_5] 23 (0, 0)) (by (with_reducible repeat (first | refine blk_drewN ?_ _ | refine blk_drew ?_ | refine blk_alloc ?_ _)); exact BK165.out) hb); have n1_ := Aside0.mk (below_step (by repeat (first | (with_reducible first | exact HB.out | apply below_alloc | apply pw_below_drewN | apply below_drew1 | refine below_set ?_ GE165.out) | exact HB.out)) hb); clear BK165; clear HB; have BK165 := n0_; have HB := n1_; clear n0_ n1_; (try clear hb); (try clear hb2); (try clear hk); (try clear hi); have hcz34_0 : w33.cell? ⟨gb165, 0, none⟩ = some (.int .i64 a0_0) := (blk_cell BK165.out 0).trans rfl; have hcz34_1 : w33.cell? ⟨gb165, 1, none⟩ = some (.int .i64 a0_1) := (blk_cell BK165.out 1).trans rfl; have hcz34_2 : w33.cell? ⟨gb165, 2, none⟩ = some (.int .i64 a0_2) := (blk_cell BK165.out 2).trans rfl; have hcz34_3 : w33.cell? ⟨gb165, 3, none⟩ = some (.int .i64 a0_3) := (blk_cell BK165.out 3).trans rfl; have hcz34_4 : w33.cell? ⟨gb165, 4, none⟩ = some (.int .i64 a0_4) := (blk_cell BK165.out 4).trans rfl; have hcz34_5 : w33.cell? ⟨gb165, 5, none⟩ = some (.string a0_5) := (blk_cell BK165.out 5).trans rfl; have hfz34_0 := blk_frozen BK165.out 0; have hfz34_1 := blk_frozen BK165.out 1; have hfz34_2 := blk_frozen BK165.out 2; have hfz34_3 := blk_frozen BK165.out 3; have hfz34_4 := blk_frozen BK165.out 4; have hfz34_5 := blk_frozen BK165.out 5) | (go_at_call 27; (with_reducible refine (clavierref10_clean.calls a0_5 t173 _ A31.out).mono ?_); rintro e w35 ⟨rfl, hb⟩; have n0_ := Aside0.mk (blk_below (g := gb165) (o := .cells #[.int .i64 a0_0, .int .i64 a0_1, .int .i64 a0_2, .int .i64 a0_3, .int .i64 a0_4, .string a0_5] 23 (0, 0)) (by (with_reducible repeat (first | refine blk_drewN ?_ _ | refine blk_drew ?_ | refine blk_alloc ?_ _)); exact BK165.out) hb); have n1_ := Aside0.mk (below_step (by repeat (first | (with_reducible first | exact HB.out | apply below_alloc | apply pw_below_drewN | apply below_drew1 | refine below_set ?_ GE165.out) | exact HB.out)) hb); clear BK165; clear HB; have BK165 := n0_; have HB := n1_; clear n0_ n1_; (try clear hb); (try clear hb2); (try clear hk); (try clear hi)))
              go_ret
              exact ⟨by first | rfl | (simp [errW_none, errW_some] <;> rfl) | (simp [*, errW_none, errW_some] <;> rfl), by repeat (first | (with_reducible first | exact HB.out | apply below_alloc | apply pw_below_drewN | apply below_drew1 | refine below_set ?_ GE165.out) | exact HB.out)⟩
            · replace c30 := Bool.eq_false_iff.mpr c30
              subst c30
              have H1 : (some false) = some r := by rw [if_neg (show ¬ (false = true) by decide)] at H; exact H
              clear H
              have H := H1
              clear H1
              obtain rfl := Option.some.inj H
              have hcz36_0 : wc.cell? ⟨gb165, 0, none⟩ = some (.int .i64 a0_0) := (blk_cell BK165.out 0).trans rfl
              have hcz36_1 : wc.cell? ⟨gb165, 1, none⟩ = some (.int .i64 a0_1) := (blk_cell BK165.out 1).trans rfl
              have hcz36_2 : wc.cell? ⟨gb165, 2, none⟩ = some (.int .i64 a0_2) := (blk_cell BK165.out 2).trans rfl
              have hcz36_3 : wc.cell? ⟨gb165, 3, none⟩ = some (.int .i64 a0_3) := (blk_cell BK165.out 3).trans rfl
              have hcz36_4 : wc.cell? ⟨gb165, 4, none⟩ = some (.int .i64 a0_4) := (blk_cell BK165.out 4).trans rfl
              have hcz36_5 : wc.cell? ⟨gb165, 5, none⟩ = some (.string a0_5) := (blk_cell BK165.out 5).trans rfl
              have hfz36_0 := blk_frozen BK165.out 0
              have hfz36_1 := blk_frozen BK165.out 1
              have hfz36_2 := blk_frozen BK165.out 2
              have hfz36_3 := blk_frozen BK165.out 3
              have hfz36_4 := blk_frozen BK165.out 4
              have hfz36_5 := blk_frozen BK165.out 5
              go_wp2_with (first | (go_at_call 26; (with_reducible refine (clavierref10_text.calls kj1 a0_4 false _ A29.out).mono ?_); rintro e w37 ⟨rfl, hb⟩; have n0_ := Aside0.mk (blk_below (g := gb165) (o := .cells #[.int .i64 a0_0, .int .i64 a0_1, .int .i64 a0_2, .int .i64 a0_3, .int .i64 a0_4, .string a0_5] 23 (0, 0)) (by (with_reducible repeat (first | refine blk_drewN ?_ _ | refine blk_drew ?_ | refine blk_alloc ?_ _)); exact BK165.out) hb); have n1_ := Aside0.mk (below_step (by repeat (first | (with_reducible first | exact HB.out | apply below_alloc | apply pw_below_drewN | apply below_drew1 | refine below_set ?_ GE165.out) | exact HB.out)) hb); clear BK165; clear HB; have BK165 := n0_; have HB := n1_; clear n0_ n1_; (try clear hb); (try clear hb2); (try clear hk); (try clear hi)))
              go_ret
              exact ⟨by first | rfl | (simp [errW_none, errW_some] <;> rfl) | (simp [*, errW_none, errW_some] <;> rfl), by repeat (first | (with_reducible first | exact HB.out | apply below_alloc | apply pw_below_drewN | apply below_drew1 | refine below_set ?_ GE165.out) | exact HB.out)⟩
        · rw [if_neg c24] at H
          have c24b0 : (a0_3 == 0) = false := beq_eq_false_iff_ne.mpr c24
          have c24b1 : (a0_3 != 0) = true := bne_iff_ne.mpr c24
          replace H := Option.bind_eq_some_iff.mp H
          obtain ⟨t174, A380, H⟩ := H
          replace H : (if t174 = true then (if a0_4 = 0 then ((clavierref10_clean.f a0_5).bind fun t175 => (some t175)) else ((clavierref10_text.f kj1 a0_4).bind fun t176 => (if t176 = true then ((clavierref10_clean.f a0_5).bind fun t177 => (some t177)) else (some false)))) else (some false)) = some r := H
          have A38 := Aside0.mk A380
          clear A380
          by_cases c39 : t174 = true
          · subst c39
            have H1 : (if a0_4 = 0 then ((clavierref10_clean.f a0_5).bind fun t175 => (some t175)) else ((clavierref10_text.f kj1 a0_4).bind fun t176 => (if t176 = true then ((clavierref10_clean.f a0_5).bind fun t177 => (some t177)) else (some false)))) = some r := by rw [if_pos rfl] at H; exact H
            clear H
            have H := H1
            clear H1
            by_cases c40 : a0_4 = 0
            · rw [if_pos c40] at H
              have c40b0 : (a0_4 == 0) = true := beq_iff_eq.mpr c40
              have c40b1 : (a0_4 != 0) = false := bne_eq_false_iff_eq.mpr c40
              clear c40
              replace H := Option.bind_eq_some_iff.mp H
              obtain ⟨t175, A410, H⟩ := H
              replace H : (some t175) = some r := H
              have A41 := Aside0.mk A410
              clear A410
              obtain rfl := Option.some.inj H
              have hcz42_0 : wc.cell? ⟨gb165, 0, none⟩ = some (.int .i64 a0_0) := (blk_cell BK165.out 0).trans rfl
              have hcz42_1 : wc.cell? ⟨gb165, 1, none⟩ = some (.int .i64 a0_1) := (blk_cell BK165.out 1).trans rfl
              have hcz42_2 : wc.cell? ⟨gb165, 2, none⟩ = some (.int .i64 a0_2) := (blk_cell BK165.out 2).trans rfl
              have hcz42_3 : wc.cell? ⟨gb165, 3, none⟩ = some (.int .i64 a0_3) := (blk_cell BK165.out 3).trans rfl
              have hcz42_4 : wc.cell? ⟨gb165, 4, none⟩ = some (.int .i64 a0_4) := (blk_cell BK165.out 4).trans rfl
              have hcz42_5 : wc.cell? ⟨gb165, 5, none⟩ = some (.string a0_5) := (blk_cell BK165.out 5).trans rfl
              have hfz42_0 := blk_frozen BK165.out 0
              have hfz42_1 := blk_frozen BK165.out 1
              have hfz42_2 := blk_frozen BK165.out 2
              have hfz42_3 := blk_frozen BK165.out 3
              have hfz42_4 := blk_frozen BK165.out 4
              have hfz42_5 := blk_frozen BK165.out 5
              go_wp2_with (first | (go_at_call 26; (with_reducible refine (clavierref10_text.calls kj1 a0_3 true _ A38.out).mono ?_); rintro e w43 ⟨rfl, hb⟩; have n0_ := Aside0.mk (blk_below (g := gb165) (o := .cells #[.int .i64 a0_0, .int .i64 a0_1, .int .i64 a0_2, .int .i64 a0_3, .int .i64 a0_4, .string a0_5] 23 (0, 0)) (by (with_reducible repeat (first | refine blk_drewN ?_ _ | refine blk_drew ?_ | refine blk_alloc ?_ _)); exact BK165.out) hb); have n1_ := Aside0.mk (below_step (by repeat (first | (with_reducible first | exact HB.out | apply below_alloc | apply pw_below_drewN | apply below_drew1 | refine below_set ?_ GE165.out) | exact HB.out)) hb); clear BK165; clear HB; have BK165 := n0_; have HB := n1_; clear n0_ n1_; (try clear hb); (try clear hb2); (try clear hk); (try clear hi); have hcz44_0 : w43.cell? ⟨gb165, 0, none⟩ = some (.int .i64 a0_0) := (blk_cell BK165.out 0).trans rfl; have hcz44_1 : w43.cell? ⟨gb165, 1, none⟩ = some (.int .i64 a0_1) := (blk_cell BK165.out 1).trans rfl; have hcz44_2 : w43.cell? ⟨gb165, 2, none⟩ = some (.int .i64 a0_2) := (blk_cell BK165.out 2).trans rfl; have hcz44_3 : w43.cell? ⟨gb165, 3, none⟩ = some (.int .i64 a0_3) := (blk_cell BK165.out 3).trans rfl; have hcz44_4 : w43.cell? ⟨gb165, 4, none⟩ = some (.int .i64 a0_4) := (blk_cell BK165.out 4).trans rfl; have hcz44_5 : w43.cell? ⟨gb165, 5, none⟩ = some (.string a0_5) := (blk_cell BK165.out 5).trans rfl; have hfz44_0 := blk_frozen BK165.out 0; have hfz44_1 := blk_frozen BK165.out 1; have hfz44_2 := blk_frozen BK165.out 2; have hfz44_3 := blk_frozen BK165.out 3; have hfz44_4 := blk_frozen BK165.out 4; have hfz44_5 := blk_frozen BK165.out 5) | (go_at_call 27; (with_reducible refine (clavierref10_clean.calls a0_5 t175 _ A41.out).mono ?_); rintro e w45 ⟨rfl, hb⟩; have n0_ := Aside0.mk (blk_below (g := gb165) (o := .cells #[.int .i64 a0_0, .int .i64 a0_1, .int .i64 a0_2, .int .i64 a0_3, .int .i64 a0_4, .string a0_5] 23 (0, 0)) (by (with_reducible repeat (first | refine blk_drewN ?_ _ | refine blk_drew ?_ | refine blk_alloc ?_ _)); exact BK165.out) hb); have n1_ := Aside0.mk (below_step (by repeat (first | (with_reducible first | exact HB.out | apply below_alloc | apply pw_below_drewN | apply below_drew1 | refine below_set ?_ GE165.out) | exact HB.out)) hb); clear BK165; clear HB; have BK165 := n0_; have HB := n1_; clear n0_ n1_; (try clear hb); (try clear hb2); (try clear hk); (try clear hi)))
              go_ret
              exact ⟨by first | rfl | (simp [errW_none, errW_some] <;> rfl) | (simp [*, errW_none, errW_some] <;> rfl), by repeat (first | (with_reducible first | exact HB.out | apply below_alloc | apply pw_below_drewN | apply below_drew1 | refine below_set ?_ GE165.out) | exact HB.out)⟩
            · rw [if_neg c40] at H
              have c40b0 : (a0_4 == 0) = false := beq_eq_false_iff_ne.mpr c40
              have c40b1 : (a0_4 != 0) = true := bne_iff_ne.mpr c40
              replace H := Option.bind_eq_some_iff.mp H
              obtain ⟨t176, A460, H⟩ := H
              replace H : (if t176 = true then ((clavierref10_clean.f a0_5).bind fun t177 => (some t177)) else (some false)) = some r := H
              have A46 := Aside0.mk A460
              clear A460
              by_cases c47 : t176 = true
              · subst c47
                have H1 : ((clavierref10_clean.f a0_5).bind fun t177 => (some t177)) = some r := by rw [if_pos rfl] at H; exact H
                clear H
                have H := H1
                clear H1
                replace H := Option.bind_eq_some_iff.mp H
                obtain ⟨t177, A480, H⟩ := H
                replace H : (some t177) = some r := H
                have A48 := Aside0.mk A480
                clear A480
                obtain rfl := Option.some.inj H
                have hcz49_0 : wc.cell? ⟨gb165, 0, none⟩ = some (.int .i64 a0_0) := (blk_cell BK165.out 0).trans rfl
                have hcz49_1 : wc.cell? ⟨gb165, 1, none⟩ = some (.int .i64 a0_1) := (blk_cell BK165.out 1).trans rfl
                have hcz49_2 : wc.cell? ⟨gb165, 2, none⟩ = some (.int .i64 a0_2) := (blk_cell BK165.out 2).trans rfl
                have hcz49_3 : wc.cell? ⟨gb165, 3, none⟩ = some (.int .i64 a0_3) := (blk_cell BK165.out 3).trans rfl
                have hcz49_4 : wc.cell? ⟨gb165, 4, none⟩ = some (.int .i64 a0_4) := (blk_cell BK165.out 4).trans rfl
                have hcz49_5 : wc.cell? ⟨gb165, 5, none⟩ = some (.string a0_5) := (blk_cell BK165.out 5).trans rfl
                have hfz49_0 := blk_frozen BK165.out 0
                have hfz49_1 := blk_frozen BK165.out 1
                have hfz49_2 := blk_frozen BK165.out 2
                have hfz49_3 := blk_frozen BK165.out 3
                have hfz49_4 := blk_frozen BK165.out 4
                have hfz49_5 := blk_frozen BK165.out 5
                go_wp2_with (first | (go_at_call 26; (with_reducible refine (clavierref10_text.calls kj1 a0_3 true _ A38.out).mono ?_); rintro e w50 ⟨rfl, hb⟩; have n0_ := Aside0.mk (blk_below (g := gb165) (o := .cells #[.int .i64 a0_0, .int .i64 a0_1, .int .i64 a0_2, .int .i64 a0_3, .int .i64 a0_4, .string a0_5] 23 (0, 0)) (by (with_reducible repeat (first | refine blk_drewN ?_ _ | refine blk_drew ?_ | refine blk_alloc ?_ _)); exact BK165.out) hb); have n1_ := Aside0.mk (below_step (by repeat (first | (with_reducible first | exact HB.out | apply below_alloc | apply pw_below_drewN | apply below_drew1 | refine below_set ?_ GE165.out) | exact HB.out)) hb); clear BK165; clear HB; have BK165 := n0_; have HB := n1_; clear n0_ n1_; (try clear hb); (try clear hb2); (try clear hk); (try clear hi); have hcz51_0 : w50.cell? ⟨gb165, 0, none⟩ = some (.int .i64 a0_0) := (blk_cell BK165.out 0).trans rfl; have hcz51_1 : w50.cell? ⟨gb165, 1, none⟩ = some (.int .i64 a0_1) := (blk_cell BK165.out 1).trans rfl; have hcz51_2 : w50.cell? ⟨gb165, 2, none⟩ = some (.int .i64 a0_2) := (blk_cell BK165.out 2).trans rfl; have hcz51_3 : w50.cell? ⟨gb165, 3, none⟩ = some (.int .i64 a0_3) := (blk_cell BK165.out 3).trans rfl; have hcz51_4 : w50.cell? ⟨gb165, 4, none⟩ = some (.int .i64 a0_4) := (blk_cell BK165.out 4).trans rfl; have hcz51_5 : w50.cell? ⟨gb165, 5, none⟩ = some (.string a0_5) := (blk_cell BK165.out 5).trans rfl; have hfz51_0 := blk_frozen BK165.out 0; have hfz51_1 := blk_frozen BK165.out 1; have hfz51_2 := blk_frozen BK165.out 2; have hfz51_3 := blk_frozen BK165.out 3; have hfz51_4 := blk_frozen BK165.out 4; have hfz51_5 := blk_frozen BK165.out 5) | (go_at_call 26; (with_reducible refine (clavierref10_text.calls kj1 a0_4 true _ A46.out).mono ?_); rintro e w52 ⟨rfl, hb⟩; have n0_ := Aside0.mk (blk_below (g := gb165) (o := .cells #[.int .i64 a0_0, .int .i64 a0_1, .int .i64 a0_2, .int .i64 a0_3, .int .i64 a0_4, .string a0_5] 23 (0, 0)) (by (with_reducible repeat (first | refine blk_drewN ?_ _ | refine blk_drew ?_ | refine blk_alloc ?_ _)); exact BK165.out) hb); have n1_ := Aside0.mk (below_step (by repeat (first | (with_reducible first | exact HB.out | apply below_alloc | apply pw_below_drewN | apply below_drew1 | refine below_set ?_ GE165.out) | exact HB.out)) hb); clear BK165; clear HB; have BK165 := n0_; have HB := n1_; clear n0_ n1_; (try clear hb); (try clear hb2); (try clear hk); (try clear hi); have hcz53_0 : w52.cell? ⟨gb165, 0, none⟩ = some (.int .i64 a0_0) := (blk_cell BK165.out 0).trans rfl; have hcz53_1 : w52.cell? ⟨gb165, 1, none⟩ = some (.int .i64 a0_1) := (blk_cell BK165.out 1).trans rfl; have hcz53_2 : w52.cell? ⟨gb165, 2, none⟩ = some (.int .i64 a0_2) := (blk_cell BK165.out 2).trans rfl; have hcz53_3 : w52.cell? ⟨gb165, 3, none⟩ = some (.int .i64 a0_3) := (blk_cell BK165.out 3).trans rfl; have hcz53_4 : w52.cell? ⟨gb165, 4, none⟩ = some (.int .i64 a0_4) := (blk_cell BK165.out 4).trans rfl; have hcz53_5 : w52.cell? ⟨gb165, 5, none⟩ = some (.string a0_5) := (blk_cell BK165.out 5).trans rfl; have hfz53_0 := blk_frozen BK165.out 0; have hfz53_1 := blk_frozen BK165.out 1; have hfz53_2 := blk_frozen BK165.out 2; have hfz53_3 := blk_frozen BK165.out 3; have hfz53_4 := blk_frozen BK165.out 4; have hfz53_5 := blk_frozen BK165.out 5) | (go_at_call 27; (with_reducible refine (clavierref10_clean.calls a0_5 t177 _ A48.out).mono ?_); rintro e w54 ⟨rfl, hb⟩; have n0_ := Aside0.mk (blk_below (g := gb165) (o := .cells #[.int .i64 a0_0, .int .i64 a0_1, .int .i64 a0_2, .int .i64 a0_3, .int .i64 a0_4, .string a0_5] 23 (0, 0)) (by (with_reducible repeat (first | refine blk_drewN ?_ _ | refine blk_drew ?_ | refine blk_alloc ?_ _)); exact BK165.out) hb); have n1_ := Aside0.mk (below_step (by repeat (first | (with_reducible first | exact HB.out | apply below_alloc | apply pw_below_drewN | apply below_drew1 | refine below_set ?_ GE165.out) | exact HB.out)) hb); clear BK165; clear HB; have BK165 := n0_; have HB := n1_; clear n0_ n1_; (try clear hb); (try clear hb2); (try clear hk); (try clear hi)))
                go_ret
                exact ⟨by first | rfl | (simp [errW_none, errW_some] <;> rfl) | (simp [*, errW_none, errW_some] <;> rfl), by repeat (first | (with_reducible first | exact HB.out | apply below_alloc | apply pw_below_drewN | apply below_drew1 | refine below_set ?_ GE165.out) | exact HB.out)⟩
              · replace c47 := Bool.eq_false_iff.mpr c47
                subst c47
                have H1 : (some false) = some r := by rw [if_neg (show ¬ (false = true) by decide)] at H; exact H
                clear H
                have H := H1
                clear H1
                obtain rfl := Option.some.inj H
                have hcz55_0 : wc.cell? ⟨gb165, 0, none⟩ = some (.int .i64 a0_0) := (blk_cell BK165.out 0).trans rfl
                have hcz55_1 : wc.cell? ⟨gb165, 1, none⟩ = some (.int .i64 a0_1) := (blk_cell BK165.out 1).trans rfl
                have hcz55_2 : wc.cell? ⟨gb165, 2, none⟩ = some (.int .i64 a0_2) := (blk_cell BK165.out 2).trans rfl
                have hcz55_3 : wc.cell? ⟨gb165, 3, none⟩ = some (.int .i64 a0_3) := (blk_cell BK165.out 3).trans rfl
                have hcz55_4 : wc.cell? ⟨gb165, 4, none⟩ = some (.int .i64 a0_4) := (blk_cell BK165.out 4).trans rfl
                have hcz55_5 : wc.cell? ⟨gb165, 5, none⟩ = some (.string a0_5) := (blk_cell BK165.out 5).trans rfl
                have hfz55_0 := blk_frozen BK165.out 0
                have hfz55_1 := blk_frozen BK165.out 1
                have hfz55_2 := blk_frozen BK165.out 2
                have hfz55_3 := blk_frozen BK165.out 3
                have hfz55_4 := blk_frozen BK165.out 4
                have hfz55_5 := blk_frozen BK165.out 5
                go_wp2_with (first | (go_at_call 26; (with_reducible refine (clavierref10_text.calls kj1 a0_3 true _ A38.out).mono ?_); rintro e w56 ⟨rfl, hb⟩; have n0_ := Aside0.mk (blk_below (g := gb165) (o := .cells #[.int .i64 a0_0, .int .i64 a0_1, .int .i64 a0_2, .int .i64 a0_3, .int .i64 a0_4, .string a0_5] 23 (0, 0)) (by (with_reducible repeat (first | refine blk_drewN ?_ _ | refine blk_drew ?_ | refine blk_alloc ?_ _)); exact BK165.out) hb); have n1_ := Aside0.mk (below_step (by repeat (first | (with_reducible first | exact HB.out | apply below_alloc | apply pw_below_drewN | apply below_drew1 | refine below_set ?_ GE165.out) | exact HB.out)) hb); clear BK165; clear HB; have BK165 := n0_; have HB := n1_; clear n0_ n1_; (try clear hb); (try clear hb2); (try clear hk); (try clear hi); have hcz57_0 : w56.cell? ⟨gb165, 0, none⟩ = some (.int .i64 a0_0) := (blk_cell BK165.out 0).trans rfl; have hcz57_1 : w56.cell? ⟨gb165, 1, none⟩ = some (.int .i64 a0_1) := (blk_cell BK165.out 1).trans rfl; have hcz57_2 : w56.cell? ⟨gb165, 2, none⟩ = some (.int .i64 a0_2) := (blk_cell BK165.out 2).trans rfl; have hcz57_3 : w56.cell? ⟨gb165, 3, none⟩ = some (.int .i64 a0_3) := (blk_cell BK165.out 3).trans rfl; have hcz57_4 : w56.cell? ⟨gb165, 4, none⟩ = some (.int .i64 a0_4) := (blk_cell BK165.out 4).trans rfl; have hcz57_5 : w56.cell? ⟨gb165, 5, none⟩ = some (.string a0_5) := (blk_cell BK165.out 5).trans rfl; have hfz57_0 := blk_frozen BK165.out 0; have hfz57_1 := blk_frozen BK165.out 1; have hfz57_2 := blk_frozen BK165.out 2; have hfz57_3 := blk_frozen BK165.out 3; have hfz57_4 := blk_frozen BK165.out 4; have hfz57_5 := blk_frozen BK165.out 5) | (go_at_call 26; (with_reducible refine (clavierref10_text.calls kj1 a0_4 false _ A46.out).mono ?_); rintro e w58 ⟨rfl, hb⟩; have n0_ := Aside0.mk (blk_below (g := gb165) (o := .cells #[.int .i64 a0_0, .int .i64 a0_1, .int .i64 a0_2, .int .i64 a0_3, .int .i64 a0_4, .string a0_5] 23 (0, 0)) (by (with_reducible repeat (first | refine blk_drewN ?_ _ | refine blk_drew ?_ | refine blk_alloc ?_ _)); exact BK165.out) hb); have n1_ := Aside0.mk (below_step (by repeat (first | (with_reducible first | exact HB.out | apply below_alloc | apply pw_below_drewN | apply below_drew1 | refine below_set ?_ GE165.out) | exact HB.out)) hb); clear BK165; clear HB; have BK165 := n0_; have HB := n1_; clear n0_ n1_; (try clear hb); (try clear hb2); (try clear hk); (try clear hi)))
                go_ret
                exact ⟨by first | rfl | (simp [errW_none, errW_some] <;> rfl) | (simp [*, errW_none, errW_some] <;> rfl), by repeat (first | (with_reducible first | exact HB.out | apply below_alloc | apply pw_below_drewN | apply below_drew1 | refine below_set ?_ GE165.out) | exact HB.out)⟩
          · replace c39 := Bool.eq_false_iff.mpr c39
            subst c39
            have H1 : (some false) = some r := by rw [if_neg (show ¬ (false = true) by decide)] at H; exact H
            clear H
            have H := H1
            clear H1
            obtain rfl := Option.some.inj H
            have hcz59_0 : wc.cell? ⟨gb165, 0, none⟩ = some (.int .i64 a0_0) := (blk_cell BK165.out 0).trans rfl
            have hcz59_1 : wc.cell? ⟨gb165, 1, none⟩ = some (.int .i64 a0_1) := (blk_cell BK165.out 1).trans rfl
            have hcz59_2 : wc.cell? ⟨gb165, 2, none⟩ = some (.int .i64 a0_2) := (blk_cell BK165.out 2).trans rfl
            have hcz59_3 : wc.cell? ⟨gb165, 3, none⟩ = some (.int .i64 a0_3) := (blk_cell BK165.out 3).trans rfl
            have hcz59_4 : wc.cell? ⟨gb165, 4, none⟩ = some (.int .i64 a0_4) := (blk_cell BK165.out 4).trans rfl
            have hcz59_5 : wc.cell? ⟨gb165, 5, none⟩ = some (.string a0_5) := (blk_cell BK165.out 5).trans rfl
            have hfz59_0 := blk_frozen BK165.out 0
            have hfz59_1 := blk_frozen BK165.out 1
            have hfz59_2 := blk_frozen BK165.out 2
            have hfz59_3 := blk_frozen BK165.out 3
            have hfz59_4 := blk_frozen BK165.out 4
            have hfz59_5 := blk_frozen BK165.out 5
            go_wp2_with (first | (go_at_call 26; (with_reducible refine (clavierref10_text.calls kj1 a0_3 false _ A38.out).mono ?_); rintro e w60 ⟨rfl, hb⟩; have n0_ := Aside0.mk (blk_below (g := gb165) (o := .cells #[.int .i64 a0_0, .int .i64 a0_1, .int .i64 a0_2, .int .i64 a0_3, .int .i64 a0_4, .string a0_5] 23 (0, 0)) (by (with_reducible repeat (first | refine blk_drewN ?_ _ | refine blk_drew ?_ | refine blk_alloc ?_ _)); exact BK165.out) hb); have n1_ := Aside0.mk (below_step (by repeat (first | (with_reducible first | exact HB.out | apply below_alloc | apply pw_below_drewN | apply below_drew1 | refine below_set ?_ GE165.out) | exact HB.out)) hb); clear BK165; clear HB; have BK165 := n0_; have HB := n1_; clear n0_ n1_; (try clear hb); (try clear hb2); (try clear hk); (try clear hi)))
            go_ret
            exact ⟨by first | rfl | (simp [errW_none, errW_some] <;> rfl) | (simp [*, errW_none, errW_some] <;> rfl), by repeat (first | (with_reducible first | exact HB.out | apply below_alloc | apply pw_below_drewN | apply below_drew1 | refine below_set ?_ GE165.out) | exact HB.out)⟩

/-! ### clavierref10_Has: function 28 -/
def clavierref10_Has.f (a0 : Int) (a1 : Int) : Option (Bool) := if a1 = 0 then (none) else (some ((Int.tmod (wrap64 ((mx a0 0) / a1)) 2) == 1))
set_option maxHeartbeats 8000000 in
set_option maxRecDepth 100000 in
theorem clavierref10_Has.calls (a0 : Int) (a1 : Int) (r : Bool) (w : World) (h : clavierref10_Has.f a0 a1 = some r) :
    Calls Try.prog 28 #[.int .i64 a0, .int .i64 a1] w fun e w' => e = .returned (.bool r) ∧ Below w.heap.size w w' := by
  have HB := Aside0.mk (Below.refl w.heap.size w)
  have H : (if a1 = 0 then (none) else (some ((Int.tmod (wrap64 ((mx a0 0) / a1)) 2) == 1))) = some r := h
  clear h
  obtain ⟨ji3, hji3⟩ : ∃ j_ : Int, (mx a0 0) = j_ := ⟨_, rfl⟩
  replace H : (if a1 = 0 then (none) else (some ((Int.tmod (wrap64 ((ji3) / a1)) 2) == 1))) = some r := by first | (rw [hji3] at H; exact H) | (simp only [hji3] at H ⊢; exact H)
  (try (have hji3l : 0 ≤ ji3 := by (rw [← hji3]; unfold mx; (repeat' split) <;> omega)))
  (try (have hji3m : 0 ≤ ji3 := by omega))
  have hji3_ : (if a0 < 0 then 0 else a0) = ji3 := hji3
  by_cases c4 : a1 = 0
  · rw [if_pos c4] at H
    exact absurd H (by simp)
  · rw [if_neg c4] at H
    have c4b0 : (a1 == 0) = false := beq_eq_false_iff_ne.mpr c4
    have c4b1 : (a1 != 0) = true := bne_iff_ne.mpr c4
    obtain rfl := Option.some.inj H
    go_enter Try.func28, Try.ntmps28
    go_wp2
    go_ret
    exact ⟨by first | rfl | (rw [Int.tdiv_eq_ediv_of_nonneg (by assumption)]; done) | (rw [Int.tdiv_eq_ediv_of_nonneg (by assumption)]; rfl) | (simp [errW_none, errW_some] <;> rfl) | (simp only [← hji3]; first | rfl | (simp [errW_none, errW_some] <;> rfl)) | (simp [*, errW_none, errW_some] <;> rfl), by repeat (first | (with_reducible first | exact HB.out | apply below_alloc | apply pw_below_drewN | apply below_drew1) | exact HB.out)⟩

/-! ### clavierref10_Shown: function 13 -/
def clavierref10_Shown.f (a0_0 : Int) (a0_1 : Int) (a0_2 : Int) (a0_3 : Int) (a0_4 : Int) (a0_5 : ByteArray) : Option (Int) := (clavierref10_Has.f a0_1 1).bind fun t179 => (if t179 = true then (if a0_3 = 0 then (if a0_0 ≥ 97 then (if a0_0 ≤ 122 then (some (wrap64 (a0_0 - 32))) else (some a0_0)) else (some a0_0)) else (some a0_3)) else (some a0_0))
set_option maxHeartbeats 8000000 in
set_option maxRecDepth 100000 in
theorem clavierref10_Shown.calls (a0_0 : Int) (a0_1 : Int) (a0_2 : Int) (a0_3 : Int) (a0_4 : Int) (a0_5 : ByteArray) (r : Int) (w : World) (h : clavierref10_Shown.f a0_0 a0_1 a0_2 a0_3 a0_4 a0_5 = some r) :
    Calls Try.prog 13 #[.agg #[.int .i64 a0_0, .int .i64 a0_1, .int .i64 a0_2, .int .i64 a0_3, .int .i64 a0_4, .string a0_5]] w fun e w' => e = .returned (.int .i64 r) ∧ Below w.heap.size w w' := by
  have hu23 := Try.underlying23
  have HB := Aside0.mk (Below.refl w.heap.size w)
  have H : ((clavierref10_Has.f a0_1 1).bind fun t179 => (if t179 = true then (if a0_3 = 0 then (if a0_0 ≥ 97 then (if a0_0 ≤ 122 then (some (wrap64 (a0_0 - 32))) else (some a0_0)) else (some a0_0)) else (some a0_3)) else (some a0_0))) = some r := h
  clear h
  replace H := Option.bind_eq_some_iff.mp H
  obtain ⟨t179, A20, H⟩ := H
  replace H : (if t179 = true then (if a0_3 = 0 then (if a0_0 ≥ 97 then (if a0_0 ≤ 122 then (some (wrap64 (a0_0 - 32))) else (some a0_0)) else (some a0_0)) else (some a0_3)) else (some a0_0)) = some r := H
  have A2 := Aside0.mk A20
  clear A20
  by_cases c3 : t179 = true
  · subst c3
    have H1 : (if a0_3 = 0 then (if a0_0 ≥ 97 then (if a0_0 ≤ 122 then (some (wrap64 (a0_0 - 32))) else (some a0_0)) else (some a0_0)) else (some a0_3)) = some r := by rw [if_pos rfl] at H; exact H
    clear H
    have H := H1
    clear H1
    by_cases c4 : a0_3 = 0
    · rw [if_pos c4] at H
      have c4b0 : (a0_3 == 0) = true := beq_iff_eq.mpr c4
      have c4b1 : (a0_3 != 0) = false := bne_eq_false_iff_eq.mpr c4
      clear c4
      by_cases c5 : a0_0 ≥ 97
      · rw [if_pos c5] at H
        have c5b0 : decide (97 ≤ a0_0) = true := decide_eq_true c5
        clear c5
        by_cases c6 : a0_0 ≤ 122
        · rw [if_pos c6] at H
          have c6b0 : decide (a0_0 ≤ 122) = true := decide_eq_true c6
          clear c6
          obtain rfl := Option.some.inj H
          go_enter Try.func13, Try.ntmps13
          go_wp2_with (first | ((with_reducible refine gate_dst (N := 1) rfl ?_); refine box_event ?hg (N := 1) ?hd (cs := #[.int .i64 a0_0, .int .i64 a0_1, .int .i64 a0_2, .int .i64 a0_3, .int .i64 a0_4, .string a0_5]) (t := 23) ?hr ?_; (case hd => rfl); (case hg => rfl); (case hr => first | (go_simp; done) | (go_simp; rfl)); intro gb178 hg w7 hbox hb; have n0_ := Aside0.mk (below_step (by repeat (first | (with_reducible first | exact HB.out | apply below_alloc | apply pw_below_drewN | apply below_drew1) | exact HB.out)) hb); have n1_ := Aside0.mk (hbox); have n2_ := Aside0.mk ((by rw [hg]; exact (below_size (by repeat (first | (with_reducible first | exact HB.out | apply below_alloc | apply pw_below_drewN | apply below_drew1) | exact HB.out))) : w.heap.size ≤ gb178)); have n3_ := Aside0.mk ((by rw [hg]; exact (below_size (by repeat (first | (with_reducible first | exact HB.out | apply below_alloc | apply pw_below_drewN | apply below_drew1) | exact HB.out))) : w.heap.size ≤ gb178)); clear HB; have HB := n0_; have BK178 := n1_; have GW178 := n2_; have GE178 := n3_; clear n0_ n1_ n2_ n3_; clear hb hbox hg; have hcz8_0 : w7.cell? ⟨gb178, 0, none⟩ = some (.int .i64 a0_0) := (blk_cell BK178.out 0).trans rfl; have hcz8_1 : w7.cell? ⟨gb178, 1, none⟩ = some (.int .i64 a0_1) := (blk_cell BK178.out 1).trans rfl; have hcz8_2 : w7.cell? ⟨gb178, 2, none⟩ = some (.int .i64 a0_2) := (blk_cell BK178.out 2).trans rfl; have hcz8_3 : w7.cell? ⟨gb178, 3, none⟩ = some (.int .i64 a0_3) := (blk_cell BK178.out 3).trans rfl; have hcz8_4 : w7.cell? ⟨gb178, 4, none⟩ = some (.int .i64 a0_4) := (blk_cell BK178.out 4).trans rfl; have hcz8_5 : w7.cell? ⟨gb178, 5, none⟩ = some (.string a0_5) := (blk_cell BK178.out 5).trans rfl; have hfz8_0 := blk_frozen BK178.out 0; have hfz8_1 := blk_frozen BK178.out 1; have hfz8_2 := blk_frozen BK178.out 2; have hfz8_3 := blk_frozen BK178.out 3; have hfz8_4 := blk_frozen BK178.out 4; have hfz8_5 := blk_frozen BK178.out 5) | ((with_reducible refine gate_callee (f := 28) rfl ?_); refine goesL_ (some 5) rfl rfl Try.func28 (by kernel_rfl) rfl #[.int .i64 a0_1, .int .i64 1] rfl (by (try simp only [List.map_toArray, List.map_cons, List.map_nil]); first | done | rfl | (simp only [List.length_drop, List.length_take]; rfl)) ?_; (with_reducible refine (clavierref10_Has.calls a0_1 1 true _ A2.out).mono ?_); rintro e w9 ⟨rfl, hb⟩; refine ⟨_, rfl, ?_⟩; have n0_ := Aside0.mk (blk_below (g := gb178) (o := .cells #[.int .i64 a0_0, .int .i64 a0_1, .int .i64 a0_2, .int .i64 a0_3, .int .i64 a0_4, .string a0_5] 23 (0, 0)) (by (with_reducible repeat (first | refine blk_drewN ?_ _ | refine blk_drew ?_ | refine blk_alloc ?_ _)); exact BK178.out) hb); have n1_ := Aside0.mk (below_step (by repeat (first | (with_reducible first | exact HB.out | apply below_alloc | apply pw_below_drewN | apply below_drew1 | refine below_set ?_ GE178.out) | exact HB.out)) hb); clear BK178; clear HB; have BK178 := n0_; have HB := n1_; clear n0_ n1_; (try clear hb); (try clear hb2); (try clear hk); (try clear hi); have hcz10_0 : w9.cell? ⟨gb178, 0, none⟩ = some (.int .i64 a0_0) := (blk_cell BK178.out 0).trans rfl; have hcz10_1 : w9.cell? ⟨gb178, 1, none⟩ = some (.int .i64 a0_1) := (blk_cell BK178.out 1).trans rfl; have hcz10_2 : w9.cell? ⟨gb178, 2, none⟩ = some (.int .i64 a0_2) := (blk_cell BK178.out 2).trans rfl; have hcz10_3 : w9.cell? ⟨gb178, 3, none⟩ = some (.int .i64 a0_3) := (blk_cell BK178.out 3).trans rfl; have hcz10_4 : w9.cell? ⟨gb178, 4, none⟩ = some (.int .i64 a0_4) := (blk_cell BK178.out 4).trans rfl; have hcz10_5 : w9.cell? ⟨gb178, 5, none⟩ = some (.string a0_5) := (blk_cell BK178.out 5).trans rfl; have hfz10_0 := blk_frozen BK178.out 0; have hfz10_1 := blk_frozen BK178.out 1; have hfz10_2 := blk_frozen BK178.out 2; have hfz10_3 := blk_frozen BK178.out 3; have hfz10_4 := blk_frozen BK178.out 4; have hfz10_5 := blk_frozen BK178.out 5))
          go_ret
          exact ⟨by first | rfl | (simp [errW_none, errW_some] <;> rfl) | (simp [*, errW_none, errW_some] <;> rfl), by repeat (first | (with_reducible first | exact HB.out | apply below_alloc | apply pw_below_drewN | apply below_drew1 | refine below_set ?_ GE178.out) | exact HB.out)⟩
        · rw [if_neg c6] at H
          have c6b0 : decide (a0_0 ≤ 122) = false := decide_eq_false c6
          clear c6
          obtain rfl := Option.some.inj H
          go_enter Try.func13, Try.ntmps13
          go_wp2_with (first | ((with_reducible refine gate_dst (N := 1) rfl ?_); refine box_event ?hg (N := 1) ?hd (cs := #[.int .i64 a0_0, .int .i64 a0_1, .int .i64 a0_2, .int .i64 a0_3, .int .i64 a0_4, .string a0_5]) (t := 23) ?hr ?_; (case hd => rfl); (case hg => rfl); (case hr => first | (go_simp; done) | (go_simp; rfl)); intro gb178 hg w11 hbox hb; have n0_ := Aside0.mk (below_step (by repeat (first | (with_reducible first | exact HB.out | apply below_alloc | apply pw_below_drewN | apply below_drew1) | exact HB.out)) hb); have n1_ := Aside0.mk (hbox); have n2_ := Aside0.mk ((by rw [hg]; exact (below_size (by repeat (first | (with_reducible first | exact HB.out | apply below_alloc | apply pw_below_drewN | apply below_drew1) | exact HB.out))) : w.heap.size ≤ gb178)); have n3_ := Aside0.mk ((by rw [hg]; exact (below_size (by repeat (first | (with_reducible first | exact HB.out | apply below_alloc | apply pw_below_drewN | apply below_drew1) | exact HB.out))) : w.heap.size ≤ gb178)); clear HB; have HB := n0_; have BK178 := n1_; have GW178 := n2_; have GE178 := n3_; clear n0_ n1_ n2_ n3_; clear hb hbox hg; have hcz12_0 : w11.cell? ⟨gb178, 0, none⟩ = some (.int .i64 a0_0) := (blk_cell BK178.out 0).trans rfl; have hcz12_1 : w11.cell? ⟨gb178, 1, none⟩ = some (.int .i64 a0_1) := (blk_cell BK178.out 1).trans rfl; have hcz12_2 : w11.cell? ⟨gb178, 2, none⟩ = some (.int .i64 a0_2) := (blk_cell BK178.out 2).trans rfl; have hcz12_3 : w11.cell? ⟨gb178, 3, none⟩ = some (.int .i64 a0_3) := (blk_cell BK178.out 3).trans rfl; have hcz12_4 : w11.cell? ⟨gb178, 4, none⟩ = some (.int .i64 a0_4) := (blk_cell BK178.out 4).trans rfl; have hcz12_5 : w11.cell? ⟨gb178, 5, none⟩ = some (.string a0_5) := (blk_cell BK178.out 5).trans rfl; have hfz12_0 := blk_frozen BK178.out 0; have hfz12_1 := blk_frozen BK178.out 1; have hfz12_2 := blk_frozen BK178.out 2; have hfz12_3 := blk_frozen BK178.out 3; have hfz12_4 := blk_frozen BK178.out 4; have hfz12_5 := blk_frozen BK178.out 5) | ((with_reducible refine gate_callee (f := 28) rfl ?_); refine goesL_ (some 5) rfl rfl Try.func28 (by kernel_rfl) rfl #[.int .i64 a0_1, .int .i64 1] rfl (by (try simp only [List.map_toArray, List.map_cons, List.map_nil]); first | done | rfl | (simp only [List.length_drop, List.length_take]; rfl)) ?_; (with_reducible refine (clavierref10_Has.calls a0_1 1 true _ A2.out).mono ?_); rintro e w13 ⟨rfl, hb⟩; refine ⟨_, rfl, ?_⟩; have n0_ := Aside0.mk (blk_below (g := gb178) (o := .cells #[.int .i64 a0_0, .int .i64 a0_1, .int .i64 a0_2, .int .i64 a0_3, .int .i64 a0_4, .string a0_5] 23 (0, 0)) (by (with_reducible repeat (first | refine blk_drewN ?_ _ | refine blk_drew ?_ | refine blk_alloc ?_ _)); exact BK178.out) hb); have n1_ := Aside0.mk (below_step (by repeat (first | (with_reducible first | exact HB.out | apply below_alloc | apply pw_below_drewN | apply below_drew1 | refine below_set ?_ GE178.out) | exact HB.out)) hb); clear BK178; clear HB; have BK178 := n0_; have HB := n1_; clear n0_ n1_; (try clear hb); (try clear hb2); (try clear hk); (try clear hi); have hcz14_0 : w13.cell? ⟨gb178, 0, none⟩ = some (.int .i64 a0_0) := (blk_cell BK178.out 0).trans rfl; have hcz14_1 : w13.cell? ⟨gb178, 1, none⟩ = some (.int .i64 a0_1) := (blk_cell BK178.out 1).trans rfl; have hcz14_2 : w13.cell? ⟨gb178, 2, none⟩ = some (.int .i64 a0_2) := (blk_cell BK178.out 2).trans rfl; have hcz14_3 : w13.cell? ⟨gb178, 3, none⟩ = some (.int .i64 a0_3) := (blk_cell BK178.out 3).trans rfl; have hcz14_4 : w13.cell? ⟨gb178, 4, none⟩ = some (.int .i64 a0_4) := (blk_cell BK178.out 4).trans rfl; have hcz14_5 : w13.cell? ⟨gb178, 5, none⟩ = some (.string a0_5) := (blk_cell BK178.out 5).trans rfl; have hfz14_0 := blk_frozen BK178.out 0; have hfz14_1 := blk_frozen BK178.out 1; have hfz14_2 := blk_frozen BK178.out 2; have hfz14_3 := blk_frozen BK178.out 3; have hfz14_4 := blk_frozen BK178.out 4; have hfz14_5 := blk_frozen BK178.out 5))
          go_ret
          exact ⟨by first | rfl | (simp [errW_none, errW_some] <;> rfl) | (simp [*, errW_none, errW_some] <;> rfl), by repeat (first | (with_reducible first | exact HB.out | apply below_alloc | apply pw_below_drewN | apply below_drew1 | refine below_set ?_ GE178.out) | exact HB.out)⟩
      · rw [if_neg c5] at H
        have c5b0 : decide (97 ≤ a0_0) = false := decide_eq_false c5
        clear c5
        obtain rfl := Option.some.inj H
        go_enter Try.func13, Try.ntmps13
        go_wp2_with (first | ((with_reducible refine gate_dst (N := 1) rfl ?_); refine box_event ?hg (N := 1) ?hd (cs := #[.int .i64 a0_0, .int .i64 a0_1, .int .i64 a0_2, .int .i64 a0_3, .int .i64 a0_4, .string a0_5]) (t := 23) ?hr ?_; (case hd => rfl); (case hg => rfl); (case hr => first | (go_simp; done) | (go_simp; rfl)); intro gb178 hg w15 hbox hb; have n0_ := Aside0.mk (below_step (by repeat (first | (with_reducible first | exact HB.out | apply below_alloc | apply pw_below_drewN | apply below_drew1) | exact HB.out)) hb); have n1_ := Aside0.mk (hbox); have n2_ := Aside0.mk ((by rw [hg]; exact (below_size (by repeat (first | (with_reducible first | exact HB.out | apply below_alloc | apply pw_below_drewN | apply below_drew1) | exact HB.out))) : w.heap.size ≤ gb178)); have n3_ := Aside0.mk ((by rw [hg]; exact (below_size (by repeat (first | (with_reducible first | exact HB.out | apply below_alloc | apply pw_below_drewN | apply below_drew1) | exact HB.out))) : w.heap.size ≤ gb178)); clear HB; have HB := n0_; have BK178 := n1_; have GW178 := n2_; have GE178 := n3_; clear n0_ n1_ n2_ n3_; clear hb hbox hg; have hcz16_0 : w15.cell? ⟨gb178, 0, none⟩ = some (.int .i64 a0_0) := (blk_cell BK178.out 0).trans rfl; have hcz16_1 : w15.cell? ⟨gb178, 1, none⟩ = some (.int .i64 a0_1) := (blk_cell BK178.out 1).trans rfl; have hcz16_2 : w15.cell? ⟨gb178, 2, none⟩ = some (.int .i64 a0_2) := (blk_cell BK178.out 2).trans rfl; have hcz16_3 : w15.cell? ⟨gb178, 3, none⟩ = some (.int .i64 a0_3) := (blk_cell BK178.out 3).trans rfl; have hcz16_4 : w15.cell? ⟨gb178, 4, none⟩ = some (.int .i64 a0_4) := (blk_cell BK178.out 4).trans rfl; have hcz16_5 : w15.cell? ⟨gb178, 5, none⟩ = some (.string a0_5) := (blk_cell BK178.out 5).trans rfl; have hfz16_0 := blk_frozen BK178.out 0; have hfz16_1 := blk_frozen BK178.out 1; have hfz16_2 := blk_frozen BK178.out 2; have hfz16_3 := blk_frozen BK178.out 3; have hfz16_4 := blk_frozen BK178.out 4; have hfz16_5 := blk_frozen BK178.out 5) | ((with_reducible refine gate_callee (f := 28) rfl ?_); refine goesL_ (some 5) rfl rfl Try.func28 (by kernel_rfl) rfl #[.int .i64 a0_1, .int .i64 1] rfl (by (try simp only [List.map_toArray, List.map_cons, List.map_nil]); first | done | rfl | (simp only [List.length_drop, List.length_take]; rfl)) ?_; (with_reducible refine (clavierref10_Has.calls a0_1 1 true _ A2.out).mono ?_); rintro e w17 ⟨rfl, hb⟩; refine ⟨_, rfl, ?_⟩; have n0_ := Aside0.mk (blk_below (g := gb178) (o := .cells #[.int .i64 a0_0, .int .i64 a0_1, .int .i64 a0_2, .int .i64 a0_3, .int .i64 a0_4, .string a0_5] 23 (0, 0)) (by (with_reducible repeat (first | refine blk_drewN ?_ _ | refine blk_drew ?_ | refine blk_alloc ?_ _)); exact BK178.out) hb); have n1_ := Aside0.mk (below_step (by repeat (first | (with_reducible first | exact HB.out | apply below_alloc | apply pw_below_drewN | apply below_drew1 | refine below_set ?_ GE178.out) | exact HB.out)) hb); clear BK178; clear HB; have BK178 := n0_; have HB := n1_; clear n0_ n1_; (try clear hb); (try clear hb2); (try clear hk); (try clear hi); have hcz18_0 : w17.cell? ⟨gb178, 0, none⟩ = some (.int .i64 a0_0) := (blk_cell BK178.out 0).trans rfl; have hcz18_1 : w17.cell? ⟨gb178, 1, none⟩ = some (.int .i64 a0_1) := (blk_cell BK178.out 1).trans rfl; have hcz18_2 : w17.cell? ⟨gb178, 2, none⟩ = some (.int .i64 a0_2) := (blk_cell BK178.out 2).trans rfl; have hcz18_3 : w17.cell? ⟨gb178, 3, none⟩ = some (.int .i64 a0_3) := (blk_cell BK178.out 3).trans rfl; have hcz18_4 : w17.cell? ⟨gb178, 4, none⟩ = some (.int .i64 a0_4) := (blk_cell BK178.out 4).trans rfl; have hcz18_5 : w17.cell? ⟨gb178, 5, none⟩ = some (.string a0_5) := (blk_cell BK178.out 5).trans rfl; have hfz18_0 := blk_frozen BK178.out 0; have hfz18_1 := blk_frozen BK178.out 1; have hfz18_2 := blk_frozen BK178.out 2; have hfz18_3 := blk_frozen BK178.out 3; have hfz18_4 := blk_frozen BK178.out 4; have hfz18_5 := blk_frozen BK178.out 5))
        go_ret
        exact ⟨by first | rfl | (simp [errW_none, errW_some] <;> rfl) | (simp [*, errW_none, errW_some] <;> rfl), by repeat (first | (with_reducible first | exact HB.out | apply below_alloc | apply pw_below_drewN | apply below_drew1 | refine below_set ?_ GE178.out) | exact HB.out)⟩
    · rw [if_neg c4] at H
      have c4b0 : (a0_3 == 0) = false := beq_eq_false_iff_ne.mpr c4
      have c4b1 : (a0_3 != 0) = true := bne_iff_ne.mpr c4
      obtain rfl := Option.some.inj H
      go_enter Try.func13, Try.ntmps13
      go_wp2_with (first | ((with_reducible refine gate_dst (N := 1) rfl ?_); refine box_event ?hg (N := 1) ?hd (cs := #[.int .i64 a0_0, .int .i64 a0_1, .int .i64 a0_2, .int .i64 a0_3, .int .i64 a0_4, .string a0_5]) (t := 23) ?hr ?_; (case hd => rfl); (case hg => rfl); (case hr => first | (go_simp; done) | (go_simp; rfl)); intro gb178 hg w19 hbox hb; have n0_ := Aside0.mk (below_step (by repeat (first | (with_reducible first | exact HB.out | apply below_alloc | apply pw_below_drewN | apply below_drew1) | exact HB.out)) hb); have n1_ := Aside0.mk (hbox); have n2_ := Aside0.mk ((by rw [hg]; exact (below_size (by repeat (first | (with_reducible first | exact HB.out | apply below_alloc | apply pw_below_drewN | apply below_drew1) | exact HB.out))) : w.heap.size ≤ gb178)); have n3_ := Aside0.mk ((by rw [hg]; exact (below_size (by repeat (first | (with_reducible first | exact HB.out | apply below_alloc | apply pw_below_drewN | apply below_drew1) | exact HB.out))) : w.heap.size ≤ gb178)); clear HB; have HB := n0_; have BK178 := n1_; have GW178 := n2_; have GE178 := n3_; clear n0_ n1_ n2_ n3_; clear hb hbox hg; have hcz20_0 : w19.cell? ⟨gb178, 0, none⟩ = some (.int .i64 a0_0) := (blk_cell BK178.out 0).trans rfl; have hcz20_1 : w19.cell? ⟨gb178, 1, none⟩ = some (.int .i64 a0_1) := (blk_cell BK178.out 1).trans rfl; have hcz20_2 : w19.cell? ⟨gb178, 2, none⟩ = some (.int .i64 a0_2) := (blk_cell BK178.out 2).trans rfl; have hcz20_3 : w19.cell? ⟨gb178, 3, none⟩ = some (.int .i64 a0_3) := (blk_cell BK178.out 3).trans rfl; have hcz20_4 : w19.cell? ⟨gb178, 4, none⟩ = some (.int .i64 a0_4) := (blk_cell BK178.out 4).trans rfl; have hcz20_5 : w19.cell? ⟨gb178, 5, none⟩ = some (.string a0_5) := (blk_cell BK178.out 5).trans rfl; have hfz20_0 := blk_frozen BK178.out 0; have hfz20_1 := blk_frozen BK178.out 1; have hfz20_2 := blk_frozen BK178.out 2; have hfz20_3 := blk_frozen BK178.out 3; have hfz20_4 := blk_frozen BK178.out 4; have hfz20_5 := blk_frozen BK178.out 5) | ((with_reducible refine gate_callee (f := 28) rfl ?_); refine goesL_ (some 5) rfl rfl Try.func28 (by kernel_rfl) rfl #[.int .i64 a0_1, .int .i64 1] rfl (by (try simp only [List.map_toArray, List.map_cons, List.map_nil]); first | done | rfl | (simp only [List.length_drop, List.length_take]; rfl)) ?_; (with_reducible refine (clavierref10_Has.calls a0_1 1 true _ A2.out).mono ?_); rintro e w21 ⟨rfl, hb⟩; refine ⟨_, rfl, ?_⟩; have n0_ := Aside0.mk (blk_below (g := gb178) (o := .cells #[.int .i64 a0_0, .int .i64 a0_1, .int .i64 a0_2, .int .i64 a0_3, .int .i64 a0_4, .string a0_5] 23 (0, 0)) (by (with_reducible repeat (first | refine blk_drewN ?_ _ | refine blk_drew ?_ | refine blk_alloc ?_ _)); exact BK178.out) hb); have n1_ := Aside0.mk (below_step (by repeat (first | (with_reducible first | exact HB.out | apply below_alloc | apply pw_below_drewN | apply below_drew1 | refine below_set ?_ GE178.out) | exact HB.out)) hb); clear BK178; clear HB; have BK178 := n0_; have HB := n1_; clear n0_ n1_; (try clear hb); (try clear hb2); (try clear hk); (try clear hi); have hcz22_0 : w21.cell? ⟨gb178, 0, none⟩ = some (.int .i64 a0_0) := (blk_cell BK178.out 0).trans rfl; have hcz22_1 : w21.cell? ⟨gb178, 1, none⟩ = some (.int .i64 a0_1) := (blk_cell BK178.out 1).trans rfl; have hcz22_2 : w21.cell? ⟨gb178, 2, none⟩ = some (.int .i64 a0_2) := (blk_cell BK178.out 2).trans rfl; have hcz22_3 : w21.cell? ⟨gb178, 3, none⟩ = some (.int .i64 a0_3) := (blk_cell BK178.out 3).trans rfl; have hcz22_4 : w21.cell? ⟨gb178, 4, none⟩ = some (.int .i64 a0_4) := (blk_cell BK178.out 4).trans rfl; have hcz22_5 : w21.cell? ⟨gb178, 5, none⟩ = some (.string a0_5) := (blk_cell BK178.out 5).trans rfl; have hfz22_0 := blk_frozen BK178.out 0; have hfz22_1 := blk_frozen BK178.out 1; have hfz22_2 := blk_frozen BK178.out 2; have hfz22_3 := blk_frozen BK178.out 3; have hfz22_4 := blk_frozen BK178.out 4; have hfz22_5 := blk_frozen BK178.out 5))
      go_ret
      exact ⟨by first | rfl | (simp [errW_none, errW_some] <;> rfl) | (simp [*, errW_none, errW_some] <;> rfl), by repeat (first | (with_reducible first | exact HB.out | apply below_alloc | apply pw_below_drewN | apply below_drew1 | refine below_set ?_ GE178.out) | exact HB.out)⟩
  · replace c3 := Bool.eq_false_iff.mpr c3
    subst c3
    have H1 : (some a0_0) = some r := by rw [if_neg (show ¬ (false = true) by decide)] at H; exact H
    clear H
    have H := H1
    clear H1
    obtain rfl := Option.some.inj H
    go_enter Try.func13, Try.ntmps13
    go_wp2_with (first | ((with_reducible refine gate_dst (N := 1) rfl ?_); refine box_event ?hg (N := 1) ?hd (cs := #[.int .i64 a0_0, .int .i64 a0_1, .int .i64 a0_2, .int .i64 a0_3, .int .i64 a0_4, .string a0_5]) (t := 23) ?hr ?_; (case hd => rfl); (case hg => rfl); (case hr => first | (go_simp; done) | (go_simp; rfl)); intro gb178 hg w23 hbox hb; have n0_ := Aside0.mk (below_step (by repeat (first | (with_reducible first | exact HB.out | apply below_alloc | apply pw_below_drewN | apply below_drew1) | exact HB.out)) hb); have n1_ := Aside0.mk (hbox); have n2_ := Aside0.mk ((by rw [hg]; exact (below_size (by repeat (first | (with_reducible first | exact HB.out | apply below_alloc | apply pw_below_drewN | apply below_drew1) | exact HB.out))) : w.heap.size ≤ gb178)); have n3_ := Aside0.mk ((by rw [hg]; exact (below_size (by repeat (first | (with_reducible first | exact HB.out | apply below_alloc | apply pw_below_drewN | apply below_drew1) | exact HB.out))) : w.heap.size ≤ gb178)); clear HB; have HB := n0_; have BK178 := n1_; have GW178 := n2_; have GE178 := n3_; clear n0_ n1_ n2_ n3_; clear hb hbox hg; have hcz24_0 : w23.cell? ⟨gb178, 0, none⟩ = some (.int .i64 a0_0) := (blk_cell BK178.out 0).trans rfl; have hcz24_1 : w23.cell? ⟨gb178, 1, none⟩ = some (.int .i64 a0_1) := (blk_cell BK178.out 1).trans rfl; have hcz24_2 : w23.cell? ⟨gb178, 2, none⟩ = some (.int .i64 a0_2) := (blk_cell BK178.out 2).trans rfl; have hcz24_3 : w23.cell? ⟨gb178, 3, none⟩ = some (.int .i64 a0_3) := (blk_cell BK178.out 3).trans rfl; have hcz24_4 : w23.cell? ⟨gb178, 4, none⟩ = some (.int .i64 a0_4) := (blk_cell BK178.out 4).trans rfl; have hcz24_5 : w23.cell? ⟨gb178, 5, none⟩ = some (.string a0_5) := (blk_cell BK178.out 5).trans rfl; have hfz24_0 := blk_frozen BK178.out 0; have hfz24_1 := blk_frozen BK178.out 1; have hfz24_2 := blk_frozen BK178.out 2; have hfz24_3 := blk_frozen BK178.out 3; have hfz24_4 := blk_frozen BK178.out 4; have hfz24_5 := blk_frozen BK178.out 5) | ((with_reducible refine gate_callee (f := 28) rfl ?_); refine goesL_ (some 5) rfl rfl Try.func28 (by kernel_rfl) rfl #[.int .i64 a0_1, .int .i64 1] rfl (by (try simp only [List.map_toArray, List.map_cons, List.map_nil]); first | done | rfl | (simp only [List.length_drop, List.length_take]; rfl)) ?_; (with_reducible refine (clavierref10_Has.calls a0_1 1 false _ A2.out).mono ?_); rintro e w25 ⟨rfl, hb⟩; refine ⟨_, rfl, ?_⟩; have n0_ := Aside0.mk (blk_below (g := gb178) (o := .cells #[.int .i64 a0_0, .int .i64 a0_1, .int .i64 a0_2, .int .i64 a0_3, .int .i64 a0_4, .string a0_5] 23 (0, 0)) (by (with_reducible repeat (first | refine blk_drewN ?_ _ | refine blk_drew ?_ | refine blk_alloc ?_ _)); exact BK178.out) hb); have n1_ := Aside0.mk (below_step (by repeat (first | (with_reducible first | exact HB.out | apply below_alloc | apply pw_below_drewN | apply below_drew1 | refine below_set ?_ GE178.out) | exact HB.out)) hb); clear BK178; clear HB; have BK178 := n0_; have HB := n1_; clear n0_ n1_; (try clear hb); (try clear hb2); (try clear hk); (try clear hi); have hcz26_0 : w25.cell? ⟨gb178, 0, none⟩ = some (.int .i64 a0_0) := (blk_cell BK178.out 0).trans rfl; have hcz26_1 : w25.cell? ⟨gb178, 1, none⟩ = some (.int .i64 a0_1) := (blk_cell BK178.out 1).trans rfl; have hcz26_2 : w25.cell? ⟨gb178, 2, none⟩ = some (.int .i64 a0_2) := (blk_cell BK178.out 2).trans rfl; have hcz26_3 : w25.cell? ⟨gb178, 3, none⟩ = some (.int .i64 a0_3) := (blk_cell BK178.out 3).trans rfl; have hcz26_4 : w25.cell? ⟨gb178, 4, none⟩ = some (.int .i64 a0_4) := (blk_cell BK178.out 4).trans rfl; have hcz26_5 : w25.cell? ⟨gb178, 5, none⟩ = some (.string a0_5) := (blk_cell BK178.out 5).trans rfl; have hfz26_0 := blk_frozen BK178.out 0; have hfz26_1 := blk_frozen BK178.out 1; have hfz26_2 := blk_frozen BK178.out 2; have hfz26_3 := blk_frozen BK178.out 3; have hfz26_4 := blk_frozen BK178.out 4; have hfz26_5 := blk_frozen BK178.out 5))
    go_ret
    exact ⟨by first | rfl | (simp [errW_none, errW_some] <;> rfl) | (simp [*, errW_none, errW_some] <;> rfl), by repeat (first | (with_reducible first | exact HB.out | apply below_alloc | apply pw_below_drewN | apply below_drew1 | refine below_set ?_ GE178.out) | exact HB.out)⟩

end Go.Proofs.Ytcjokajnlpcdiaa.R
