-- Written by a program of this session (myprint.py over the kit's printer, some callees given by hand). Lean checks it.
import Derived.Test.YtkbepgelgcoihaaR0
import Derived.Test.YtkbepgelgcoihaaR2
namespace Go.Proofs.Ytkbepgelgcoihaa.R
open Go.Proofs.Ytkbepgelgcoihaa.H Go.RowKit Go.Proofs.YtkbepgelgcoihaaW.PrintWords Go.Proofs.YtkbepgelgcoihaaW.PrintLast Go.Proofs.YtkbepgelgcoihaaW.PrintMore
attribute [local go_sem] max2_int min2_int max_two min_two max_three min_three max_four min_four   -- for this text's walks alone
set_option linter.unusedVariables false
set_option linter.unusedSimpArgs false

/-! ### clavierlaw09_KeysPad: function 8 -/
def clavierlaw09_KeysPad.j0 : Nat → Int → Bool → Int → Int → Int → Int → Int → Bool → Option (Bool)
  | 0, _, _, _, _, _, _, _, _ => none
  | k + 1, x0, x3, x5, x252000, x252001, x252002, x252003, x252004 => (keys_Find.f x5 x252002).bind fun bt252 => ((keys_Look.f bt252.1).bind fun bt254 => ((keys_Look.f (wrap64 (57399 + (wrap64 (Int.tmod x0 18))))).bind fun bt260 => (if bt260.2.1 ≥ 97 then (if bt260.2.1 ≤ 122 then (if bt254.2.1 = x252001 then (if bt254.2.2.1 = x252002 then (if bt254.1 = x252000 then (if bt254.2.2.2.2 = true then (if x3 = true then (if bt252.2 = true then (none) else (none)) else (none)) else (if x3 = true then (if bt252.2 = true then (if x252004 = true then (if bt260.1 = 5 then ((keys_Look.f bt260.2.2.2.1).bind fun bt266 => (if bt266.1 = 1 then (some true) else (some (bt260.2.2.2.1 == 13)))) else (none)) else (none)) else (none)) else (none))) else (if x3 = true then (if bt252.2 = true then (none) else (none)) else (none))) else (if x3 = true then (if bt252.2 = true then (none) else (none)) else (none))) else (if x3 = true then (if bt252.2 = true then (none) else (none)) else (none))) else (if bt260.2.1 ≥ 65 then (if bt254.2.1 = x252001 then (if bt254.2.2.1 = x252002 then (if bt254.1 = x252000 then (if bt254.2.2.2.2 = true then (if x3 = true then (if bt252.2 = true then (none) else (none)) else (none)) else (if x3 = true then (if bt252.2 = true then (if x252004 = true then (if bt260.1 = 5 then (if bt260.2.1 ≤ 90 then ((keys_Look.f bt260.2.2.2.1).bind fun bt271 => (if bt271.1 = 1 then (some true) else (some (bt260.2.2.2.1 == 13)))) else (none)) else (none)) else (none)) else (none)) else (none))) else (if x3 = true then (if bt252.2 = true then (none) else (none)) else (none))) else (if x3 = true then (if bt252.2 = true then (none) else (none)) else (none))) else (if x3 = true then (if bt252.2 = true then (none) else (none)) else (none))) else (if bt254.2.1 = x252001 then (if bt254.2.2.1 = x252002 then (if bt254.1 = x252000 then (if bt254.2.2.2.2 = true then (if x3 = true then (if bt252.2 = true then (none) else (none)) else (none)) else (if x3 = true then (if bt252.2 = true then (if x252004 = true then (if bt260.1 = 5 then (none) else (none)) else (none)) else (none)) else (none))) else (if x3 = true then (if bt252.2 = true then (none) else (none)) else (none))) else (if x3 = true then (if bt252.2 = true then (none) else (none)) else (none))) else (if x3 = true then (if bt252.2 = true then (none) else (none)) else (none))))) else (if bt260.2.1 ≥ 65 then (if bt254.2.1 = x252001 then (if bt254.2.2.1 = x252002 then (if bt254.1 = x252000 then (if bt254.2.2.2.2 = true then (if x3 = true then (if bt252.2 = true then (none) else (none)) else (none)) else (if x3 = true then (if bt252.2 = true then (if x252004 = true then (if bt260.1 = 5 then (if bt260.2.1 ≤ 90 then ((keys_Look.f bt260.2.2.2.1).bind fun bt276 => (if bt276.1 = 1 then (some true) else (some (bt260.2.2.2.1 == 13)))) else (none)) else (none)) else (none)) else (none)) else (none))) else (if x3 = true then (if bt252.2 = true then (none) else (none)) else (none))) else (if x3 = true then (if bt252.2 = true then (none) else (none)) else (none))) else (if x3 = true then (if bt252.2 = true then (none) else (none)) else (none))) else (if bt254.2.1 = x252001 then (if bt254.2.2.1 = x252002 then (if bt254.1 = x252000 then (if bt254.2.2.2.2 = true then (if x3 = true then (if bt252.2 = true then (none) else (none)) else (none)) else (if x3 = true then (if bt252.2 = true then (if x252004 = true then (if bt260.1 = 5 then (none) else (none)) else (none)) else (none)) else (none))) else (if x3 = true then (if bt252.2 = true then (none) else (none)) else (none))) else (if x3 = true then (if bt252.2 = true then (none) else (none)) else (none))) else (if x3 = true then (if bt252.2 = true then (none) else (none)) else (none)))))))
def clavierlaw09_KeysPad.f (k : Nat) (a0 : Int) : Option (Bool) := (clavierlaw09_awake.f).bind fun t245 => ((keys_Look.f (wrap64 (57417 + (wrap64 (Int.tmod a0 10))))).bind fun bt246 => (if bt246.1 = 4 then (clavierlaw09_KeysPad.j0 k a0 t245 126 bt246.1 bt246.2.1 bt246.2.2.1 bt246.2.2.2.1 bt246.2.2.2.2) else (clavierlaw09_KeysPad.j0 k a0 t245 bt246.2.1 bt246.1 bt246.2.1 bt246.2.2.1 bt246.2.2.2.1 bt246.2.2.2.2)))
theorem clavierlaw09_KeysPad.mono_l : ∀ k, (∀ y0 y1 y2 y3 y4 y5 y6 y7, LeO (clavierlaw09_KeysPad.j0 k y0 y1 y2 y3 y4 y5 y6 y7) (clavierlaw09_KeysPad.j0 (k + 1) y0 y1 y2 y3 y4 y5 y6 y7))
  | 0 => fun _ _ _ _ _ _ _ _ r h => by simp [clavierlaw09_KeysPad.j0] at h
  | k + 1 => by
    have ih0 := clavierlaw09_KeysPad.mono_l k
    · intro y0 y1 y2 y3 y4 y5 y6 y7
      unfold clavierlaw09_KeysPad.j0
      repeat' first
      | (with_reducible exact ih0 _ _ _ _ _ _ _ _)
      | (with_reducible exact LeO.refl _)
      | (with_reducible exact LeO.none _)
      | (with_reducible refine LeO.ite ?_ ?_)
      | (with_reducible refine LeO.bind ?_ (fun _ => ?_))
      | exact ih0 _ _ _ _ _ _ _ _
      | exact LeO.none _
      | refine LeO.ite ?_ ?_
      | refine LeO.bind ?_ (fun _ => ?_)
theorem clavierlaw09_KeysPad.mono : ∀ a0 k, LeO (clavierlaw09_KeysPad.f k a0) (clavierlaw09_KeysPad.f (k + 1) a0) := by
  intro a0 k
  have ih0 := clavierlaw09_KeysPad.mono_l k
  unfold clavierlaw09_KeysPad.f
  repeat' first
      | (with_reducible exact ih0 _ _ _ _ _ _ _ _)
      | (with_reducible exact LeO.refl _)
      | (with_reducible exact LeO.none _)
      | (with_reducible refine LeO.ite ?_ ?_)
      | (with_reducible refine LeO.bind ?_ (fun _ => ?_))
      | exact ih0 _ _ _ _ _ _ _ _
      | exact LeO.none _
      | refine LeO.ite ?_ ?_
      | refine LeO.bind ?_ (fun _ => ?_)
set_option maxHeartbeats 8000000 in
set_option maxRecDepth 100000 in
theorem clavierlaw09_KeysPad.calls (k : Nat) (a0 : Int) (r : Bool) (w : World) (h : clavierlaw09_KeysPad.f k a0 = some r) :
    Calls Try.prog 8 #[.int .u8 a0] w fun e w' => e = .returned (.bool r) ∧ Below w.heap.size w w' := by
  have hu24 := Try.underlying24
  have hfd24_0 := field24_0
  have HB := Aside0.mk (Below.refl w.heap.size w)
  have H : ((clavierlaw09_awake.f).bind fun t245 => ((keys_Look.f (wrap64 (57417 + (wrap64 (Int.tmod a0 10))))).bind fun bt246 => (if bt246.1 = 4 then (clavierlaw09_KeysPad.j0 k a0 t245 126 bt246.1 bt246.2.1 bt246.2.2.1 bt246.2.2.2.1 bt246.2.2.2.2) else (clavierlaw09_KeysPad.j0 k a0 t245 bt246.2.1 bt246.1 bt246.2.1 bt246.2.2.1 bt246.2.2.2.1 bt246.2.2.2.2)))) = some r := h
  clear h
  replace H := Option.bind_eq_some_iff.mp H
  obtain ⟨t245, A20, H⟩ := H
  replace H : ((keys_Look.f (wrap64 (57417 + (wrap64 (Int.tmod a0 10))))).bind fun bt246 => (if bt246.1 = 4 then (clavierlaw09_KeysPad.j0 k a0 t245 126 bt246.1 bt246.2.1 bt246.2.2.1 bt246.2.2.2.1 bt246.2.2.2.2) else (clavierlaw09_KeysPad.j0 k a0 t245 bt246.2.1 bt246.1 bt246.2.1 bt246.2.2.1 bt246.2.2.2.1 bt246.2.2.2.2))) = some r := H
  have A2 := Aside0.mk A20
  clear A20
  replace H := Option.bind_eq_some_iff.mp H
  obtain ⟨⟨t246, t247, t248, t249, t250⟩, A30, H⟩ := H
  replace H : (if t246 = 4 then (clavierlaw09_KeysPad.j0 k a0 t245 126 t246 t247 t248 t249 t250) else (clavierlaw09_KeysPad.j0 k a0 t245 t247 t246 t247 t248 t249 t250)) = some r := H
  have A3 := Aside0.mk A30
  clear A30
  have HC4 := Aside0.mk H
  clear H
  go_enter Try.func8, Try.ntmps8
  go_upto_if 22 with (first | ((with_reducible refine gate_callee (f := 9) rfl ?_); refine goesL_ (some 12) rfl rfl Try.func9 (by kernel_rfl) rfl #[] rfl (by (try simp only [List.map_toArray, List.map_cons, List.map_nil]); first | done | rfl | (simp only [List.length_drop, List.length_take]; rfl)) ?_; (with_reducible refine (clavierlaw09_awake.calls  t245 _ A2.out).mono ?_); rintro e w5 ⟨rfl, hb⟩; refine ⟨_, rfl, ?_⟩; have n0_ := Aside0.mk (below_step (by repeat (first | (with_reducible first | exact HB.out | apply below_alloc | apply pw_below_drewN | apply below_drew1) | exact HB.out)) hb); clear HB; have HB := n0_; clear n0_; (try clear hb); (try clear hb2); (try clear hk); (try clear hi)) | ((with_reducible refine gate_callee (f := 10) rfl ?_); refine goesL_ (some 17) rfl rfl Try.func10 (by kernel_rfl) rfl #[.int .i64 (wrap64 (57417 + (wrap64 (Int.tmod a0 10))))] rfl (by (try simp only [List.map_toArray, List.map_cons, List.map_nil]); first | done | rfl | (simp only [List.length_drop, List.length_take]; rfl)) ?_; (with_reducible refine (keys_Look.calls (wrap64 (57417 + (wrap64 (Int.tmod a0 10)))) t246 t247 t248 t249 t250 _ A3.out).mono ?_); rintro e w6 ⟨rfl, hb⟩; refine ⟨_, rfl, ?_⟩; have n0_ := Aside0.mk (below_step (by repeat (first | (with_reducible first | exact HB.out | apply below_alloc | apply pw_below_drewN | apply below_drew1) | exact HB.out)) hb); clear HB; have HB := n0_; clear n0_; (try clear hb); (try clear hb2); (try clear hk); (try clear hi)) | ((with_reducible refine gate_dst (N := 4) rfl ?_); refine box_event ?hg (N := 4) ?hd (cs := #[.int .i64 0, .int .u8 0, .int .i64 0, .int .i64 0, .bool false]) (t := 24) ?hr ?_; (case hd => rfl); (case hg => rfl); (case hr => first | (go_simp; done) | (go_simp; rfl)); intro gb251 hg w7 hbox hb; have n0_ := Aside0.mk (below_step (by repeat (first | (with_reducible first | exact HB.out | apply below_alloc | apply pw_below_drewN | apply below_drew1) | exact HB.out)) hb); have n1_ := Aside0.mk (hbox); have n2_ := Aside0.mk ((by rw [hg]; exact (below_size (by repeat (first | (with_reducible first | exact HB.out | apply below_alloc | apply pw_below_drewN | apply below_drew1) | exact HB.out))) : w.heap.size ≤ gb251)); have n3_ := Aside0.mk ((by rw [hg]; exact (below_size (by repeat (first | (with_reducible first | exact HB.out | apply below_alloc | apply pw_below_drewN | apply below_drew1) | exact HB.out))) : w.heap.size ≤ gb251)); clear HB; have HB := n0_; have BK251 := n1_; have GW251 := n2_; have GE251 := n3_; clear n0_ n1_ n2_ n3_; clear hb hbox hg; have hcz8_0 : w7.cell? ⟨gb251, 0, none⟩ = some (.int .i64 0) := (blk_cell BK251.out 0).trans rfl; have hcz8_1 : w7.cell? ⟨gb251, 1, none⟩ = some (.int .u8 0) := (blk_cell BK251.out 1).trans rfl; have hcz8_2 : w7.cell? ⟨gb251, 2, none⟩ = some (.int .i64 0) := (blk_cell BK251.out 2).trans rfl; have hcz8_3 : w7.cell? ⟨gb251, 3, none⟩ = some (.int .i64 0) := (blk_cell BK251.out 3).trans rfl; have hcz8_4 : w7.cell? ⟨gb251, 4, none⟩ = some (.bool false) := (blk_cell BK251.out 4).trans rfl; have hfz8_0 := blk_frozen BK251.out 0; have hfz8_1 := blk_frozen BK251.out 1; have hfz8_2 := blk_frozen BK251.out 2; have hfz8_3 := blk_frozen BK251.out 3; have hfz8_4 := blk_frozen BK251.out 4))
  (try simp only [Act.put, List.setIfInBounds_toArray, List.set_cons_zero, List.set_cons_succ])
  go_cut [5] (fun v5 wc => ∃ (kq : Nat) (x5_3 : Int), v5 = .int .u8 x5_3 ∧ Aside0 (clavierlaw09_KeysPad.j0 kq a0 t245 x5_3 t246 t247 t248 t249 t250 = some r) ∧ Aside0 (kq ≤ k) ∧ Aside0 (wc.heap[gb251]? = some (.cells #[.int .i64 t246, .int .u8 t247, .int .i64 t248, .int .i64 t249, .bool t250] 24 (0, 0))) ∧ Aside0 (Below w.heap.size w wc))
  case first =>
    have H := HC4.out
    clear HC4
    by_cases c9 : t246 = 4
    · rw [if_pos c9] at H
      have c9b0 : (t246 == 4) = true := beq_iff_eq.mpr c9
      have c9b1 : (t246 != 4) = false := bne_eq_false_iff_eq.mpr c9
      clear c9
      (first | rw [c9b0] | (simp only [i64_w, i32_w]; rw [c9b0]) | skip)
      have H' := Aside0.mk H
      clear H
      go_wp2
      go_meet
      case rel => exact ⟨_, (126), (by first | rfl | (simp; done) | (simp [*]; done)), H', ⟨by first | omega | exact Nat.le_refl _⟩, ⟨by (with_reducible repeat (first | refine blk_drewN ?_ _ | refine blk_drew ?_ | refine blk_alloc ?_ _)); refine blk_put (cs := #[.int .i64 t246, .int .u8 t247, .int .i64 t248, .int .i64 t249, .bool false]) ?_ 4 _ rfl; (with_reducible repeat (first | refine blk_drewN ?_ _ | refine blk_drew ?_ | refine blk_alloc ?_ _)); refine blk_put (cs := #[.int .i64 t246, .int .u8 t247, .int .i64 t248, .int .i64 0, .bool false]) ?_ 3 _ rfl; (with_reducible repeat (first | refine blk_drewN ?_ _ | refine blk_drew ?_ | refine blk_alloc ?_ _)); refine blk_put (cs := #[.int .i64 t246, .int .u8 t247, .int .i64 0, .int .i64 0, .bool false]) ?_ 2 _ rfl; (with_reducible repeat (first | refine blk_drewN ?_ _ | refine blk_drew ?_ | refine blk_alloc ?_ _)); refine blk_put (cs := #[.int .i64 t246, .int .u8 0, .int .i64 0, .int .i64 0, .bool false]) ?_ 1 _ rfl; (with_reducible repeat (first | refine blk_drewN ?_ _ | refine blk_drew ?_ | refine blk_alloc ?_ _)); refine blk_put (cs := #[.int .i64 0, .int .u8 0, .int .i64 0, .int .i64 0, .bool false]) ?_ 0 _ rfl; (with_reducible repeat (first | refine blk_drewN ?_ _ | refine blk_drew ?_ | refine blk_alloc ?_ _)); exact BK251.out⟩, ⟨by repeat (first | (with_reducible first | exact HB.out | apply below_alloc | apply pw_below_drewN | apply below_drew1 | refine below_set ?_ GE251.out) | exact HB.out)⟩⟩
    · rw [if_neg c9] at H
      have c9b0 : (t246 == 4) = false := beq_eq_false_iff_ne.mpr c9
      have c9b1 : (t246 != 4) = true := bne_iff_ne.mpr c9
      (first | rw [c9b0] | (simp only [i64_w, i32_w]; rw [c9b0]) | skip)
      have H' := Aside0.mk H
      clear H
      go_wp2
      go_meet
      case rel => exact ⟨_, (t247), (by first | rfl | (simp; done) | (simp [*]; done)), H', ⟨by first | omega | exact Nat.le_refl _⟩, ⟨by (with_reducible repeat (first | refine blk_drewN ?_ _ | refine blk_drew ?_ | refine blk_alloc ?_ _)); refine blk_put (cs := #[.int .i64 t246, .int .u8 t247, .int .i64 t248, .int .i64 t249, .bool false]) ?_ 4 _ rfl; (with_reducible repeat (first | refine blk_drewN ?_ _ | refine blk_drew ?_ | refine blk_alloc ?_ _)); refine blk_put (cs := #[.int .i64 t246, .int .u8 t247, .int .i64 t248, .int .i64 0, .bool false]) ?_ 3 _ rfl; (with_reducible repeat (first | refine blk_drewN ?_ _ | refine blk_drew ?_ | refine blk_alloc ?_ _)); refine blk_put (cs := #[.int .i64 t246, .int .u8 t247, .int .i64 0, .int .i64 0, .bool false]) ?_ 2 _ rfl; (with_reducible repeat (first | refine blk_drewN ?_ _ | refine blk_drew ?_ | refine blk_alloc ?_ _)); refine blk_put (cs := #[.int .i64 t246, .int .u8 0, .int .i64 0, .int .i64 0, .bool false]) ?_ 1 _ rfl; (with_reducible repeat (first | refine blk_drewN ?_ _ | refine blk_drew ?_ | refine blk_alloc ?_ _)); refine blk_put (cs := #[.int .i64 0, .int .u8 0, .int .i64 0, .int .i64 0, .bool false]) ?_ 0 _ rfl; (with_reducible repeat (first | refine blk_drewN ?_ _ | refine blk_drew ?_ | refine blk_alloc ?_ _)); exact BK251.out⟩, ⟨by repeat (first | (with_reducible first | exact HB.out | apply below_alloc | apply pw_below_drewN | apply below_drew1 | refine below_set ?_ GE251.out) | exact HB.out)⟩⟩
  case rest =>
    clear HC4
    try clear c1
    try clear p2
    try clear p6
    try clear c8
    try clear c9
    try clear c9b0
    try clear c9b1
    try clear hcz8_0
    try clear hcz8_1
    try clear hcz8_2
    try clear hcz8_3
    try clear hcz8_4
    try clear hfz8_0
    try clear hfz8_1
    try clear hfz8_2
    try clear hfz8_3
    try clear hfz8_4
    obtain ⟨kq, x5_3, rfl, HA, HJ3, BK251, HB⟩ := hcut
    cases kq with
    | zero => exact absurd HA.out (by simp [clavierlaw09_KeysPad.j0])
    | succ kj3 =>
      have H := HA.out
      clear HA
      simp only [clavierlaw09_KeysPad.j0] at H
      replace H := Option.bind_eq_some_iff.mp H
      obtain ⟨⟨t252, t253⟩, A100, H⟩ := H
      replace H : ((keys_Look.f t252).bind fun bt254 => ((keys_Look.f (wrap64 (57399 + (wrap64 (Int.tmod a0 18))))).bind fun bt260 => (if bt260.2.1 ≥ 97 then (if bt260.2.1 ≤ 122 then (if bt254.2.1 = t247 then (if bt254.2.2.1 = t248 then (if bt254.1 = t246 then (if bt254.2.2.2.2 = true then (if t245 = true then (if t253 = true then (none) else (none)) else (none)) else (if t245 = true then (if t253 = true then (if t250 = true then (if bt260.1 = 5 then ((keys_Look.f bt260.2.2.2.1).bind fun bt266 => (if bt266.1 = 1 then (some true) else (some (bt260.2.2.2.1 == 13)))) else (none)) else (none)) else (none)) else (none))) else (if t245 = true then (if t253 = true then (none) else (none)) else (none))) else (if t245 = true then (if t253 = true then (none) else (none)) else (none))) else (if t245 = true then (if t253 = true then (none) else (none)) else (none))) else (if bt260.2.1 ≥ 65 then (if bt254.2.1 = t247 then (if bt254.2.2.1 = t248 then (if bt254.1 = t246 then (if bt254.2.2.2.2 = true then (if t245 = true then (if t253 = true then (none) else (none)) else (none)) else (if t245 = true then (if t253 = true then (if t250 = true then (if bt260.1 = 5 then (if bt260.2.1 ≤ 90 then ((keys_Look.f bt260.2.2.2.1).bind fun bt271 => (if bt271.1 = 1 then (some true) else (some (bt260.2.2.2.1 == 13)))) else (none)) else (none)) else (none)) else (none)) else (none))) else (if t245 = true then (if t253 = true then (none) else (none)) else (none))) else (if t245 = true then (if t253 = true then (none) else (none)) else (none))) else (if t245 = true then (if t253 = true then (none) else (none)) else (none))) else (if bt254.2.1 = t247 then (if bt254.2.2.1 = t248 then (if bt254.1 = t246 then (if bt254.2.2.2.2 = true then (if t245 = true then (if t253 = true then (none) else (none)) else (none)) else (if t245 = true then (if t253 = true then (if t250 = true then (if bt260.1 = 5 then (none) else (none)) else (none)) else (none)) else (none))) else (if t245 = true then (if t253 = true then (none) else (none)) else (none))) else (if t245 = true then (if t253 = true then (none) else (none)) else (none))) else (if t245 = true then (if t253 = true then (none) else (none)) else (none))))) else (if bt260.2.1 ≥ 65 then (if bt254.2.1 = t247 then (if bt254.2.2.1 = t248 then (if bt254.1 = t246 then (if bt254.2.2.2.2 = true then (if t245 = true then (if t253 = true then (none) else (none)) else (none)) else (if t245 = true then (if t253 = true then (if t250 = true then (if bt260.1 = 5 then (if bt260.2.1 ≤ 90 then ((keys_Look.f bt260.2.2.2.1).bind fun bt276 => (if bt276.1 = 1 then (some true) else (some (bt260.2.2.2.1 == 13)))) else (none)) else (none)) else (none)) else (none)) else (none))) else (if t245 = true then (if t253 = true then (none) else (none)) else (none))) else (if t245 = true then (if t253 = true then (none) else (none)) else (none))) else (if t245 = true then (if t253 = true then (none) else (none)) else (none))) else (if bt254.2.1 = t247 then (if bt254.2.2.1 = t248 then (if bt254.1 = t246 then (if bt254.2.2.2.2 = true then (if t245 = true then (if t253 = true then (none) else (none)) else (none)) else (if t245 = true then (if t253 = true then (if t250 = true then (if bt260.1 = 5 then (none) else (none)) else (none)) else (none)) else (none))) else (if t245 = true then (if t253 = true then (none) else (none)) else (none))) else (if t245 = true then (if t253 = true then (none) else (none)) else (none))) else (if t245 = true then (if t253 = true then (none) else (none)) else (none))))))) = some r := H
      have A10 := Aside0.mk A100
      clear A100
      replace H := Option.bind_eq_some_iff.mp H
      obtain ⟨⟨t254, t255, t256, t257, t258⟩, A110, H⟩ := H
      replace H : ((keys_Look.f (wrap64 (57399 + (wrap64 (Int.tmod a0 18))))).bind fun bt260 => (if bt260.2.1 ≥ 97 then (if bt260.2.1 ≤ 122 then (if t255 = t247 then (if t256 = t248 then (if t254 = t246 then (if t258 = true then (if t245 = true then (if t253 = true then (none) else (none)) else (none)) else (if t245 = true then (if t253 = true then (if t250 = true then (if bt260.1 = 5 then ((keys_Look.f bt260.2.2.2.1).bind fun bt266 => (if bt266.1 = 1 then (some true) else (some (bt260.2.2.2.1 == 13)))) else (none)) else (none)) else (none)) else (none))) else (if t245 = true then (if t253 = true then (none) else (none)) else (none))) else (if t245 = true then (if t253 = true then (none) else (none)) else (none))) else (if t245 = true then (if t253 = true then (none) else (none)) else (none))) else (if bt260.2.1 ≥ 65 then (if t255 = t247 then (if t256 = t248 then (if t254 = t246 then (if t258 = true then (if t245 = true then (if t253 = true then (none) else (none)) else (none)) else (if t245 = true then (if t253 = true then (if t250 = true then (if bt260.1 = 5 then (if bt260.2.1 ≤ 90 then ((keys_Look.f bt260.2.2.2.1).bind fun bt271 => (if bt271.1 = 1 then (some true) else (some (bt260.2.2.2.1 == 13)))) else (none)) else (none)) else (none)) else (none)) else (none))) else (if t245 = true then (if t253 = true then (none) else (none)) else (none))) else (if t245 = true then (if t253 = true then (none) else (none)) else (none))) else (if t245 = true then (if t253 = true then (none) else (none)) else (none))) else (if t255 = t247 then (if t256 = t248 then (if t254 = t246 then (if t258 = true then (if t245 = true then (if t253 = true then (none) else (none)) else (none)) else (if t245 = true then (if t253 = true then (if t250 = true then (if bt260.1 = 5 then (none) else (none)) else (none)) else (none)) else (none))) else (if t245 = true then (if t253 = true then (none) else (none)) else (none))) else (if t245 = true then (if t253 = true then (none) else (none)) else (none))) else (if t245 = true then (if t253 = true then (none) else (none)) else (none))))) else (if bt260.2.1 ≥ 65 then (if t255 = t247 then (if t256 = t248 then (if t254 = t246 then (if t258 = true then (if t245 = true then (if t253 = true then (none) else (none)) else (none)) else (if t245 = true then (if t253 = true then (if t250 = true then (if bt260.1 = 5 then (if bt260.2.1 ≤ 90 then ((keys_Look.f bt260.2.2.2.1).bind fun bt276 => (if bt276.1 = 1 then (some true) else (some (bt260.2.2.2.1 == 13)))) else (none)) else (none)) else (none)) else (none)) else (none))) else (if t245 = true then (if t253 = true then (none) else (none)) else (none))) else (if t245 = true then (if t253 = true then (none) else (none)) else (none))) else (if t245 = true then (if t253 = true then (none) else (none)) else (none))) else (if t255 = t247 then (if t256 = t248 then (if t254 = t246 then (if t258 = true then (if t245 = true then (if t253 = true then (none) else (none)) else (none)) else (if t245 = true then (if t253 = true then (if t250 = true then (if bt260.1 = 5 then (none) else (none)) else (none)) else (none)) else (none))) else (if t245 = true then (if t253 = true then (none) else (none)) else (none))) else (if t245 = true then (if t253 = true then (none) else (none)) else (none))) else (if t245 = true then (if t253 = true then (none) else (none)) else (none)))))) = some r := H
      have A11 := Aside0.mk A110
      clear A110
      replace H := Option.bind_eq_some_iff.mp H
      obtain ⟨⟨t260, t261, t262, t263, t264⟩, A120, H⟩ := H
      replace H : (if t261 ≥ 97 then (if t261 ≤ 122 then (if t255 = t247 then (if t256 = t248 then (if t254 = t246 then (if t258 = true then (if t245 = true then (if t253 = true then (none) else (none)) else (none)) else (if t245 = true then (if t253 = true then (if t250 = true then (if t260 = 5 then ((keys_Look.f t263).bind fun bt266 => (if bt266.1 = 1 then (some true) else (some (t263 == 13)))) else (none)) else (none)) else (none)) else (none))) else (if t245 = true then (if t253 = true then (none) else (none)) else (none))) else (if t245 = true then (if t253 = true then (none) else (none)) else (none))) else (if t245 = true then (if t253 = true then (none) else (none)) else (none))) else (if t261 ≥ 65 then (if t255 = t247 then (if t256 = t248 then (if t254 = t246 then (if t258 = true then (if t245 = true then (if t253 = true then (none) else (none)) else (none)) else (if t245 = true then (if t253 = true then (if t250 = true then (if t260 = 5 then (if t261 ≤ 90 then ((keys_Look.f t263).bind fun bt271 => (if bt271.1 = 1 then (some true) else (some (t263 == 13)))) else (none)) else (none)) else (none)) else (none)) else (none))) else (if t245 = true then (if t253 = true then (none) else (none)) else (none))) else (if t245 = true then (if t253 = true then (none) else (none)) else (none))) else (if t245 = true then (if t253 = true then (none) else (none)) else (none))) else (if t255 = t247 then (if t256 = t248 then (if t254 = t246 then (if t258 = true then (if t245 = true then (if t253 = true then (none) else (none)) else (none)) else (if t245 = true then (if t253 = true then (if t250 = true then (if t260 = 5 then (none) else (none)) else (none)) else (none)) else (none))) else (if t245 = true then (if t253 = true then (none) else (none)) else (none))) else (if t245 = true then (if t253 = true then (none) else (none)) else (none))) else (if t245 = true then (if t253 = true then (none) else (none)) else (none))))) else (if t261 ≥ 65 then (if t255 = t247 then (if t256 = t248 then (if t254 = t246 then (if t258 = true then (if t245 = true then (if t253 = true then (none) else (none)) else (none)) else (if t245 = true then (if t253 = true then (if t250 = true then (if t260 = 5 then (if t261 ≤ 90 then ((keys_Look.f t263).bind fun bt276 => (if bt276.1 = 1 then (some true) else (some (t263 == 13)))) else (none)) else (none)) else (none)) else (none)) else (none))) else (if t245 = true then (if t253 = true then (none) else (none)) else (none))) else (if t245 = true then (if t253 = true then (none) else (none)) else (none))) else (if t245 = true then (if t253 = true then (none) else (none)) else (none))) else (if t255 = t247 then (if t256 = t248 then (if t254 = t246 then (if t258 = true then (if t245 = true then (if t253 = true then (none) else (none)) else (none)) else (if t245 = true then (if t253 = true then (if t250 = true then (if t260 = 5 then (none) else (none)) else (none)) else (none)) else (none))) else (if t245 = true then (if t253 = true then (none) else (none)) else (none))) else (if t245 = true then (if t253 = true then (none) else (none)) else (none))) else (if t245 = true then (if t253 = true then (none) else (none)) else (none))))) = some r := H
      have A12 := Aside0.mk A120
      clear A120
      by_cases c13 : t261 ≥ 97
      · rw [if_pos c13] at H
        have c13b0 : decide (97 ≤ t261) = true := decide_eq_true c13
        clear c13
        by_cases c14 : t261 ≤ 122
        · rw [if_pos c14] at H
          have c14b0 : decide (t261 ≤ 122) = true := decide_eq_true c14
          clear c14
          by_cases c15 : t255 = t247
          · rw [if_pos c15] at H
            have c15b0 : (t255 == t247) = true := beq_iff_eq.mpr c15
            have c15b1 : (t255 != t247) = false := bne_eq_false_iff_eq.mpr c15
            clear c15
            by_cases c16 : t256 = t248
            · rw [if_pos c16] at H
              have c16b0 : (t256 == t248) = true := beq_iff_eq.mpr c16
              have c16b1 : (t256 != t248) = false := bne_eq_false_iff_eq.mpr c16
              clear c16
              by_cases c17 : t254 = t246
              · rw [if_pos c17] at H
                have c17b0 : (t254 == t246) = true := beq_iff_eq.mpr c17
                have c17b1 : (t254 != t246) = false := bne_eq_false_iff_eq.mpr c17
                clear c17
                by_cases c18 : t258 = true
                · subst c18
                  have H1 : (if t245 = true then (if t253 = true then (none) else (none)) else (none)) = some r := by rw [if_pos rfl] at H; exact H
                  clear H
                  have H := H1
                  clear H1
                  by_cases c19 : t245 = true
                  · subst c19
                    have H1 : (if t253 = true then (none) else (none)) = some r := by rw [if_pos rfl] at H; exact H
                    clear H
                    have H := H1
                    clear H1
                    by_cases c20 : t253 = true
                    · subst c20
                      have H1 : (none) = some r := by rw [if_pos rfl] at H; exact H
                      clear H
                      have H := H1
                      clear H1
                      exact absurd H (by simp)
                    · replace c20 := Bool.eq_false_iff.mpr c20
                      subst c20
                      have H1 : (none) = some r := by rw [if_neg (show ¬ (false = true) by decide)] at H; exact H
                      clear H
                      have H := H1
                      clear H1
                      exact absurd H (by simp)
                  · replace c19 := Bool.eq_false_iff.mpr c19
                    subst c19
                    have H1 : (none) = some r := by rw [if_neg (show ¬ (false = true) by decide)] at H; exact H
                    clear H
                    have H := H1
                    clear H1
                    exact absurd H (by simp)
                · replace c18 := Bool.eq_false_iff.mpr c18
                  subst c18
                  have H1 : (if t245 = true then (if t253 = true then (if t250 = true then (if t260 = 5 then ((keys_Look.f t263).bind fun bt266 => (if bt266.1 = 1 then (some true) else (some (t263 == 13)))) else (none)) else (none)) else (none)) else (none)) = some r := by rw [if_neg (show ¬ (false = true) by decide)] at H; exact H
                  clear H
                  have H := H1
                  clear H1
                  by_cases c21 : t245 = true
                  · subst c21
                    have H1 : (if t253 = true then (if t250 = true then (if t260 = 5 then ((keys_Look.f t263).bind fun bt266 => (if bt266.1 = 1 then (some true) else (some (t263 == 13)))) else (none)) else (none)) else (none)) = some r := by rw [if_pos rfl] at H; exact H
                    clear H
                    have H := H1
                    clear H1
                    by_cases c22 : t253 = true
                    · subst c22
                      have H1 : (if t250 = true then (if t260 = 5 then ((keys_Look.f t263).bind fun bt266 => (if bt266.1 = 1 then (some true) else (some (t263 == 13)))) else (none)) else (none)) = some r := by rw [if_pos rfl] at H; exact H
                      clear H
                      have H := H1
                      clear H1
                      by_cases c23 : t250 = true
                      · subst c23
                        have H1 : (if t260 = 5 then ((keys_Look.f t263).bind fun bt266 => (if bt266.1 = 1 then (some true) else (some (t263 == 13)))) else (none)) = some r := by rw [if_pos rfl] at H; exact H
                        clear H
                        have H := H1
                        clear H1
                        by_cases c24 : t260 = 5
                        · rw [if_pos c24] at H
                          have c24b0 : (t260 == 5) = true := beq_iff_eq.mpr c24
                          have c24b1 : (t260 != 5) = false := bne_eq_false_iff_eq.mpr c24
                          clear c24
                          replace H := Option.bind_eq_some_iff.mp H
                          obtain ⟨⟨t266, t267, t268, t269, t270⟩, A250, H⟩ := H
                          replace H : (if t266 = 1 then (some true) else (some (t263 == 13))) = some r := H
                          have A25 := Aside0.mk A250
                          clear A250
                          by_cases c26 : t266 = 1
                          · rw [if_pos c26] at H
                            have c26b0 : (t266 == 1) = true := beq_iff_eq.mpr c26
                            have c26b1 : (t266 != 1) = false := bne_eq_false_iff_eq.mpr c26
                            clear c26
                            obtain rfl := Option.some.inj H
                            have hcz27_0 : wc.cell? ⟨gb251, 0, none⟩ = some (.int .i64 t246) := (blk_cell BK251.out 0).trans rfl
                            have hcz27_1 : wc.cell? ⟨gb251, 1, none⟩ = some (.int .u8 t247) := (blk_cell BK251.out 1).trans rfl
                            have hcz27_2 : wc.cell? ⟨gb251, 2, none⟩ = some (.int .i64 t248) := (blk_cell BK251.out 2).trans rfl
                            have hcz27_3 : wc.cell? ⟨gb251, 3, none⟩ = some (.int .i64 t249) := (blk_cell BK251.out 3).trans rfl
                            have hcz27_4 : wc.cell? ⟨gb251, 4, none⟩ = some (.bool true) := (blk_cell BK251.out 4).trans rfl
                            have hfz27_0 := blk_frozen BK251.out 0
                            have hfz27_1 := blk_frozen BK251.out 1
                            have hfz27_2 := blk_frozen BK251.out 2
                            have hfz27_3 := blk_frozen BK251.out 3
                            have hfz27_4 := blk_frozen BK251.out 4
                            go_wp2_with (first | ((with_reducible refine gate_callee (f := 13) rfl ?_); refine goesL_ (some 27) rfl rfl Try.func13 (by kernel_rfl) rfl #[.int .u8 x5_3, .int .i64 t248] rfl (by (try simp only [List.map_toArray, List.map_cons, List.map_nil]); first | done | rfl | (simp only [List.length_drop, List.length_take]; rfl)) ?_; (with_reducible refine (keys_Find.calls x5_3 t248 t252 true _ A10.out).mono ?_); rintro e w28 ⟨rfl, hb⟩; refine ⟨_, rfl, ?_⟩; have n0_ := Aside0.mk (blk_below (g := gb251) (o := .cells #[.int .i64 t246, .int .u8 t247, .int .i64 t248, .int .i64 t249, .bool true] 24 (0, 0)) (by (with_reducible repeat (first | refine blk_drewN ?_ _ | refine blk_drew ?_ | refine blk_alloc ?_ _)); exact BK251.out) hb); have n1_ := Aside0.mk (below_step (by repeat (first | (with_reducible first | exact HB.out | apply below_alloc | apply pw_below_drewN | apply below_drew1 | refine below_set ?_ GE251.out) | exact HB.out)) hb); clear BK251; clear HB; have BK251 := n0_; have HB := n1_; clear n0_ n1_; (try clear hb); (try clear hb2); (try clear hk); (try clear hi)) | ((with_reducible refine gate_callee (f := 10) rfl ?_); refine goesL_ (some 31) rfl rfl Try.func10 (by kernel_rfl) rfl #[.int .i64 t252] rfl (by (try simp only [List.map_toArray, List.map_cons, List.map_nil]); first | done | rfl | (simp only [List.length_drop, List.length_take]; rfl)) ?_; (with_reducible refine (keys_Look.calls t252 t254 t255 t256 t257 false _ A11.out).mono ?_); rintro e w29 ⟨rfl, hb⟩; refine ⟨_, rfl, ?_⟩; have n0_ := Aside0.mk (blk_below (g := gb251) (o := .cells #[.int .i64 t246, .int .u8 t247, .int .i64 t248, .int .i64 t249, .bool true] 24 (0, 0)) (by (with_reducible repeat (first | refine blk_drewN ?_ _ | refine blk_drew ?_ | refine blk_alloc ?_ _)); exact BK251.out) hb); have n1_ := Aside0.mk (below_step (by repeat (first | (with_reducible first | exact HB.out | apply below_alloc | apply pw_below_drewN | apply below_drew1 | refine below_set ?_ GE251.out) | exact HB.out)) hb); clear BK251; clear HB; have BK251 := n0_; have HB := n1_; clear n0_ n1_; (try clear hb); (try clear hb2); (try clear hk); (try clear hi)) | ((with_reducible refine gate_dst (N := 8) rfl ?_); refine box_event ?hg (N := 8) ?hd (cs := #[.int .i64 0, .int .u8 0, .int .i64 0, .int .i64 0, .bool false]) (t := 24) ?hr ?_; (case hd => rfl); (case hg => rfl); (case hr => first | (go_simp; done) | (go_simp; rfl)); intro gb259 hg w30 hbox hb; have n0_ := Aside0.mk (blk_below (g := gb251) (o := .cells #[.int .i64 t246, .int .u8 t247, .int .i64 t248, .int .i64 t249, .bool true] 24 (0, 0)) (by (with_reducible repeat (first | refine blk_drewN ?_ _ | refine blk_drew ?_ | refine blk_alloc ?_ _)); exact BK251.out) hb); have n1_ := Aside0.mk (below_step (by repeat (first | (with_reducible first | exact HB.out | apply below_alloc | apply pw_below_drewN | apply below_drew1 | refine below_set ?_ GE251.out) | exact HB.out)) hb); have n2_ := Aside0.mk (hbox); have n3_ := Aside0.mk ((by rw [hg]; exact (below_size (by repeat (first | (with_reducible first | exact HB.out | apply below_alloc | apply pw_below_drewN | apply below_drew1 | refine below_set ?_ GE251.out) | exact HB.out))) : w.heap.size ≤ gb259)); have n4_ := Aside0.mk ((by rw [hg]; exact (below_size (by repeat (first | (with_reducible first | exact HB.out | apply below_alloc | apply pw_below_drewN | apply below_drew1 | refine below_set ?_ GE251.out) | exact HB.out))) : w.heap.size ≤ gb259)); have n5_ := Aside0.mk ((by rw [hg]; exact Nat.ne_of_lt (blk_lt (g := gb251) (o := .cells #[.int .i64 t246, .int .u8 t247, .int .i64 t248, .int .i64 t249, .bool true] 24 (0, 0)) (by (with_reducible repeat (first | refine blk_drewN ?_ _ | refine blk_drew ?_ | refine blk_alloc ?_ _)); exact BK251.out)) : gb251 ≠ gb259)); have n6_ := Aside0.mk ((by rw [hg]; exact Nat.ne_of_gt (blk_lt (g := gb251) (o := .cells #[.int .i64 t246, .int .u8 t247, .int .i64 t248, .int .i64 t249, .bool true] 24 (0, 0)) (by (with_reducible repeat (first | refine blk_drewN ?_ _ | refine blk_drew ?_ | refine blk_alloc ?_ _)); exact BK251.out)) : gb259 ≠ gb251)); clear BK251; clear HB; have BK251 := n0_; have HB := n1_; have BK259 := n2_; have GW259 := n3_; have GE259 := n4_; have NB251_259 := n5_; have NB259_251 := n6_; clear n0_ n1_ n2_ n3_ n4_ n5_ n6_; clear hb hbox hg; have hnb31 := NB259_251.out; have hnc31 := NB251_259.out; have hcz32_0 : w30.cell? ⟨gb259, 0, none⟩ = some (.int .i64 0) := (blk_cell BK259.out 0).trans rfl; have hcz32_1 : w30.cell? ⟨gb259, 1, none⟩ = some (.int .u8 0) := (blk_cell BK259.out 1).trans rfl; have hcz32_2 : w30.cell? ⟨gb259, 2, none⟩ = some (.int .i64 0) := (blk_cell BK259.out 2).trans rfl; have hcz32_3 : w30.cell? ⟨gb259, 3, none⟩ = some (.int .i64 0) := (blk_cell BK259.out 3).trans rfl; have hcz32_4 : w30.cell? ⟨gb259, 4, none⟩ = some (.bool false) := (blk_cell BK259.out 4).trans rfl; have hfz32_0 := blk_frozen BK259.out 0; have hfz32_1 := blk_frozen BK259.out 1; have hfz32_2 := blk_frozen BK259.out 2; have hfz32_3 := blk_frozen BK259.out 3; have hfz32_4 := blk_frozen BK259.out 4) | ((with_reducible refine gate_callee (f := 10) rfl ?_); refine goesL_ (some 36) rfl rfl Try.func10 (by kernel_rfl) rfl #[.int .i64 (wrap64 (57399 + (wrap64 (Int.tmod a0 18))))] rfl (by (try simp only [List.map_toArray, List.map_cons, List.map_nil]); first | done | rfl | (simp only [List.length_drop, List.length_take]; rfl)) ?_; (with_reducible refine (keys_Look.calls (wrap64 (57399 + (wrap64 (Int.tmod a0 18)))) t260 t261 t262 t263 t264 _ A12.out).mono ?_); rintro e w33 ⟨rfl, hb⟩; refine ⟨_, rfl, ?_⟩; have n0_ := Aside0.mk (blk_below (g := gb251) (o := .cells #[.int .i64 t246, .int .u8 t247, .int .i64 t248, .int .i64 t249, .bool true] 24 (0, 0)) (by (with_reducible repeat (first | refine blk_drewN ?_ _ | refine blk_drew ?_ | refine blk_alloc ?_ _)); refine blk_far ?_ NB251_259.out _; (with_reducible repeat (first | refine blk_drewN ?_ _ | refine blk_drew ?_ | refine blk_alloc ?_ _)); refine blk_far ?_ NB251_259.out _; (with_reducible repeat (first | refine blk_drewN ?_ _ | refine blk_drew ?_ | refine blk_alloc ?_ _)); refine blk_far ?_ NB251_259.out _; (with_reducible repeat (first | refine blk_drewN ?_ _ | refine blk_drew ?_ | refine blk_alloc ?_ _)); refine blk_far ?_ NB251_259.out _; (with_reducible repeat (first | refine blk_drewN ?_ _ | refine blk_drew ?_ | refine blk_alloc ?_ _)); refine blk_far ?_ NB251_259.out _; (with_reducible repeat (first | refine blk_drewN ?_ _ | refine blk_drew ?_ | refine blk_alloc ?_ _)); exact BK251.out) hb); have n1_ := Aside0.mk (blk_below (g := gb259) (o := .cells #[.int .i64 t254, .int .u8 t255, .int .i64 t256, .int .i64 t257, .bool false] 24 (0, 0)) (by (with_reducible repeat (first | refine blk_drewN ?_ _ | refine blk_drew ?_ | refine blk_alloc ?_ _)); refine blk_put (cs := #[.int .i64 t254, .int .u8 t255, .int .i64 t256, .int .i64 t257, .bool false]) ?_ 4 _ rfl; (with_reducible repeat (first | refine blk_drewN ?_ _ | refine blk_drew ?_ | refine blk_alloc ?_ _)); refine blk_put (cs := #[.int .i64 t254, .int .u8 t255, .int .i64 t256, .int .i64 0, .bool false]) ?_ 3 _ rfl; (with_reducible repeat (first | refine blk_drewN ?_ _ | refine blk_drew ?_ | refine blk_alloc ?_ _)); refine blk_put (cs := #[.int .i64 t254, .int .u8 t255, .int .i64 0, .int .i64 0, .bool false]) ?_ 2 _ rfl; (with_reducible repeat (first | refine blk_drewN ?_ _ | refine blk_drew ?_ | refine blk_alloc ?_ _)); refine blk_put (cs := #[.int .i64 t254, .int .u8 0, .int .i64 0, .int .i64 0, .bool false]) ?_ 1 _ rfl; (with_reducible repeat (first | refine blk_drewN ?_ _ | refine blk_drew ?_ | refine blk_alloc ?_ _)); refine blk_put (cs := #[.int .i64 0, .int .u8 0, .int .i64 0, .int .i64 0, .bool false]) ?_ 0 _ rfl; (with_reducible repeat (first | refine blk_drewN ?_ _ | refine blk_drew ?_ | refine blk_alloc ?_ _)); exact BK259.out) hb); have n2_ := Aside0.mk (below_step (by repeat (first | (with_reducible first | exact HB.out | apply below_alloc | apply pw_below_drewN | apply below_drew1 | refine below_set ?_ GE251.out | refine below_set ?_ GE259.out) | exact HB.out)) hb); clear BK251; clear BK259; clear HB; have BK251 := n0_; have BK259 := n1_; have HB := n2_; clear n0_ n1_ n2_; (try clear hb); (try clear hb2); (try clear hk); (try clear hi)) | ((with_reducible refine gate_dst (N := 9) rfl ?_); refine box_event ?hg (N := 9) ?hd (cs := #[.int .i64 0, .int .u8 0, .int .i64 0, .int .i64 0, .bool false]) (t := 24) ?hr ?_; (case hd => rfl); (case hg => rfl); (case hr => first | (go_simp; done) | (go_simp; rfl)); intro gb265 hg w34 hbox hb; have n0_ := Aside0.mk (blk_below (g := gb251) (o := .cells #[.int .i64 t246, .int .u8 t247, .int .i64 t248, .int .i64 t249, .bool true] 24 (0, 0)) (by (with_reducible repeat (first | refine blk_drewN ?_ _ | refine blk_drew ?_ | refine blk_alloc ?_ _)); exact BK251.out) hb); have n1_ := Aside0.mk (blk_below (g := gb259) (o := .cells #[.int .i64 t254, .int .u8 t255, .int .i64 t256, .int .i64 t257, .bool false] 24 (0, 0)) (by (with_reducible repeat (first | refine blk_drewN ?_ _ | refine blk_drew ?_ | refine blk_alloc ?_ _)); exact BK259.out) hb); have n2_ := Aside0.mk (below_step (by repeat (first | (with_reducible first | exact HB.out | apply below_alloc | apply pw_below_drewN | apply below_drew1 | refine below_set ?_ GE251.out | refine below_set ?_ GE259.out) | exact HB.out)) hb); have n3_ := Aside0.mk (hbox); have n4_ := Aside0.mk ((by rw [hg]; exact (below_size (by repeat (first | (with_reducible first | exact HB.out | apply below_alloc | apply pw_below_drewN | apply below_drew1 | refine below_set ?_ GE251.out | refine below_set ?_ GE259.out) | exact HB.out))) : w.heap.size ≤ gb265)); have n5_ := Aside0.mk ((by rw [hg]; exact (below_size (by repeat (first | (with_reducible first | exact HB.out | apply below_alloc | apply pw_below_drewN | apply below_drew1 | refine below_set ?_ GE251.out | refine below_set ?_ GE259.out) | exact HB.out))) : w.heap.size ≤ gb265)); have n6_ := Aside0.mk ((by rw [hg]; exact Nat.ne_of_lt (blk_lt (g := gb251) (o := .cells #[.int .i64 t246, .int .u8 t247, .int .i64 t248, .int .i64 t249, .bool true] 24 (0, 0)) (by (with_reducible repeat (first | refine blk_drewN ?_ _ | refine blk_drew ?_ | refine blk_alloc ?_ _)); exact BK251.out)) : gb251 ≠ gb265)); have n7_ := Aside0.mk ((by rw [hg]; exact Nat.ne_of_gt (blk_lt (g := gb251) (o := .cells #[.int .i64 t246, .int .u8 t247, .int .i64 t248, .int .i64 t249, .bool true] 24 (0, 0)) (by (with_reducible repeat (first | refine blk_drewN ?_ _ | refine blk_drew ?_ | refine blk_alloc ?_ _)); exact BK251.out)) : gb265 ≠ gb251)); have n8_ := Aside0.mk ((by rw [hg]; exact Nat.ne_of_lt (blk_lt (g := gb259) (o := .cells #[.int .i64 t254, .int .u8 t255, .int .i64 t256, .int .i64 t257, .bool false] 24 (0, 0)) (by (with_reducible repeat (first | refine blk_drewN ?_ _ | refine blk_drew ?_ | refine blk_alloc ?_ _)); exact BK259.out)) : gb259 ≠ gb265)); have n9_ := Aside0.mk ((by rw [hg]; exact Nat.ne_of_gt (blk_lt (g := gb259) (o := .cells #[.int .i64 t254, .int .u8 t255, .int .i64 t256, .int .i64 t257, .bool false] 24 (0, 0)) (by (with_reducible repeat (first | refine blk_drewN ?_ _ | refine blk_drew ?_ | refine blk_alloc ?_ _)); exact BK259.out)) : gb265 ≠ gb259)); clear BK251; clear BK259; clear HB; have BK251 := n0_; have BK259 := n1_; have HB := n2_; have BK265 := n3_; have GW265 := n4_; have GE265 := n5_; have NB251_265 := n6_; have NB265_251 := n7_; have NB259_265 := n8_; have NB265_259 := n9_; clear n0_ n1_ n2_ n3_ n4_ n5_ n6_ n7_ n8_ n9_; clear hb hbox hg; have hnb35 := NB265_251.out; have hnc35 := NB251_265.out; have hnb36 := NB265_259.out; have hnc36 := NB259_265.out; have hcz37_0 : w34.cell? ⟨gb265, 0, none⟩ = some (.int .i64 0) := (blk_cell BK265.out 0).trans rfl; have hcz37_1 : w34.cell? ⟨gb265, 1, none⟩ = some (.int .u8 0) := (blk_cell BK265.out 1).trans rfl; have hcz37_2 : w34.cell? ⟨gb265, 2, none⟩ = some (.int .i64 0) := (blk_cell BK265.out 2).trans rfl; have hcz37_3 : w34.cell? ⟨gb265, 3, none⟩ = some (.int .i64 0) := (blk_cell BK265.out 3).trans rfl; have hcz37_4 : w34.cell? ⟨gb265, 4, none⟩ = some (.bool false) := (blk_cell BK265.out 4).trans rfl; have hfz37_0 := blk_frozen BK265.out 0; have hfz37_1 := blk_frozen BK265.out 1; have hfz37_2 := blk_frozen BK265.out 2; have hfz37_3 := blk_frozen BK265.out 3; have hfz37_4 := blk_frozen BK265.out 4; have hcz38_0 : w34.cell? ⟨gb259, 0, none⟩ = some (.int .i64 t254) := (blk_cell BK259.out 0).trans rfl; have hcz38_1 : w34.cell? ⟨gb259, 1, none⟩ = some (.int .u8 t255) := (blk_cell BK259.out 1).trans rfl; have hcz38_2 : w34.cell? ⟨gb259, 2, none⟩ = some (.int .i64 t256) := (blk_cell BK259.out 2).trans rfl; have hcz38_3 : w34.cell? ⟨gb259, 3, none⟩ = some (.int .i64 t257) := (blk_cell BK259.out 3).trans rfl; have hcz38_4 : w34.cell? ⟨gb259, 4, none⟩ = some (.bool false) := (blk_cell BK259.out 4).trans rfl; have hfz38_0 := blk_frozen BK259.out 0; have hfz38_1 := blk_frozen BK259.out 1; have hfz38_2 := blk_frozen BK259.out 2; have hfz38_3 := blk_frozen BK259.out 3; have hfz38_4 := blk_frozen BK259.out 4; have hcz39_0 : w34.cell? ⟨gb251, 0, none⟩ = some (.int .i64 t246) := (blk_cell BK251.out 0).trans rfl; have hcz39_1 : w34.cell? ⟨gb251, 1, none⟩ = some (.int .u8 t247) := (blk_cell BK251.out 1).trans rfl; have hcz39_2 : w34.cell? ⟨gb251, 2, none⟩ = some (.int .i64 t248) := (blk_cell BK251.out 2).trans rfl; have hcz39_3 : w34.cell? ⟨gb251, 3, none⟩ = some (.int .i64 t249) := (blk_cell BK251.out 3).trans rfl; have hcz39_4 : w34.cell? ⟨gb251, 4, none⟩ = some (.bool true) := (blk_cell BK251.out 4).trans rfl; have hfz39_0 := blk_frozen BK251.out 0; have hfz39_1 := blk_frozen BK251.out 1; have hfz39_2 := blk_frozen BK251.out 2; have hfz39_3 := blk_frozen BK251.out 3; have hfz39_4 := blk_frozen BK251.out 4) | (go_at_call 10; (with_reducible refine (keys_Look.calls t263 t266 t267 t268 t269 t270 _ A25.out).mono ?_); rintro e w40 ⟨rfl, hb⟩; have n0_ := Aside0.mk (blk_below (g := gb251) (o := .cells #[.int .i64 t246, .int .u8 t247, .int .i64 t248, .int .i64 t249, .bool true] 24 (0, 0)) (by (with_reducible repeat (first | refine blk_drewN ?_ _ | refine blk_drew ?_ | refine blk_alloc ?_ _)); refine blk_far ?_ NB251_265.out _; (with_reducible repeat (first | refine blk_drewN ?_ _ | refine blk_drew ?_ | refine blk_alloc ?_ _)); refine blk_far ?_ NB251_265.out _; (with_reducible repeat (first | refine blk_drewN ?_ _ | refine blk_drew ?_ | refine blk_alloc ?_ _)); refine blk_far ?_ NB251_265.out _; (with_reducible repeat (first | refine blk_drewN ?_ _ | refine blk_drew ?_ | refine blk_alloc ?_ _)); refine blk_far ?_ NB251_265.out _; (with_reducible repeat (first | refine blk_drewN ?_ _ | refine blk_drew ?_ | refine blk_alloc ?_ _)); refine blk_far ?_ NB251_265.out _; (with_reducible repeat (first | refine blk_drewN ?_ _ | refine blk_drew ?_ | refine blk_alloc ?_ _)); exact BK251.out) hb); have n1_ := Aside0.mk (blk_below (g := gb259) (o := .cells #[.int .i64 t254, .int .u8 t255, .int .i64 t256, .int .i64 t257, .bool false] 24 (0, 0)) (by (with_reducible repeat (first | refine blk_drewN ?_ _ | refine blk_drew ?_ | refine blk_alloc ?_ _)); refine blk_far ?_ NB259_265.out _; (with_reducible repeat (first | refine blk_drewN ?_ _ | refine blk_drew ?_ | refine blk_alloc ?_ _)); refine blk_far ?_ NB259_265.out _; (with_reducible repeat (first | refine blk_drewN ?_ _ | refine blk_drew ?_ | refine blk_alloc ?_ _)); refine blk_far ?_ NB259_265.out _; (with_reducible repeat (first | refine blk_drewN ?_ _ | refine blk_drew ?_ | refine blk_alloc ?_ _)); refine blk_far ?_ NB259_265.out _; (with_reducible repeat (first | refine blk_drewN ?_ _ | refine blk_drew ?_ | refine blk_alloc ?_ _)); refine blk_far ?_ NB259_265.out _; (with_reducible repeat (first | refine blk_drewN ?_ _ | refine blk_drew ?_ | refine blk_alloc ?_ _)); exact BK259.out) hb); have n2_ := Aside0.mk (blk_below (g := gb265) (o := .cells #[.int .i64 t260, .int .u8 t261, .int .i64 t262, .int .i64 t263, .bool t264] 24 (0, 0)) (by (with_reducible repeat (first | refine blk_drewN ?_ _ | refine blk_drew ?_ | refine blk_alloc ?_ _)); refine blk_put (cs := #[.int .i64 t260, .int .u8 t261, .int .i64 t262, .int .i64 t263, .bool false]) ?_ 4 _ rfl; (with_reducible repeat (first | refine blk_drewN ?_ _ | refine blk_drew ?_ | refine blk_alloc ?_ _)); refine blk_put (cs := #[.int .i64 t260, .int .u8 t261, .int .i64 t262, .int .i64 0, .bool false]) ?_ 3 _ rfl; (with_reducible repeat (first | refine blk_drewN ?_ _ | refine blk_drew ?_ | refine blk_alloc ?_ _)); refine blk_put (cs := #[.int .i64 t260, .int .u8 t261, .int .i64 0, .int .i64 0, .bool false]) ?_ 2 _ rfl; (with_reducible repeat (first | refine blk_drewN ?_ _ | refine blk_drew ?_ | refine blk_alloc ?_ _)); refine blk_put (cs := #[.int .i64 t260, .int .u8 0, .int .i64 0, .int .i64 0, .bool false]) ?_ 1 _ rfl; (with_reducible repeat (first | refine blk_drewN ?_ _ | refine blk_drew ?_ | refine blk_alloc ?_ _)); refine blk_put (cs := #[.int .i64 0, .int .u8 0, .int .i64 0, .int .i64 0, .bool false]) ?_ 0 _ rfl; (with_reducible repeat (first | refine blk_drewN ?_ _ | refine blk_drew ?_ | refine blk_alloc ?_ _)); exact BK265.out) hb); have n3_ := Aside0.mk (below_step (by repeat (first | (with_reducible first | exact HB.out | apply below_alloc | apply pw_below_drewN | apply below_drew1 | refine below_set ?_ GE251.out | refine below_set ?_ GE259.out | refine below_set ?_ GE265.out) | exact HB.out)) hb); clear BK251; clear BK259; clear BK265; clear HB; have BK251 := n0_; have BK259 := n1_; have BK265 := n2_; have HB := n3_; clear n0_ n1_ n2_ n3_; (try clear hb); (try clear hb2); (try clear hk); (try clear hi)))
                            go_ret
                            exact ⟨by first | rfl | (simp [errW_none, errW_some] <;> rfl) | (simp [*, errW_none, errW_some] <;> rfl), by repeat (first | (with_reducible first | exact HB.out | apply below_alloc | apply pw_below_drewN | apply below_drew1 | refine below_set ?_ GE251.out | refine below_set ?_ GE259.out | refine below_set ?_ GE265.out) | exact HB.out)⟩
                          · rw [if_neg c26] at H
                            have c26b0 : (t266 == 1) = false := beq_eq_false_iff_ne.mpr c26
                            have c26b1 : (t266 != 1) = true := bne_iff_ne.mpr c26
                            obtain rfl := Option.some.inj H
                            have hcz41_0 : wc.cell? ⟨gb251, 0, none⟩ = some (.int .i64 t246) := (blk_cell BK251.out 0).trans rfl
                            have hcz41_1 : wc.cell? ⟨gb251, 1, none⟩ = some (.int .u8 t247) := (blk_cell BK251.out 1).trans rfl
                            have hcz41_2 : wc.cell? ⟨gb251, 2, none⟩ = some (.int .i64 t248) := (blk_cell BK251.out 2).trans rfl
                            have hcz41_3 : wc.cell? ⟨gb251, 3, none⟩ = some (.int .i64 t249) := (blk_cell BK251.out 3).trans rfl
                            have hcz41_4 : wc.cell? ⟨gb251, 4, none⟩ = some (.bool true) := (blk_cell BK251.out 4).trans rfl
                            have hfz41_0 := blk_frozen BK251.out 0
                            have hfz41_1 := blk_frozen BK251.out 1
                            have hfz41_2 := blk_frozen BK251.out 2
                            have hfz41_3 := blk_frozen BK251.out 3
                            have hfz41_4 := blk_frozen BK251.out 4
                            go_wp2_with (first | ((with_reducible refine gate_callee (f := 13) rfl ?_); refine goesL_ (some 27) rfl rfl Try.func13 (by kernel_rfl) rfl #[.int .u8 x5_3, .int .i64 t248] rfl (by (try simp only [List.map_toArray, List.map_cons, List.map_nil]); first | done | rfl | (simp only [List.length_drop, List.length_take]; rfl)) ?_; (with_reducible refine (keys_Find.calls x5_3 t248 t252 true _ A10.out).mono ?_); rintro e w42 ⟨rfl, hb⟩; refine ⟨_, rfl, ?_⟩; have n0_ := Aside0.mk (blk_below (g := gb251) (o := .cells #[.int .i64 t246, .int .u8 t247, .int .i64 t248, .int .i64 t249, .bool true] 24 (0, 0)) (by (with_reducible repeat (first | refine blk_drewN ?_ _ | refine blk_drew ?_ | refine blk_alloc ?_ _)); exact BK251.out) hb); have n1_ := Aside0.mk (below_step (by repeat (first | (with_reducible first | exact HB.out | apply below_alloc | apply pw_below_drewN | apply below_drew1 | refine below_set ?_ GE251.out) | exact HB.out)) hb); clear BK251; clear HB; have BK251 := n0_; have HB := n1_; clear n0_ n1_; (try clear hb); (try clear hb2); (try clear hk); (try clear hi)) | ((with_reducible refine gate_callee (f := 10) rfl ?_); refine goesL_ (some 31) rfl rfl Try.func10 (by kernel_rfl) rfl #[.int .i64 t252] rfl (by (try simp only [List.map_toArray, List.map_cons, List.map_nil]); first | done | rfl | (simp only [List.length_drop, List.length_take]; rfl)) ?_; (with_reducible refine (keys_Look.calls t252 t254 t255 t256 t257 false _ A11.out).mono ?_); rintro e w43 ⟨rfl, hb⟩; refine ⟨_, rfl, ?_⟩; have n0_ := Aside0.mk (blk_below (g := gb251) (o := .cells #[.int .i64 t246, .int .u8 t247, .int .i64 t248, .int .i64 t249, .bool true] 24 (0, 0)) (by (with_reducible repeat (first | refine blk_drewN ?_ _ | refine blk_drew ?_ | refine blk_alloc ?_ _)); exact BK251.out) hb); have n1_ := Aside0.mk (below_step (by repeat (first | (with_reducible first | exact HB.out | apply below_alloc | apply pw_below_drewN | apply below_drew1 | refine below_set ?_ GE251.out) | exact HB.out)) hb); clear BK251; clear HB; have BK251 := n0_; have HB := n1_; clear n0_ n1_; (try clear hb); (try clear hb2); (try clear hk); (try clear hi)) | ((with_reducible refine gate_dst (N := 8) rfl ?_); refine box_event ?hg (N := 8) ?hd (cs := #[.int .i64 0, .int .u8 0, .int .i64 0, .int .i64 0, .bool false]) (t := 24) ?hr ?_; (case hd => rfl); (case hg => rfl); (case hr => first | (go_simp; done) | (go_simp; rfl)); intro gb259 hg w44 hbox hb; have n0_ := Aside0.mk (blk_below (g := gb251) (o := .cells #[.int .i64 t246, .int .u8 t247, .int .i64 t248, .int .i64 t249, .bool true] 24 (0, 0)) (by (with_reducible repeat (first | refine blk_drewN ?_ _ | refine blk_drew ?_ | refine blk_alloc ?_ _)); exact BK251.out) hb); have n1_ := Aside0.mk (below_step (by repeat (first | (with_reducible first | exact HB.out | apply below_alloc | apply pw_below_drewN | apply below_drew1 | refine below_set ?_ GE251.out) | exact HB.out)) hb); have n2_ := Aside0.mk (hbox); have n3_ := Aside0.mk ((by rw [hg]; exact (below_size (by repeat (first | (with_reducible first | exact HB.out | apply below_alloc | apply pw_below_drewN | apply below_drew1 | refine below_set ?_ GE251.out) | exact HB.out))) : w.heap.size ≤ gb259)); have n4_ := Aside0.mk ((by rw [hg]; exact (below_size (by repeat (first | (with_reducible first | exact HB.out | apply below_alloc | apply pw_below_drewN | apply below_drew1 | refine below_set ?_ GE251.out) | exact HB.out))) : w.heap.size ≤ gb259)); have n5_ := Aside0.mk ((by rw [hg]; exact Nat.ne_of_lt (blk_lt (g := gb251) (o := .cells #[.int .i64 t246, .int .u8 t247, .int .i64 t248, .int .i64 t249, .bool true] 24 (0, 0)) (by (with_reducible repeat (first | refine blk_drewN ?_ _ | refine blk_drew ?_ | refine blk_alloc ?_ _)); exact BK251.out)) : gb251 ≠ gb259)); have n6_ := Aside0.mk ((by rw [hg]; exact Nat.ne_of_gt (blk_lt (g := gb251) (o := .cells #[.int .i64 t246, .int .u8 t247, .int .i64 t248, .int .i64 t249, .bool true] 24 (0, 0)) (by (with_reducible repeat (first | refine blk_drewN ?_ _ | refine blk_drew ?_ | refine blk_alloc ?_ _)); exact BK251.out)) : gb259 ≠ gb251)); clear BK251; clear HB; have BK251 := n0_; have HB := n1_; have BK259 := n2_; have GW259 := n3_; have GE259 := n4_; have NB251_259 := n5_; have NB259_251 := n6_; clear n0_ n1_ n2_ n3_ n4_ n5_ n6_; clear hb hbox hg; have hnb45 := NB259_251.out; have hnc45 := NB251_259.out; have hcz46_0 : w44.cell? ⟨gb259, 0, none⟩ = some (.int .i64 0) := (blk_cell BK259.out 0).trans rfl; have hcz46_1 : w44.cell? ⟨gb259, 1, none⟩ = some (.int .u8 0) := (blk_cell BK259.out 1).trans rfl; have hcz46_2 : w44.cell? ⟨gb259, 2, none⟩ = some (.int .i64 0) := (blk_cell BK259.out 2).trans rfl; have hcz46_3 : w44.cell? ⟨gb259, 3, none⟩ = some (.int .i64 0) := (blk_cell BK259.out 3).trans rfl; have hcz46_4 : w44.cell? ⟨gb259, 4, none⟩ = some (.bool false) := (blk_cell BK259.out 4).trans rfl; have hfz46_0 := blk_frozen BK259.out 0; have hfz46_1 := blk_frozen BK259.out 1; have hfz46_2 := blk_frozen BK259.out 2; have hfz46_3 := blk_frozen BK259.out 3; have hfz46_4 := blk_frozen BK259.out 4) | ((with_reducible refine gate_callee (f := 10) rfl ?_); refine goesL_ (some 36) rfl rfl Try.func10 (by kernel_rfl) rfl #[.int .i64 (wrap64 (57399 + (wrap64 (Int.tmod a0 18))))] rfl (by (try simp only [List.map_toArray, List.map_cons, List.map_nil]); first | done | rfl | (simp only [List.length_drop, List.length_take]; rfl)) ?_; (with_reducible refine (keys_Look.calls (wrap64 (57399 + (wrap64 (Int.tmod a0 18)))) t260 t261 t262 t263 t264 _ A12.out).mono ?_); rintro e w47 ⟨rfl, hb⟩; refine ⟨_, rfl, ?_⟩; have n0_ := Aside0.mk (blk_below (g := gb251) (o := .cells #[.int .i64 t246, .int .u8 t247, .int .i64 t248, .int .i64 t249, .bool true] 24 (0, 0)) (by (with_reducible repeat (first | refine blk_drewN ?_ _ | refine blk_drew ?_ | refine blk_alloc ?_ _)); refine blk_far ?_ NB251_259.out _; (with_reducible repeat (first | refine blk_drewN ?_ _ | refine blk_drew ?_ | refine blk_alloc ?_ _)); refine blk_far ?_ NB251_259.out _; (with_reducible repeat (first | refine blk_drewN ?_ _ | refine blk_drew ?_ | refine blk_alloc ?_ _)); refine blk_far ?_ NB251_259.out _; (with_reducible repeat (first | refine blk_drewN ?_ _ | refine blk_drew ?_ | refine blk_alloc ?_ _)); refine blk_far ?_ NB251_259.out _; (with_reducible repeat (first | refine blk_drewN ?_ _ | refine blk_drew ?_ | refine blk_alloc ?_ _)); refine blk_far ?_ NB251_259.out _; (with_reducible repeat (first | refine blk_drewN ?_ _ | refine blk_drew ?_ | refine blk_alloc ?_ _)); exact BK251.out) hb); have n1_ := Aside0.mk (blk_below (g := gb259) (o := .cells #[.int .i64 t254, .int .u8 t255, .int .i64 t256, .int .i64 t257, .bool false] 24 (0, 0)) (by (with_reducible repeat (first | refine blk_drewN ?_ _ | refine blk_drew ?_ | refine blk_alloc ?_ _)); refine blk_put (cs := #[.int .i64 t254, .int .u8 t255, .int .i64 t256, .int .i64 t257, .bool false]) ?_ 4 _ rfl; (with_reducible repeat (first | refine blk_drewN ?_ _ | refine blk_drew ?_ | refine blk_alloc ?_ _)); refine blk_put (cs := #[.int .i64 t254, .int .u8 t255, .int .i64 t256, .int .i64 0, .bool false]) ?_ 3 _ rfl; (with_reducible repeat (first | refine blk_drewN ?_ _ | refine blk_drew ?_ | refine blk_alloc ?_ _)); refine blk_put (cs := #[.int .i64 t254, .int .u8 t255, .int .i64 0, .int .i64 0, .bool false]) ?_ 2 _ rfl; (with_reducible repeat (first | refine blk_drewN ?_ _ | refine blk_drew ?_ | refine blk_alloc ?_ _)); refine blk_put (cs := #[.int .i64 t254, .int .u8 0, .int .i64 0, .int .i64 0, .bool false]) ?_ 1 _ rfl; (with_reducible repeat (first | refine blk_drewN ?_ _ | refine blk_drew ?_ | refine blk_alloc ?_ _)); refine blk_put (cs := #[.int .i64 0, .int .u8 0, .int .i64 0, .int .i64 0, .bool false]) ?_ 0 _ rfl; (with_reducible repeat (first | refine blk_drewN ?_ _ | refine blk_drew ?_ | refine blk_alloc ?_ _)); exact BK259.out) hb); have n2_ := Aside0.mk (below_step (by repeat (first | (with_reducible first | exact HB.out | apply below_alloc | apply pw_below_drewN | apply below_drew1 | refine below_set ?_ GE251.out | refine below_set ?_ GE259.out) | exact HB.out)) hb); clear BK251; clear BK259; clear HB; have BK251 := n0_; have BK259 := n1_; have HB := n2_; clear n0_ n1_ n2_; (try clear hb); (try clear hb2); (try clear hk); (try clear hi)) | ((with_reducible refine gate_dst (N := 9) rfl ?_); refine box_event ?hg (N := 9) ?hd (cs := #[.int .i64 0, .int .u8 0, .int .i64 0, .int .i64 0, .bool false]) (t := 24) ?hr ?_; (case hd => rfl); (case hg => rfl); (case hr => first | (go_simp; done) | (go_simp; rfl)); intro gb265 hg w48 hbox hb; have n0_ := Aside0.mk (blk_below (g := gb251) (o := .cells #[.int .i64 t246, .int .u8 t247, .int .i64 t248, .int .i64 t249, .bool true] 24 (0, 0)) (by (with_reducible repeat (first | refine blk_drewN ?_ _ | refine blk_drew ?_ | refine blk_alloc ?_ _)); exact BK251.out) hb); have n1_ := Aside0.mk (blk_below (g := gb259) (o := .cells #[.int .i64 t254, .int .u8 t255, .int .i64 t256, .int .i64 t257, .bool false] 24 (0, 0)) (by (with_reducible repeat (first | refine blk_drewN ?_ _ | refine blk_drew ?_ | refine blk_alloc ?_ _)); exact BK259.out) hb); have n2_ := Aside0.mk (below_step (by repeat (first | (with_reducible first | exact HB.out | apply below_alloc | apply pw_below_drewN | apply below_drew1 | refine below_set ?_ GE251.out | refine below_set ?_ GE259.out) | exact HB.out)) hb); have n3_ := Aside0.mk (hbox); have n4_ := Aside0.mk ((by rw [hg]; exact (below_size (by repeat (first | (with_reducible first | exact HB.out | apply below_alloc | apply pw_below_drewN | apply below_drew1 | refine below_set ?_ GE251.out | refine below_set ?_ GE259.out) | exact HB.out))) : w.heap.size ≤ gb265)); have n5_ := Aside0.mk ((by rw [hg]; exact (below_size (by repeat (first | (with_reducible first | exact HB.out | apply below_alloc | apply pw_below_drewN | apply below_drew1 | refine below_set ?_ GE251.out | refine below_set ?_ GE259.out) | exact HB.out))) : w.heap.size ≤ gb265)); have n6_ := Aside0.mk ((by rw [hg]; exact Nat.ne_of_lt (blk_lt (g := gb251) (o := .cells #[.int .i64 t246, .int .u8 t247, .int .i64 t248, .int .i64 t249, .bool true] 24 (0, 0)) (by (with_reducible repeat (first | refine blk_drewN ?_ _ | refine blk_drew ?_ | refine blk_alloc ?_ _)); exact BK251.out)) : gb251 ≠ gb265)); have n7_ := Aside0.mk ((by rw [hg]; exact Nat.ne_of_gt (blk_lt (g := gb251) (o := .cells #[.int .i64 t246, .int .u8 t247, .int .i64 t248, .int .i64 t249, .bool true] 24 (0, 0)) (by (with_reducible repeat (first | refine blk_drewN ?_ _ | refine blk_drew ?_ | refine blk_alloc ?_ _)); exact BK251.out)) : gb265 ≠ gb251)); have n8_ := Aside0.mk ((by rw [hg]; exact Nat.ne_of_lt (blk_lt (g := gb259) (o := .cells #[.int .i64 t254, .int .u8 t255, .int .i64 t256, .int .i64 t257, .bool false] 24 (0, 0)) (by (with_reducible repeat (first | refine blk_drewN ?_ _ | refine blk_drew ?_ | refine blk_alloc ?_ _)); exact BK259.out)) : gb259 ≠ gb265)); have n9_ := Aside0.mk ((by rw [hg]; exact Nat.ne_of_gt (blk_lt (g := gb259) (o := .cells #[.int .i64 t254, .int .u8 t255, .int .i64 t256, .int .i64 t257, .bool false] 24 (0, 0)) (by (with_reducible repeat (first | refine blk_drewN ?_ _ | refine blk_drew ?_ | refine blk_alloc ?_ _)); exact BK259.out)) : gb265 ≠ gb259)); clear BK251; clear BK259; clear HB; have BK251 := n0_; have BK259 := n1_; have HB := n2_; have BK265 := n3_; have GW265 := n4_; have GE265 := n5_; have NB251_265 := n6_; have NB265_251 := n7_; have NB259_265 := n8_; have NB265_259 := n9_; clear n0_ n1_ n2_ n3_ n4_ n5_ n6_ n7_ n8_ n9_; clear hb hbox hg; have hnb49 := NB265_251.out; have hnc49 := NB251_265.out; have hnb50 := NB265_259.out; have hnc50 := NB259_265.out; have hcz51_0 : w48.cell? ⟨gb265, 0, none⟩ = some (.int .i64 0) := (blk_cell BK265.out 0).trans rfl; have hcz51_1 : w48.cell? ⟨gb265, 1, none⟩ = some (.int .u8 0) := (blk_cell BK265.out 1).trans rfl; have hcz51_2 : w48.cell? ⟨gb265, 2, none⟩ = some (.int .i64 0) := (blk_cell BK265.out 2).trans rfl; have hcz51_3 : w48.cell? ⟨gb265, 3, none⟩ = some (.int .i64 0) := (blk_cell BK265.out 3).trans rfl; have hcz51_4 : w48.cell? ⟨gb265, 4, none⟩ = some (.bool false) := (blk_cell BK265.out 4).trans rfl; have hfz51_0 := blk_frozen BK265.out 0; have hfz51_1 := blk_frozen BK265.out 1; have hfz51_2 := blk_frozen BK265.out 2; have hfz51_3 := blk_frozen BK265.out 3; have hfz51_4 := blk_frozen BK265.out 4; have hcz52_0 : w48.cell? ⟨gb259, 0, none⟩ = some (.int .i64 t254) := (blk_cell BK259.out 0).trans rfl; have hcz52_1 : w48.cell? ⟨gb259, 1, none⟩ = some (.int .u8 t255) := (blk_cell BK259.out 1).trans rfl; have hcz52_2 : w48.cell? ⟨gb259, 2, none⟩ = some (.int .i64 t256) := (blk_cell BK259.out 2).trans rfl; have hcz52_3 : w48.cell? ⟨gb259, 3, none⟩ = some (.int .i64 t257) := (blk_cell BK259.out 3).trans rfl; have hcz52_4 : w48.cell? ⟨gb259, 4, none⟩ = some (.bool false) := (blk_cell BK259.out 4).trans rfl; have hfz52_0 := blk_frozen BK259.out 0; have hfz52_1 := blk_frozen BK259.out 1; have hfz52_2 := blk_frozen BK259.out 2; have hfz52_3 := blk_frozen BK259.out 3; have hfz52_4 := blk_frozen BK259.out 4; have hcz53_0 : w48.cell? ⟨gb251, 0, none⟩ = some (.int .i64 t246) := (blk_cell BK251.out 0).trans rfl; have hcz53_1 : w48.cell? ⟨gb251, 1, none⟩ = some (.int .u8 t247) := (blk_cell BK251.out 1).trans rfl; have hcz53_2 : w48.cell? ⟨gb251, 2, none⟩ = some (.int .i64 t248) := (blk_cell BK251.out 2).trans rfl; have hcz53_3 : w48.cell? ⟨gb251, 3, none⟩ = some (.int .i64 t249) := (blk_cell BK251.out 3).trans rfl; have hcz53_4 : w48.cell? ⟨gb251, 4, none⟩ = some (.bool true) := (blk_cell BK251.out 4).trans rfl; have hfz53_0 := blk_frozen BK251.out 0; have hfz53_1 := blk_frozen BK251.out 1; have hfz53_2 := blk_frozen BK251.out 2; have hfz53_3 := blk_frozen BK251.out 3; have hfz53_4 := blk_frozen BK251.out 4) | (go_at_call 10; (with_reducible refine (keys_Look.calls t263 t266 t267 t268 t269 t270 _ A25.out).mono ?_); rintro e w54 ⟨rfl, hb⟩; have n0_ := Aside0.mk (blk_below (g := gb251) (o := .cells #[.int .i64 t246, .int .u8 t247, .int .i64 t248, .int .i64 t249, .bool true] 24 (0, 0)) (by (with_reducible repeat (first | refine blk_drewN ?_ _ | refine blk_drew ?_ | refine blk_alloc ?_ _)); refine blk_far ?_ NB251_265.out _; (with_reducible repeat (first | refine blk_drewN ?_ _ | refine blk_drew ?_ | refine blk_alloc ?_ _)); refine blk_far ?_ NB251_265.out _; (with_reducible repeat (first | refine blk_drewN ?_ _ | refine blk_drew ?_ | refine blk_alloc ?_ _)); refine blk_far ?_ NB251_265.out _; (with_reducible repeat (first | refine blk_drewN ?_ _ | refine blk_drew ?_ | refine blk_alloc ?_ _)); refine blk_far ?_ NB251_265.out _; (with_reducible repeat (first | refine blk_drewN ?_ _ | refine blk_drew ?_ | refine blk_alloc ?_ _)); refine blk_far ?_ NB251_265.out _; (with_reducible repeat (first | refine blk_drewN ?_ _ | refine blk_drew ?_ | refine blk_alloc ?_ _)); exact BK251.out) hb); have n1_ := Aside0.mk (blk_below (g := gb259) (o := .cells #[.int .i64 t254, .int .u8 t255, .int .i64 t256, .int .i64 t257, .bool false] 24 (0, 0)) (by (with_reducible repeat (first | refine blk_drewN ?_ _ | refine blk_drew ?_ | refine blk_alloc ?_ _)); refine blk_far ?_ NB259_265.out _; (with_reducible repeat (first | refine blk_drewN ?_ _ | refine blk_drew ?_ | refine blk_alloc ?_ _)); refine blk_far ?_ NB259_265.out _; (with_reducible repeat (first | refine blk_drewN ?_ _ | refine blk_drew ?_ | refine blk_alloc ?_ _)); refine blk_far ?_ NB259_265.out _; (with_reducible repeat (first | refine blk_drewN ?_ _ | refine blk_drew ?_ | refine blk_alloc ?_ _)); refine blk_far ?_ NB259_265.out _; (with_reducible repeat (first | refine blk_drewN ?_ _ | refine blk_drew ?_ | refine blk_alloc ?_ _)); refine blk_far ?_ NB259_265.out _; (with_reducible repeat (first | refine blk_drewN ?_ _ | refine blk_drew ?_ | refine blk_alloc ?_ _)); exact BK259.out) hb); have n2_ := Aside0.mk (blk_below (g := gb265) (o := .cells #[.int .i64 t260, .int .u8 t261, .int .i64 t262, .int .i64 t263, .bool t264] 24 (0, 0)) (by (with_reducible repeat (first | refine blk_drewN ?_ _ | refine blk_drew ?_ | refine blk_alloc ?_ _)); refine blk_put (cs := #[.int .i64 t260, .int .u8 t261, .int .i64 t262, .int .i64 t263, .bool false]) ?_ 4 _ rfl; (with_reducible repeat (first | refine blk_drewN ?_ _ | refine blk_drew ?_ | refine blk_alloc ?_ _)); refine blk_put (cs := #[.int .i64 t260, .int .u8 t261, .int .i64 t262, .int .i64 0, .bool false]) ?_ 3 _ rfl; (with_reducible repeat (first | refine blk_drewN ?_ _ | refine blk_drew ?_ | refine blk_alloc ?_ _)); refine blk_put (cs := #[.int .i64 t260, .int .u8 t261, .int .i64 0, .int .i64 0, .bool false]) ?_ 2 _ rfl; (with_reducible repeat (first | refine blk_drewN ?_ _ | refine blk_drew ?_ | refine blk_alloc ?_ _)); refine blk_put (cs := #[.int .i64 t260, .int .u8 0, .int .i64 0, .int .i64 0, .bool false]) ?_ 1 _ rfl; (with_reducible repeat (first | refine blk_drewN ?_ _ | refine blk_drew ?_ | refine blk_alloc ?_ _)); refine blk_put (cs := #[.int .i64 0, .int .u8 0, .int .i64 0, .int .i64 0, .bool false]) ?_ 0 _ rfl; (with_reducible repeat (first | refine blk_drewN ?_ _ | refine blk_drew ?_ | refine blk_alloc ?_ _)); exact BK265.out) hb); have n3_ := Aside0.mk (below_step (by repeat (first | (with_reducible first | exact HB.out | apply below_alloc | apply pw_below_drewN | apply below_drew1 | refine below_set ?_ GE251.out | refine below_set ?_ GE259.out | refine below_set ?_ GE265.out) | exact HB.out)) hb); clear BK251; clear BK259; clear BK265; clear HB; have BK251 := n0_; have BK259 := n1_; have BK265 := n2_; have HB := n3_; clear n0_ n1_ n2_ n3_; (try clear hb); (try clear hb2); (try clear hk); (try clear hi); have hcz55_0 : w54.cell? ⟨gb265, 0, none⟩ = some (.int .i64 t260) := (blk_cell BK265.out 0).trans rfl; have hcz55_1 : w54.cell? ⟨gb265, 1, none⟩ = some (.int .u8 t261) := (blk_cell BK265.out 1).trans rfl; have hcz55_2 : w54.cell? ⟨gb265, 2, none⟩ = some (.int .i64 t262) := (blk_cell BK265.out 2).trans rfl; have hcz55_3 : w54.cell? ⟨gb265, 3, none⟩ = some (.int .i64 t263) := (blk_cell BK265.out 3).trans rfl; have hcz55_4 : w54.cell? ⟨gb265, 4, none⟩ = some (.bool t264) := (blk_cell BK265.out 4).trans rfl; have hfz55_0 := blk_frozen BK265.out 0; have hfz55_1 := blk_frozen BK265.out 1; have hfz55_2 := blk_frozen BK265.out 2; have hfz55_3 := blk_frozen BK265.out 3; have hfz55_4 := blk_frozen BK265.out 4))
                            go_ret
                            exact ⟨by first | rfl | (simp [errW_none, errW_some] <;> rfl) | (simp [*, errW_none, errW_some] <;> rfl), by repeat (first | (with_reducible first | exact HB.out | apply below_alloc | apply pw_below_drewN | apply below_drew1 | refine below_set ?_ GE251.out | refine below_set ?_ GE259.out | refine below_set ?_ GE265.out) | exact HB.out)⟩
                        · rw [if_neg c24] at H
                          exact absurd H (by simp)
                      · replace c23 := Bool.eq_false_iff.mpr c23
                        subst c23
                        have H1 : (none) = some r := by rw [if_neg (show ¬ (false = true) by decide)] at H; exact H
                        clear H
                        have H := H1
                        clear H1
                        exact absurd H (by simp)
                    · replace c22 := Bool.eq_false_iff.mpr c22
                      subst c22
                      have H1 : (none) = some r := by rw [if_neg (show ¬ (false = true) by decide)] at H; exact H
                      clear H
                      have H := H1
                      clear H1
                      exact absurd H (by simp)
                  · replace c21 := Bool.eq_false_iff.mpr c21
                    subst c21
                    have H1 : (none) = some r := by rw [if_neg (show ¬ (false = true) by decide)] at H; exact H
                    clear H
                    have H := H1
                    clear H1
                    exact absurd H (by simp)
              · rw [if_neg c17] at H
                have c17b0 : (t254 == t246) = false := beq_eq_false_iff_ne.mpr c17
                have c17b1 : (t254 != t246) = true := bne_iff_ne.mpr c17
                by_cases c56 : t245 = true
                · subst c56
                  have H1 : (if t253 = true then (none) else (none)) = some r := by rw [if_pos rfl] at H; exact H
                  clear H
                  have H := H1
                  clear H1
                  by_cases c57 : t253 = true
                  · subst c57
                    have H1 : (none) = some r := by rw [if_pos rfl] at H; exact H
                    clear H
                    have H := H1
                    clear H1
                    exact absurd H (by simp)
                  · replace c57 := Bool.eq_false_iff.mpr c57
                    subst c57
                    have H1 : (none) = some r := by rw [if_neg (show ¬ (false = true) by decide)] at H; exact H
                    clear H
                    have H := H1
                    clear H1
                    exact absurd H (by simp)
                · replace c56 := Bool.eq_false_iff.mpr c56
                  subst c56
                  have H1 : (none) = some r := by rw [if_neg (show ¬ (false = true) by decide)] at H; exact H
                  clear H
                  have H := H1
                  clear H1
                  exact absurd H (by simp)
            · rw [if_neg c16] at H
              have c16b0 : (t256 == t248) = false := beq_eq_false_iff_ne.mpr c16
              have c16b1 : (t256 != t248) = true := bne_iff_ne.mpr c16
              by_cases c58 : t245 = true
              · subst c58
                have H1 : (if t253 = true then (none) else (none)) = some r := by rw [if_pos rfl] at H; exact H
                clear H
                have H := H1
                clear H1
                by_cases c59 : t253 = true
                · subst c59
                  have H1 : (none) = some r := by rw [if_pos rfl] at H; exact H
                  clear H
                  have H := H1
                  clear H1
                  exact absurd H (by simp)
                · replace c59 := Bool.eq_false_iff.mpr c59
                  subst c59
                  have H1 : (none) = some r := by rw [if_neg (show ¬ (false = true) by decide)] at H; exact H
                  clear H
                  have H := H1
                  clear H1
                  exact absurd H (by simp)
              · replace c58 := Bool.eq_false_iff.mpr c58
                subst c58
                have H1 : (none) = some r := by rw [if_neg (show ¬ (false = true) by decide)] at H; exact H
                clear H
                have H := H1
                clear H1
                exact absurd H (by simp)
          · rw [if_neg c15] at H
            have c15b0 : (t255 == t247) = false := beq_eq_false_iff_ne.mpr c15
            have c15b1 : (t255 != t247) = true := bne_iff_ne.mpr c15
            by_cases c60 : t245 = true
            · subst c60
              have H1 : (if t253 = true then (none) else (none)) = some r := by rw [if_pos rfl] at H; exact H
              clear H
              have H := H1
              clear H1
              by_cases c61 : t253 = true
              · subst c61
                have H1 : (none) = some r := by rw [if_pos rfl] at H; exact H
                clear H
                have H := H1
                clear H1
                exact absurd H (by simp)
              · replace c61 := Bool.eq_false_iff.mpr c61
                subst c61
                have H1 : (none) = some r := by rw [if_neg (show ¬ (false = true) by decide)] at H; exact H
                clear H
                have H := H1
                clear H1
                exact absurd H (by simp)
            · replace c60 := Bool.eq_false_iff.mpr c60
              subst c60
              have H1 : (none) = some r := by rw [if_neg (show ¬ (false = true) by decide)] at H; exact H
              clear H
              have H := H1
              clear H1
              exact absurd H (by simp)
        · rw [if_neg c14] at H
          have c14b0 : decide (t261 ≤ 122) = false := decide_eq_false c14
          clear c14
          by_cases c62 : t261 ≥ 65
          · rw [if_pos c62] at H
            have c62b0 : decide (65 ≤ t261) = true := decide_eq_true c62
            clear c62
            by_cases c63 : t255 = t247
            · rw [if_pos c63] at H
              have c63b0 : (t255 == t247) = true := beq_iff_eq.mpr c63
              have c63b1 : (t255 != t247) = false := bne_eq_false_iff_eq.mpr c63
              clear c63
              by_cases c64 : t256 = t248
              · rw [if_pos c64] at H
                have c64b0 : (t256 == t248) = true := beq_iff_eq.mpr c64
                have c64b1 : (t256 != t248) = false := bne_eq_false_iff_eq.mpr c64
                clear c64
                by_cases c65 : t254 = t246
                · rw [if_pos c65] at H
                  have c65b0 : (t254 == t246) = true := beq_iff_eq.mpr c65
                  have c65b1 : (t254 != t246) = false := bne_eq_false_iff_eq.mpr c65
                  clear c65
                  by_cases c66 : t258 = true
                  · subst c66
                    have H1 : (if t245 = true then (if t253 = true then (none) else (none)) else (none)) = some r := by rw [if_pos rfl] at H; exact H
                    clear H
                    have H := H1
                    clear H1
                    by_cases c67 : t245 = true
                    · subst c67
                      have H1 : (if t253 = true then (none) else (none)) = some r := by rw [if_pos rfl] at H; exact H
                      clear H
                      have H := H1
                      clear H1
                      by_cases c68 : t253 = true
                      · subst c68
                        have H1 : (none) = some r := by rw [if_pos rfl] at H; exact H
                        clear H
                        have H := H1
                        clear H1
                        exact absurd H (by simp)
                      · replace c68 := Bool.eq_false_iff.mpr c68
                        subst c68
                        have H1 : (none) = some r := by rw [if_neg (show ¬ (false = true) by decide)] at H; exact H
                        clear H
                        have H := H1
                        clear H1
                        exact absurd H (by simp)
                    · replace c67 := Bool.eq_false_iff.mpr c67
                      subst c67
                      have H1 : (none) = some r := by rw [if_neg (show ¬ (false = true) by decide)] at H; exact H
                      clear H
                      have H := H1
                      clear H1
                      exact absurd H (by simp)
                  · replace c66 := Bool.eq_false_iff.mpr c66
                    subst c66
                    have H1 : (if t245 = true then (if t253 = true then (if t250 = true then (if t260 = 5 then (if t261 ≤ 90 then ((keys_Look.f t263).bind fun bt271 => (if bt271.1 = 1 then (some true) else (some (t263 == 13)))) else (none)) else (none)) else (none)) else (none)) else (none)) = some r := by rw [if_neg (show ¬ (false = true) by decide)] at H; exact H
                    clear H
                    have H := H1
                    clear H1
                    by_cases c69 : t245 = true
                    · subst c69
                      have H1 : (if t253 = true then (if t250 = true then (if t260 = 5 then (if t261 ≤ 90 then ((keys_Look.f t263).bind fun bt271 => (if bt271.1 = 1 then (some true) else (some (t263 == 13)))) else (none)) else (none)) else (none)) else (none)) = some r := by rw [if_pos rfl] at H; exact H
                      clear H
                      have H := H1
                      clear H1
                      by_cases c70 : t253 = true
                      · subst c70
                        have H1 : (if t250 = true then (if t260 = 5 then (if t261 ≤ 90 then ((keys_Look.f t263).bind fun bt271 => (if bt271.1 = 1 then (some true) else (some (t263 == 13)))) else (none)) else (none)) else (none)) = some r := by rw [if_pos rfl] at H; exact H
                        clear H
                        have H := H1
                        clear H1
                        by_cases c71 : t250 = true
                        · subst c71
                          have H1 : (if t260 = 5 then (if t261 ≤ 90 then ((keys_Look.f t263).bind fun bt271 => (if bt271.1 = 1 then (some true) else (some (t263 == 13)))) else (none)) else (none)) = some r := by rw [if_pos rfl] at H; exact H
                          clear H
                          have H := H1
                          clear H1
                          by_cases c72 : t260 = 5
                          · rw [if_pos c72] at H
                            have c72b0 : (t260 == 5) = true := beq_iff_eq.mpr c72
                            have c72b1 : (t260 != 5) = false := bne_eq_false_iff_eq.mpr c72
                            clear c72
                            by_cases c73 : t261 ≤ 90
                            · rw [if_pos c73] at H
                              have c73b0 : decide (t261 ≤ 90) = true := decide_eq_true c73
                              clear c73
                              replace H := Option.bind_eq_some_iff.mp H
                              obtain ⟨⟨t271, t272, t273, t274, t275⟩, A740, H⟩ := H
                              replace H : (if t271 = 1 then (some true) else (some (t263 == 13))) = some r := H
                              have A74 := Aside0.mk A740
                              clear A740
                              by_cases c75 : t271 = 1
                              · rw [if_pos c75] at H
                                have c75b0 : (t271 == 1) = true := beq_iff_eq.mpr c75
                                have c75b1 : (t271 != 1) = false := bne_eq_false_iff_eq.mpr c75
                                clear c75
                                obtain rfl := Option.some.inj H
                                have hcz76_0 : wc.cell? ⟨gb251, 0, none⟩ = some (.int .i64 t246) := (blk_cell BK251.out 0).trans rfl
                                have hcz76_1 : wc.cell? ⟨gb251, 1, none⟩ = some (.int .u8 t247) := (blk_cell BK251.out 1).trans rfl
                                have hcz76_2 : wc.cell? ⟨gb251, 2, none⟩ = some (.int .i64 t248) := (blk_cell BK251.out 2).trans rfl
                                have hcz76_3 : wc.cell? ⟨gb251, 3, none⟩ = some (.int .i64 t249) := (blk_cell BK251.out 3).trans rfl
                                have hcz76_4 : wc.cell? ⟨gb251, 4, none⟩ = some (.bool true) := (blk_cell BK251.out 4).trans rfl
                                have hfz76_0 := blk_frozen BK251.out 0
                                have hfz76_1 := blk_frozen BK251.out 1
                                have hfz76_2 := blk_frozen BK251.out 2
                                have hfz76_3 := blk_frozen BK251.out 3
                                have hfz76_4 := blk_frozen BK251.out 4
                                go_wp2_with (first | ((with_reducible refine gate_callee (f := 13) rfl ?_); refine goesL_ (some 27) rfl rfl Try.func13 (by kernel_rfl) rfl #[.int .u8 x5_3, .int .i64 t248] rfl (by (try simp only [List.map_toArray, List.map_cons, List.map_nil]); first | done | rfl | (simp only [List.length_drop, List.length_take]; rfl)) ?_; (with_reducible refine (keys_Find.calls x5_3 t248 t252 true _ A10.out).mono ?_); rintro e w77 ⟨rfl, hb⟩; refine ⟨_, rfl, ?_⟩; have n0_ := Aside0.mk (blk_below (g := gb251) (o := .cells #[.int .i64 t246, .int .u8 t247, .int .i64 t248, .int .i64 t249, .bool true] 24 (0, 0)) (by (with_reducible repeat (first | refine blk_drewN ?_ _ | refine blk_drew ?_ | refine blk_alloc ?_ _)); exact BK251.out) hb); have n1_ := Aside0.mk (below_step (by repeat (first | (with_reducible first | exact HB.out | apply below_alloc | apply pw_below_drewN | apply below_drew1 | refine below_set ?_ GE251.out) | exact HB.out)) hb); clear BK251; clear HB; have BK251 := n0_; have HB := n1_; clear n0_ n1_; (try clear hb); (try clear hb2); (try clear hk); (try clear hi)) | ((with_reducible refine gate_callee (f := 10) rfl ?_); refine goesL_ (some 31) rfl rfl Try.func10 (by kernel_rfl) rfl #[.int .i64 t252] rfl (by (try simp only [List.map_toArray, List.map_cons, List.map_nil]); first | done | rfl | (simp only [List.length_drop, List.length_take]; rfl)) ?_; (with_reducible refine (keys_Look.calls t252 t254 t255 t256 t257 false _ A11.out).mono ?_); rintro e w78 ⟨rfl, hb⟩; refine ⟨_, rfl, ?_⟩; have n0_ := Aside0.mk (blk_below (g := gb251) (o := .cells #[.int .i64 t246, .int .u8 t247, .int .i64 t248, .int .i64 t249, .bool true] 24 (0, 0)) (by (with_reducible repeat (first | refine blk_drewN ?_ _ | refine blk_drew ?_ | refine blk_alloc ?_ _)); exact BK251.out) hb); have n1_ := Aside0.mk (below_step (by repeat (first | (with_reducible first | exact HB.out | apply below_alloc | apply pw_below_drewN | apply below_drew1 | refine below_set ?_ GE251.out) | exact HB.out)) hb); clear BK251; clear HB; have BK251 := n0_; have HB := n1_; clear n0_ n1_; (try clear hb); (try clear hb2); (try clear hk); (try clear hi)) | ((with_reducible refine gate_dst (N := 8) rfl ?_); refine box_event ?hg (N := 8) ?hd (cs := #[.int .i64 0, .int .u8 0, .int .i64 0, .int .i64 0, .bool false]) (t := 24) ?hr ?_; (case hd => rfl); (case hg => rfl); (case hr => first | (go_simp; done) | (go_simp; rfl)); intro gb259 hg w79 hbox hb; have n0_ := Aside0.mk (blk_below (g := gb251) (o := .cells #[.int .i64 t246, .int .u8 t247, .int .i64 t248, .int .i64 t249, .bool true] 24 (0, 0)) (by (with_reducible repeat (first | refine blk_drewN ?_ _ | refine blk_drew ?_ | refine blk_alloc ?_ _)); exact BK251.out) hb); have n1_ := Aside0.mk (below_step (by repeat (first | (with_reducible first | exact HB.out | apply below_alloc | apply pw_below_drewN | apply below_drew1 | refine below_set ?_ GE251.out) | exact HB.out)) hb); have n2_ := Aside0.mk (hbox); have n3_ := Aside0.mk ((by rw [hg]; exact (below_size (by repeat (first | (with_reducible first | exact HB.out | apply below_alloc | apply pw_below_drewN | apply below_drew1 | refine below_set ?_ GE251.out) | exact HB.out))) : w.heap.size ≤ gb259)); have n4_ := Aside0.mk ((by rw [hg]; exact (below_size (by repeat (first | (with_reducible first | exact HB.out | apply below_alloc | apply pw_below_drewN | apply below_drew1 | refine below_set ?_ GE251.out) | exact HB.out))) : w.heap.size ≤ gb259)); have n5_ := Aside0.mk ((by rw [hg]; exact Nat.ne_of_lt (blk_lt (g := gb251) (o := .cells #[.int .i64 t246, .int .u8 t247, .int .i64 t248, .int .i64 t249, .bool true] 24 (0, 0)) (by (with_reducible repeat (first | refine blk_drewN ?_ _ | refine blk_drew ?_ | refine blk_alloc ?_ _)); exact BK251.out)) : gb251 ≠ gb259)); have n6_ := Aside0.mk ((by rw [hg]; exact Nat.ne_of_gt (blk_lt (g := gb251) (o := .cells #[.int .i64 t246, .int .u8 t247, .int .i64 t248, .int .i64 t249, .bool true] 24 (0, 0)) (by (with_reducible repeat (first | refine blk_drewN ?_ _ | refine blk_drew ?_ | refine blk_alloc ?_ _)); exact BK251.out)) : gb259 ≠ gb251)); clear BK251; clear HB; have BK251 := n0_; have HB := n1_; have BK259 := n2_; have GW259 := n3_; have GE259 := n4_; have NB251_259 := n5_; have NB259_251 := n6_; clear n0_ n1_ n2_ n3_ n4_ n5_ n6_; clear hb hbox hg; have hnb80 := NB259_251.out; have hnc80 := NB251_259.out; have hcz81_0 : w79.cell? ⟨gb259, 0, none⟩ = some (.int .i64 0) := (blk_cell BK259.out 0).trans rfl; have hcz81_1 : w79.cell? ⟨gb259, 1, none⟩ = some (.int .u8 0) := (blk_cell BK259.out 1).trans rfl; have hcz81_2 : w79.cell? ⟨gb259, 2, none⟩ = some (.int .i64 0) := (blk_cell BK259.out 2).trans rfl; have hcz81_3 : w79.cell? ⟨gb259, 3, none⟩ = some (.int .i64 0) := (blk_cell BK259.out 3).trans rfl; have hcz81_4 : w79.cell? ⟨gb259, 4, none⟩ = some (.bool false) := (blk_cell BK259.out 4).trans rfl; have hfz81_0 := blk_frozen BK259.out 0; have hfz81_1 := blk_frozen BK259.out 1; have hfz81_2 := blk_frozen BK259.out 2; have hfz81_3 := blk_frozen BK259.out 3; have hfz81_4 := blk_frozen BK259.out 4) | ((with_reducible refine gate_callee (f := 10) rfl ?_); refine goesL_ (some 36) rfl rfl Try.func10 (by kernel_rfl) rfl #[.int .i64 (wrap64 (57399 + (wrap64 (Int.tmod a0 18))))] rfl (by (try simp only [List.map_toArray, List.map_cons, List.map_nil]); first | done | rfl | (simp only [List.length_drop, List.length_take]; rfl)) ?_; (with_reducible refine (keys_Look.calls (wrap64 (57399 + (wrap64 (Int.tmod a0 18)))) t260 t261 t262 t263 t264 _ A12.out).mono ?_); rintro e w82 ⟨rfl, hb⟩; refine ⟨_, rfl, ?_⟩; have n0_ := Aside0.mk (blk_below (g := gb251) (o := .cells #[.int .i64 t246, .int .u8 t247, .int .i64 t248, .int .i64 t249, .bool true] 24 (0, 0)) (by (with_reducible repeat (first | refine blk_drewN ?_ _ | refine blk_drew ?_ | refine blk_alloc ?_ _)); refine blk_far ?_ NB251_259.out _; (with_reducible repeat (first | refine blk_drewN ?_ _ | refine blk_drew ?_ | refine blk_alloc ?_ _)); refine blk_far ?_ NB251_259.out _; (with_reducible repeat (first | refine blk_drewN ?_ _ | refine blk_drew ?_ | refine blk_alloc ?_ _)); refine blk_far ?_ NB251_259.out _; (with_reducible repeat (first | refine blk_drewN ?_ _ | refine blk_drew ?_ | refine blk_alloc ?_ _)); refine blk_far ?_ NB251_259.out _; (with_reducible repeat (first | refine blk_drewN ?_ _ | refine blk_drew ?_ | refine blk_alloc ?_ _)); refine blk_far ?_ NB251_259.out _; (with_reducible repeat (first | refine blk_drewN ?_ _ | refine blk_drew ?_ | refine blk_alloc ?_ _)); exact BK251.out) hb); have n1_ := Aside0.mk (blk_below (g := gb259) (o := .cells #[.int .i64 t254, .int .u8 t255, .int .i64 t256, .int .i64 t257, .bool false] 24 (0, 0)) (by (with_reducible repeat (first | refine blk_drewN ?_ _ | refine blk_drew ?_ | refine blk_alloc ?_ _)); refine blk_put (cs := #[.int .i64 t254, .int .u8 t255, .int .i64 t256, .int .i64 t257, .bool false]) ?_ 4 _ rfl; (with_reducible repeat (first | refine blk_drewN ?_ _ | refine blk_drew ?_ | refine blk_alloc ?_ _)); refine blk_put (cs := #[.int .i64 t254, .int .u8 t255, .int .i64 t256, .int .i64 0, .bool false]) ?_ 3 _ rfl; (with_reducible repeat (first | refine blk_drewN ?_ _ | refine blk_drew ?_ | refine blk_alloc ?_ _)); refine blk_put (cs := #[.int .i64 t254, .int .u8 t255, .int .i64 0, .int .i64 0, .bool false]) ?_ 2 _ rfl; (with_reducible repeat (first | refine blk_drewN ?_ _ | refine blk_drew ?_ | refine blk_alloc ?_ _)); refine blk_put (cs := #[.int .i64 t254, .int .u8 0, .int .i64 0, .int .i64 0, .bool false]) ?_ 1 _ rfl; (with_reducible repeat (first | refine blk_drewN ?_ _ | refine blk_drew ?_ | refine blk_alloc ?_ _)); refine blk_put (cs := #[.int .i64 0, .int .u8 0, .int .i64 0, .int .i64 0, .bool false]) ?_ 0 _ rfl; (with_reducible repeat (first | refine blk_drewN ?_ _ | refine blk_drew ?_ | refine blk_alloc ?_ _)); exact BK259.out) hb); have n2_ := Aside0.mk (below_step (by repeat (first | (with_reducible first | exact HB.out | apply below_alloc | apply pw_below_drewN | apply below_drew1 | refine below_set ?_ GE251.out | refine below_set ?_ GE259.out) | exact HB.out)) hb); clear BK251; clear BK259; clear HB; have BK251 := n0_; have BK259 := n1_; have HB := n2_; clear n0_ n1_ n2_; (try clear hb); (try clear hb2); (try clear hk); (try clear hi)) | ((with_reducible refine gate_dst (N := 9) rfl ?_); refine box_event ?hg (N := 9) ?hd (cs := #[.int .i64 0, .int .u8 0, .int .i64 0, .int .i64 0, .bool false]) (t := 24) ?hr ?_; (case hd => rfl); (case hg => rfl); (case hr => first | (go_simp; done) | (go_simp; rfl)); intro gb265 hg w83 hbox hb; have n0_ := Aside0.mk (blk_below (g := gb251) (o := .cells #[.int .i64 t246, .int .u8 t247, .int .i64 t248, .int .i64 t249, .bool true] 24 (0, 0)) (by (with_reducible repeat (first | refine blk_drewN ?_ _ | refine blk_drew ?_ | refine blk_alloc ?_ _)); exact BK251.out) hb); have n1_ := Aside0.mk (blk_below (g := gb259) (o := .cells #[.int .i64 t254, .int .u8 t255, .int .i64 t256, .int .i64 t257, .bool false] 24 (0, 0)) (by (with_reducible repeat (first | refine blk_drewN ?_ _ | refine blk_drew ?_ | refine blk_alloc ?_ _)); exact BK259.out) hb); have n2_ := Aside0.mk (below_step (by repeat (first | (with_reducible first | exact HB.out | apply below_alloc | apply pw_below_drewN | apply below_drew1 | refine below_set ?_ GE251.out | refine below_set ?_ GE259.out) | exact HB.out)) hb); have n3_ := Aside0.mk (hbox); have n4_ := Aside0.mk ((by rw [hg]; exact (below_size (by repeat (first | (with_reducible first | exact HB.out | apply below_alloc | apply pw_below_drewN | apply below_drew1 | refine below_set ?_ GE251.out | refine below_set ?_ GE259.out) | exact HB.out))) : w.heap.size ≤ gb265)); have n5_ := Aside0.mk ((by rw [hg]; exact (below_size (by repeat (first | (with_reducible first | exact HB.out | apply below_alloc | apply pw_below_drewN | apply below_drew1 | refine below_set ?_ GE251.out | refine below_set ?_ GE259.out) | exact HB.out))) : w.heap.size ≤ gb265)); have n6_ := Aside0.mk ((by rw [hg]; exact Nat.ne_of_lt (blk_lt (g := gb251) (o := .cells #[.int .i64 t246, .int .u8 t247, .int .i64 t248, .int .i64 t249, .bool true] 24 (0, 0)) (by (with_reducible repeat (first | refine blk_drewN ?_ _ | refine blk_drew ?_ | refine blk_alloc ?_ _)); exact BK251.out)) : gb251 ≠ gb265)); have n7_ := Aside0.mk ((by rw [hg]; exact Nat.ne_of_gt (blk_lt (g := gb251) (o := .cells #[.int .i64 t246, .int .u8 t247, .int .i64 t248, .int .i64 t249, .bool true] 24 (0, 0)) (by (with_reducible repeat (first | refine blk_drewN ?_ _ | refine blk_drew ?_ | refine blk_alloc ?_ _)); exact BK251.out)) : gb265 ≠ gb251)); have n8_ := Aside0.mk ((by rw [hg]; exact Nat.ne_of_lt (blk_lt (g := gb259) (o := .cells #[.int .i64 t254, .int .u8 t255, .int .i64 t256, .int .i64 t257, .bool false] 24 (0, 0)) (by (with_reducible repeat (first | refine blk_drewN ?_ _ | refine blk_drew ?_ | refine blk_alloc ?_ _)); exact BK259.out)) : gb259 ≠ gb265)); have n9_ := Aside0.mk ((by rw [hg]; exact Nat.ne_of_gt (blk_lt (g := gb259) (o := .cells #[.int .i64 t254, .int .u8 t255, .int .i64 t256, .int .i64 t257, .bool false] 24 (0, 0)) (by (with_reducible repeat (first | refine blk_drewN ?_ _ | refine blk_drew ?_ | refine blk_alloc ?_ _)); exact BK259.out)) : gb265 ≠ gb259)); clear BK251; clear BK259; clear HB; have BK251 := n0_; have BK259 := n1_; have HB := n2_; have BK265 := n3_; have GW265 := n4_; have GE265 := n5_; have NB251_265 := n6_; have NB265_251 := n7_; have NB259_265 := n8_; have NB265_259 := n9_; clear n0_ n1_ n2_ n3_ n4_ n5_ n6_ n7_ n8_ n9_; clear hb hbox hg; have hnb84 := NB265_251.out; have hnc84 := NB251_265.out; have hnb85 := NB265_259.out; have hnc85 := NB259_265.out; have hcz86_0 : w83.cell? ⟨gb265, 0, none⟩ = some (.int .i64 0) := (blk_cell BK265.out 0).trans rfl; have hcz86_1 : w83.cell? ⟨gb265, 1, none⟩ = some (.int .u8 0) := (blk_cell BK265.out 1).trans rfl; have hcz86_2 : w83.cell? ⟨gb265, 2, none⟩ = some (.int .i64 0) := (blk_cell BK265.out 2).trans rfl; have hcz86_3 : w83.cell? ⟨gb265, 3, none⟩ = some (.int .i64 0) := (blk_cell BK265.out 3).trans rfl; have hcz86_4 : w83.cell? ⟨gb265, 4, none⟩ = some (.bool false) := (blk_cell BK265.out 4).trans rfl; have hfz86_0 := blk_frozen BK265.out 0; have hfz86_1 := blk_frozen BK265.out 1; have hfz86_2 := blk_frozen BK265.out 2; have hfz86_3 := blk_frozen BK265.out 3; have hfz86_4 := blk_frozen BK265.out 4; have hcz87_0 : w83.cell? ⟨gb259, 0, none⟩ = some (.int .i64 t254) := (blk_cell BK259.out 0).trans rfl; have hcz87_1 : w83.cell? ⟨gb259, 1, none⟩ = some (.int .u8 t255) := (blk_cell BK259.out 1).trans rfl; have hcz87_2 : w83.cell? ⟨gb259, 2, none⟩ = some (.int .i64 t256) := (blk_cell BK259.out 2).trans rfl; have hcz87_3 : w83.cell? ⟨gb259, 3, none⟩ = some (.int .i64 t257) := (blk_cell BK259.out 3).trans rfl; have hcz87_4 : w83.cell? ⟨gb259, 4, none⟩ = some (.bool false) := (blk_cell BK259.out 4).trans rfl; have hfz87_0 := blk_frozen BK259.out 0; have hfz87_1 := blk_frozen BK259.out 1; have hfz87_2 := blk_frozen BK259.out 2; have hfz87_3 := blk_frozen BK259.out 3; have hfz87_4 := blk_frozen BK259.out 4; have hcz88_0 : w83.cell? ⟨gb251, 0, none⟩ = some (.int .i64 t246) := (blk_cell BK251.out 0).trans rfl; have hcz88_1 : w83.cell? ⟨gb251, 1, none⟩ = some (.int .u8 t247) := (blk_cell BK251.out 1).trans rfl; have hcz88_2 : w83.cell? ⟨gb251, 2, none⟩ = some (.int .i64 t248) := (blk_cell BK251.out 2).trans rfl; have hcz88_3 : w83.cell? ⟨gb251, 3, none⟩ = some (.int .i64 t249) := (blk_cell BK251.out 3).trans rfl; have hcz88_4 : w83.cell? ⟨gb251, 4, none⟩ = some (.bool true) := (blk_cell BK251.out 4).trans rfl; have hfz88_0 := blk_frozen BK251.out 0; have hfz88_1 := blk_frozen BK251.out 1; have hfz88_2 := blk_frozen BK251.out 2; have hfz88_3 := blk_frozen BK251.out 3; have hfz88_4 := blk_frozen BK251.out 4) | (go_at_call 10; (with_reducible refine (keys_Look.calls t263 t271 t272 t273 t274 t275 _ A74.out).mono ?_); rintro e w89 ⟨rfl, hb⟩; have n0_ := Aside0.mk (blk_below (g := gb251) (o := .cells #[.int .i64 t246, .int .u8 t247, .int .i64 t248, .int .i64 t249, .bool true] 24 (0, 0)) (by (with_reducible repeat (first | refine blk_drewN ?_ _ | refine blk_drew ?_ | refine blk_alloc ?_ _)); refine blk_far ?_ NB251_265.out _; (with_reducible repeat (first | refine blk_drewN ?_ _ | refine blk_drew ?_ | refine blk_alloc ?_ _)); refine blk_far ?_ NB251_265.out _; (with_reducible repeat (first | refine blk_drewN ?_ _ | refine blk_drew ?_ | refine blk_alloc ?_ _)); refine blk_far ?_ NB251_265.out _; (with_reducible repeat (first | refine blk_drewN ?_ _ | refine blk_drew ?_ | refine blk_alloc ?_ _)); refine blk_far ?_ NB251_265.out _; (with_reducible repeat (first | refine blk_drewN ?_ _ | refine blk_drew ?_ | refine blk_alloc ?_ _)); refine blk_far ?_ NB251_265.out _; (with_reducible repeat (first | refine blk_drewN ?_ _ | refine blk_drew ?_ | refine blk_alloc ?_ _)); exact BK251.out) hb); have n1_ := Aside0.mk (blk_below (g := gb259) (o := .cells #[.int .i64 t254, .int .u8 t255, .int .i64 t256, .int .i64 t257, .bool false] 24 (0, 0)) (by (with_reducible repeat (first | refine blk_drewN ?_ _ | refine blk_drew ?_ | refine blk_alloc ?_ _)); refine blk_far ?_ NB259_265.out _; (with_reducible repeat (first | refine blk_drewN ?_ _ | refine blk_drew ?_ | refine blk_alloc ?_ _)); refine blk_far ?_ NB259_265.out _; (with_reducible repeat (first | refine blk_drewN ?_ _ | refine blk_drew ?_ | refine blk_alloc ?_ _)); refine blk_far ?_ NB259_265.out _; (with_reducible repeat (first | refine blk_drewN ?_ _ | refine blk_drew ?_ | refine blk_alloc ?_ _)); refine blk_far ?_ NB259_265.out _; (with_reducible repeat (first | refine blk_drewN ?_ _ | refine blk_drew ?_ | refine blk_alloc ?_ _)); refine blk_far ?_ NB259_265.out _; (with_reducible repeat (first | refine blk_drewN ?_ _ | refine blk_drew ?_ | refine blk_alloc ?_ _)); exact BK259.out) hb); have n2_ := Aside0.mk (blk_below (g := gb265) (o := .cells #[.int .i64 t260, .int .u8 t261, .int .i64 t262, .int .i64 t263, .bool t264] 24 (0, 0)) (by (with_reducible repeat (first | refine blk_drewN ?_ _ | refine blk_drew ?_ | refine blk_alloc ?_ _)); refine blk_put (cs := #[.int .i64 t260, .int .u8 t261, .int .i64 t262, .int .i64 t263, .bool false]) ?_ 4 _ rfl; (with_reducible repeat (first | refine blk_drewN ?_ _ | refine blk_drew ?_ | refine blk_alloc ?_ _)); refine blk_put (cs := #[.int .i64 t260, .int .u8 t261, .int .i64 t262, .int .i64 0, .bool false]) ?_ 3 _ rfl; (with_reducible repeat (first | refine blk_drewN ?_ _ | refine blk_drew ?_ | refine blk_alloc ?_ _)); refine blk_put (cs := #[.int .i64 t260, .int .u8 t261, .int .i64 0, .int .i64 0, .bool false]) ?_ 2 _ rfl; (with_reducible repeat (first | refine blk_drewN ?_ _ | refine blk_drew ?_ | refine blk_alloc ?_ _)); refine blk_put (cs := #[.int .i64 t260, .int .u8 0, .int .i64 0, .int .i64 0, .bool false]) ?_ 1 _ rfl; (with_reducible repeat (first | refine blk_drewN ?_ _ | refine blk_drew ?_ | refine blk_alloc ?_ _)); refine blk_put (cs := #[.int .i64 0, .int .u8 0, .int .i64 0, .int .i64 0, .bool false]) ?_ 0 _ rfl; (with_reducible repeat (first | refine blk_drewN ?_ _ | refine blk_drew ?_ | refine blk_alloc ?_ _)); exact BK265.out) hb); have n3_ := Aside0.mk (below_step (by repeat (first | (with_reducible first | exact HB.out | apply below_alloc | apply pw_below_drewN | apply below_drew1 | refine below_set ?_ GE251.out | refine below_set ?_ GE259.out | refine below_set ?_ GE265.out) | exact HB.out)) hb); clear BK251; clear BK259; clear BK265; clear HB; have BK251 := n0_; have BK259 := n1_; have BK265 := n2_; have HB := n3_; clear n0_ n1_ n2_ n3_; (try clear hb); (try clear hb2); (try clear hk); (try clear hi)))
                                go_ret
                                exact ⟨by first | rfl | (simp [errW_none, errW_some] <;> rfl) | (simp [*, errW_none, errW_some] <;> rfl), by repeat (first | (with_reducible first | exact HB.out | apply below_alloc | apply pw_below_drewN | apply below_drew1 | refine below_set ?_ GE251.out | refine below_set ?_ GE259.out | refine below_set ?_ GE265.out) | exact HB.out)⟩
                              · rw [if_neg c75] at H
                                have c75b0 : (t271 == 1) = false := beq_eq_false_iff_ne.mpr c75
                                have c75b1 : (t271 != 1) = true := bne_iff_ne.mpr c75
                                obtain rfl := Option.some.inj H
                                have hcz90_0 : wc.cell? ⟨gb251, 0, none⟩ = some (.int .i64 t246) := (blk_cell BK251.out 0).trans rfl
                                have hcz90_1 : wc.cell? ⟨gb251, 1, none⟩ = some (.int .u8 t247) := (blk_cell BK251.out 1).trans rfl
                                have hcz90_2 : wc.cell? ⟨gb251, 2, none⟩ = some (.int .i64 t248) := (blk_cell BK251.out 2).trans rfl
                                have hcz90_3 : wc.cell? ⟨gb251, 3, none⟩ = some (.int .i64 t249) := (blk_cell BK251.out 3).trans rfl
                                have hcz90_4 : wc.cell? ⟨gb251, 4, none⟩ = some (.bool true) := (blk_cell BK251.out 4).trans rfl
                                have hfz90_0 := blk_frozen BK251.out 0
                                have hfz90_1 := blk_frozen BK251.out 1
                                have hfz90_2 := blk_frozen BK251.out 2
                                have hfz90_3 := blk_frozen BK251.out 3
                                have hfz90_4 := blk_frozen BK251.out 4
                                go_wp2_with (first | ((with_reducible refine gate_callee (f := 13) rfl ?_); refine goesL_ (some 27) rfl rfl Try.func13 (by kernel_rfl) rfl #[.int .u8 x5_3, .int .i64 t248] rfl (by (try simp only [List.map_toArray, List.map_cons, List.map_nil]); first | done | rfl | (simp only [List.length_drop, List.length_take]; rfl)) ?_; (with_reducible refine (keys_Find.calls x5_3 t248 t252 true _ A10.out).mono ?_); rintro e w91 ⟨rfl, hb⟩; refine ⟨_, rfl, ?_⟩; have n0_ := Aside0.mk (blk_below (g := gb251) (o := .cells #[.int .i64 t246, .int .u8 t247, .int .i64 t248, .int .i64 t249, .bool true] 24 (0, 0)) (by (with_reducible repeat (first | refine blk_drewN ?_ _ | refine blk_drew ?_ | refine blk_alloc ?_ _)); exact BK251.out) hb); have n1_ := Aside0.mk (below_step (by repeat (first | (with_reducible first | exact HB.out | apply below_alloc | apply pw_below_drewN | apply below_drew1 | refine below_set ?_ GE251.out) | exact HB.out)) hb); clear BK251; clear HB; have BK251 := n0_; have HB := n1_; clear n0_ n1_; (try clear hb); (try clear hb2); (try clear hk); (try clear hi)) | ((with_reducible refine gate_callee (f := 10) rfl ?_); refine goesL_ (some 31) rfl rfl Try.func10 (by kernel_rfl) rfl #[.int .i64 t252] rfl (by (try simp only [List.map_toArray, List.map_cons, List.map_nil]); first | done | rfl | (simp only [List.length_drop, List.length_take]; rfl)) ?_; (with_reducible refine (keys_Look.calls t252 t254 t255 t256 t257 false _ A11.out).mono ?_); rintro e w92 ⟨rfl, hb⟩; refine ⟨_, rfl, ?_⟩; have n0_ := Aside0.mk (blk_below (g := gb251) (o := .cells #[.int .i64 t246, .int .u8 t247, .int .i64 t248, .int .i64 t249, .bool true] 24 (0, 0)) (by (with_reducible repeat (first | refine blk_drewN ?_ _ | refine blk_drew ?_ | refine blk_alloc ?_ _)); exact BK251.out) hb); have n1_ := Aside0.mk (below_step (by repeat (first | (with_reducible first | exact HB.out | apply below_alloc | apply pw_below_drewN | apply below_drew1 | refine below_set ?_ GE251.out) | exact HB.out)) hb); clear BK251; clear HB; have BK251 := n0_; have HB := n1_; clear n0_ n1_; (try clear hb); (try clear hb2); (try clear hk); (try clear hi)) | ((with_reducible refine gate_dst (N := 8) rfl ?_); refine box_event ?hg (N := 8) ?hd (cs := #[.int .i64 0, .int .u8 0, .int .i64 0, .int .i64 0, .bool false]) (t := 24) ?hr ?_; (case hd => rfl); (case hg => rfl); (case hr => first | (go_simp; done) | (go_simp; rfl)); intro gb259 hg w93 hbox hb; have n0_ := Aside0.mk (blk_below (g := gb251) (o := .cells #[.int .i64 t246, .int .u8 t247, .int .i64 t248, .int .i64 t249, .bool true] 24 (0, 0)) (by (with_reducible repeat (first | refine blk_drewN ?_ _ | refine blk_drew ?_ | refine blk_alloc ?_ _)); exact BK251.out) hb); have n1_ := Aside0.mk (below_step (by repeat (first | (with_reducible first | exact HB.out | apply below_alloc | apply pw_below_drewN | apply below_drew1 | refine below_set ?_ GE251.out) | exact HB.out)) hb); have n2_ := Aside0.mk (hbox); have n3_ := Aside0.mk ((by rw [hg]; exact (below_size (by repeat (first | (with_reducible first | exact HB.out | apply below_alloc | apply pw_below_drewN | apply below_drew1 | refine below_set ?_ GE251.out) | exact HB.out))) : w.heap.size ≤ gb259)); have n4_ := Aside0.mk ((by rw [hg]; exact (below_size (by repeat (first | (with_reducible first | exact HB.out | apply below_alloc | apply pw_below_drewN | apply below_drew1 | refine below_set ?_ GE251.out) | exact HB.out))) : w.heap.size ≤ gb259)); have n5_ := Aside0.mk ((by rw [hg]; exact Nat.ne_of_lt (blk_lt (g := gb251) (o := .cells #[.int .i64 t246, .int .u8 t247, .int .i64 t248, .int .i64 t249, .bool true] 24 (0, 0)) (by (with_reducible repeat (first | refine blk_drewN ?_ _ | refine blk_drew ?_ | refine blk_alloc ?_ _)); exact BK251.out)) : gb251 ≠ gb259)); have n6_ := Aside0.mk ((by rw [hg]; exact Nat.ne_of_gt (blk_lt (g := gb251) (o := .cells #[.int .i64 t246, .int .u8 t247, .int .i64 t248, .int .i64 t249, .bool true] 24 (0, 0)) (by (with_reducible repeat (first | refine blk_drewN ?_ _ | refine blk_drew ?_ | refine blk_alloc ?_ _)); exact BK251.out)) : gb259 ≠ gb251)); clear BK251; clear HB; have BK251 := n0_; have HB := n1_; have BK259 := n2_; have GW259 := n3_; have GE259 := n4_; have NB251_259 := n5_; have NB259_251 := n6_; clear n0_ n1_ n2_ n3_ n4_ n5_ n6_; clear hb hbox hg; have hnb94 := NB259_251.out; have hnc94 := NB251_259.out; have hcz95_0 : w93.cell? ⟨gb259, 0, none⟩ = some (.int .i64 0) := (blk_cell BK259.out 0).trans rfl; have hcz95_1 : w93.cell? ⟨gb259, 1, none⟩ = some (.int .u8 0) := (blk_cell BK259.out 1).trans rfl; have hcz95_2 : w93.cell? ⟨gb259, 2, none⟩ = some (.int .i64 0) := (blk_cell BK259.out 2).trans rfl; have hcz95_3 : w93.cell? ⟨gb259, 3, none⟩ = some (.int .i64 0) := (blk_cell BK259.out 3).trans rfl; have hcz95_4 : w93.cell? ⟨gb259, 4, none⟩ = some (.bool false) := (blk_cell BK259.out 4).trans rfl; have hfz95_0 := blk_frozen BK259.out 0; have hfz95_1 := blk_frozen BK259.out 1; have hfz95_2 := blk_frozen BK259.out 2; have hfz95_3 := blk_frozen BK259.out 3; have hfz95_4 := blk_frozen BK259.out 4) | ((with_reducible refine gate_callee (f := 10) rfl ?_); refine goesL_ (some 36) rfl rfl Try.func10 (by kernel_rfl) rfl #[.int .i64 (wrap64 (57399 + (wrap64 (Int.tmod a0 18))))] rfl (by (try simp only [List.map_toArray, List.map_cons, List.map_nil]); first | done | rfl | (simp only [List.length_drop, List.length_take]; rfl)) ?_; (with_reducible refine (keys_Look.calls (wrap64 (57399 + (wrap64 (Int.tmod a0 18)))) t260 t261 t262 t263 t264 _ A12.out).mono ?_); rintro e w96 ⟨rfl, hb⟩; refine ⟨_, rfl, ?_⟩; have n0_ := Aside0.mk (blk_below (g := gb251) (o := .cells #[.int .i64 t246, .int .u8 t247, .int .i64 t248, .int .i64 t249, .bool true] 24 (0, 0)) (by (with_reducible repeat (first | refine blk_drewN ?_ _ | refine blk_drew ?_ | refine blk_alloc ?_ _)); refine blk_far ?_ NB251_259.out _; (with_reducible repeat (first | refine blk_drewN ?_ _ | refine blk_drew ?_ | refine blk_alloc ?_ _)); refine blk_far ?_ NB251_259.out _; (with_reducible repeat (first | refine blk_drewN ?_ _ | refine blk_drew ?_ | refine blk_alloc ?_ _)); refine blk_far ?_ NB251_259.out _; (with_reducible repeat (first | refine blk_drewN ?_ _ | refine blk_drew ?_ | refine blk_alloc ?_ _)); refine blk_far ?_ NB251_259.out _; (with_reducible repeat (first | refine blk_drewN ?_ _ | refine blk_drew ?_ | refine blk_alloc ?_ _)); refine blk_far ?_ NB251_259.out _; (with_reducible repeat (first | refine blk_drewN ?_ _ | refine blk_drew ?_ | refine blk_alloc ?_ _)); exact BK251.out) hb); have n1_ := Aside0.mk (blk_below (g := gb259) (o := .cells #[.int .i64 t254, .int .u8 t255, .int .i64 t256, .int .i64 t257, .bool false] 24 (0, 0)) (by (with_reducible repeat (first | refine blk_drewN ?_ _ | refine blk_drew ?_ | refine blk_alloc ?_ _)); refine blk_put (cs := #[.int .i64 t254, .int .u8 t255, .int .i64 t256, .int .i64 t257, .bool false]) ?_ 4 _ rfl; (with_reducible repeat (first | refine blk_drewN ?_ _ | refine blk_drew ?_ | refine blk_alloc ?_ _)); refine blk_put (cs := #[.int .i64 t254, .int .u8 t255, .int .i64 t256, .int .i64 0, .bool false]) ?_ 3 _ rfl; (with_reducible repeat (first | refine blk_drewN ?_ _ | refine blk_drew ?_ | refine blk_alloc ?_ _)); refine blk_put (cs := #[.int .i64 t254, .int .u8 t255, .int .i64 0, .int .i64 0, .bool false]) ?_ 2 _ rfl; (with_reducible repeat (first | refine blk_drewN ?_ _ | refine blk_drew ?_ | refine blk_alloc ?_ _)); refine blk_put (cs := #[.int .i64 t254, .int .u8 0, .int .i64 0, .int .i64 0, .bool false]) ?_ 1 _ rfl; (with_reducible repeat (first | refine blk_drewN ?_ _ | refine blk_drew ?_ | refine blk_alloc ?_ _)); refine blk_put (cs := #[.int .i64 0, .int .u8 0, .int .i64 0, .int .i64 0, .bool false]) ?_ 0 _ rfl; (with_reducible repeat (first | refine blk_drewN ?_ _ | refine blk_drew ?_ | refine blk_alloc ?_ _)); exact BK259.out) hb); have n2_ := Aside0.mk (below_step (by repeat (first | (with_reducible first | exact HB.out | apply below_alloc | apply pw_below_drewN | apply below_drew1 | refine below_set ?_ GE251.out | refine below_set ?_ GE259.out) | exact HB.out)) hb); clear BK251; clear BK259; clear HB; have BK251 := n0_; have BK259 := n1_; have HB := n2_; clear n0_ n1_ n2_; (try clear hb); (try clear hb2); (try clear hk); (try clear hi)) | ((with_reducible refine gate_dst (N := 9) rfl ?_); refine box_event ?hg (N := 9) ?hd (cs := #[.int .i64 0, .int .u8 0, .int .i64 0, .int .i64 0, .bool false]) (t := 24) ?hr ?_; (case hd => rfl); (case hg => rfl); (case hr => first | (go_simp; done) | (go_simp; rfl)); intro gb265 hg w97 hbox hb; have n0_ := Aside0.mk (blk_below (g := gb251) (o := .cells #[.int .i64 t246, .int .u8 t247, .int .i64 t248, .int .i64 t249, .bool true] 24 (0, 0)) (by (with_reducible repeat (first | refine blk_drewN ?_ _ | refine blk_drew ?_ | refine blk_alloc ?_ _)); exact BK251.out) hb); have n1_ := Aside0.mk (blk_below (g := gb259) (o := .cells #[.int .i64 t254, .int .u8 t255, .int .i64 t256, .int .i64 t257, .bool false] 24 (0, 0)) (by (with_reducible repeat (first | refine blk_drewN ?_ _ | refine blk_drew ?_ | refine blk_alloc ?_ _)); exact BK259.out) hb); have n2_ := Aside0.mk (below_step (by repeat (first | (with_reducible first | exact HB.out | apply below_alloc | apply pw_below_drewN | apply below_drew1 | refine below_set ?_ GE251.out | refine below_set ?_ GE259.out) | exact HB.out)) hb); have n3_ := Aside0.mk (hbox); have n4_ := Aside0.mk ((by rw [hg]; exact (below_size (by repeat (first | (with_reducible first | exact HB.out | apply below_alloc | apply pw_below_drewN | apply below_drew1 | refine below_set ?_ GE251.out | refine below_set ?_ GE259.out) | exact HB.out))) : w.heap.size ≤ gb265)); have n5_ := Aside0.mk ((by rw [hg]; exact (below_size (by repeat (first | (with_reducible first | exact HB.out | apply below_alloc | apply pw_below_drewN | apply below_drew1 | refine below_set ?_ GE251.out | refine below_set ?_ GE259.out) | exact HB.out))) : w.heap.size ≤ gb265)); have n6_ := Aside0.mk ((by rw [hg]; exact Nat.ne_of_lt (blk_lt (g := gb251) (o := .cells #[.int .i64 t246, .int .u8 t247, .int .i64 t248, .int .i64 t249, .bool true] 24 (0, 0)) (by (with_reducible repeat (first | refine blk_drewN ?_ _ | refine blk_drew ?_ | refine blk_alloc ?_ _)); exact BK251.out)) : gb251 ≠ gb265)); have n7_ := Aside0.mk ((by rw [hg]; exact Nat.ne_of_gt (blk_lt (g := gb251) (o := .cells #[.int .i64 t246, .int .u8 t247, .int .i64 t248, .int .i64 t249, .bool true] 24 (0, 0)) (by (with_reducible repeat (first | refine blk_drewN ?_ _ | refine blk_drew ?_ | refine blk_alloc ?_ _)); exact BK251.out)) : gb265 ≠ gb251)); have n8_ := Aside0.mk ((by rw [hg]; exact Nat.ne_of_lt (blk_lt (g := gb259) (o := .cells #[.int .i64 t254, .int .u8 t255, .int .i64 t256, .int .i64 t257, .bool false] 24 (0, 0)) (by (with_reducible repeat (first | refine blk_drewN ?_ _ | refine blk_drew ?_ | refine blk_alloc ?_ _)); exact BK259.out)) : gb259 ≠ gb265)); have n9_ := Aside0.mk ((by rw [hg]; exact Nat.ne_of_gt (blk_lt (g := gb259) (o := .cells #[.int .i64 t254, .int .u8 t255, .int .i64 t256, .int .i64 t257, .bool false] 24 (0, 0)) (by (with_reducible repeat (first | refine blk_drewN ?_ _ | refine blk_drew ?_ | refine blk_alloc ?_ _)); exact BK259.out)) : gb265 ≠ gb259)); clear BK251; clear BK259; clear HB; have BK251 := n0_; have BK259 := n1_; have HB := n2_; have BK265 := n3_; have GW265 := n4_; have GE265 := n5_; have NB251_265 := n6_; have NB265_251 := n7_; have NB259_265 := n8_; have NB265_259 := n9_; clear n0_ n1_ n2_ n3_ n4_ n5_ n6_ n7_ n8_ n9_; clear hb hbox hg; have hnb98 := NB265_251.out; have hnc98 := NB251_265.out; have hnb99 := NB265_259.out; have hnc99 := NB259_265.out; have hcz100_0 : w97.cell? ⟨gb265, 0, none⟩ = some (.int .i64 0) := (blk_cell BK265.out 0).trans rfl; have hcz100_1 : w97.cell? ⟨gb265, 1, none⟩ = some (.int .u8 0) := (blk_cell BK265.out 1).trans rfl; have hcz100_2 : w97.cell? ⟨gb265, 2, none⟩ = some (.int .i64 0) := (blk_cell BK265.out 2).trans rfl; have hcz100_3 : w97.cell? ⟨gb265, 3, none⟩ = some (.int .i64 0) := (blk_cell BK265.out 3).trans rfl; have hcz100_4 : w97.cell? ⟨gb265, 4, none⟩ = some (.bool false) := (blk_cell BK265.out 4).trans rfl; have hfz100_0 := blk_frozen BK265.out 0; have hfz100_1 := blk_frozen BK265.out 1; have hfz100_2 := blk_frozen BK265.out 2; have hfz100_3 := blk_frozen BK265.out 3; have hfz100_4 := blk_frozen BK265.out 4; have hcz101_0 : w97.cell? ⟨gb259, 0, none⟩ = some (.int .i64 t254) := (blk_cell BK259.out 0).trans rfl; have hcz101_1 : w97.cell? ⟨gb259, 1, none⟩ = some (.int .u8 t255) := (blk_cell BK259.out 1).trans rfl; have hcz101_2 : w97.cell? ⟨gb259, 2, none⟩ = some (.int .i64 t256) := (blk_cell BK259.out 2).trans rfl; have hcz101_3 : w97.cell? ⟨gb259, 3, none⟩ = some (.int .i64 t257) := (blk_cell BK259.out 3).trans rfl; have hcz101_4 : w97.cell? ⟨gb259, 4, none⟩ = some (.bool false) := (blk_cell BK259.out 4).trans rfl; have hfz101_0 := blk_frozen BK259.out 0; have hfz101_1 := blk_frozen BK259.out 1; have hfz101_2 := blk_frozen BK259.out 2; have hfz101_3 := blk_frozen BK259.out 3; have hfz101_4 := blk_frozen BK259.out 4; have hcz102_0 : w97.cell? ⟨gb251, 0, none⟩ = some (.int .i64 t246) := (blk_cell BK251.out 0).trans rfl; have hcz102_1 : w97.cell? ⟨gb251, 1, none⟩ = some (.int .u8 t247) := (blk_cell BK251.out 1).trans rfl; have hcz102_2 : w97.cell? ⟨gb251, 2, none⟩ = some (.int .i64 t248) := (blk_cell BK251.out 2).trans rfl; have hcz102_3 : w97.cell? ⟨gb251, 3, none⟩ = some (.int .i64 t249) := (blk_cell BK251.out 3).trans rfl; have hcz102_4 : w97.cell? ⟨gb251, 4, none⟩ = some (.bool true) := (blk_cell BK251.out 4).trans rfl; have hfz102_0 := blk_frozen BK251.out 0; have hfz102_1 := blk_frozen BK251.out 1; have hfz102_2 := blk_frozen BK251.out 2; have hfz102_3 := blk_frozen BK251.out 3; have hfz102_4 := blk_frozen BK251.out 4) | (go_at_call 10; (with_reducible refine (keys_Look.calls t263 t271 t272 t273 t274 t275 _ A74.out).mono ?_); rintro e w103 ⟨rfl, hb⟩; have n0_ := Aside0.mk (blk_below (g := gb251) (o := .cells #[.int .i64 t246, .int .u8 t247, .int .i64 t248, .int .i64 t249, .bool true] 24 (0, 0)) (by (with_reducible repeat (first | refine blk_drewN ?_ _ | refine blk_drew ?_ | refine blk_alloc ?_ _)); refine blk_far ?_ NB251_265.out _; (with_reducible repeat (first | refine blk_drewN ?_ _ | refine blk_drew ?_ | refine blk_alloc ?_ _)); refine blk_far ?_ NB251_265.out _; (with_reducible repeat (first | refine blk_drewN ?_ _ | refine blk_drew ?_ | refine blk_alloc ?_ _)); refine blk_far ?_ NB251_265.out _; (with_reducible repeat (first | refine blk_drewN ?_ _ | refine blk_drew ?_ | refine blk_alloc ?_ _)); refine blk_far ?_ NB251_265.out _; (with_reducible repeat (first | refine blk_drewN ?_ _ | refine blk_drew ?_ | refine blk_alloc ?_ _)); refine blk_far ?_ NB251_265.out _; (with_reducible repeat (first | refine blk_drewN ?_ _ | refine blk_drew ?_ | refine blk_alloc ?_ _)); exact BK251.out) hb); have n1_ := Aside0.mk (blk_below (g := gb259) (o := .cells #[.int .i64 t254, .int .u8 t255, .int .i64 t256, .int .i64 t257, .bool false] 24 (0, 0)) (by (with_reducible repeat (first | refine blk_drewN ?_ _ | refine blk_drew ?_ | refine blk_alloc ?_ _)); refine blk_far ?_ NB259_265.out _; (with_reducible repeat (first | refine blk_drewN ?_ _ | refine blk_drew ?_ | refine blk_alloc ?_ _)); refine blk_far ?_ NB259_265.out _; (with_reducible repeat (first | refine blk_drewN ?_ _ | refine blk_drew ?_ | refine blk_alloc ?_ _)); refine blk_far ?_ NB259_265.out _; (with_reducible repeat (first | refine blk_drewN ?_ _ | refine blk_drew ?_ | refine blk_alloc ?_ _)); refine blk_far ?_ NB259_265.out _; (with_reducible repeat (first | refine blk_drewN ?_ _ | refine blk_drew ?_ | refine blk_alloc ?_ _)); refine blk_far ?_ NB259_265.out _; (with_reducible repeat (first | refine blk_drewN ?_ _ | refine blk_drew ?_ | refine blk_alloc ?_ _)); exact BK259.out) hb); have n2_ := Aside0.mk (blk_below (g := gb265) (o := .cells #[.int .i64 t260, .int .u8 t261, .int .i64 t262, .int .i64 t263, .bool t264] 24 (0, 0)) (by (with_reducible repeat (first | refine blk_drewN ?_ _ | refine blk_drew ?_ | refine blk_alloc ?_ _)); refine blk_put (cs := #[.int .i64 t260, .int .u8 t261, .int .i64 t262, .int .i64 t263, .bool false]) ?_ 4 _ rfl; (with_reducible repeat (first | refine blk_drewN ?_ _ | refine blk_drew ?_ | refine blk_alloc ?_ _)); refine blk_put (cs := #[.int .i64 t260, .int .u8 t261, .int .i64 t262, .int .i64 0, .bool false]) ?_ 3 _ rfl; (with_reducible repeat (first | refine blk_drewN ?_ _ | refine blk_drew ?_ | refine blk_alloc ?_ _)); refine blk_put (cs := #[.int .i64 t260, .int .u8 t261, .int .i64 0, .int .i64 0, .bool false]) ?_ 2 _ rfl; (with_reducible repeat (first | refine blk_drewN ?_ _ | refine blk_drew ?_ | refine blk_alloc ?_ _)); refine blk_put (cs := #[.int .i64 t260, .int .u8 0, .int .i64 0, .int .i64 0, .bool false]) ?_ 1 _ rfl; (with_reducible repeat (first | refine blk_drewN ?_ _ | refine blk_drew ?_ | refine blk_alloc ?_ _)); refine blk_put (cs := #[.int .i64 0, .int .u8 0, .int .i64 0, .int .i64 0, .bool false]) ?_ 0 _ rfl; (with_reducible repeat (first | refine blk_drewN ?_ _ | refine blk_drew ?_ | refine blk_alloc ?_ _)); exact BK265.out) hb); have n3_ := Aside0.mk (below_step (by repeat (first | (with_reducible first | exact HB.out | apply below_alloc | apply pw_below_drewN | apply below_drew1 | refine below_set ?_ GE251.out | refine below_set ?_ GE259.out | refine below_set ?_ GE265.out) | exact HB.out)) hb); clear BK251; clear BK259; clear BK265; clear HB; have BK251 := n0_; have BK259 := n1_; have BK265 := n2_; have HB := n3_; clear n0_ n1_ n2_ n3_; (try clear hb); (try clear hb2); (try clear hk); (try clear hi); have hcz104_0 : w103.cell? ⟨gb265, 0, none⟩ = some (.int .i64 t260) := (blk_cell BK265.out 0).trans rfl; have hcz104_1 : w103.cell? ⟨gb265, 1, none⟩ = some (.int .u8 t261) := (blk_cell BK265.out 1).trans rfl; have hcz104_2 : w103.cell? ⟨gb265, 2, none⟩ = some (.int .i64 t262) := (blk_cell BK265.out 2).trans rfl; have hcz104_3 : w103.cell? ⟨gb265, 3, none⟩ = some (.int .i64 t263) := (blk_cell BK265.out 3).trans rfl; have hcz104_4 : w103.cell? ⟨gb265, 4, none⟩ = some (.bool t264) := (blk_cell BK265.out 4).trans rfl; have hfz104_0 := blk_frozen BK265.out 0; have hfz104_1 := blk_frozen BK265.out 1; have hfz104_2 := blk_frozen BK265.out 2; have hfz104_3 := blk_frozen BK265.out 3; have hfz104_4 := blk_frozen BK265.out 4))
                                go_ret
                                exact ⟨by first | rfl | (simp [errW_none, errW_some] <;> rfl) | (simp [*, errW_none, errW_some] <;> rfl), by repeat (first | (with_reducible first | exact HB.out | apply below_alloc | apply pw_below_drewN | apply below_drew1 | refine below_set ?_ GE251.out | refine below_set ?_ GE259.out | refine below_set ?_ GE265.out) | exact HB.out)⟩
                            · rw [if_neg c73] at H
                              exact absurd H (by simp)
                          · rw [if_neg c72] at H
                            exact absurd H (by simp)
                        · replace c71 := Bool.eq_false_iff.mpr c71
                          subst c71
                          have H1 : (none) = some r := by rw [if_neg (show ¬ (false = true) by decide)] at H; exact H
                          clear H
                          have H := H1
                          clear H1
                          exact absurd H (by simp)
                      · replace c70 := Bool.eq_false_iff.mpr c70
                        subst c70
                        have H1 : (none) = some r := by rw [if_neg (show ¬ (false = true) by decide)] at H; exact H
                        clear H
                        have H := H1
                        clear H1
                        exact absurd H (by simp)
                    · replace c69 := Bool.eq_false_iff.mpr c69
                      subst c69
                      have H1 : (none) = some r := by rw [if_neg (show ¬ (false = true) by decide)] at H; exact H
                      clear H
                      have H := H1
                      clear H1
                      exact absurd H (by simp)
                · rw [if_neg c65] at H
                  have c65b0 : (t254 == t246) = false := beq_eq_false_iff_ne.mpr c65
                  have c65b1 : (t254 != t246) = true := bne_iff_ne.mpr c65
                  by_cases c105 : t245 = true
                  · subst c105
                    have H1 : (if t253 = true then (none) else (none)) = some r := by rw [if_pos rfl] at H; exact H
                    clear H
                    have H := H1
                    clear H1
                    by_cases c106 : t253 = true
                    · subst c106
                      have H1 : (none) = some r := by rw [if_pos rfl] at H; exact H
                      clear H
                      have H := H1
                      clear H1
                      exact absurd H (by simp)
                    · replace c106 := Bool.eq_false_iff.mpr c106
                      subst c106
                      have H1 : (none) = some r := by rw [if_neg (show ¬ (false = true) by decide)] at H; exact H
                      clear H
                      have H := H1
                      clear H1
                      exact absurd H (by simp)
                  · replace c105 := Bool.eq_false_iff.mpr c105
                    subst c105
                    have H1 : (none) = some r := by rw [if_neg (show ¬ (false = true) by decide)] at H; exact H
                    clear H
                    have H := H1
                    clear H1
                    exact absurd H (by simp)
              · rw [if_neg c64] at H
                have c64b0 : (t256 == t248) = false := beq_eq_false_iff_ne.mpr c64
                have c64b1 : (t256 != t248) = true := bne_iff_ne.mpr c64
                by_cases c107 : t245 = true
                · subst c107
                  have H1 : (if t253 = true then (none) else (none)) = some r := by rw [if_pos rfl] at H; exact H
                  clear H
                  have H := H1
                  clear H1
                  by_cases c108 : t253 = true
                  · subst c108
                    have H1 : (none) = some r := by rw [if_pos rfl] at H; exact H
                    clear H
                    have H := H1
                    clear H1
                    exact absurd H (by simp)
                  · replace c108 := Bool.eq_false_iff.mpr c108
                    subst c108
                    have H1 : (none) = some r := by rw [if_neg (show ¬ (false = true) by decide)] at H; exact H
                    clear H
                    have H := H1
                    clear H1
                    exact absurd H (by simp)
                · replace c107 := Bool.eq_false_iff.mpr c107
                  subst c107
                  have H1 : (none) = some r := by rw [if_neg (show ¬ (false = true) by decide)] at H; exact H
                  clear H
                  have H := H1
                  clear H1
                  exact absurd H (by simp)
            · rw [if_neg c63] at H
              have c63b0 : (t255 == t247) = false := beq_eq_false_iff_ne.mpr c63
              have c63b1 : (t255 != t247) = true := bne_iff_ne.mpr c63
              by_cases c109 : t245 = true
              · subst c109
                have H1 : (if t253 = true then (none) else (none)) = some r := by rw [if_pos rfl] at H; exact H
                clear H
                have H := H1
                clear H1
                by_cases c110 : t253 = true
                · subst c110
                  have H1 : (none) = some r := by rw [if_pos rfl] at H; exact H
                  clear H
                  have H := H1
                  clear H1
                  exact absurd H (by simp)
                · replace c110 := Bool.eq_false_iff.mpr c110
                  subst c110
                  have H1 : (none) = some r := by rw [if_neg (show ¬ (false = true) by decide)] at H; exact H
                  clear H
                  have H := H1
                  clear H1
                  exact absurd H (by simp)
              · replace c109 := Bool.eq_false_iff.mpr c109
                subst c109
                have H1 : (none) = some r := by rw [if_neg (show ¬ (false = true) by decide)] at H; exact H
                clear H
                have H := H1
                clear H1
                exact absurd H (by simp)
          · rw [if_neg c62] at H
            have c62b0 : decide (65 ≤ t261) = false := decide_eq_false c62
            clear c62
            by_cases c111 : t255 = t247
            · rw [if_pos c111] at H
              have c111b0 : (t255 == t247) = true := beq_iff_eq.mpr c111
              have c111b1 : (t255 != t247) = false := bne_eq_false_iff_eq.mpr c111
              clear c111
              by_cases c112 : t256 = t248
              · rw [if_pos c112] at H
                have c112b0 : (t256 == t248) = true := beq_iff_eq.mpr c112
                have c112b1 : (t256 != t248) = false := bne_eq_false_iff_eq.mpr c112
                clear c112
                by_cases c113 : t254 = t246
                · rw [if_pos c113] at H
                  have c113b0 : (t254 == t246) = true := beq_iff_eq.mpr c113
                  have c113b1 : (t254 != t246) = false := bne_eq_false_iff_eq.mpr c113
                  clear c113
                  by_cases c114 : t258 = true
                  · subst c114
                    have H1 : (if t245 = true then (if t253 = true then (none) else (none)) else (none)) = some r := by rw [if_pos rfl] at H; exact H
                    clear H
                    have H := H1
                    clear H1
                    by_cases c115 : t245 = true
                    · subst c115
                      have H1 : (if t253 = true then (none) else (none)) = some r := by rw [if_pos rfl] at H; exact H
                      clear H
                      have H := H1
                      clear H1
                      by_cases c116 : t253 = true
                      · subst c116
                        have H1 : (none) = some r := by rw [if_pos rfl] at H; exact H
                        clear H
                        have H := H1
                        clear H1
                        exact absurd H (by simp)
                      · replace c116 := Bool.eq_false_iff.mpr c116
                        subst c116
                        have H1 : (none) = some r := by rw [if_neg (show ¬ (false = true) by decide)] at H; exact H
                        clear H
                        have H := H1
                        clear H1
                        exact absurd H (by simp)
                    · replace c115 := Bool.eq_false_iff.mpr c115
                      subst c115
                      have H1 : (none) = some r := by rw [if_neg (show ¬ (false = true) by decide)] at H; exact H
                      clear H
                      have H := H1
                      clear H1
                      exact absurd H (by simp)
                  · replace c114 := Bool.eq_false_iff.mpr c114
                    subst c114
                    have H1 : (if t245 = true then (if t253 = true then (if t250 = true then (if t260 = 5 then (none) else (none)) else (none)) else (none)) else (none)) = some r := by rw [if_neg (show ¬ (false = true) by decide)] at H; exact H
                    clear H
                    have H := H1
                    clear H1
                    by_cases c117 : t245 = true
                    · subst c117
                      have H1 : (if t253 = true then (if t250 = true then (if t260 = 5 then (none) else (none)) else (none)) else (none)) = some r := by rw [if_pos rfl] at H; exact H
                      clear H
                      have H := H1
                      clear H1
                      by_cases c118 : t253 = true
                      · subst c118
                        have H1 : (if t250 = true then (if t260 = 5 then (none) else (none)) else (none)) = some r := by rw [if_pos rfl] at H; exact H
                        clear H
                        have H := H1
                        clear H1
                        by_cases c119 : t250 = true
                        · subst c119
                          have H1 : (if t260 = 5 then (none) else (none)) = some r := by rw [if_pos rfl] at H; exact H
                          clear H
                          have H := H1
                          clear H1
                          by_cases c120 : t260 = 5
                          · rw [if_pos c120] at H
                            exact absurd H (by simp)
                          · rw [if_neg c120] at H
                            exact absurd H (by simp)
                        · replace c119 := Bool.eq_false_iff.mpr c119
                          subst c119
                          have H1 : (none) = some r := by rw [if_neg (show ¬ (false = true) by decide)] at H; exact H
                          clear H
                          have H := H1
                          clear H1
                          exact absurd H (by simp)
                      · replace c118 := Bool.eq_false_iff.mpr c118
                        subst c118
                        have H1 : (none) = some r := by rw [if_neg (show ¬ (false = true) by decide)] at H; exact H
                        clear H
                        have H := H1
                        clear H1
                        exact absurd H (by simp)
                    · replace c117 := Bool.eq_false_iff.mpr c117
                      subst c117
                      have H1 : (none) = some r := by rw [if_neg (show ¬ (false = true) by decide)] at H; exact H
                      clear H
                      have H := H1
                      clear H1
                      exact absurd H (by simp)
                · rw [if_neg c113] at H
                  have c113b0 : (t254 == t246) = false := beq_eq_false_iff_ne.mpr c113
                  have c113b1 : (t254 != t246) = true := bne_iff_ne.mpr c113
                  by_cases c121 : t245 = true
                  · subst c121
                    have H1 : (if t253 = true then (none) else (none)) = some r := by rw [if_pos rfl] at H; exact H
                    clear H
                    have H := H1
                    clear H1
                    by_cases c122 : t253 = true
                    · subst c122
                      have H1 : (none) = some r := by rw [if_pos rfl] at H; exact H
                      clear H
                      have H := H1
                      clear H1
                      exact absurd H (by simp)
                    · replace c122 := Bool.eq_false_iff.mpr c122
                      subst c122
                      have H1 : (none) = some r := by rw [if_neg (show ¬ (false = true) by decide)] at H; exact H
                      clear H
                      have H := H1
                      clear H1
                      exact absurd H (by simp)
                  · replace c121 := Bool.eq_false_iff.mpr c121
                    subst c121
                    have H1 : (none) = some r := by rw [if_neg (show ¬ (false = true) by decide)] at H; exact H
                    clear H
                    have H := H1
                    clear H1
                    exact absurd H (by simp)
              · rw [if_neg c112] at H
                have c112b0 : (t256 == t248) = false := beq_eq_false_iff_ne.mpr c112
                have c112b1 : (t256 != t248) = true := bne_iff_ne.mpr c112
                by_cases c123 : t245 = true
                · subst c123
                  have H1 : (if t253 = true then (none) else (none)) = some r := by rw [if_pos rfl] at H; exact H
                  clear H
                  have H := H1
                  clear H1
                  by_cases c124 : t253 = true
                  · subst c124
                    have H1 : (none) = some r := by rw [if_pos rfl] at H; exact H
                    clear H
                    have H := H1
                    clear H1
                    exact absurd H (by simp)
                  · replace c124 := Bool.eq_false_iff.mpr c124
                    subst c124
                    have H1 : (none) = some r := by rw [if_neg (show ¬ (false = true) by decide)] at H; exact H
                    clear H
                    have H := H1
                    clear H1
                    exact absurd H (by simp)
                · replace c123 := Bool.eq_false_iff.mpr c123
                  subst c123
                  have H1 : (none) = some r := by rw [if_neg (show ¬ (false = true) by decide)] at H; exact H
                  clear H
                  have H := H1
                  clear H1
                  exact absurd H (by simp)
            · rw [if_neg c111] at H
              have c111b0 : (t255 == t247) = false := beq_eq_false_iff_ne.mpr c111
              have c111b1 : (t255 != t247) = true := bne_iff_ne.mpr c111
              by_cases c125 : t245 = true
              · subst c125
                have H1 : (if t253 = true then (none) else (none)) = some r := by rw [if_pos rfl] at H; exact H
                clear H
                have H := H1
                clear H1
                by_cases c126 : t253 = true
                · subst c126
                  have H1 : (none) = some r := by rw [if_pos rfl] at H; exact H
                  clear H
                  have H := H1
                  clear H1
                  exact absurd H (by simp)
                · replace c126 := Bool.eq_false_iff.mpr c126
                  subst c126
                  have H1 : (none) = some r := by rw [if_neg (show ¬ (false = true) by decide)] at H; exact H
                  clear H
                  have H := H1
                  clear H1
                  exact absurd H (by simp)
              · replace c125 := Bool.eq_false_iff.mpr c125
                subst c125
                have H1 : (none) = some r := by rw [if_neg (show ¬ (false = true) by decide)] at H; exact H
                clear H
                have H := H1
                clear H1
                exact absurd H (by simp)
      · rw [if_neg c13] at H
        have c13b0 : decide (97 ≤ t261) = false := decide_eq_false c13
        clear c13
        by_cases c127 : t261 ≥ 65
        · rw [if_pos c127] at H
          have c127b0 : decide (65 ≤ t261) = true := decide_eq_true c127
          clear c127
          by_cases c128 : t255 = t247
          · rw [if_pos c128] at H
            have c128b0 : (t255 == t247) = true := beq_iff_eq.mpr c128
            have c128b1 : (t255 != t247) = false := bne_eq_false_iff_eq.mpr c128
            clear c128
            by_cases c129 : t256 = t248
            · rw [if_pos c129] at H
              have c129b0 : (t256 == t248) = true := beq_iff_eq.mpr c129
              have c129b1 : (t256 != t248) = false := bne_eq_false_iff_eq.mpr c129
              clear c129
              by_cases c130 : t254 = t246
              · rw [if_pos c130] at H
                have c130b0 : (t254 == t246) = true := beq_iff_eq.mpr c130
                have c130b1 : (t254 != t246) = false := bne_eq_false_iff_eq.mpr c130
                clear c130
                by_cases c131 : t258 = true
                · subst c131
                  have H1 : (if t245 = true then (if t253 = true then (none) else (none)) else (none)) = some r := by rw [if_pos rfl] at H; exact H
                  clear H
                  have H := H1
                  clear H1
                  by_cases c132 : t245 = true
                  · subst c132
                    have H1 : (if t253 = true then (none) else (none)) = some r := by rw [if_pos rfl] at H; exact H
                    clear H
                    have H := H1
                    clear H1
                    by_cases c133 : t253 = true
                    · subst c133
                      have H1 : (none) = some r := by rw [if_pos rfl] at H; exact H
                      clear H
                      have H := H1
                      clear H1
                      exact absurd H (by simp)
                    · replace c133 := Bool.eq_false_iff.mpr c133
                      subst c133
                      have H1 : (none) = some r := by rw [if_neg (show ¬ (false = true) by decide)] at H; exact H
                      clear H
                      have H := H1
                      clear H1
                      exact absurd H (by simp)
                  · replace c132 := Bool.eq_false_iff.mpr c132
                    subst c132
                    have H1 : (none) = some r := by rw [if_neg (show ¬ (false = true) by decide)] at H; exact H
                    clear H
                    have H := H1
                    clear H1
                    exact absurd H (by simp)
                · replace c131 := Bool.eq_false_iff.mpr c131
                  subst c131
                  have H1 : (if t245 = true then (if t253 = true then (if t250 = true then (if t260 = 5 then (if t261 ≤ 90 then ((keys_Look.f t263).bind fun bt276 => (if bt276.1 = 1 then (some true) else (some (t263 == 13)))) else (none)) else (none)) else (none)) else (none)) else (none)) = some r := by rw [if_neg (show ¬ (false = true) by decide)] at H; exact H
                  clear H
                  have H := H1
                  clear H1
                  by_cases c134 : t245 = true
                  · subst c134
                    have H1 : (if t253 = true then (if t250 = true then (if t260 = 5 then (if t261 ≤ 90 then ((keys_Look.f t263).bind fun bt276 => (if bt276.1 = 1 then (some true) else (some (t263 == 13)))) else (none)) else (none)) else (none)) else (none)) = some r := by rw [if_pos rfl] at H; exact H
                    clear H
                    have H := H1
                    clear H1
                    by_cases c135 : t253 = true
                    · subst c135
                      have H1 : (if t250 = true then (if t260 = 5 then (if t261 ≤ 90 then ((keys_Look.f t263).bind fun bt276 => (if bt276.1 = 1 then (some true) else (some (t263 == 13)))) else (none)) else (none)) else (none)) = some r := by rw [if_pos rfl] at H; exact H
                      clear H
                      have H := H1
                      clear H1
                      by_cases c136 : t250 = true
                      · subst c136
                        have H1 : (if t260 = 5 then (if t261 ≤ 90 then ((keys_Look.f t263).bind fun bt276 => (if bt276.1 = 1 then (some true) else (some (t263 == 13)))) else (none)) else (none)) = some r := by rw [if_pos rfl] at H; exact H
                        clear H
                        have H := H1
                        clear H1
                        by_cases c137 : t260 = 5
                        · rw [if_pos c137] at H
                          have c137b0 : (t260 == 5) = true := beq_iff_eq.mpr c137
                          have c137b1 : (t260 != 5) = false := bne_eq_false_iff_eq.mpr c137
                          clear c137
                          by_cases c138 : t261 ≤ 90
                          · rw [if_pos c138] at H
                            have c138b0 : decide (t261 ≤ 90) = true := decide_eq_true c138
                            clear c138
                            replace H := Option.bind_eq_some_iff.mp H
                            obtain ⟨⟨t276, t277, t278, t279, t280⟩, A1390, H⟩ := H
                            replace H : (if t276 = 1 then (some true) else (some (t263 == 13))) = some r := H
                            have A139 := Aside0.mk A1390
                            clear A1390
                            by_cases c140 : t276 = 1
                            · rw [if_pos c140] at H
                              have c140b0 : (t276 == 1) = true := beq_iff_eq.mpr c140
                              have c140b1 : (t276 != 1) = false := bne_eq_false_iff_eq.mpr c140
                              clear c140
                              obtain rfl := Option.some.inj H
                              have hcz141_0 : wc.cell? ⟨gb251, 0, none⟩ = some (.int .i64 t246) := (blk_cell BK251.out 0).trans rfl
                              have hcz141_1 : wc.cell? ⟨gb251, 1, none⟩ = some (.int .u8 t247) := (blk_cell BK251.out 1).trans rfl
                              have hcz141_2 : wc.cell? ⟨gb251, 2, none⟩ = some (.int .i64 t248) := (blk_cell BK251.out 2).trans rfl
                              have hcz141_3 : wc.cell? ⟨gb251, 3, none⟩ = some (.int .i64 t249) := (blk_cell BK251.out 3).trans rfl
                              have hcz141_4 : wc.cell? ⟨gb251, 4, none⟩ = some (.bool true) := (blk_cell BK251.out 4).trans rfl
                              have hfz141_0 := blk_frozen BK251.out 0
                              have hfz141_1 := blk_frozen BK251.out 1
                              have hfz141_2 := blk_frozen BK251.out 2
                              have hfz141_3 := blk_frozen BK251.out 3
                              have hfz141_4 := blk_frozen BK251.out 4
                              go_wp2_with (first | ((with_reducible refine gate_callee (f := 13) rfl ?_); refine goesL_ (some 27) rfl rfl Try.func13 (by kernel_rfl) rfl #[.int .u8 x5_3, .int .i64 t248] rfl (by (try simp only [List.map_toArray, List.map_cons, List.map_nil]); first | done | rfl | (simp only [List.length_drop, List.length_take]; rfl)) ?_; (with_reducible refine (keys_Find.calls x5_3 t248 t252 true _ A10.out).mono ?_); rintro e w142 ⟨rfl, hb⟩; refine ⟨_, rfl, ?_⟩; have n0_ := Aside0.mk (blk_below (g := gb251) (o := .cells #[.int .i64 t246, .int .u8 t247, .int .i64 t248, .int .i64 t249, .bool true] 24 (0, 0)) (by (with_reducible repeat (first | refine blk_drewN ?_ _ | refine blk_drew ?_ | refine blk_alloc ?_ _)); exact BK251.out) hb); have n1_ := Aside0.mk (below_step (by repeat (first | (with_reducible first | exact HB.out | apply below_alloc | apply pw_below_drewN | apply below_drew1 | refine below_set ?_ GE251.out) | exact HB.out)) hb); clear BK251; clear HB; have BK251 := n0_; have HB := n1_; clear n0_ n1_; (try clear hb); (try clear hb2); (try clear hk); (try clear hi)) | ((with_reducible refine gate_callee (f := 10) rfl ?_); refine goesL_ (some 31) rfl rfl Try.func10 (by kernel_rfl) rfl #[.int .i64 t252] rfl (by (try simp only [List.map_toArray, List.map_cons, List.map_nil]); first | done | rfl | (simp only [List.length_drop, List.length_take]; rfl)) ?_; (with_reducible refine (keys_Look.calls t252 t254 t255 t256 t257 false _ A11.out).mono ?_); rintro e w143 ⟨rfl, hb⟩; refine ⟨_, rfl, ?_⟩; have n0_ := Aside0.mk (blk_below (g := gb251) (o := .cells #[.int .i64 t246, .int .u8 t247, .int .i64 t248, .int .i64 t249, .bool true] 24 (0, 0)) (by (with_reducible repeat (first | refine blk_drewN ?_ _ | refine blk_drew ?_ | refine blk_alloc ?_ _)); exact BK251.out) hb); have n1_ := Aside0.mk (below_step (by repeat (first | (with_reducible first | exact HB.out | apply below_alloc | apply pw_below_drewN | apply below_drew1 | refine below_set ?_ GE251.out) | exact HB.out)) hb); clear BK251; clear HB; have BK251 := n0_; have HB := n1_; clear n0_ n1_; (try clear hb); (try clear hb2); (try clear hk); (try clear hi)) | ((with_reducible refine gate_dst (N := 8) rfl ?_); refine box_event ?hg (N := 8) ?hd (cs := #[.int .i64 0, .int .u8 0, .int .i64 0, .int .i64 0, .bool false]) (t := 24) ?hr ?_; (case hd => rfl); (case hg => rfl); (case hr => first | (go_simp; done) | (go_simp; rfl)); intro gb259 hg w144 hbox hb; have n0_ := Aside0.mk (blk_below (g := gb251) (o := .cells #[.int .i64 t246, .int .u8 t247, .int .i64 t248, .int .i64 t249, .bool true] 24 (0, 0)) (by (with_reducible repeat (first | refine blk_drewN ?_ _ | refine blk_drew ?_ | refine blk_alloc ?_ _)); exact BK251.out) hb); have n1_ := Aside0.mk (below_step (by repeat (first | (with_reducible first | exact HB.out | apply below_alloc | apply pw_below_drewN | apply below_drew1 | refine below_set ?_ GE251.out) | exact HB.out)) hb); have n2_ := Aside0.mk (hbox); have n3_ := Aside0.mk ((by rw [hg]; exact (below_size (by repeat (first | (with_reducible first | exact HB.out | apply below_alloc | apply pw_below_drewN | apply below_drew1 | refine below_set ?_ GE251.out) | exact HB.out))) : w.heap.size ≤ gb259)); have n4_ := Aside0.mk ((by rw [hg]; exact (below_size (by repeat (first | (with_reducible first | exact HB.out | apply below_alloc | apply pw_below_drewN | apply below_drew1 | refine below_set ?_ GE251.out) | exact HB.out))) : w.heap.size ≤ gb259)); have n5_ := Aside0.mk ((by rw [hg]; exact Nat.ne_of_lt (blk_lt (g := gb251) (o := .cells #[.int .i64 t246, .int .u8 t247, .int .i64 t248, .int .i64 t249, .bool true] 24 (0, 0)) (by (with_reducible repeat (first | refine blk_drewN ?_ _ | refine blk_drew ?_ | refine blk_alloc ?_ _)); exact BK251.out)) : gb251 ≠ gb259)); have n6_ := Aside0.mk ((by rw [hg]; exact Nat.ne_of_gt (blk_lt (g := gb251) (o := .cells #[.int .i64 t246, .int .u8 t247, .int .i64 t248, .int .i64 t249, .bool true] 24 (0, 0)) (by (with_reducible repeat (first | refine blk_drewN ?_ _ | refine blk_drew ?_ | refine blk_alloc ?_ _)); exact BK251.out)) : gb259 ≠ gb251)); clear BK251; clear HB; have BK251 := n0_; have HB := n1_; have BK259 := n2_; have GW259 := n3_; have GE259 := n4_; have NB251_259 := n5_; have NB259_251 := n6_; clear n0_ n1_ n2_ n3_ n4_ n5_ n6_; clear hb hbox hg; have hnb145 := NB259_251.out; have hnc145 := NB251_259.out; have hcz146_0 : w144.cell? ⟨gb259, 0, none⟩ = some (.int .i64 0) := (blk_cell BK259.out 0).trans rfl; have hcz146_1 : w144.cell? ⟨gb259, 1, none⟩ = some (.int .u8 0) := (blk_cell BK259.out 1).trans rfl; have hcz146_2 : w144.cell? ⟨gb259, 2, none⟩ = some (.int .i64 0) := (blk_cell BK259.out 2).trans rfl; have hcz146_3 : w144.cell? ⟨gb259, 3, none⟩ = some (.int .i64 0) := (blk_cell BK259.out 3).trans rfl; have hcz146_4 : w144.cell? ⟨gb259, 4, none⟩ = some (.bool false) := (blk_cell BK259.out 4).trans rfl; have hfz146_0 := blk_frozen BK259.out 0; have hfz146_1 := blk_frozen BK259.out 1; have hfz146_2 := blk_frozen BK259.out 2; have hfz146_3 := blk_frozen BK259.out 3; have hfz146_4 := blk_frozen BK259.out 4) | ((with_reducible refine gate_callee (f := 10) rfl ?_); refine goesL_ (some 36) rfl rfl Try.func10 (by kernel_rfl) rfl #[.int .i64 (wrap64 (57399 + (wrap64 (Int.tmod a0 18))))] rfl (by (try simp only [List.map_toArray, List.map_cons, List.map_nil]); first | done | rfl | (simp only [List.length_drop, List.length_take]; rfl)) ?_; (with_reducible refine (keys_Look.calls (wrap64 (57399 + (wrap64 (Int.tmod a0 18)))) t260 t261 t262 t263 t264 _ A12.out).mono ?_); rintro e w147 ⟨rfl, hb⟩; refine ⟨_, rfl, ?_⟩; have n0_ := Aside0.mk (blk_below (g := gb251) (o := .cells #[.int .i64 t246, .int .u8 t247, .int .i64 t248, .int .i64 t249, .bool true] 24 (0, 0)) (by (with_reducible repeat (first | refine blk_drewN ?_ _ | refine blk_drew ?_ | refine blk_alloc ?_ _)); refine blk_far ?_ NB251_259.out _; (with_reducible repeat (first | refine blk_drewN ?_ _ | refine blk_drew ?_ | refine blk_alloc ?_ _)); refine blk_far ?_ NB251_259.out _; (with_reducible repeat (first | refine blk_drewN ?_ _ | refine blk_drew ?_ | refine blk_alloc ?_ _)); refine blk_far ?_ NB251_259.out _; (with_reducible repeat (first | refine blk_drewN ?_ _ | refine blk_drew ?_ | refine blk_alloc ?_ _)); refine blk_far ?_ NB251_259.out _; (with_reducible repeat (first | refine blk_drewN ?_ _ | refine blk_drew ?_ | refine blk_alloc ?_ _)); refine blk_far ?_ NB251_259.out _; (with_reducible repeat (first | refine blk_drewN ?_ _ | refine blk_drew ?_ | refine blk_alloc ?_ _)); exact BK251.out) hb); have n1_ := Aside0.mk (blk_below (g := gb259) (o := .cells #[.int .i64 t254, .int .u8 t255, .int .i64 t256, .int .i64 t257, .bool false] 24 (0, 0)) (by (with_reducible repeat (first | refine blk_drewN ?_ _ | refine blk_drew ?_ | refine blk_alloc ?_ _)); refine blk_put (cs := #[.int .i64 t254, .int .u8 t255, .int .i64 t256, .int .i64 t257, .bool false]) ?_ 4 _ rfl; (with_reducible repeat (first | refine blk_drewN ?_ _ | refine blk_drew ?_ | refine blk_alloc ?_ _)); refine blk_put (cs := #[.int .i64 t254, .int .u8 t255, .int .i64 t256, .int .i64 0, .bool false]) ?_ 3 _ rfl; (with_reducible repeat (first | refine blk_drewN ?_ _ | refine blk_drew ?_ | refine blk_alloc ?_ _)); refine blk_put (cs := #[.int .i64 t254, .int .u8 t255, .int .i64 0, .int .i64 0, .bool false]) ?_ 2 _ rfl; (with_reducible repeat (first | refine blk_drewN ?_ _ | refine blk_drew ?_ | refine blk_alloc ?_ _)); refine blk_put (cs := #[.int .i64 t254, .int .u8 0, .int .i64 0, .int .i64 0, .bool false]) ?_ 1 _ rfl; (with_reducible repeat (first | refine blk_drewN ?_ _ | refine blk_drew ?_ | refine blk_alloc ?_ _)); refine blk_put (cs := #[.int .i64 0, .int .u8 0, .int .i64 0, .int .i64 0, .bool false]) ?_ 0 _ rfl; (with_reducible repeat (first | refine blk_drewN ?_ _ | refine blk_drew ?_ | refine blk_alloc ?_ _)); exact BK259.out) hb); have n2_ := Aside0.mk (below_step (by repeat (first | (with_reducible first | exact HB.out | apply below_alloc | apply pw_below_drewN | apply below_drew1 | refine below_set ?_ GE251.out | refine below_set ?_ GE259.out) | exact HB.out)) hb); clear BK251; clear BK259; clear HB; have BK251 := n0_; have BK259 := n1_; have HB := n2_; clear n0_ n1_ n2_; (try clear hb); (try clear hb2); (try clear hk); (try clear hi)) | ((with_reducible refine gate_dst (N := 9) rfl ?_); refine box_event ?hg (N := 9) ?hd (cs := #[.int .i64 0, .int .u8 0, .int .i64 0, .int .i64 0, .bool false]) (t := 24) ?hr ?_; (case hd => rfl); (case hg => rfl); (case hr => first | (go_simp; done) | (go_simp; rfl)); intro gb265 hg w148 hbox hb; have n0_ := Aside0.mk (blk_below (g := gb251) (o := .cells #[.int .i64 t246, .int .u8 t247, .int .i64 t248, .int .i64 t249, .bool true] 24 (0, 0)) (by (with_reducible repeat (first | refine blk_drewN ?_ _ | refine blk_drew ?_ | refine blk_alloc ?_ _)); exact BK251.out) hb); have n1_ := Aside0.mk (blk_below (g := gb259) (o := .cells #[.int .i64 t254, .int .u8 t255, .int .i64 t256, .int .i64 t257, .bool false] 24 (0, 0)) (by (with_reducible repeat (first | refine blk_drewN ?_ _ | refine blk_drew ?_ | refine blk_alloc ?_ _)); exact BK259.out) hb); have n2_ := Aside0.mk (below_step (by repeat (first | (with_reducible first | exact HB.out | apply below_alloc | apply pw_below_drewN | apply below_drew1 | refine below_set ?_ GE251.out | refine below_set ?_ GE259.out) | exact HB.out)) hb); have n3_ := Aside0.mk (hbox); have n4_ := Aside0.mk ((by rw [hg]; exact (below_size (by repeat (first | (with_reducible first | exact HB.out | apply below_alloc | apply pw_below_drewN | apply below_drew1 | refine below_set ?_ GE251.out | refine below_set ?_ GE259.out) | exact HB.out))) : w.heap.size ≤ gb265)); have n5_ := Aside0.mk ((by rw [hg]; exact (below_size (by repeat (first | (with_reducible first | exact HB.out | apply below_alloc | apply pw_below_drewN | apply below_drew1 | refine below_set ?_ GE251.out | refine below_set ?_ GE259.out) | exact HB.out))) : w.heap.size ≤ gb265)); have n6_ := Aside0.mk ((by rw [hg]; exact Nat.ne_of_lt (blk_lt (g := gb251) (o := .cells #[.int .i64 t246, .int .u8 t247, .int .i64 t248, .int .i64 t249, .bool true] 24 (0, 0)) (by (with_reducible repeat (first | refine blk_drewN ?_ _ | refine blk_drew ?_ | refine blk_alloc ?_ _)); exact BK251.out)) : gb251 ≠ gb265)); have n7_ := Aside0.mk ((by rw [hg]; exact Nat.ne_of_gt (blk_lt (g := gb251) (o := .cells #[.int .i64 t246, .int .u8 t247, .int .i64 t248, .int .i64 t249, .bool true] 24 (0, 0)) (by (with_reducible repeat (first | refine blk_drewN ?_ _ | refine blk_drew ?_ | refine blk_alloc ?_ _)); exact BK251.out)) : gb265 ≠ gb251)); have n8_ := Aside0.mk ((by rw [hg]; exact Nat.ne_of_lt (blk_lt (g := gb259) (o := .cells #[.int .i64 t254, .int .u8 t255, .int .i64 t256, .int .i64 t257, .bool false] 24 (0, 0)) (by (with_reducible repeat (first | refine blk_drewN ?_ _ | refine blk_drew ?_ | refine blk_alloc ?_ _)); exact BK259.out)) : gb259 ≠ gb265)); have n9_ := Aside0.mk ((by rw [hg]; exact Nat.ne_of_gt (blk_lt (g := gb259) (o := .cells #[.int .i64 t254, .int .u8 t255, .int .i64 t256, .int .i64 t257, .bool false] 24 (0, 0)) (by (with_reducible repeat (first | refine blk_drewN ?_ _ | refine blk_drew ?_ | refine blk_alloc ?_ _)); exact BK259.out)) : gb265 ≠ gb259)); clear BK251; clear BK259; clear HB; have BK251 := n0_; have BK259 := n1_; have HB := n2_; have BK265 := n3_; have GW265 := n4_; have GE265 := n5_; have NB251_265 := n6_; have NB265_251 := n7_; have NB259_265 := n8_; have NB265_259 := n9_; clear n0_ n1_ n2_ n3_ n4_ n5_ n6_ n7_ n8_ n9_; clear hb hbox hg; have hnb149 := NB265_251.out; have hnc149 := NB251_265.out; have hnb150 := NB265_259.out; have hnc150 := NB259_265.out; have hcz151_0 : w148.cell? ⟨gb265, 0, none⟩ = some (.int .i64 0) := (blk_cell BK265.out 0).trans rfl; have hcz151_1 : w148.cell? ⟨gb265, 1, none⟩ = some (.int .u8 0) := (blk_cell BK265.out 1).trans rfl; have hcz151_2 : w148.cell? ⟨gb265, 2, none⟩ = some (.int .i64 0) := (blk_cell BK265.out 2).trans rfl; have hcz151_3 : w148.cell? ⟨gb265, 3, none⟩ = some (.int .i64 0) := (blk_cell BK265.out 3).trans rfl; have hcz151_4 : w148.cell? ⟨gb265, 4, none⟩ = some (.bool false) := (blk_cell BK265.out 4).trans rfl; have hfz151_0 := blk_frozen BK265.out 0; have hfz151_1 := blk_frozen BK265.out 1; have hfz151_2 := blk_frozen BK265.out 2; have hfz151_3 := blk_frozen BK265.out 3; have hfz151_4 := blk_frozen BK265.out 4; have hcz152_0 : w148.cell? ⟨gb259, 0, none⟩ = some (.int .i64 t254) := (blk_cell BK259.out 0).trans rfl; have hcz152_1 : w148.cell? ⟨gb259, 1, none⟩ = some (.int .u8 t255) := (blk_cell BK259.out 1).trans rfl; have hcz152_2 : w148.cell? ⟨gb259, 2, none⟩ = some (.int .i64 t256) := (blk_cell BK259.out 2).trans rfl; have hcz152_3 : w148.cell? ⟨gb259, 3, none⟩ = some (.int .i64 t257) := (blk_cell BK259.out 3).trans rfl; have hcz152_4 : w148.cell? ⟨gb259, 4, none⟩ = some (.bool false) := (blk_cell BK259.out 4).trans rfl; have hfz152_0 := blk_frozen BK259.out 0; have hfz152_1 := blk_frozen BK259.out 1; have hfz152_2 := blk_frozen BK259.out 2; have hfz152_3 := blk_frozen BK259.out 3; have hfz152_4 := blk_frozen BK259.out 4; have hcz153_0 : w148.cell? ⟨gb251, 0, none⟩ = some (.int .i64 t246) := (blk_cell BK251.out 0).trans rfl; have hcz153_1 : w148.cell? ⟨gb251, 1, none⟩ = some (.int .u8 t247) := (blk_cell BK251.out 1).trans rfl; have hcz153_2 : w148.cell? ⟨gb251, 2, none⟩ = some (.int .i64 t248) := (blk_cell BK251.out 2).trans rfl; have hcz153_3 : w148.cell? ⟨gb251, 3, none⟩ = some (.int .i64 t249) := (blk_cell BK251.out 3).trans rfl; have hcz153_4 : w148.cell? ⟨gb251, 4, none⟩ = some (.bool true) := (blk_cell BK251.out 4).trans rfl; have hfz153_0 := blk_frozen BK251.out 0; have hfz153_1 := blk_frozen BK251.out 1; have hfz153_2 := blk_frozen BK251.out 2; have hfz153_3 := blk_frozen BK251.out 3; have hfz153_4 := blk_frozen BK251.out 4) | (go_at_call 10; (with_reducible refine (keys_Look.calls t263 t276 t277 t278 t279 t280 _ A139.out).mono ?_); rintro e w154 ⟨rfl, hb⟩; have n0_ := Aside0.mk (blk_below (g := gb251) (o := .cells #[.int .i64 t246, .int .u8 t247, .int .i64 t248, .int .i64 t249, .bool true] 24 (0, 0)) (by (with_reducible repeat (first | refine blk_drewN ?_ _ | refine blk_drew ?_ | refine blk_alloc ?_ _)); refine blk_far ?_ NB251_265.out _; (with_reducible repeat (first | refine blk_drewN ?_ _ | refine blk_drew ?_ | refine blk_alloc ?_ _)); refine blk_far ?_ NB251_265.out _; (with_reducible repeat (first | refine blk_drewN ?_ _ | refine blk_drew ?_ | refine blk_alloc ?_ _)); refine blk_far ?_ NB251_265.out _; (with_reducible repeat (first | refine blk_drewN ?_ _ | refine blk_drew ?_ | refine blk_alloc ?_ _)); refine blk_far ?_ NB251_265.out _; (with_reducible repeat (first | refine blk_drewN ?_ _ | refine blk_drew ?_ | refine blk_alloc ?_ _)); refine blk_far ?_ NB251_265.out _; (with_reducible repeat (first | refine blk_drewN ?_ _ | refine blk_drew ?_ | refine blk_alloc ?_ _)); exact BK251.out) hb); have n1_ := Aside0.mk (blk_below (g := gb259) (o := .cells #[.int .i64 t254, .int .u8 t255, .int .i64 t256, .int .i64 t257, .bool false] 24 (0, 0)) (by (with_reducible repeat (first | refine blk_drewN ?_ _ | refine blk_drew ?_ | refine blk_alloc ?_ _)); refine blk_far ?_ NB259_265.out _; (with_reducible repeat (first | refine blk_drewN ?_ _ | refine blk_drew ?_ | refine blk_alloc ?_ _)); refine blk_far ?_ NB259_265.out _; (with_reducible repeat (first | refine blk_drewN ?_ _ | refine blk_drew ?_ | refine blk_alloc ?_ _)); refine blk_far ?_ NB259_265.out _; (with_reducible repeat (first | refine blk_drewN ?_ _ | refine blk_drew ?_ | refine blk_alloc ?_ _)); refine blk_far ?_ NB259_265.out _; (with_reducible repeat (first | refine blk_drewN ?_ _ | refine blk_drew ?_ | refine blk_alloc ?_ _)); refine blk_far ?_ NB259_265.out _; (with_reducible repeat (first | refine blk_drewN ?_ _ | refine blk_drew ?_ | refine blk_alloc ?_ _)); exact BK259.out) hb); have n2_ := Aside0.mk (blk_below (g := gb265) (o := .cells #[.int .i64 t260, .int .u8 t261, .int .i64 t262, .int .i64 t263, .bool t264] 24 (0, 0)) (by (with_reducible repeat (first | refine blk_drewN ?_ _ | refine blk_drew ?_ | refine blk_alloc ?_ _)); refine blk_put (cs := #[.int .i64 t260, .int .u8 t261, .int .i64 t262, .int .i64 t263, .bool false]) ?_ 4 _ rfl; (with_reducible repeat (first | refine blk_drewN ?_ _ | refine blk_drew ?_ | refine blk_alloc ?_ _)); refine blk_put (cs := #[.int .i64 t260, .int .u8 t261, .int .i64 t262, .int .i64 0, .bool false]) ?_ 3 _ rfl; (with_reducible repeat (first | refine blk_drewN ?_ _ | refine blk_drew ?_ | refine blk_alloc ?_ _)); refine blk_put (cs := #[.int .i64 t260, .int .u8 t261, .int .i64 0, .int .i64 0, .bool false]) ?_ 2 _ rfl; (with_reducible repeat (first | refine blk_drewN ?_ _ | refine blk_drew ?_ | refine blk_alloc ?_ _)); refine blk_put (cs := #[.int .i64 t260, .int .u8 0, .int .i64 0, .int .i64 0, .bool false]) ?_ 1 _ rfl; (with_reducible repeat (first | refine blk_drewN ?_ _ | refine blk_drew ?_ | refine blk_alloc ?_ _)); refine blk_put (cs := #[.int .i64 0, .int .u8 0, .int .i64 0, .int .i64 0, .bool false]) ?_ 0 _ rfl; (with_reducible repeat (first | refine blk_drewN ?_ _ | refine blk_drew ?_ | refine blk_alloc ?_ _)); exact BK265.out) hb); have n3_ := Aside0.mk (below_step (by repeat (first | (with_reducible first | exact HB.out | apply below_alloc | apply pw_below_drewN | apply below_drew1 | refine below_set ?_ GE251.out | refine below_set ?_ GE259.out | refine below_set ?_ GE265.out) | exact HB.out)) hb); clear BK251; clear BK259; clear BK265; clear HB; have BK251 := n0_; have BK259 := n1_; have BK265 := n2_; have HB := n3_; clear n0_ n1_ n2_ n3_; (try clear hb); (try clear hb2); (try clear hk); (try clear hi)))
                              go_ret
                              exact ⟨by first | rfl | (simp [errW_none, errW_some] <;> rfl) | (simp [*, errW_none, errW_some] <;> rfl), by repeat (first | (with_reducible first | exact HB.out | apply below_alloc | apply pw_below_drewN | apply below_drew1 | refine below_set ?_ GE251.out | refine below_set ?_ GE259.out | refine below_set ?_ GE265.out) | exact HB.out)⟩
                            · rw [if_neg c140] at H
                              have c140b0 : (t276 == 1) = false := beq_eq_false_iff_ne.mpr c140
                              have c140b1 : (t276 != 1) = true := bne_iff_ne.mpr c140
                              obtain rfl := Option.some.inj H
                              have hcz155_0 : wc.cell? ⟨gb251, 0, none⟩ = some (.int .i64 t246) := (blk_cell BK251.out 0).trans rfl
                              have hcz155_1 : wc.cell? ⟨gb251, 1, none⟩ = some (.int .u8 t247) := (blk_cell BK251.out 1).trans rfl
                              have hcz155_2 : wc.cell? ⟨gb251, 2, none⟩ = some (.int .i64 t248) := (blk_cell BK251.out 2).trans rfl
                              have hcz155_3 : wc.cell? ⟨gb251, 3, none⟩ = some (.int .i64 t249) := (blk_cell BK251.out 3).trans rfl
                              have hcz155_4 : wc.cell? ⟨gb251, 4, none⟩ = some (.bool true) := (blk_cell BK251.out 4).trans rfl
                              have hfz155_0 := blk_frozen BK251.out 0
                              have hfz155_1 := blk_frozen BK251.out 1
                              have hfz155_2 := blk_frozen BK251.out 2
                              have hfz155_3 := blk_frozen BK251.out 3
                              have hfz155_4 := blk_frozen BK251.out 4
                              go_wp2_with (first | ((with_reducible refine gate_callee (f := 13) rfl ?_); refine goesL_ (some 27) rfl rfl Try.func13 (by kernel_rfl) rfl #[.int .u8 x5_3, .int .i64 t248] rfl (by (try simp only [List.map_toArray, List.map_cons, List.map_nil]); first | done | rfl | (simp only [List.length_drop, List.length_take]; rfl)) ?_; (with_reducible refine (keys_Find.calls x5_3 t248 t252 true _ A10.out).mono ?_); rintro e w156 ⟨rfl, hb⟩; refine ⟨_, rfl, ?_⟩; have n0_ := Aside0.mk (blk_below (g := gb251) (o := .cells #[.int .i64 t246, .int .u8 t247, .int .i64 t248, .int .i64 t249, .bool true] 24 (0, 0)) (by (with_reducible repeat (first | refine blk_drewN ?_ _ | refine blk_drew ?_ | refine blk_alloc ?_ _)); exact BK251.out) hb); have n1_ := Aside0.mk (below_step (by repeat (first | (with_reducible first | exact HB.out | apply below_alloc | apply pw_below_drewN | apply below_drew1 | refine below_set ?_ GE251.out) | exact HB.out)) hb); clear BK251; clear HB; have BK251 := n0_; have HB := n1_; clear n0_ n1_; (try clear hb); (try clear hb2); (try clear hk); (try clear hi)) | ((with_reducible refine gate_callee (f := 10) rfl ?_); refine goesL_ (some 31) rfl rfl Try.func10 (by kernel_rfl) rfl #[.int .i64 t252] rfl (by (try simp only [List.map_toArray, List.map_cons, List.map_nil]); first | done | rfl | (simp only [List.length_drop, List.length_take]; rfl)) ?_; (with_reducible refine (keys_Look.calls t252 t254 t255 t256 t257 false _ A11.out).mono ?_); rintro e w157 ⟨rfl, hb⟩; refine ⟨_, rfl, ?_⟩; have n0_ := Aside0.mk (blk_below (g := gb251) (o := .cells #[.int .i64 t246, .int .u8 t247, .int .i64 t248, .int .i64 t249, .bool true] 24 (0, 0)) (by (with_reducible repeat (first | refine blk_drewN ?_ _ | refine blk_drew ?_ | refine blk_alloc ?_ _)); exact BK251.out) hb); have n1_ := Aside0.mk (below_step (by repeat (first | (with_reducible first | exact HB.out | apply below_alloc | apply pw_below_drewN | apply below_drew1 | refine below_set ?_ GE251.out) | exact HB.out)) hb); clear BK251; clear HB; have BK251 := n0_; have HB := n1_; clear n0_ n1_; (try clear hb); (try clear hb2); (try clear hk); (try clear hi)) | ((with_reducible refine gate_dst (N := 8) rfl ?_); refine box_event ?hg (N := 8) ?hd (cs := #[.int .i64 0, .int .u8 0, .int .i64 0, .int .i64 0, .bool false]) (t := 24) ?hr ?_; (case hd => rfl); (case hg => rfl); (case hr => first | (go_simp; done) | (go_simp; rfl)); intro gb259 hg w158 hbox hb; have n0_ := Aside0.mk (blk_below (g := gb251) (o := .cells #[.int .i64 t246, .int .u8 t247, .int .i64 t248, .int .i64 t249, .bool true] 24 (0, 0)) (by (with_reducible repeat (first | refine blk_drewN ?_ _ | refine blk_drew ?_ | refine blk_alloc ?_ _)); exact BK251.out) hb); have n1_ := Aside0.mk (below_step (by repeat (first | (with_reducible first | exact HB.out | apply below_alloc | apply pw_below_drewN | apply below_drew1 | refine below_set ?_ GE251.out) | exact HB.out)) hb); have n2_ := Aside0.mk (hbox); have n3_ := Aside0.mk ((by rw [hg]; exact (below_size (by repeat (first | (with_reducible first | exact HB.out | apply below_alloc | apply pw_below_drewN | apply below_drew1 | refine below_set ?_ GE251.out) | exact HB.out))) : w.heap.size ≤ gb259)); have n4_ := Aside0.mk ((by rw [hg]; exact (below_size (by repeat (first | (with_reducible first | exact HB.out | apply below_alloc | apply pw_below_drewN | apply below_drew1 | refine below_set ?_ GE251.out) | exact HB.out))) : w.heap.size ≤ gb259)); have n5_ := Aside0.mk ((by rw [hg]; exact Nat.ne_of_lt (blk_lt (g := gb251) (o := .cells #[.int .i64 t246, .int .u8 t247, .int .i64 t248, .int .i64 t249, .bool true] 24 (0, 0)) (by (with_reducible repeat (first | refine blk_drewN ?_ _ | refine blk_drew ?_ | refine blk_alloc ?_ _)); exact BK251.out)) : gb251 ≠ gb259)); have n6_ := Aside0.mk ((by rw [hg]; exact Nat.ne_of_gt (blk_lt (g := gb251) (o := .cells #[.int .i64 t246, .int .u8 t247, .int .i64 t248, .int .i64 t249, .bool true] 24 (0, 0)) (by (with_reducible repeat (first | refine blk_drewN ?_ _ | refine blk_drew ?_ | refine blk_alloc ?_ _)); exact BK251.out)) : gb259 ≠ gb251)); clear BK251; clear HB; have BK251 := n0_; have HB := n1_; have BK259 := n2_; have GW259 := n3_; have GE259 := n4_; have NB251_259 := n5_; have NB259_251 := n6_; clear n0_ n1_ n2_ n3_ n4_ n5_ n6_; clear hb hbox hg; have hnb159 := NB259_251.out; have hnc159 := NB251_259.out; have hcz160_0 : w158.cell? ⟨gb259, 0, none⟩ = some (.int .i64 0) := (blk_cell BK259.out 0).trans rfl; have hcz160_1 : w158.cell? ⟨gb259, 1, none⟩ = some (.int .u8 0) := (blk_cell BK259.out 1).trans rfl; have hcz160_2 : w158.cell? ⟨gb259, 2, none⟩ = some (.int .i64 0) := (blk_cell BK259.out 2).trans rfl; have hcz160_3 : w158.cell? ⟨gb259, 3, none⟩ = some (.int .i64 0) := (blk_cell BK259.out 3).trans rfl; have hcz160_4 : w158.cell? ⟨gb259, 4, none⟩ = some (.bool false) := (blk_cell BK259.out 4).trans rfl; have hfz160_0 := blk_frozen BK259.out 0; have hfz160_1 := blk_frozen BK259.out 1; have hfz160_2 := blk_frozen BK259.out 2; have hfz160_3 := blk_frozen BK259.out 3; have hfz160_4 := blk_frozen BK259.out 4) | ((with_reducible refine gate_callee (f := 10) rfl ?_); refine goesL_ (some 36) rfl rfl Try.func10 (by kernel_rfl) rfl #[.int .i64 (wrap64 (57399 + (wrap64 (Int.tmod a0 18))))] rfl (by (try simp only [List.map_toArray, List.map_cons, List.map_nil]); first | done | rfl | (simp only [List.length_drop, List.length_take]; rfl)) ?_; (with_reducible refine (keys_Look.calls (wrap64 (57399 + (wrap64 (Int.tmod a0 18)))) t260 t261 t262 t263 t264 _ A12.out).mono ?_); rintro e w161 ⟨rfl, hb⟩; refine ⟨_, rfl, ?_⟩; have n0_ := Aside0.mk (blk_below (g := gb251) (o := .cells #[.int .i64 t246, .int .u8 t247, .int .i64 t248, .int .i64 t249, .bool true] 24 (0, 0)) (by (with_reducible repeat (first | refine blk_drewN ?_ _ | refine blk_drew ?_ | refine blk_alloc ?_ _)); refine blk_far ?_ NB251_259.out _; (with_reducible repeat (first | refine blk_drewN ?_ _ | refine blk_drew ?_ | refine blk_alloc ?_ _)); refine blk_far ?_ NB251_259.out _; (with_reducible repeat (first | refine blk_drewN ?_ _ | refine blk_drew ?_ | refine blk_alloc ?_ _)); refine blk_far ?_ NB251_259.out _; (with_reducible repeat (first | refine blk_drewN ?_ _ | refine blk_drew ?_ | refine blk_alloc ?_ _)); refine blk_far ?_ NB251_259.out _; (with_reducible repeat (first | refine blk_drewN ?_ _ | refine blk_drew ?_ | refine blk_alloc ?_ _)); refine blk_far ?_ NB251_259.out _; (with_reducible repeat (first | refine blk_drewN ?_ _ | refine blk_drew ?_ | refine blk_alloc ?_ _)); exact BK251.out) hb); have n1_ := Aside0.mk (blk_below (g := gb259) (o := .cells #[.int .i64 t254, .int .u8 t255, .int .i64 t256, .int .i64 t257, .bool false] 24 (0, 0)) (by (with_reducible repeat (first | refine blk_drewN ?_ _ | refine blk_drew ?_ | refine blk_alloc ?_ _)); refine blk_put (cs := #[.int .i64 t254, .int .u8 t255, .int .i64 t256, .int .i64 t257, .bool false]) ?_ 4 _ rfl; (with_reducible repeat (first | refine blk_drewN ?_ _ | refine blk_drew ?_ | refine blk_alloc ?_ _)); refine blk_put (cs := #[.int .i64 t254, .int .u8 t255, .int .i64 t256, .int .i64 0, .bool false]) ?_ 3 _ rfl; (with_reducible repeat (first | refine blk_drewN ?_ _ | refine blk_drew ?_ | refine blk_alloc ?_ _)); refine blk_put (cs := #[.int .i64 t254, .int .u8 t255, .int .i64 0, .int .i64 0, .bool false]) ?_ 2 _ rfl; (with_reducible repeat (first | refine blk_drewN ?_ _ | refine blk_drew ?_ | refine blk_alloc ?_ _)); refine blk_put (cs := #[.int .i64 t254, .int .u8 0, .int .i64 0, .int .i64 0, .bool false]) ?_ 1 _ rfl; (with_reducible repeat (first | refine blk_drewN ?_ _ | refine blk_drew ?_ | refine blk_alloc ?_ _)); refine blk_put (cs := #[.int .i64 0, .int .u8 0, .int .i64 0, .int .i64 0, .bool false]) ?_ 0 _ rfl; (with_reducible repeat (first | refine blk_drewN ?_ _ | refine blk_drew ?_ | refine blk_alloc ?_ _)); exact BK259.out) hb); have n2_ := Aside0.mk (below_step (by repeat (first | (with_reducible first | exact HB.out | apply below_alloc | apply pw_below_drewN | apply below_drew1 | refine below_set ?_ GE251.out | refine below_set ?_ GE259.out) | exact HB.out)) hb); clear BK251; clear BK259; clear HB; have BK251 := n0_; have BK259 := n1_; have HB := n2_; clear n0_ n1_ n2_; (try clear hb); (try clear hb2); (try clear hk); (try clear hi)) | ((with_reducible refine gate_dst (N := 9) rfl ?_); refine box_event ?hg (N := 9) ?hd (cs := #[.int .i64 0, .int .u8 0, .int .i64 0, .int .i64 0, .bool false]) (t := 24) ?hr ?_; (case hd => rfl); (case hg => rfl); (case hr => first | (go_simp; done) | (go_simp; rfl)); intro gb265 hg w162 hbox hb; have n0_ := Aside0.mk (blk_below (g := gb251) (o := .cells #[.int .i64 t246, .int .u8 t247, .int .i64 t248, .int .i64 t249, .bool true] 24 (0, 0)) (by (with_reducible repeat (first | refine blk_drewN ?_ _ | refine blk_drew ?_ | refine blk_alloc ?_ _)); exact BK251.out) hb); have n1_ := Aside0.mk (blk_below (g := gb259) (o := .cells #[.int .i64 t254, .int .u8 t255, .int .i64 t256, .int .i64 t257, .bool false] 24 (0, 0)) (by (with_reducible repeat (first | refine blk_drewN ?_ _ | refine blk_drew ?_ | refine blk_alloc ?_ _)); exact BK259.out) hb); have n2_ := Aside0.mk (below_step (by repeat (first | (with_reducible first | exact HB.out | apply below_alloc | apply pw_below_drewN | apply below_drew1 | refine below_set ?_ GE251.out | refine below_set ?_ GE259.out) | exact HB.out)) hb); have n3_ := Aside0.mk (hbox); have n4_ := Aside0.mk ((by rw [hg]; exact (below_size (by repeat (first | (with_reducible first | exact HB.out | apply below_alloc | apply pw_below_drewN | apply below_drew1 | refine below_set ?_ GE251.out | refine below_set ?_ GE259.out) | exact HB.out))) : w.heap.size ≤ gb265)); have n5_ := Aside0.mk ((by rw [hg]; exact (below_size (by repeat (first | (with_reducible first | exact HB.out | apply below_alloc | apply pw_below_drewN | apply below_drew1 | refine below_set ?_ GE251.out | refine below_set ?_ GE259.out) | exact HB.out))) : w.heap.size ≤ gb265)); have n6_ := Aside0.mk ((by rw [hg]; exact Nat.ne_of_lt (blk_lt (g := gb251) (o := .cells #[.int .i64 t246, .int .u8 t247, .int .i64 t248, .int .i64 t249, .bool true] 24 (0, 0)) (by (with_reducible repeat (first | refine blk_drewN ?_ _ | refine blk_drew ?_ | refine blk_alloc ?_ _)); exact BK251.out)) : gb251 ≠ gb265)); have n7_ := Aside0.mk ((by rw [hg]; exact Nat.ne_of_gt (blk_lt (g := gb251) (o := .cells #[.int .i64 t246, .int .u8 t247, .int .i64 t248, .int .i64 t249, .bool true] 24 (0, 0)) (by (with_reducible repeat (first | refine blk_drewN ?_ _ | refine blk_drew ?_ | refine blk_alloc ?_ _)); exact BK251.out)) : gb265 ≠ gb251)); have n8_ := Aside0.mk ((by rw [hg]; exact Nat.ne_of_lt (blk_lt (g := gb259) (o := .cells #[.int .i64 t254, .int .u8 t255, .int .i64 t256, .int .i64 t257, .bool false] 24 (0, 0)) (by (with_reducible repeat (first | refine blk_drewN ?_ _ | refine blk_drew ?_ | refine blk_alloc ?_ _)); exact BK259.out)) : gb259 ≠ gb265)); have n9_ := Aside0.mk ((by rw [hg]; exact Nat.ne_of_gt (blk_lt (g := gb259) (o := .cells #[.int .i64 t254, .int .u8 t255, .int .i64 t256, .int .i64 t257, .bool false] 24 (0, 0)) (by (with_reducible repeat (first | refine blk_drewN ?_ _ | refine blk_drew ?_ | refine blk_alloc ?_ _)); exact BK259.out)) : gb265 ≠ gb259)); clear BK251; clear BK259; clear HB; have BK251 := n0_; have BK259 := n1_; have HB := n2_; have BK265 := n3_; have GW265 := n4_; have GE265 := n5_; have NB251_265 := n6_; have NB265_251 := n7_; have NB259_265 := n8_; have NB265_259 := n9_; clear n0_ n1_ n2_ n3_ n4_ n5_ n6_ n7_ n8_ n9_; clear hb hbox hg; have hnb163 := NB265_251.out; have hnc163 := NB251_265.out; have hnb164 := NB265_259.out; have hnc164 := NB259_265.out; have hcz165_0 : w162.cell? ⟨gb265, 0, none⟩ = some (.int .i64 0) := (blk_cell BK265.out 0).trans rfl; have hcz165_1 : w162.cell? ⟨gb265, 1, none⟩ = some (.int .u8 0) := (blk_cell BK265.out 1).trans rfl; have hcz165_2 : w162.cell? ⟨gb265, 2, none⟩ = some (.int .i64 0) := (blk_cell BK265.out 2).trans rfl; have hcz165_3 : w162.cell? ⟨gb265, 3, none⟩ = some (.int .i64 0) := (blk_cell BK265.out 3).trans rfl; have hcz165_4 : w162.cell? ⟨gb265, 4, none⟩ = some (.bool false) := (blk_cell BK265.out 4).trans rfl; have hfz165_0 := blk_frozen BK265.out 0; have hfz165_1 := blk_frozen BK265.out 1; have hfz165_2 := blk_frozen BK265.out 2; have hfz165_3 := blk_frozen BK265.out 3; have hfz165_4 := blk_frozen BK265.out 4; have hcz166_0 : w162.cell? ⟨gb259, 0, none⟩ = some (.int .i64 t254) := (blk_cell BK259.out 0).trans rfl; have hcz166_1 : w162.cell? ⟨gb259, 1, none⟩ = some (.int .u8 t255) := (blk_cell BK259.out 1).trans rfl; have hcz166_2 : w162.cell? ⟨gb259, 2, none⟩ = some (.int .i64 t256) := (blk_cell BK259.out 2).trans rfl; have hcz166_3 : w162.cell? ⟨gb259, 3, none⟩ = some (.int .i64 t257) := (blk_cell BK259.out 3).trans rfl; have hcz166_4 : w162.cell? ⟨gb259, 4, none⟩ = some (.bool false) := (blk_cell BK259.out 4).trans rfl; have hfz166_0 := blk_frozen BK259.out 0; have hfz166_1 := blk_frozen BK259.out 1; have hfz166_2 := blk_frozen BK259.out 2; have hfz166_3 := blk_frozen BK259.out 3; have hfz166_4 := blk_frozen BK259.out 4; have hcz167_0 : w162.cell? ⟨gb251, 0, none⟩ = some (.int .i64 t246) := (blk_cell BK251.out 0).trans rfl; have hcz167_1 : w162.cell? ⟨gb251, 1, none⟩ = some (.int .u8 t247) := (blk_cell BK251.out 1).trans rfl; have hcz167_2 : w162.cell? ⟨gb251, 2, none⟩ = some (.int .i64 t248) := (blk_cell BK251.out 2).trans rfl; have hcz167_3 : w162.cell? ⟨gb251, 3, none⟩ = some (.int .i64 t249) := (blk_cell BK251.out 3).trans rfl; have hcz167_4 : w162.cell? ⟨gb251, 4, none⟩ = some (.bool true) := (blk_cell BK251.out 4).trans rfl; have hfz167_0 := blk_frozen BK251.out 0; have hfz167_1 := blk_frozen BK251.out 1; have hfz167_2 := blk_frozen BK251.out 2; have hfz167_3 := blk_frozen BK251.out 3; have hfz167_4 := blk_frozen BK251.out 4) | (go_at_call 10; (with_reducible refine (keys_Look.calls t263 t276 t277 t278 t279 t280 _ A139.out).mono ?_); rintro e w168 ⟨rfl, hb⟩; have n0_ := Aside0.mk (blk_below (g := gb251) (o := .cells #[.int .i64 t246, .int .u8 t247, .int .i64 t248, .int .i64 t249, .bool true] 24 (0, 0)) (by (with_reducible repeat (first | refine blk_drewN ?_ _ | refine blk_drew ?_ | refine blk_alloc ?_ _)); refine blk_far ?_ NB251_265.out _; (with_reducible repeat (first | refine blk_drewN ?_ _ | refine blk_drew ?_ | refine blk_alloc ?_ _)); refine blk_far ?_ NB251_265.out _; (with_reducible repeat (first | refine blk_drewN ?_ _ | refine blk_drew ?_ | refine blk_alloc ?_ _)); refine blk_far ?_ NB251_265.out _; (with_reducible repeat (first | refine blk_drewN ?_ _ | refine blk_drew ?_ | refine blk_alloc ?_ _)); refine blk_far ?_ NB251_265.out _; (with_reducible repeat (first | refine blk_drewN ?_ _ | refine blk_drew ?_ | refine blk_alloc ?_ _)); refine blk_far ?_ NB251_265.out _; (with_reducible repeat (first | refine blk_drewN ?_ _ | refine blk_drew ?_ | refine blk_alloc ?_ _)); exact BK251.out) hb); have n1_ := Aside0.mk (blk_below (g := gb259) (o := .cells #[.int .i64 t254, .int .u8 t255, .int .i64 t256, .int .i64 t257, .bool false] 24 (0, 0)) (by (with_reducible repeat (first | refine blk_drewN ?_ _ | refine blk_drew ?_ | refine blk_alloc ?_ _)); refine blk_far ?_ NB259_265.out _; (with_reducible repeat (first | refine blk_drewN ?_ _ | refine blk_drew ?_ | refine blk_alloc ?_ _)); refine blk_far ?_ NB259_265.out _; (with_reducible repeat (first | refine blk_drewN ?_ _ | refine blk_drew ?_ | refine blk_alloc ?_ _)); refine blk_far ?_ NB259_265.out _; (with_reducible repeat (first | refine blk_drewN ?_ _ | refine blk_drew ?_ | refine blk_alloc ?_ _)); refine blk_far ?_ NB259_265.out _; (with_reducible repeat (first | refine blk_drewN ?_ _ | refine blk_drew ?_ | refine blk_alloc ?_ _)); refine blk_far ?_ NB259_265.out _; (with_reducible repeat (first | refine blk_drewN ?_ _ | refine blk_drew ?_ | refine blk_alloc ?_ _)); exact BK259.out) hb); have n2_ := Aside0.mk (blk_below (g := gb265) (o := .cells #[.int .i64 t260, .int .u8 t261, .int .i64 t262, .int .i64 t263, .bool t264] 24 (0, 0)) (by (with_reducible repeat (first | refine blk_drewN ?_ _ | refine blk_drew ?_ | refine blk_alloc ?_ _)); refine blk_put (cs := #[.int .i64 t260, .int .u8 t261, .int .i64 t262, .int .i64 t263, .bool false]) ?_ 4 _ rfl; (with_reducible repeat (first | refine blk_drewN ?_ _ | refine blk_drew ?_ | refine blk_alloc ?_ _)); refine blk_put (cs := #[.int .i64 t260, .int .u8 t261, .int .i64 t262, .int .i64 0, .bool false]) ?_ 3 _ rfl; (with_reducible repeat (first | refine blk_drewN ?_ _ | refine blk_drew ?_ | refine blk_alloc ?_ _)); refine blk_put (cs := #[.int .i64 t260, .int .u8 t261, .int .i64 0, .int .i64 0, .bool false]) ?_ 2 _ rfl; (with_reducible repeat (first | refine blk_drewN ?_ _ | refine blk_drew ?_ | refine blk_alloc ?_ _)); refine blk_put (cs := #[.int .i64 t260, .int .u8 0, .int .i64 0, .int .i64 0, .bool false]) ?_ 1 _ rfl; (with_reducible repeat (first | refine blk_drewN ?_ _ | refine blk_drew ?_ | refine blk_alloc ?_ _)); refine blk_put (cs := #[.int .i64 0, .int .u8 0, .int .i64 0, .int .i64 0, .bool false]) ?_ 0 _ rfl; (with_reducible repeat (first | refine blk_drewN ?_ _ | refine blk_drew ?_ | refine blk_alloc ?_ _)); exact BK265.out) hb); have n3_ := Aside0.mk (below_step (by repeat (first | (with_reducible first | exact HB.out | apply below_alloc | apply pw_below_drewN | apply below_drew1 | refine below_set ?_ GE251.out | refine below_set ?_ GE259.out | refine below_set ?_ GE265.out) | exact HB.out)) hb); clear BK251; clear BK259; clear BK265; clear HB; have BK251 := n0_; have BK259 := n1_; have BK265 := n2_; have HB := n3_; clear n0_ n1_ n2_ n3_; (try clear hb); (try clear hb2); (try clear hk); (try clear hi); have hcz169_0 : w168.cell? ⟨gb265, 0, none⟩ = some (.int .i64 t260) := (blk_cell BK265.out 0).trans rfl; have hcz169_1 : w168.cell? ⟨gb265, 1, none⟩ = some (.int .u8 t261) := (blk_cell BK265.out 1).trans rfl; have hcz169_2 : w168.cell? ⟨gb265, 2, none⟩ = some (.int .i64 t262) := (blk_cell BK265.out 2).trans rfl; have hcz169_3 : w168.cell? ⟨gb265, 3, none⟩ = some (.int .i64 t263) := (blk_cell BK265.out 3).trans rfl; have hcz169_4 : w168.cell? ⟨gb265, 4, none⟩ = some (.bool t264) := (blk_cell BK265.out 4).trans rfl; have hfz169_0 := blk_frozen BK265.out 0; have hfz169_1 := blk_frozen BK265.out 1; have hfz169_2 := blk_frozen BK265.out 2; have hfz169_3 := blk_frozen BK265.out 3; have hfz169_4 := blk_frozen BK265.out 4))
                              go_ret
                              exact ⟨by first | rfl | (simp [errW_none, errW_some] <;> rfl) | (simp [*, errW_none, errW_some] <;> rfl), by repeat (first | (with_reducible first | exact HB.out | apply below_alloc | apply pw_below_drewN | apply below_drew1 | refine below_set ?_ GE251.out | refine below_set ?_ GE259.out | refine below_set ?_ GE265.out) | exact HB.out)⟩
                          · rw [if_neg c138] at H
                            exact absurd H (by simp)
                        · rw [if_neg c137] at H
                          exact absurd H (by simp)
                      · replace c136 := Bool.eq_false_iff.mpr c136
                        subst c136
                        have H1 : (none) = some r := by rw [if_neg (show ¬ (false = true) by decide)] at H; exact H
                        clear H
                        have H := H1
                        clear H1
                        exact absurd H (by simp)
                    · replace c135 := Bool.eq_false_iff.mpr c135
                      subst c135
                      have H1 : (none) = some r := by rw [if_neg (show ¬ (false = true) by decide)] at H; exact H
                      clear H
                      have H := H1
                      clear H1
                      exact absurd H (by simp)
                  · replace c134 := Bool.eq_false_iff.mpr c134
                    subst c134
                    have H1 : (none) = some r := by rw [if_neg (show ¬ (false = true) by decide)] at H; exact H
                    clear H
                    have H := H1
                    clear H1
                    exact absurd H (by simp)
              · rw [if_neg c130] at H
                have c130b0 : (t254 == t246) = false := beq_eq_false_iff_ne.mpr c130
                have c130b1 : (t254 != t246) = true := bne_iff_ne.mpr c130
                by_cases c170 : t245 = true
                · subst c170
                  have H1 : (if t253 = true then (none) else (none)) = some r := by rw [if_pos rfl] at H; exact H
                  clear H
                  have H := H1
                  clear H1
                  by_cases c171 : t253 = true
                  · subst c171
                    have H1 : (none) = some r := by rw [if_pos rfl] at H; exact H
                    clear H
                    have H := H1
                    clear H1
                    exact absurd H (by simp)
                  · replace c171 := Bool.eq_false_iff.mpr c171
                    subst c171
                    have H1 : (none) = some r := by rw [if_neg (show ¬ (false = true) by decide)] at H; exact H
                    clear H
                    have H := H1
                    clear H1
                    exact absurd H (by simp)
                · replace c170 := Bool.eq_false_iff.mpr c170
                  subst c170
                  have H1 : (none) = some r := by rw [if_neg (show ¬ (false = true) by decide)] at H; exact H
                  clear H
                  have H := H1
                  clear H1
                  exact absurd H (by simp)
            · rw [if_neg c129] at H
              have c129b0 : (t256 == t248) = false := beq_eq_false_iff_ne.mpr c129
              have c129b1 : (t256 != t248) = true := bne_iff_ne.mpr c129
              by_cases c172 : t245 = true
              · subst c172
                have H1 : (if t253 = true then (none) else (none)) = some r := by rw [if_pos rfl] at H; exact H
                clear H
                have H := H1
                clear H1
                by_cases c173 : t253 = true
                · subst c173
                  have H1 : (none) = some r := by rw [if_pos rfl] at H; exact H
                  clear H
                  have H := H1
                  clear H1
                  exact absurd H (by simp)
                · replace c173 := Bool.eq_false_iff.mpr c173
                  subst c173
                  have H1 : (none) = some r := by rw [if_neg (show ¬ (false = true) by decide)] at H; exact H
                  clear H
                  have H := H1
                  clear H1
                  exact absurd H (by simp)
              · replace c172 := Bool.eq_false_iff.mpr c172
                subst c172
                have H1 : (none) = some r := by rw [if_neg (show ¬ (false = true) by decide)] at H; exact H
                clear H
                have H := H1
                clear H1
                exact absurd H (by simp)
          · rw [if_neg c128] at H
            have c128b0 : (t255 == t247) = false := beq_eq_false_iff_ne.mpr c128
            have c128b1 : (t255 != t247) = true := bne_iff_ne.mpr c128
            by_cases c174 : t245 = true
            · subst c174
              have H1 : (if t253 = true then (none) else (none)) = some r := by rw [if_pos rfl] at H; exact H
              clear H
              have H := H1
              clear H1
              by_cases c175 : t253 = true
              · subst c175
                have H1 : (none) = some r := by rw [if_pos rfl] at H; exact H
                clear H
                have H := H1
                clear H1
                exact absurd H (by simp)
              · replace c175 := Bool.eq_false_iff.mpr c175
                subst c175
                have H1 : (none) = some r := by rw [if_neg (show ¬ (false = true) by decide)] at H; exact H
                clear H
                have H := H1
                clear H1
                exact absurd H (by simp)
            · replace c174 := Bool.eq_false_iff.mpr c174
              subst c174
              have H1 : (none) = some r := by rw [if_neg (show ¬ (false = true) by decide)] at H; exact H
              clear H
              have H := H1
              clear H1
              exact absurd H (by simp)
        · rw [if_neg c127] at H
          have c127b0 : decide (65 ≤ t261) = false := decide_eq_false c127
          clear c127
          by_cases c176 : t255 = t247
          · rw [if_pos c176] at H
            have c176b0 : (t255 == t247) = true := beq_iff_eq.mpr c176
            have c176b1 : (t255 != t247) = false := bne_eq_false_iff_eq.mpr c176
            clear c176
            by_cases c177 : t256 = t248
            · rw [if_pos c177] at H
              have c177b0 : (t256 == t248) = true := beq_iff_eq.mpr c177
              have c177b1 : (t256 != t248) = false := bne_eq_false_iff_eq.mpr c177
              clear c177
              by_cases c178 : t254 = t246
              · rw [if_pos c178] at H
                have c178b0 : (t254 == t246) = true := beq_iff_eq.mpr c178
                have c178b1 : (t254 != t246) = false := bne_eq_false_iff_eq.mpr c178
                clear c178
                by_cases c179 : t258 = true
                · subst c179
                  have H1 : (if t245 = true then (if t253 = true then (none) else (none)) else (none)) = some r := by rw [if_pos rfl] at H; exact H
                  clear H
                  have H := H1
                  clear H1
                  by_cases c180 : t245 = true
                  · subst c180
                    have H1 : (if t253 = true then (none) else (none)) = some r := by rw [if_pos rfl] at H; exact H
                    clear H
                    have H := H1
                    clear H1
                    by_cases c181 : t253 = true
                    · subst c181
                      have H1 : (none) = some r := by rw [if_pos rfl] at H; exact H
                      clear H
                      have H := H1
                      clear H1
                      exact absurd H (by simp)
                    · replace c181 := Bool.eq_false_iff.mpr c181
                      subst c181
                      have H1 : (none) = some r := by rw [if_neg (show ¬ (false = true) by decide)] at H; exact H
                      clear H
                      have H := H1
                      clear H1
                      exact absurd H (by simp)
                  · replace c180 := Bool.eq_false_iff.mpr c180
                    subst c180
                    have H1 : (none) = some r := by rw [if_neg (show ¬ (false = true) by decide)] at H; exact H
                    clear H
                    have H := H1
                    clear H1
                    exact absurd H (by simp)
                · replace c179 := Bool.eq_false_iff.mpr c179
                  subst c179
                  have H1 : (if t245 = true then (if t253 = true then (if t250 = true then (if t260 = 5 then (none) else (none)) else (none)) else (none)) else (none)) = some r := by rw [if_neg (show ¬ (false = true) by decide)] at H; exact H
                  clear H
                  have H := H1
                  clear H1
                  by_cases c182 : t245 = true
                  · subst c182
                    have H1 : (if t253 = true then (if t250 = true then (if t260 = 5 then (none) else (none)) else (none)) else (none)) = some r := by rw [if_pos rfl] at H; exact H
                    clear H
                    have H := H1
                    clear H1
                    by_cases c183 : t253 = true
                    · subst c183
                      have H1 : (if t250 = true then (if t260 = 5 then (none) else (none)) else (none)) = some r := by rw [if_pos rfl] at H; exact H
                      clear H
                      have H := H1
                      clear H1
                      by_cases c184 : t250 = true
                      · subst c184
                        have H1 : (if t260 = 5 then (none) else (none)) = some r := by rw [if_pos rfl] at H; exact H
                        clear H
                        have H := H1
                        clear H1
                        by_cases c185 : t260 = 5
                        · rw [if_pos c185] at H
                          exact absurd H (by simp)
                        · rw [if_neg c185] at H
                          exact absurd H (by simp)
                      · replace c184 := Bool.eq_false_iff.mpr c184
                        subst c184
                        have H1 : (none) = some r := by rw [if_neg (show ¬ (false = true) by decide)] at H; exact H
                        clear H
                        have H := H1
                        clear H1
                        exact absurd H (by simp)
                    · replace c183 := Bool.eq_false_iff.mpr c183
                      subst c183
                      have H1 : (none) = some r := by rw [if_neg (show ¬ (false = true) by decide)] at H; exact H
                      clear H
                      have H := H1
                      clear H1
                      exact absurd H (by simp)
                  · replace c182 := Bool.eq_false_iff.mpr c182
                    subst c182
                    have H1 : (none) = some r := by rw [if_neg (show ¬ (false = true) by decide)] at H; exact H
                    clear H
                    have H := H1
                    clear H1
                    exact absurd H (by simp)
              · rw [if_neg c178] at H
                have c178b0 : (t254 == t246) = false := beq_eq_false_iff_ne.mpr c178
                have c178b1 : (t254 != t246) = true := bne_iff_ne.mpr c178
                by_cases c186 : t245 = true
                · subst c186
                  have H1 : (if t253 = true then (none) else (none)) = some r := by rw [if_pos rfl] at H; exact H
                  clear H
                  have H := H1
                  clear H1
                  by_cases c187 : t253 = true
                  · subst c187
                    have H1 : (none) = some r := by rw [if_pos rfl] at H; exact H
                    clear H
                    have H := H1
                    clear H1
                    exact absurd H (by simp)
                  · replace c187 := Bool.eq_false_iff.mpr c187
                    subst c187
                    have H1 : (none) = some r := by rw [if_neg (show ¬ (false = true) by decide)] at H; exact H
                    clear H
                    have H := H1
                    clear H1
                    exact absurd H (by simp)
                · replace c186 := Bool.eq_false_iff.mpr c186
                  subst c186
                  have H1 : (none) = some r := by rw [if_neg (show ¬ (false = true) by decide)] at H; exact H
                  clear H
                  have H := H1
                  clear H1
                  exact absurd H (by simp)
            · rw [if_neg c177] at H
              have c177b0 : (t256 == t248) = false := beq_eq_false_iff_ne.mpr c177
              have c177b1 : (t256 != t248) = true := bne_iff_ne.mpr c177
              by_cases c188 : t245 = true
              · subst c188
                have H1 : (if t253 = true then (none) else (none)) = some r := by rw [if_pos rfl] at H; exact H
                clear H
                have H := H1
                clear H1
                by_cases c189 : t253 = true
                · subst c189
                  have H1 : (none) = some r := by rw [if_pos rfl] at H; exact H
                  clear H
                  have H := H1
                  clear H1
                  exact absurd H (by simp)
                · replace c189 := Bool.eq_false_iff.mpr c189
                  subst c189
                  have H1 : (none) = some r := by rw [if_neg (show ¬ (false = true) by decide)] at H; exact H
                  clear H
                  have H := H1
                  clear H1
                  exact absurd H (by simp)
              · replace c188 := Bool.eq_false_iff.mpr c188
                subst c188
                have H1 : (none) = some r := by rw [if_neg (show ¬ (false = true) by decide)] at H; exact H
                clear H
                have H := H1
                clear H1
                exact absurd H (by simp)
          · rw [if_neg c176] at H
            have c176b0 : (t255 == t247) = false := beq_eq_false_iff_ne.mpr c176
            have c176b1 : (t255 != t247) = true := bne_iff_ne.mpr c176
            by_cases c190 : t245 = true
            · subst c190
              have H1 : (if t253 = true then (none) else (none)) = some r := by rw [if_pos rfl] at H; exact H
              clear H
              have H := H1
              clear H1
              by_cases c191 : t253 = true
              · subst c191
                have H1 : (none) = some r := by rw [if_pos rfl] at H; exact H
                clear H
                have H := H1
                clear H1
                exact absurd H (by simp)
              · replace c191 := Bool.eq_false_iff.mpr c191
                subst c191
                have H1 : (none) = some r := by rw [if_neg (show ¬ (false = true) by decide)] at H; exact H
                clear H
                have H := H1
                clear H1
                exact absurd H (by simp)
            · replace c190 := Bool.eq_false_iff.mpr c190
              subst c190
              have H1 : (none) = some r := by rw [if_neg (show ¬ (false = true) by decide)] at H; exact H
              clear H
              have H := H1
              clear H1
              exact absurd H (by simp)

end Go.Proofs.Ytkbepgelgcoihaa.R
