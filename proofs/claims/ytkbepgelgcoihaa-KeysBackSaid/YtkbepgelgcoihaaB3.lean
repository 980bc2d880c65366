-- Written by a program of this session (myprint.py over the kit's printer, some callees given by hand). Lean checks it.
import Derived.Test.YtkbepgelgcoihaaB0
import Derived.Test.YtkbepgelgcoihaaB2
namespace Go.Proofs.Ytkbepgelgcoihaa.B
open Go.Proofs.Ytkbepgelgcoihaa.H Go.RowKit Go.Proofs.YtkbepgelgcoihaaW.PrintWords Go.Proofs.YtkbepgelgcoihaaW.PrintLast Go.Proofs.YtkbepgelgcoihaaW.PrintMore
attribute [local go_sem] max2_int min2_int max_two min_two max_three min_three max_four min_four   -- for this text's walks alone
set_option linter.unusedVariables false
set_option linter.unusedSimpArgs false

/-! ### clavierlaw09_KeysBack: function 6 -/
mutual
def clavierlaw09_KeysBack.j0 : Nat → Int → Int → Int → Bool → Int → Int → Int → Int → Int → Bool → Option (Bool)
  | 0, _, _, _, _, _, _, _, _, _, _ => none
  | k + 1, x0, x1, x2, x7, x9, x136000, x136001, x136002, x136003, x136004 => (keys_Find.f x9 x136002).bind fun bt136 => (if x136000 = 3 then (clavierlaw09_KeysBack.j1 k x0 x1 x2 x7 bt136.1 bt136.2 (!x136004)) else (if x136000 = 4 then (clavierlaw09_KeysBack.j1 k x0 x1 x2 x7 bt136.1 bt136.2 (!x136004)) else (clavierlaw09_KeysBack.j1 k x0 x1 x2 x7 bt136.1 bt136.2 false)))
def clavierlaw09_KeysBack.j1 : Nat → Int → Int → Int → Bool → Int → Bool → Bool → Option (Bool)
  | 0, _, _, _, _, _, _, _ => none
  | k + 1, x0, x1, x2, x7, x10, x11, x12 => (keys_Find.f x1 x2).bind fun bt138 => ((keys_Look.f bt138.1).bind fun bt140 => (if bt140.1 = 3 then (if bt140.2.1 = x1 then (clavierlaw09_KeysBack.j2 k x0 x7 x10 x11 x12 bt138.2 true bt140.1 bt140.2.1 bt140.2.2.1 bt140.2.2.2.1 bt140.2.2.2.2) else (if bt140.1 = 4 then (none) else (clavierlaw09_KeysBack.j2 k x0 x7 x10 x11 x12 bt138.2 false bt140.1 bt140.2.1 bt140.2.2.1 bt140.2.2.2.1 bt140.2.2.2.2))) else (if bt140.1 = 4 then (if x1 = 126 then (clavierlaw09_KeysBack.j2 k x0 x7 x10 x11 x12 bt138.2 (bt140.2.2.1 == x2) bt140.1 bt140.2.1 bt140.2.2.1 bt140.2.2.2.1 bt140.2.2.2.2) else (clavierlaw09_KeysBack.j2 k x0 x7 x10 x11 x12 bt138.2 false bt140.1 bt140.2.1 bt140.2.2.1 bt140.2.2.2.1 bt140.2.2.2.2)) else (clavierlaw09_KeysBack.j2 k x0 x7 x10 x11 x12 bt138.2 false bt140.1 bt140.2.1 bt140.2.2.1 bt140.2.2.2.1 bt140.2.2.2.2))))
def clavierlaw09_KeysBack.j2 : Nat → Int → Bool → Int → Bool → Bool → Bool → Bool → Int → Int → Int → Int → Bool → Option (Bool)
  | 0, _, _, _, _, _, _, _, _, _, _, _, _ => none
  | k + 1, x0, x7, x10, x11, x12, x14, x16, x146000, x146001, x146002, x146003, x146004 => if x7 = true then (if x12 = true then (if x11 = true then (if x10 = x0 then (if x14 = true then (if x16 = true then (clavierlaw09_KeysBack.j3 k (!x146004)) else (clavierlaw09_KeysBack.j3 k false)) else (clavierlaw09_KeysBack.j3 k true)) else (clavierlaw09_KeysBack.j3 k false)) else (clavierlaw09_KeysBack.j3 k false)) else (if x14 = true then (if x16 = true then (clavierlaw09_KeysBack.j3 k (!x146004)) else (clavierlaw09_KeysBack.j3 k false)) else (clavierlaw09_KeysBack.j3 k true))) else (clavierlaw09_KeysBack.j3 k false)
def clavierlaw09_KeysBack.j3 : Nat → Bool → Option (Bool)
  | 0, _ => none
  | k + 1, x6 => some x6
end
def clavierlaw09_KeysBack.f (k : Nat) (a0 : Int) (a1 : Int) (a2 : Int) : Option (Bool) := (clavierlaw09_awake.f k).bind fun t129 => ((keys_Look.f a0).bind fun bt130 => (if bt130.1 = 4 then (clavierlaw09_KeysBack.j0 k a0 a1 a2 t129 126 bt130.1 bt130.2.1 bt130.2.2.1 bt130.2.2.2.1 bt130.2.2.2.2) else (clavierlaw09_KeysBack.j0 k a0 a1 a2 t129 bt130.2.1 bt130.1 bt130.2.1 bt130.2.2.1 bt130.2.2.2.1 bt130.2.2.2.2)))
theorem clavierlaw09_KeysBack.mono_l : ∀ k, (∀ y0 y1 y2 y3 y4 y5 y6 y7 y8 y9, LeO (clavierlaw09_KeysBack.j0 k y0 y1 y2 y3 y4 y5 y6 y7 y8 y9) (clavierlaw09_KeysBack.j0 (k + 1) y0 y1 y2 y3 y4 y5 y6 y7 y8 y9)) ∧ (∀ y0 y1 y2 y3 y4 y5 y6, LeO (clavierlaw09_KeysBack.j1 k y0 y1 y2 y3 y4 y5 y6) (clavierlaw09_KeysBack.j1 (k + 1) y0 y1 y2 y3 y4 y5 y6)) ∧ (∀ y0 y1 y2 y3 y4 y5 y6 y7 y8 y9 y10 y11, LeO (clavierlaw09_KeysBack.j2 k y0 y1 y2 y3 y4 y5 y6 y7 y8 y9 y10 y11) (clavierlaw09_KeysBack.j2 (k + 1) y0 y1 y2 y3 y4 y5 y6 y7 y8 y9 y10 y11)) ∧ (∀ y0, LeO (clavierlaw09_KeysBack.j3 k y0) (clavierlaw09_KeysBack.j3 (k + 1) y0))
  | 0 => ⟨fun _ _ _ _ _ _ _ _ _ _ r h => by simp [clavierlaw09_KeysBack.j0] at h, fun _ _ _ _ _ _ _ r h => by simp [clavierlaw09_KeysBack.j1] at h, fun _ _ _ _ _ _ _ _ _ _ _ _ r h => by simp [clavierlaw09_KeysBack.j2] at h, fun _ r h => by simp [clavierlaw09_KeysBack.j3] at h⟩
  | k + 1 => by
    obtain ⟨ih0, ih1, ih2, ih3⟩ := clavierlaw09_KeysBack.mono_l k
    refine ⟨?_, ?_, ?_, ?_⟩
    · intro y0 y1 y2 y3 y4 y5 y6 y7 y8 y9
      unfold clavierlaw09_KeysBack.j0
      repeat' first
      | (with_reducible exact ih0 _ _ _ _ _ _ _ _ _ _)
      | (with_reducible exact ih1 _ _ _ _ _ _ _)
      | (with_reducible exact ih2 _ _ _ _ _ _ _ _ _ _ _ _)
      | (with_reducible exact ih3 _)
      | (with_reducible exact clavierlaw09_awake.mono _)
      | (with_reducible exact LeO.refl _)
      | (with_reducible exact LeO.none _)
      | (with_reducible refine LeO.ite ?_ ?_)
      | (with_reducible refine LeO.bind ?_ (fun _ => ?_))
      | exact ih0 _ _ _ _ _ _ _ _ _ _
      | exact ih1 _ _ _ _ _ _ _
      | exact ih2 _ _ _ _ _ _ _ _ _ _ _ _
      | exact ih3 _
      | exact clavierlaw09_awake.mono _
      | exact LeO.none _
      | refine LeO.ite ?_ ?_
      | refine LeO.bind ?_ (fun _ => ?_)
    · intro y0 y1 y2 y3 y4 y5 y6
      unfold clavierlaw09_KeysBack.j1
      repeat' first
      | (with_reducible exact ih0 _ _ _ _ _ _ _ _ _ _)
      | (with_reducible exact ih1 _ _ _ _ _ _ _)
      | (with_reducible exact ih2 _ _ _ _ _ _ _ _ _ _ _ _)
      | (with_reducible exact ih3 _)
      | (with_reducible exact clavierlaw09_awake.mono _)
      | (with_reducible exact LeO.refl _)
      | (with_reducible exact LeO.none _)
      | (with_reducible refine LeO.ite ?_ ?_)
      | (with_reducible refine LeO.bind ?_ (fun _ => ?_))
      | exact ih0 _ _ _ _ _ _ _ _ _ _
      | exact ih1 _ _ _ _ _ _ _
      | exact ih2 _ _ _ _ _ _ _ _ _ _ _ _
      | exact ih3 _
      | exact clavierlaw09_awake.mono _
      | exact LeO.none _
      | refine LeO.ite ?_ ?_
      | refine LeO.bind ?_ (fun _ => ?_)
    · intro y0 y1 y2 y3 y4 y5 y6 y7 y8 y9 y10 y11
      unfold clavierlaw09_KeysBack.j2
      repeat' first
      | (with_reducible exact ih0 _ _ _ _ _ _ _ _ _ _)
      | (with_reducible exact ih1 _ _ _ _ _ _ _)
      | (with_reducible exact ih2 _ _ _ _ _ _ _ _ _ _ _ _)
      | (with_reducible exact ih3 _)
      | (with_reducible exact clavierlaw09_awake.mono _)
      | (with_reducible exact LeO.refl _)
      | (with_reducible exact LeO.none _)
      | (with_reducible refine LeO.ite ?_ ?_)
      | (with_reducible refine LeO.bind ?_ (fun _ => ?_))
      | exact ih0 _ _ _ _ _ _ _ _ _ _
      | exact ih1 _ _ _ _ _ _ _
      | exact ih2 _ _ _ _ _ _ _ _ _ _ _ _
      | exact ih3 _
      | exact clavierlaw09_awake.mono _
      | exact LeO.none _
      | refine LeO.ite ?_ ?_
      | refine LeO.bind ?_ (fun _ => ?_)
    · intro y0
      unfold clavierlaw09_KeysBack.j3
      repeat' first
      | (with_reducible exact ih0 _ _ _ _ _ _ _ _ _ _)
      | (with_reducible exact ih1 _ _ _ _ _ _ _)
      | (with_reducible exact ih2 _ _ _ _ _ _ _ _ _ _ _ _)
      | (with_reducible exact ih3 _)
      | (with_reducible exact clavierlaw09_awake.mono _)
      | (with_reducible exact LeO.refl _)
      | (with_reducible exact LeO.none _)
      | (with_reducible refine LeO.ite ?_ ?_)
      | (with_reducible refine LeO.bind ?_ (fun _ => ?_))
      | exact ih0 _ _ _ _ _ _ _ _ _ _
      | exact ih1 _ _ _ _ _ _ _
      | exact ih2 _ _ _ _ _ _ _ _ _ _ _ _
      | exact ih3 _
      | exact clavierlaw09_awake.mono _
      | exact LeO.none _
      | refine LeO.ite ?_ ?_
      | refine LeO.bind ?_ (fun _ => ?_)
theorem clavierlaw09_KeysBack.mono : ∀ a0 a1 a2 k, LeO (clavierlaw09_KeysBack.f k a0 a1 a2) (clavierlaw09_KeysBack.f (k + 1) a0 a1 a2) := by
  intro a0 a1 a2 k
  obtain ⟨ih0, ih1, ih2, ih3⟩ := clavierlaw09_KeysBack.mono_l k
  unfold clavierlaw09_KeysBack.f
  repeat' first
      | (with_reducible exact ih0 _ _ _ _ _ _ _ _ _ _)
      | (with_reducible exact ih1 _ _ _ _ _ _ _)
      | (with_reducible exact ih2 _ _ _ _ _ _ _ _ _ _ _ _)
      | (with_reducible exact ih3 _)
      | (with_reducible exact clavierlaw09_awake.mono _)
      | (with_reducible exact LeO.refl _)
      | (with_reducible exact LeO.none _)
      | (with_reducible refine LeO.ite ?_ ?_)
      | (with_reducible refine LeO.bind ?_ (fun _ => ?_))
      | exact ih0 _ _ _ _ _ _ _ _ _ _
      | exact ih1 _ _ _ _ _ _ _
      | exact ih2 _ _ _ _ _ _ _ _ _ _ _ _
      | exact ih3 _
      | exact clavierlaw09_awake.mono _
      | exact LeO.none _
      | refine LeO.ite ?_ ?_
      | refine LeO.bind ?_ (fun _ => ?_)
set_option maxHeartbeats 8000000 in
set_option maxRecDepth 100000 in
theorem clavierlaw09_KeysBack.calls (k : Nat) (a0 : Int) (a1 : Int) (a2 : Int) (r : Bool) (w : World) (h : clavierlaw09_KeysBack.f k a0 a1 a2 = some r) :
    Calls Try.prog 6 #[.int .i64 a0, .int .u8 a1, .int .i64 a2] w fun e w' => e = .returned (.bool r) ∧ Below w.heap.size w w' := by
  have hu24 := Try.underlying24
  have HB := Aside0.mk (Below.refl w.heap.size w)
  have H : ((clavierlaw09_awake.f k).bind fun t129 => ((keys_Look.f a0).bind fun bt130 => (if bt130.1 = 4 then (clavierlaw09_KeysBack.j0 k a0 a1 a2 t129 126 bt130.1 bt130.2.1 bt130.2.2.1 bt130.2.2.2.1 bt130.2.2.2.2) else (clavierlaw09_KeysBack.j0 k a0 a1 a2 t129 bt130.2.1 bt130.1 bt130.2.1 bt130.2.2.1 bt130.2.2.2.1 bt130.2.2.2.2)))) = some r := h
  clear h
  replace H := Option.bind_eq_some_iff.mp H
  obtain ⟨t129, A40, H⟩ := H
  replace H : ((keys_Look.f a0).bind fun bt130 => (if bt130.1 = 4 then (clavierlaw09_KeysBack.j0 k a0 a1 a2 t129 126 bt130.1 bt130.2.1 bt130.2.2.1 bt130.2.2.2.1 bt130.2.2.2.2) else (clavierlaw09_KeysBack.j0 k a0 a1 a2 t129 bt130.2.1 bt130.1 bt130.2.1 bt130.2.2.1 bt130.2.2.2.1 bt130.2.2.2.2))) = some r := H
  have A4 := Aside0.mk A40
  clear A40
  replace H := Option.bind_eq_some_iff.mp H
  obtain ⟨⟨t130, t131, t132, t133, t134⟩, A50, H⟩ := H
  replace H : (if t130 = 4 then (clavierlaw09_KeysBack.j0 k a0 a1 a2 t129 126 t130 t131 t132 t133 t134) else (clavierlaw09_KeysBack.j0 k a0 a1 a2 t129 t131 t130 t131 t132 t133 t134)) = some r := H
  have A5 := Aside0.mk A50
  clear A50
  have HC6 := Aside0.mk H
  clear H
  go_enter Try.func6, Try.ntmps6
  go_upto_if 24 with (first | ((with_reducible refine gate_callee (f := 9) rfl ?_); refine goesL_ (some 17) rfl rfl Try.func9 (by kernel_rfl) rfl #[] rfl (by (try simp only [List.map_toArray, List.map_cons, List.map_nil]); first | done | rfl | (simp only [List.length_drop, List.length_take]; rfl)) ?_; (with_reducible refine (clavierlaw09_awake.calls k  t129 _ A4.out).mono ?_); rintro e w7 ⟨rfl, hb⟩; refine ⟨_, rfl, ?_⟩; have n0_ := Aside0.mk (below_step (by repeat (first | (with_reducible first | exact HB.out | apply below_alloc | apply pw_below_drewN | apply below_drew1) | exact HB.out)) hb); clear HB; have HB := n0_; clear n0_; (try clear hb); (try clear hb2); (try clear hk); (try clear hi)) | ((with_reducible refine gate_callee (f := 10) rfl ?_); refine goesL_ (some 19) rfl rfl Try.func10 (by kernel_rfl) rfl #[.int .i64 a0] rfl (by (try simp only [List.map_toArray, List.map_cons, List.map_nil]); first | done | rfl | (simp only [List.length_drop, List.length_take]; rfl)) ?_; (with_reducible refine (keys_Look.calls a0 t130 t131 t132 t133 t134 _ A5.out).mono ?_); rintro e w8 ⟨rfl, hb⟩; refine ⟨_, rfl, ?_⟩; have n0_ := Aside0.mk (below_step (by repeat (first | (with_reducible first | exact HB.out | apply below_alloc | apply pw_below_drewN | apply below_drew1) | exact HB.out)) hb); clear HB; have HB := n0_; clear n0_; (try clear hb); (try clear hb2); (try clear hk); (try clear hi)) | ((with_reducible refine gate_dst (N := 8) rfl ?_); refine box_event ?hg (N := 8) ?hd (cs := #[.int .i64 0, .int .u8 0, .int .i64 0, .int .i64 0, .bool false]) (t := 24) ?hr ?_; (case hd => rfl); (case hg => rfl); (case hr => first | (go_simp; done) | (go_simp; rfl)); intro gb135 hg w9 hbox hb; have n0_ := Aside0.mk (below_step (by repeat (first | (with_reducible first | exact HB.out | apply below_alloc | apply pw_below_drewN | apply below_drew1) | exact HB.out)) hb); have n1_ := Aside0.mk (hbox); have n2_ := Aside0.mk ((by rw [hg]; exact (below_size (by repeat (first | (with_reducible first | exact HB.out | apply below_alloc | apply pw_below_drewN | apply below_drew1) | exact HB.out))) : w.heap.size ≤ gb135)); have n3_ := Aside0.mk ((by rw [hg]; exact (below_size (by repeat (first | (with_reducible first | exact HB.out | apply below_alloc | apply pw_below_drewN | apply below_drew1) | exact HB.out))) : w.heap.size ≤ gb135)); clear HB; have HB := n0_; have BK135 := n1_; have GW135 := n2_; have GE135 := n3_; clear n0_ n1_ n2_ n3_; clear hb hbox hg; have hcz10_0 : w9.cell? ⟨gb135, 0, none⟩ = some (.int .i64 0) := (blk_cell BK135.out 0).trans rfl; have hcz10_1 : w9.cell? ⟨gb135, 1, none⟩ = some (.int .u8 0) := (blk_cell BK135.out 1).trans rfl; have hcz10_2 : w9.cell? ⟨gb135, 2, none⟩ = some (.int .i64 0) := (blk_cell BK135.out 2).trans rfl; have hcz10_3 : w9.cell? ⟨gb135, 3, none⟩ = some (.int .i64 0) := (blk_cell BK135.out 3).trans rfl; have hcz10_4 : w9.cell? ⟨gb135, 4, none⟩ = some (.bool false) := (blk_cell BK135.out 4).trans rfl; have hfz10_0 := blk_frozen BK135.out 0; have hfz10_1 := blk_frozen BK135.out 1; have hfz10_2 := blk_frozen BK135.out 2; have hfz10_3 := blk_frozen BK135.out 3; have hfz10_4 := blk_frozen BK135.out 4))
  (try simp only [Act.put, List.setIfInBounds_toArray, List.set_cons_zero, List.set_cons_succ])
  go_cut [9] (fun v9 wc => ∃ (kq : Nat) (x9_5 : Int), v9 = .int .u8 x9_5 ∧ Aside0 (clavierlaw09_KeysBack.j0 kq a0 a1 a2 t129 x9_5 t130 t131 t132 t133 t134 = some r) ∧ Aside0 (kq ≤ k) ∧ Aside0 (wc.heap[gb135]? = some (.cells #[.int .i64 t130, .int .u8 t131, .int .i64 t132, .int .i64 t133, .bool t134] 24 (0, 0))) ∧ Aside0 (Below w.heap.size w wc))
  case first =>
    have H := HC6.out
    clear HC6
    by_cases c11 : t130 = 4
    · rw [if_pos c11] at H
      have c11b0 : (t130 == 4) = true := beq_iff_eq.mpr c11
      have c11b1 : (t130 != 4) = false := bne_eq_false_iff_eq.mpr c11
      clear c11
      (first | rw [c11b0] | (simp only [i64_w, i32_w]; rw [c11b0]) | skip)
      have H' := Aside0.mk H
      clear H
      go_wp2
      go_meet
      case rel => exact ⟨_, (126), (by first | rfl | (simp; done) | (simp [*]; done)), H', ⟨by first | omega | exact Nat.le_refl _⟩, ⟨by (with_reducible repeat (first | refine blk_drewN ?_ _ | refine blk_drew ?_ | refine blk_alloc ?_ _)); refine blk_put (cs := #[.int .i64 t130, .int .u8 t131, .int .i64 t132, .int .i64 t133, .bool false]) ?_ 4 _ rfl; (with_reducible repeat (first | refine blk_drewN ?_ _ | refine blk_drew ?_ | refine blk_alloc ?_ _)); refine blk_put (cs := #[.int .i64 t130, .int .u8 t131, .int .i64 t132, .int .i64 0, .bool false]) ?_ 3 _ rfl; (with_reducible repeat (first | refine blk_drewN ?_ _ | refine blk_drew ?_ | refine blk_alloc ?_ _)); refine blk_put (cs := #[.int .i64 t130, .int .u8 t131, .int .i64 0, .int .i64 0, .bool false]) ?_ 2 _ rfl; (with_reducible repeat (first | refine blk_drewN ?_ _ | refine blk_drew ?_ | refine blk_alloc ?_ _)); refine blk_put (cs := #[.int .i64 t130, .int .u8 0, .int .i64 0, .int .i64 0, .bool false]) ?_ 1 _ rfl; (with_reducible repeat (first | refine blk_drewN ?_ _ | refine blk_drew ?_ | refine blk_alloc ?_ _)); refine blk_put (cs := #[.int .i64 0, .int .u8 0, .int .i64 0, .int .i64 0, .bool false]) ?_ 0 _ rfl; (with_reducible repeat (first | refine blk_drewN ?_ _ | refine blk_drew ?_ | refine blk_alloc ?_ _)); exact BK135.out⟩, ⟨by repeat (first | (with_reducible first | exact HB.out | apply below_alloc | apply pw_below_drewN | apply below_drew1 | refine below_set ?_ GE135.out) | exact HB.out)⟩⟩
    · rw [if_neg c11] at H
      have c11b0 : (t130 == 4) = false := beq_eq_false_iff_ne.mpr c11
      have c11b1 : (t130 != 4) = true := bne_iff_ne.mpr c11
      (first | rw [c11b0] | (simp only [i64_w, i32_w]; rw [c11b0]) | skip)
      have H' := Aside0.mk H
      clear H
      go_wp2
      go_meet
      case rel => exact ⟨_, (t131), (by first | rfl | (simp; done) | (simp [*]; done)), H', ⟨by first | omega | exact Nat.le_refl _⟩, ⟨by (with_reducible repeat (first | refine blk_drewN ?_ _ | refine blk_drew ?_ | refine blk_alloc ?_ _)); refine blk_put (cs := #[.int .i64 t130, .int .u8 t131, .int .i64 t132, .int .i64 t133, .bool false]) ?_ 4 _ rfl; (with_reducible repeat (first | refine blk_drewN ?_ _ | refine blk_drew ?_ | refine blk_alloc ?_ _)); refine blk_put (cs := #[.int .i64 t130, .int .u8 t131, .int .i64 t132, .int .i64 0, .bool false]) ?_ 3 _ rfl; (with_reducible repeat (first | refine blk_drewN ?_ _ | refine blk_drew ?_ | refine blk_alloc ?_ _)); refine blk_put (cs := #[.int .i64 t130, .int .u8 t131, .int .i64 0, .int .i64 0, .bool false]) ?_ 2 _ rfl; (with_reducible repeat (first | refine blk_drewN ?_ _ | refine blk_drew ?_ | refine blk_alloc ?_ _)); refine blk_put (cs := #[.int .i64 t130, .int .u8 0, .int .i64 0, .int .i64 0, .bool false]) ?_ 1 _ rfl; (with_reducible repeat (first | refine blk_drewN ?_ _ | refine blk_drew ?_ | refine blk_alloc ?_ _)); refine blk_put (cs := #[.int .i64 0, .int .u8 0, .int .i64 0, .int .i64 0, .bool false]) ?_ 0 _ rfl; (with_reducible repeat (first | refine blk_drewN ?_ _ | refine blk_drew ?_ | refine blk_alloc ?_ _)); exact BK135.out⟩, ⟨by repeat (first | (with_reducible first | exact HB.out | apply below_alloc | apply pw_below_drewN | apply below_drew1 | refine below_set ?_ GE135.out) | exact HB.out)⟩⟩
  case rest =>
    clear HC6
    try clear c1
    try clear p2
    try clear c6
    try clear c9
    try clear c10
    try clear c11
    try clear c11b0
    try clear c11b1
    try clear hcz10_0
    try clear hcz10_1
    try clear hcz10_2
    try clear hcz10_3
    try clear hcz10_4
    try clear hfz10_0
    try clear hfz10_1
    try clear hfz10_2
    try clear hfz10_3
    try clear hfz10_4
    obtain ⟨kq, x9_5, rfl, HA, HJ5, BK135, HB⟩ := hcut
    cases kq with
    | zero => exact absurd HA.out (by simp [clavierlaw09_KeysBack.j0])
    | succ kj5 =>
      have H := HA.out
      clear HA
      simp only [clavierlaw09_KeysBack.j0] at H
      replace H := Option.bind_eq_some_iff.mp H
      obtain ⟨⟨t136, t137⟩, A120, H⟩ := H
      replace H : (if t130 = 3 then (clavierlaw09_KeysBack.j1 kj5 a0 a1 a2 t129 t136 t137 (!t134)) else (if t130 = 4 then (clavierlaw09_KeysBack.j1 kj5 a0 a1 a2 t129 t136 t137 (!t134)) else (clavierlaw09_KeysBack.j1 kj5 a0 a1 a2 t129 t136 t137 false))) = some r := H
      have A12 := Aside0.mk A120
      clear A120
      have HC13 := Aside0.mk H
      clear H
      have hcz14_0 : wc.cell? ⟨gb135, 0, none⟩ = some (.int .i64 t130) := (blk_cell BK135.out 0).trans rfl
      have hcz14_1 : wc.cell? ⟨gb135, 1, none⟩ = some (.int .u8 t131) := (blk_cell BK135.out 1).trans rfl
      have hcz14_2 : wc.cell? ⟨gb135, 2, none⟩ = some (.int .i64 t132) := (blk_cell BK135.out 2).trans rfl
      have hcz14_3 : wc.cell? ⟨gb135, 3, none⟩ = some (.int .i64 t133) := (blk_cell BK135.out 3).trans rfl
      have hcz14_4 : wc.cell? ⟨gb135, 4, none⟩ = some (.bool t134) := (blk_cell BK135.out 4).trans rfl
      have hfz14_0 := blk_frozen BK135.out 0
      have hfz14_1 := blk_frozen BK135.out 1
      have hfz14_2 := blk_frozen BK135.out 2
      have hfz14_3 := blk_frozen BK135.out 3
      have hfz14_4 := blk_frozen BK135.out 4
      go_upto_region 7 with (first | ((with_reducible refine gate_callee (f := 13) rfl ?_); refine goesL_ (some 29) rfl rfl Try.func13 (by kernel_rfl) rfl #[.int .u8 x9_5, .int .i64 t132] rfl (by (try simp only [List.map_toArray, List.map_cons, List.map_nil]); first | done | rfl | (simp only [List.length_drop, List.length_take]; rfl)) ?_; (with_reducible refine (keys_Find.calls x9_5 t132 t136 t137 _ A12.out).mono ?_); rintro e w15 ⟨rfl, hb⟩; refine ⟨_, rfl, ?_⟩; have n0_ := Aside0.mk (blk_below (g := gb135) (o := .cells #[.int .i64 t130, .int .u8 t131, .int .i64 t132, .int .i64 t133, .bool t134] 24 (0, 0)) (by (with_reducible repeat (first | refine blk_drewN ?_ _ | refine blk_drew ?_ | refine blk_alloc ?_ _)); exact BK135.out) hb); have n1_ := Aside0.mk (below_step (by repeat (first | (with_reducible first | exact HB.out | apply below_alloc | apply pw_below_drewN | apply below_drew1 | refine below_set ?_ GE135.out) | exact HB.out)) hb); clear BK135; clear HB; have BK135 := n0_; have HB := n1_; clear n0_ n1_; (try clear hb); (try clear hb2); (try clear hk); (try clear hi)))
      (try simp only [Act.put, List.setIfInBounds_toArray, List.set_cons_zero, List.set_cons_succ])
      go_cut [12] (fun v12 wc => ∃ (kq : Nat) (x12_12 : Bool), v12 = .bool x12_12 ∧ Aside0 (clavierlaw09_KeysBack.j1 kq a0 a1 a2 t129 t136 t137 x12_12 = some r) ∧ Aside0 (kq ≤ kj5) ∧ Aside0 (wc.heap[gb135]? = some (.cells #[.int .i64 t130, .int .u8 t131, .int .i64 t132, .int .i64 t133, .bool t134] 24 (0, 0))) ∧ Aside0 (Below w.heap.size w wc))
      case first =>
        have H := HC13.out
        clear HC13
        by_cases c16 : t130 = 3
        · rw [if_pos c16] at H
          have c16b0 : (t130 == 3) = true := beq_iff_eq.mpr c16
          have c16b1 : (t130 != 3) = false := bne_eq_false_iff_eq.mpr c16
          clear c16
          (first | rw [c16b0] | (simp only [i64_w, i32_w]; rw [c16b0]) | skip)
          have H' := Aside0.mk H
          clear H
          have hcz17_0 : w15.cell? ⟨gb135, 0, none⟩ = some (.int .i64 t130) := (blk_cell BK135.out 0).trans rfl
          have hcz17_1 : w15.cell? ⟨gb135, 1, none⟩ = some (.int .u8 t131) := (blk_cell BK135.out 1).trans rfl
          have hcz17_2 : w15.cell? ⟨gb135, 2, none⟩ = some (.int .i64 t132) := (blk_cell BK135.out 2).trans rfl
          have hcz17_3 : w15.cell? ⟨gb135, 3, none⟩ = some (.int .i64 t133) := (blk_cell BK135.out 3).trans rfl
          have hcz17_4 : w15.cell? ⟨gb135, 4, none⟩ = some (.bool t134) := (blk_cell BK135.out 4).trans rfl
          have hfz17_0 := blk_frozen BK135.out 0
          have hfz17_1 := blk_frozen BK135.out 1
          have hfz17_2 := blk_frozen BK135.out 2
          have hfz17_3 := blk_frozen BK135.out 3
          have hfz17_4 := blk_frozen BK135.out 4
          go_wp2
          go_meet
          case rel => exact ⟨_, (!t134), (by first | rfl | (simp; done) | (simp [*]; done)), H', ⟨by have := HJ5.out; first | omega | exact Nat.le_refl _⟩, ⟨by (with_reducible repeat (first | refine blk_drewN ?_ _ | refine blk_drew ?_ | refine blk_alloc ?_ _)); exact BK135.out⟩, ⟨by repeat (first | (with_reducible first | exact HB.out | apply below_alloc | apply pw_below_drewN | apply below_drew1 | refine below_set ?_ GE135.out) | exact HB.out)⟩⟩
        · rw [if_neg c16] at H
          have c16b0 : (t130 == 3) = false := beq_eq_false_iff_ne.mpr c16
          have c16b1 : (t130 != 3) = true := bne_iff_ne.mpr c16
          (first | rw [c16b0] | (simp only [i64_w, i32_w]; rw [c16b0]) | skip)
          by_cases c18 : t130 = 4
          · rw [if_pos c18] at H
            have c18b0 : (t130 == 4) = true := beq_iff_eq.mpr c18
            have c18b1 : (t130 != 4) = false := bne_eq_false_iff_eq.mpr c18
            clear c18
            have H' := Aside0.mk H
            clear H
            have hcz19_0 : w15.cell? ⟨gb135, 0, none⟩ = some (.int .i64 t130) := (blk_cell BK135.out 0).trans rfl
            have hcz19_1 : w15.cell? ⟨gb135, 1, none⟩ = some (.int .u8 t131) := (blk_cell BK135.out 1).trans rfl
            have hcz19_2 : w15.cell? ⟨gb135, 2, none⟩ = some (.int .i64 t132) := (blk_cell BK135.out 2).trans rfl
            have hcz19_3 : w15.cell? ⟨gb135, 3, none⟩ = some (.int .i64 t133) := (blk_cell BK135.out 3).trans rfl
            have hcz19_4 : w15.cell? ⟨gb135, 4, none⟩ = some (.bool t134) := (blk_cell BK135.out 4).trans rfl
            have hfz19_0 := blk_frozen BK135.out 0
            have hfz19_1 := blk_frozen BK135.out 1
            have hfz19_2 := blk_frozen BK135.out 2
            have hfz19_3 := blk_frozen BK135.out 3
            have hfz19_4 := blk_frozen BK135.out 4
            go_wp2
            go_meet
            case rel => exact ⟨_, (!t134), (by first | rfl | (simp; done) | (simp [*]; done)), H', ⟨by have := HJ5.out; first | omega | exact Nat.le_refl _⟩, ⟨by (with_reducible repeat (first | refine blk_drewN ?_ _ | refine blk_drew ?_ | refine blk_alloc ?_ _)); exact BK135.out⟩, ⟨by repeat (first | (with_reducible first | exact HB.out | apply below_alloc | apply pw_below_drewN | apply below_drew1 | refine below_set ?_ GE135.out) | exact HB.out)⟩⟩
          · rw [if_neg c18] at H
            have c18b0 : (t130 == 4) = false := beq_eq_false_iff_ne.mpr c18
            have c18b1 : (t130 != 4) = true := bne_iff_ne.mpr c18
            have H' := Aside0.mk H
            clear H
            have hcz20_0 : w15.cell? ⟨gb135, 0, none⟩ = some (.int .i64 t130) := (blk_cell BK135.out 0).trans rfl
            have hcz20_1 : w15.cell? ⟨gb135, 1, none⟩ = some (.int .u8 t131) := (blk_cell BK135.out 1).trans rfl
            have hcz20_2 : w15.cell? ⟨gb135, 2, none⟩ = some (.int .i64 t132) := (blk_cell BK135.out 2).trans rfl
            have hcz20_3 : w15.cell? ⟨gb135, 3, none⟩ = some (.int .i64 t133) := (blk_cell BK135.out 3).trans rfl
            have hcz20_4 : w15.cell? ⟨gb135, 4, none⟩ = some (.bool t134) := (blk_cell BK135.out 4).trans rfl
            have hfz20_0 := blk_frozen BK135.out 0
            have hfz20_1 := blk_frozen BK135.out 1
            have hfz20_2 := blk_frozen BK135.out 2
            have hfz20_3 := blk_frozen BK135.out 3
            have hfz20_4 := blk_frozen BK135.out 4
            go_wp2
            go_meet
            case rel => exact ⟨_, (false), (by first | rfl | (simp; done) | (simp [*]; done)), H', ⟨by have := HJ5.out; first | omega | exact Nat.le_refl _⟩, ⟨by (with_reducible repeat (first | refine blk_drewN ?_ _ | refine blk_drew ?_ | refine blk_alloc ?_ _)); exact BK135.out⟩, ⟨by repeat (first | (with_reducible first | exact HB.out | apply below_alloc | apply pw_below_drewN | apply below_drew1 | refine below_set ?_ GE135.out) | exact HB.out)⟩⟩
      case rest =>
        clear HC13
        try clear c1
        try clear p2
        try clear c6
        try clear c9
        try clear c10
        try clear c11
        try clear c11b0
        try clear c11b1
        try clear c13
        try clear c16
        try clear c16b0
        try clear c16b1
        try clear c18
        try clear c18b0
        try clear c18b1
        try clear hcz10_0
        try clear hcz10_1
        try clear hcz10_2
        try clear hcz10_3
        try clear hcz10_4
        try clear hcz14_0
        try clear hcz14_1
        try clear hcz14_2
        try clear hcz14_3
        try clear hcz14_4
        try clear hcz17_0
        try clear hcz17_1
        try clear hcz17_2
        try clear hcz17_3
        try clear hcz17_4
        try clear hcz19_0
        try clear hcz19_1
        try clear hcz19_2
        try clear hcz19_3
        try clear hcz19_4
        try clear hcz20_0
        try clear hcz20_1
        try clear hcz20_2
        try clear hcz20_3
        try clear hcz20_4
        try clear hfz10_0
        try clear hfz10_1
        try clear hfz10_2
        try clear hfz10_3
        try clear hfz10_4
        try clear hfz14_0
        try clear hfz14_1
        try clear hfz14_2
        try clear hfz14_3
        try clear hfz14_4
        try clear hfz17_0
        try clear hfz17_1
        try clear hfz17_2
        try clear hfz17_3
        try clear hfz17_4
        try clear hfz19_0
        try clear hfz19_1
        try clear hfz19_2
        try clear hfz19_3
        try clear hfz19_4
        try clear hfz20_0
        try clear hfz20_1
        try clear hfz20_2
        try clear hfz20_3
        try clear hfz20_4
        try clear p2
        obtain ⟨kq, x12_12, rfl, HA, HJ12, BK135, HB⟩ := hcut
        cases kq with
        | zero => exact absurd HA.out (by simp [clavierlaw09_KeysBack.j1])
        | succ kj12 =>
          have H := HA.out
          clear HA
          simp only [clavierlaw09_KeysBack.j1] at H
          replace H := Option.bind_eq_some_iff.mp H
          obtain ⟨⟨t138, t139⟩, A210, H⟩ := H
          replace H : ((keys_Look.f t138).bind fun bt140 => (if bt140.1 = 3 then (if bt140.2.1 = a1 then (clavierlaw09_KeysBack.j2 kj12 a0 t129 t136 t137 x12_12 t139 true bt140.1 bt140.2.1 bt140.2.2.1 bt140.2.2.2.1 bt140.2.2.2.2) else (if bt140.1 = 4 then (none) else (clavierlaw09_KeysBack.j2 kj12 a0 t129 t136 t137 x12_12 t139 false bt140.1 bt140.2.1 bt140.2.2.1 bt140.2.2.2.1 bt140.2.2.2.2))) else (if bt140.1 = 4 then (if a1 = 126 then (clavierlaw09_KeysBack.j2 kj12 a0 t129 t136 t137 x12_12 t139 (bt140.2.2.1 == a2) bt140.1 bt140.2.1 bt140.2.2.1 bt140.2.2.2.1 bt140.2.2.2.2) else (clavierlaw09_KeysBack.j2 kj12 a0 t129 t136 t137 x12_12 t139 false bt140.1 bt140.2.1 bt140.2.2.1 bt140.2.2.2.1 bt140.2.2.2.2)) else (clavierlaw09_KeysBack.j2 kj12 a0 t129 t136 t137 x12_12 t139 false bt140.1 bt140.2.1 bt140.2.2.1 bt140.2.2.2.1 bt140.2.2.2.2)))) = some r := H
          have A21 := Aside0.mk A210
          clear A210
          replace H := Option.bind_eq_some_iff.mp H
          obtain ⟨⟨t140, t141, t142, t143, t144⟩, A220, H⟩ := H
          replace H : (if t140 = 3 then (if t141 = a1 then (clavierlaw09_KeysBack.j2 kj12 a0 t129 t136 t137 x12_12 t139 true t140 t141 t142 t143 t144) else (if t140 = 4 then (none) else (clavierlaw09_KeysBack.j2 kj12 a0 t129 t136 t137 x12_12 t139 false t140 t141 t142 t143 t144))) else (if t140 = 4 then (if a1 = 126 then (clavierlaw09_KeysBack.j2 kj12 a0 t129 t136 t137 x12_12 t139 (t142 == a2) t140 t141 t142 t143 t144) else (clavierlaw09_KeysBack.j2 kj12 a0 t129 t136 t137 x12_12 t139 false t140 t141 t142 t143 t144)) else (clavierlaw09_KeysBack.j2 kj12 a0 t129 t136 t137 x12_12 t139 false t140 t141 t142 t143 t144))) = some r := H
          have A22 := Aside0.mk A220
          clear A220
          have HC23 := Aside0.mk H
          clear H
          go_upto_region 10 with (first | ((with_reducible refine gate_callee (f := 13) rfl ?_); refine goesL_ (some 48) rfl rfl Try.func13 (by kernel_rfl) rfl #[.int .u8 a1, .int .i64 a2] rfl (by (try simp only [List.map_toArray, List.map_cons, List.map_nil]); first | done | rfl | (simp only [List.length_drop, List.length_take]; rfl)) ?_; (with_reducible refine (keys_Find.calls a1 a2 t138 t139 _ A21.out).mono ?_); rintro e w24 ⟨rfl, hb⟩; refine ⟨_, rfl, ?_⟩; have n0_ := Aside0.mk (blk_below (g := gb135) (o := .cells #[.int .i64 t130, .int .u8 t131, .int .i64 t132, .int .i64 t133, .bool t134] 24 (0, 0)) (by (with_reducible repeat (first | refine blk_drewN ?_ _ | refine blk_drew ?_ | refine blk_alloc ?_ _)); exact BK135.out) hb); have n1_ := Aside0.mk (below_step (by repeat (first | (with_reducible first | exact HB.out | apply below_alloc | apply pw_below_drewN | apply below_drew1 | refine below_set ?_ GE135.out) | exact HB.out)) hb); clear BK135; clear HB; have BK135 := n0_; have HB := n1_; clear n0_ n1_; (try clear hb); (try clear hb2); (try clear hk); (try clear hi)) | ((with_reducible refine gate_callee (f := 10) rfl ?_); refine goesL_ (some 52) rfl rfl Try.func10 (by kernel_rfl) rfl #[.int .i64 t138] rfl (by (try simp only [List.map_toArray, List.map_cons, List.map_nil]); first | done | rfl | (simp only [List.length_drop, List.length_take]; rfl)) ?_; (with_reducible refine (keys_Look.calls t138 t140 t141 t142 t143 t144 _ A22.out).mono ?_); rintro e w25 ⟨rfl, hb⟩; refine ⟨_, rfl, ?_⟩; have n0_ := Aside0.mk (blk_below (g := gb135) (o := .cells #[.int .i64 t130, .int .u8 t131, .int .i64 t132, .int .i64 t133, .bool t134] 24 (0, 0)) (by (with_reducible repeat (first | refine blk_drewN ?_ _ | refine blk_drew ?_ | refine blk_alloc ?_ _)); exact BK135.out) hb); have n1_ := Aside0.mk (below_step (by repeat (first | (with_reducible first | exact HB.out | apply below_alloc | apply pw_below_drewN | apply below_drew1 | refine below_set ?_ GE135.out) | exact HB.out)) hb); clear BK135; clear HB; have BK135 := n0_; have HB := n1_; clear n0_ n1_; (try clear hb); (try clear hb2); (try clear hk); (try clear hi)) | ((with_reducible refine gate_dst (N := 15) rfl ?_); refine box_event ?hg (N := 15) ?hd (cs := #[.int .i64 0, .int .u8 0, .int .i64 0, .int .i64 0, .bool false]) (t := 24) ?hr ?_; (case hd => rfl); (case hg => rfl); (case hr => first | (go_simp; done) | (go_simp; rfl)); intro gb145 hg w26 hbox hb; have n0_ := Aside0.mk (blk_below (g := gb135) (o := .cells #[.int .i64 t130, .int .u8 t131, .int .i64 t132, .int .i64 t133, .bool t134] 24 (0, 0)) (by (with_reducible repeat (first | refine blk_drewN ?_ _ | refine blk_drew ?_ | refine blk_alloc ?_ _)); exact BK135.out) hb); have n1_ := Aside0.mk (below_step (by repeat (first | (with_reducible first | exact HB.out | apply below_alloc | apply pw_below_drewN | apply below_drew1 | refine below_set ?_ GE135.out) | exact HB.out)) hb); have n2_ := Aside0.mk (hbox); have n3_ := Aside0.mk ((by rw [hg]; exact (below_size (by repeat (first | (with_reducible first | exact HB.out | apply below_alloc | apply pw_below_drewN | apply below_drew1 | refine below_set ?_ GE135.out) | exact HB.out))) : w.heap.size ≤ gb145)); have n4_ := Aside0.mk ((by rw [hg]; exact (below_size (by repeat (first | (with_reducible first | exact HB.out | apply below_alloc | apply pw_below_drewN | apply below_drew1 | refine below_set ?_ GE135.out) | exact HB.out))) : w.heap.size ≤ gb145)); have n5_ := Aside0.mk ((by rw [hg]; exact Nat.ne_of_lt (blk_lt (g := gb135) (o := .cells #[.int .i64 t130, .int .u8 t131, .int .i64 t132, .int .i64 t133, .bool t134] 24 (0, 0)) (by (with_reducible repeat (first | refine blk_drewN ?_ _ | refine blk_drew ?_ | refine blk_alloc ?_ _)); exact BK135.out)) : gb135 ≠ gb145)); have n6_ := Aside0.mk ((by rw [hg]; exact Nat.ne_of_gt (blk_lt (g := gb135) (o := .cells #[.int .i64 t130, .int .u8 t131, .int .i64 t132, .int .i64 t133, .bool t134] 24 (0, 0)) (by (with_reducible repeat (first | refine blk_drewN ?_ _ | refine blk_drew ?_ | refine blk_alloc ?_ _)); exact BK135.out)) : gb145 ≠ gb135)); clear BK135; clear HB; have BK135 := n0_; have HB := n1_; have BK145 := n2_; have GW145 := n3_; have GE145 := n4_; have NB135_145 := n5_; have NB145_135 := n6_; clear n0_ n1_ n2_ n3_ n4_ n5_ n6_; clear hb hbox hg; have hnb27 := NB145_135.out; have hnc27 := NB135_145.out; have hcz28_0 : w26.cell? ⟨gb145, 0, none⟩ = some (.int .i64 0) := (blk_cell BK145.out 0).trans rfl; have hcz28_1 : w26.cell? ⟨gb145, 1, none⟩ = some (.int .u8 0) := (blk_cell BK145.out 1).trans rfl; have hcz28_2 : w26.cell? ⟨gb145, 2, none⟩ = some (.int .i64 0) := (blk_cell BK145.out 2).trans rfl; have hcz28_3 : w26.cell? ⟨gb145, 3, none⟩ = some (.int .i64 0) := (blk_cell BK145.out 3).trans rfl; have hcz28_4 : w26.cell? ⟨gb145, 4, none⟩ = some (.bool false) := (blk_cell BK145.out 4).trans rfl; have hfz28_0 := blk_frozen BK145.out 0; have hfz28_1 := blk_frozen BK145.out 1; have hfz28_2 := blk_frozen BK145.out 2; have hfz28_3 := blk_frozen BK145.out 3; have hfz28_4 := blk_frozen BK145.out 4))
          (try simp only [Act.put, List.setIfInBounds_toArray, List.set_cons_zero, List.set_cons_succ])
          go_cut [16] (fun v16 wc => ∃ (kq : Nat) (x16_22 : Bool), v16 = .bool x16_22 ∧ Aside0 (clavierlaw09_KeysBack.j2 kq a0 t129 t136 t137 x12_12 t139 x16_22 t140 t141 t142 t143 t144 = some r) ∧ Aside0 (kq ≤ kj12) ∧ Aside0 (wc.heap[gb135]? = some (.cells #[.int .i64 t130, .int .u8 t131, .int .i64 t132, .int .i64 t133, .bool t134] 24 (0, 0))) ∧ Aside0 (wc.heap[gb145]? = some (.cells #[.int .i64 t140, .int .u8 t141, .int .i64 t142, .int .i64 t143, .bool t144] 24 (0, 0))) ∧ Aside0 (Below w.heap.size w wc))
          case first =>
            have H := HC23.out
            clear HC23
            by_cases c29 : t140 = 3
            · rw [if_pos c29] at H
              have c29b0 : (t140 == 3) = true := beq_iff_eq.mpr c29
              have c29b1 : (t140 != 3) = false := bne_eq_false_iff_eq.mpr c29
              clear c29
              (first | rw [c29b0] | (simp only [i64_w, i32_w]; rw [c29b0]) | skip)
              by_cases c30 : t141 = a1
              · rw [if_pos c30] at H
                have c30b0 : (t141 == a1) = true := beq_iff_eq.mpr c30
                have c30b1 : (t141 != a1) = false := bne_eq_false_iff_eq.mpr c30
                clear c30
                have H' := Aside0.mk H
                clear H
                have hnb31 := NB145_135.out
                have hnc31 := NB135_145.out
                have hcz32_0 : w26.cell? ⟨gb145, 0, none⟩ = some (.int .i64 0) := (blk_cell BK145.out 0).trans rfl
                have hcz32_1 : w26.cell? ⟨gb145, 1, none⟩ = some (.int .u8 0) := (blk_cell BK145.out 1).trans rfl
                have hcz32_2 : w26.cell? ⟨gb145, 2, none⟩ = some (.int .i64 0) := (blk_cell BK145.out 2).trans rfl
                have hcz32_3 : w26.cell? ⟨gb145, 3, none⟩ = some (.int .i64 0) := (blk_cell BK145.out 3).trans rfl
                have hcz32_4 : w26.cell? ⟨gb145, 4, none⟩ = some (.bool false) := (blk_cell BK145.out 4).trans rfl
                have hfz32_0 := blk_frozen BK145.out 0
                have hfz32_1 := blk_frozen BK145.out 1
                have hfz32_2 := blk_frozen BK145.out 2
                have hfz32_3 := blk_frozen BK145.out 3
                have hfz32_4 := blk_frozen BK145.out 4
                go_wp2
                go_meet
                case rel => exact ⟨_, (true), (by first | rfl | (simp; done) | (simp [*]; done)), H', ⟨by have := HJ5.out; have := HJ12.out; first | omega | exact Nat.le_refl _⟩, ⟨by (with_reducible repeat (first | refine blk_drewN ?_ _ | refine blk_drew ?_ | refine blk_alloc ?_ _)); refine blk_far ?_ NB135_145.out _; (with_reducible repeat (first | refine blk_drewN ?_ _ | refine blk_drew ?_ | refine blk_alloc ?_ _)); refine blk_far ?_ NB135_145.out _; (with_reducible repeat (first | refine blk_drewN ?_ _ | refine blk_drew ?_ | refine blk_alloc ?_ _)); refine blk_far ?_ NB135_145.out _; (with_reducible repeat (first | refine blk_drewN ?_ _ | refine blk_drew ?_ | refine blk_alloc ?_ _)); refine blk_far ?_ NB135_145.out _; (with_reducible repeat (first | refine blk_drewN ?_ _ | refine blk_drew ?_ | refine blk_alloc ?_ _)); refine blk_far ?_ NB135_145.out _; (with_reducible repeat (first | refine blk_drewN ?_ _ | refine blk_drew ?_ | refine blk_alloc ?_ _)); exact BK135.out⟩, ⟨by (with_reducible repeat (first | refine blk_drewN ?_ _ | refine blk_drew ?_ | refine blk_alloc ?_ _)); refine blk_put (cs := #[.int .i64 t140, .int .u8 t141, .int .i64 t142, .int .i64 t143, .bool false]) ?_ 4 _ rfl; (with_reducible repeat (first | refine blk_drewN ?_ _ | refine blk_drew ?_ | refine blk_alloc ?_ _)); refine blk_put (cs := #[.int .i64 t140, .int .u8 t141, .int .i64 t142, .int .i64 0, .bool false]) ?_ 3 _ rfl; (with_reducible repeat (first | refine blk_drewN ?_ _ | refine blk_drew ?_ | refine blk_alloc ?_ _)); refine blk_put (cs := #[.int .i64 t140, .int .u8 t141, .int .i64 0, .int .i64 0, .bool false]) ?_ 2 _ rfl; (with_reducible repeat (first | refine blk_drewN ?_ _ | refine blk_drew ?_ | refine blk_alloc ?_ _)); refine blk_put (cs := #[.int .i64 t140, .int .u8 0, .int .i64 0, .int .i64 0, .bool false]) ?_ 1 _ rfl; (with_reducible repeat (first | refine blk_drewN ?_ _ | refine blk_drew ?_ | refine blk_alloc ?_ _)); refine blk_put (cs := #[.int .i64 0, .int .u8 0, .int .i64 0, .int .i64 0, .bool false]) ?_ 0 _ rfl; (with_reducible repeat (first | refine blk_drewN ?_ _ | refine blk_drew ?_ | refine blk_alloc ?_ _)); exact BK145.out⟩, ⟨by repeat (first | (with_reducible first | exact HB.out | apply below_alloc | apply pw_below_drewN | apply below_drew1 | refine below_set ?_ GE135.out | refine below_set ?_ GE145.out) | exact HB.out)⟩⟩
              · rw [if_neg c30] at H
                have c30b0 : (t141 == a1) = false := beq_eq_false_iff_ne.mpr c30
                have c30b1 : (t141 != a1) = true := bne_iff_ne.mpr c30
                by_cases c33 : t140 = 4
                · rw [if_pos c33] at H
                  exact absurd H (by simp)
                · rw [if_neg c33] at H
                  have c33b0 : (t140 == 4) = false := beq_eq_false_iff_ne.mpr c33
                  have c33b1 : (t140 != 4) = true := bne_iff_ne.mpr c33
                  have H' := Aside0.mk H
                  clear H
                  have hnb34 := NB145_135.out
                  have hnc34 := NB135_145.out
                  have hcz35_0 : w26.cell? ⟨gb145, 0, none⟩ = some (.int .i64 0) := (blk_cell BK145.out 0).trans rfl
                  have hcz35_1 : w26.cell? ⟨gb145, 1, none⟩ = some (.int .u8 0) := (blk_cell BK145.out 1).trans rfl
                  have hcz35_2 : w26.cell? ⟨gb145, 2, none⟩ = some (.int .i64 0) := (blk_cell BK145.out 2).trans rfl
                  have hcz35_3 : w26.cell? ⟨gb145, 3, none⟩ = some (.int .i64 0) := (blk_cell BK145.out 3).trans rfl
                  have hcz35_4 : w26.cell? ⟨gb145, 4, none⟩ = some (.bool false) := (blk_cell BK145.out 4).trans rfl
                  have hfz35_0 := blk_frozen BK145.out 0
                  have hfz35_1 := blk_frozen BK145.out 1
                  have hfz35_2 := blk_frozen BK145.out 2
                  have hfz35_3 := blk_frozen BK145.out 3
                  have hfz35_4 := blk_frozen BK145.out 4
                  go_wp2
                  go_meet
                  case rel => exact ⟨_, (false), (by first | rfl | (simp; done) | (simp [*]; done)), H', ⟨by have := HJ5.out; have := HJ12.out; first | omega | exact Nat.le_refl _⟩, ⟨by (with_reducible repeat (first | refine blk_drewN ?_ _ | refine blk_drew ?_ | refine blk_alloc ?_ _)); refine blk_far ?_ NB135_145.out _; (with_reducible repeat (first | refine blk_drewN ?_ _ | refine blk_drew ?_ | refine blk_alloc ?_ _)); refine blk_far ?_ NB135_145.out _; (with_reducible repeat (first | refine blk_drewN ?_ _ | refine blk_drew ?_ | refine blk_alloc ?_ _)); refine blk_far ?_ NB135_145.out _; (with_reducible repeat (first | refine blk_drewN ?_ _ | refine blk_drew ?_ | refine blk_alloc ?_ _)); refine blk_far ?_ NB135_145.out _; (with_reducible repeat (first | refine blk_drewN ?_ _ | refine blk_drew ?_ | refine blk_alloc ?_ _)); refine blk_far ?_ NB135_145.out _; (with_reducible repeat (first | refine blk_drewN ?_ _ | refine blk_drew ?_ | refine blk_alloc ?_ _)); exact BK135.out⟩, ⟨by (with_reducible repeat (first | refine blk_drewN ?_ _ | refine blk_drew ?_ | refine blk_alloc ?_ _)); refine blk_put (cs := #[.int .i64 t140, .int .u8 t141, .int .i64 t142, .int .i64 t143, .bool false]) ?_ 4 _ rfl; (with_reducible repeat (first | refine blk_drewN ?_ _ | refine blk_drew ?_ | refine blk_alloc ?_ _)); refine blk_put (cs := #[.int .i64 t140, .int .u8 t141, .int .i64 t142, .int .i64 0, .bool false]) ?_ 3 _ rfl; (with_reducible repeat (first | refine blk_drewN ?_ _ | refine blk_drew ?_ | refine blk_alloc ?_ _)); refine blk_put (cs := #[.int .i64 t140, .int .u8 t141, .int .i64 0, .int .i64 0, .bool false]) ?_ 2 _ rfl; (with_reducible repeat (first | refine blk_drewN ?_ _ | refine blk_drew ?_ | refine blk_alloc ?_ _)); refine blk_put (cs := #[.int .i64 t140, .int .u8 0, .int .i64 0, .int .i64 0, .bool false]) ?_ 1 _ rfl; (with_reducible repeat (first | refine blk_drewN ?_ _ | refine blk_drew ?_ | refine blk_alloc ?_ _)); refine blk_put (cs := #[.int .i64 0, .int .u8 0, .int .i64 0, .int .i64 0, .bool false]) ?_ 0 _ rfl; (with_reducible repeat (first | refine blk_drewN ?_ _ | refine blk_drew ?_ | refine blk_alloc ?_ _)); exact BK145.out⟩, ⟨by repeat (first | (with_reducible first | exact HB.out | apply below_alloc | apply pw_below_drewN | apply below_drew1 | refine below_set ?_ GE135.out | refine below_set ?_ GE145.out) | exact HB.out)⟩⟩
            · rw [if_neg c29] at H
              have c29b0 : (t140 == 3) = false := beq_eq_false_iff_ne.mpr c29
              have c29b1 : (t140 != 3) = true := bne_iff_ne.mpr c29
              (first | rw [c29b0] | (simp only [i64_w, i32_w]; rw [c29b0]) | skip)
              by_cases c36 : t140 = 4
              · rw [if_pos c36] at H
                have c36b0 : (t140 == 4) = true := beq_iff_eq.mpr c36
                have c36b1 : (t140 != 4) = false := bne_eq_false_iff_eq.mpr c36
                clear c36
                by_cases c37 : a1 = 126
                · rw [if_pos c37] at H
                  have c37b0 : (a1 == 126) = true := beq_iff_eq.mpr c37
                  have c37b1 : (a1 != 126) = false := bne_eq_false_iff_eq.mpr c37
                  clear c37
                  have H' := Aside0.mk H
                  clear H
                  have hnb38 := NB145_135.out
                  have hnc38 := NB135_145.out
                  have hcz39_0 : w26.cell? ⟨gb145, 0, none⟩ = some (.int .i64 0) := (blk_cell BK145.out 0).trans rfl
                  have hcz39_1 : w26.cell? ⟨gb145, 1, none⟩ = some (.int .u8 0) := (blk_cell BK145.out 1).trans rfl
                  have hcz39_2 : w26.cell? ⟨gb145, 2, none⟩ = some (.int .i64 0) := (blk_cell BK145.out 2).trans rfl
                  have hcz39_3 : w26.cell? ⟨gb145, 3, none⟩ = some (.int .i64 0) := (blk_cell BK145.out 3).trans rfl
                  have hcz39_4 : w26.cell? ⟨gb145, 4, none⟩ = some (.bool false) := (blk_cell BK145.out 4).trans rfl
                  have hfz39_0 := blk_frozen BK145.out 0
                  have hfz39_1 := blk_frozen BK145.out 1
                  have hfz39_2 := blk_frozen BK145.out 2
                  have hfz39_3 := blk_frozen BK145.out 3
                  have hfz39_4 := blk_frozen BK145.out 4
                  go_wp2
                  go_meet
                  case rel => exact ⟨_, ((t142 == a2)), (by first | rfl | (simp; done) | (simp [*]; done)), H', ⟨by have := HJ5.out; have := HJ12.out; first | omega | exact Nat.le_refl _⟩, ⟨by (with_reducible repeat (first | refine blk_drewN ?_ _ | refine blk_drew ?_ | refine blk_alloc ?_ _)); refine blk_far ?_ NB135_145.out _; (with_reducible repeat (first | refine blk_drewN ?_ _ | refine blk_drew ?_ | refine blk_alloc ?_ _)); refine blk_far ?_ NB135_145.out _; (with_reducible repeat (first | refine blk_drewN ?_ _ | refine blk_drew ?_ | refine blk_alloc ?_ _)); refine blk_far ?_ NB135_145.out _; (with_reducible repeat (first | refine blk_drewN ?_ _ | refine blk_drew ?_ | refine blk_alloc ?_ _)); refine blk_far ?_ NB135_145.out _; (with_reducible repeat (first | refine blk_drewN ?_ _ | refine blk_drew ?_ | refine blk_alloc ?_ _)); refine blk_far ?_ NB135_145.out _; (with_reducible repeat (first | refine blk_drewN ?_ _ | refine blk_drew ?_ | refine blk_alloc ?_ _)); exact BK135.out⟩, ⟨by (with_reducible repeat (first | refine blk_drewN ?_ _ | refine blk_drew ?_ | refine blk_alloc ?_ _)); refine blk_put (cs := #[.int .i64 t140, .int .u8 t141, .int .i64 t142, .int .i64 t143, .bool false]) ?_ 4 _ rfl; (with_reducible repeat (first | refine blk_drewN ?_ _ | refine blk_drew ?_ | refine blk_alloc ?_ _)); refine blk_put (cs := #[.int .i64 t140, .int .u8 t141, .int .i64 t142, .int .i64 0, .bool false]) ?_ 3 _ rfl; (with_reducible repeat (first | refine blk_drewN ?_ _ | refine blk_drew ?_ | refine blk_alloc ?_ _)); refine blk_put (cs := #[.int .i64 t140, .int .u8 t141, .int .i64 0, .int .i64 0, .bool false]) ?_ 2 _ rfl; (with_reducible repeat (first | refine blk_drewN ?_ _ | refine blk_drew ?_ | refine blk_alloc ?_ _)); refine blk_put (cs := #[.int .i64 t140, .int .u8 0, .int .i64 0, .int .i64 0, .bool false]) ?_ 1 _ rfl; (with_reducible repeat (first | refine blk_drewN ?_ _ | refine blk_drew ?_ | refine blk_alloc ?_ _)); refine blk_put (cs := #[.int .i64 0, .int .u8 0, .int .i64 0, .int .i64 0, .bool false]) ?_ 0 _ rfl; (with_reducible repeat (first | refine blk_drewN ?_ _ | refine blk_drew ?_ | refine blk_alloc ?_ _)); exact BK145.out⟩, ⟨by repeat (first | (with_reducible first | exact HB.out | apply below_alloc | apply pw_below_drewN | apply below_drew1 | refine below_set ?_ GE135.out | refine below_set ?_ GE145.out) | exact HB.out)⟩⟩
                · rw [if_neg c37] at H
                  have c37b0 : (a1 == 126) = false := beq_eq_false_iff_ne.mpr c37
                  have c37b1 : (a1 != 126) = true := bne_iff_ne.mpr c37
                  have H' := Aside0.mk H
                  clear H
                  have hnb40 := NB145_135.out
                  have hnc40 := NB135_145.out
                  have hcz41_0 : w26.cell? ⟨gb145, 0, none⟩ = some (.int .i64 0) := (blk_cell BK145.out 0).trans rfl
                  have hcz41_1 : w26.cell? ⟨gb145, 1, none⟩ = some (.int .u8 0) := (blk_cell BK145.out 1).trans rfl
                  have hcz41_2 : w26.cell? ⟨gb145, 2, none⟩ = some (.int .i64 0) := (blk_cell BK145.out 2).trans rfl
                  have hcz41_3 : w26.cell? ⟨gb145, 3, none⟩ = some (.int .i64 0) := (blk_cell BK145.out 3).trans rfl
                  have hcz41_4 : w26.cell? ⟨gb145, 4, none⟩ = some (.bool false) := (blk_cell BK145.out 4).trans rfl
                  have hfz41_0 := blk_frozen BK145.out 0
                  have hfz41_1 := blk_frozen BK145.out 1
                  have hfz41_2 := blk_frozen BK145.out 2
                  have hfz41_3 := blk_frozen BK145.out 3
                  have hfz41_4 := blk_frozen BK145.out 4
                  go_wp2
                  go_meet
                  case rel => exact ⟨_, (false), (by first | rfl | (simp; done) | (simp [*]; done)), H', ⟨by have := HJ5.out; have := HJ12.out; first | omega | exact Nat.le_refl _⟩, ⟨by (with_reducible repeat (first | refine blk_drewN ?_ _ | refine blk_drew ?_ | refine blk_alloc ?_ _)); refine blk_far ?_ NB135_145.out _; (with_reducible repeat (first | refine blk_drewN ?_ _ | refine blk_drew ?_ | refine blk_alloc ?_ _)); refine blk_far ?_ NB135_145.out _; (with_reducible repeat (first | refine blk_drewN ?_ _ | refine blk_drew ?_ | refine blk_alloc ?_ _)); refine blk_far ?_ NB135_145.out _; (with_reducible repeat (first | refine blk_drewN ?_ _ | refine blk_drew ?_ | refine blk_alloc ?_ _)); refine blk_far ?_ NB135_145.out _; (with_reducible repeat (first | refine blk_drewN ?_ _ | refine blk_drew ?_ | refine blk_alloc ?_ _)); refine blk_far ?_ NB135_145.out _; (with_reducible repeat (first | refine blk_drewN ?_ _ | refine blk_drew ?_ | refine blk_alloc ?_ _)); exact BK135.out⟩, ⟨by (with_reducible repeat (first | refine blk_drewN ?_ _ | refine blk_drew ?_ | refine blk_alloc ?_ _)); refine blk_put (cs := #[.int .i64 t140, .int .u8 t141, .int .i64 t142, .int .i64 t143, .bool false]) ?_ 4 _ rfl; (with_reducible repeat (first | refine blk_drewN ?_ _ | refine blk_drew ?_ | refine blk_alloc ?_ _)); refine blk_put (cs := #[.int .i64 t140, .int .u8 t141, .int .i64 t142, .int .i64 0, .bool false]) ?_ 3 _ rfl; (with_reducible repeat (first | refine blk_drewN ?_ _ | refine blk_drew ?_ | refine blk_alloc ?_ _)); refine blk_put (cs := #[.int .i64 t140, .int .u8 t141, .int .i64 0, .int .i64 0, .bool false]) ?_ 2 _ rfl; (with_reducible repeat (first | refine blk_drewN ?_ _ | refine blk_drew ?_ | refine blk_alloc ?_ _)); refine blk_put (cs := #[.int .i64 t140, .int .u8 0, .int .i64 0, .int .i64 0, .bool false]) ?_ 1 _ rfl; (with_reducible repeat (first | refine blk_drewN ?_ _ | refine blk_drew ?_ | refine blk_alloc ?_ _)); refine blk_put (cs := #[.int .i64 0, .int .u8 0, .int .i64 0, .int .i64 0, .bool false]) ?_ 0 _ rfl; (with_reducible repeat (first | refine blk_drewN ?_ _ | refine blk_drew ?_ | refine blk_alloc ?_ _)); exact BK145.out⟩, ⟨by repeat (first | (with_reducible first | exact HB.out | apply below_alloc | apply pw_below_drewN | apply below_drew1 | refine below_set ?_ GE135.out | refine below_set ?_ GE145.out) | exact HB.out)⟩⟩
              · rw [if_neg c36] at H
                have c36b0 : (t140 == 4) = false := beq_eq_false_iff_ne.mpr c36
                have c36b1 : (t140 != 4) = true := bne_iff_ne.mpr c36
                have H' := Aside0.mk H
                clear H
                have hnb42 := NB145_135.out
                have hnc42 := NB135_145.out
                have hcz43_0 : w26.cell? ⟨gb145, 0, none⟩ = some (.int .i64 0) := (blk_cell BK145.out 0).trans rfl
                have hcz43_1 : w26.cell? ⟨gb145, 1, none⟩ = some (.int .u8 0) := (blk_cell BK145.out 1).trans rfl
                have hcz43_2 : w26.cell? ⟨gb145, 2, none⟩ = some (.int .i64 0) := (blk_cell BK145.out 2).trans rfl
                have hcz43_3 : w26.cell? ⟨gb145, 3, none⟩ = some (.int .i64 0) := (blk_cell BK145.out 3).trans rfl
                have hcz43_4 : w26.cell? ⟨gb145, 4, none⟩ = some (.bool false) := (blk_cell BK145.out 4).trans rfl
                have hfz43_0 := blk_frozen BK145.out 0
                have hfz43_1 := blk_frozen BK145.out 1
                have hfz43_2 := blk_frozen BK145.out 2
                have hfz43_3 := blk_frozen BK145.out 3
                have hfz43_4 := blk_frozen BK145.out 4
                go_wp2
                go_meet
                case rel => exact ⟨_, (false), (by first | rfl | (simp; done) | (simp [*]; done)), H', ⟨by have := HJ5.out; have := HJ12.out; first | omega | exact Nat.le_refl _⟩, ⟨by (with_reducible repeat (first | refine blk_drewN ?_ _ | refine blk_drew ?_ | refine blk_alloc ?_ _)); refine blk_far ?_ NB135_145.out _; (with_reducible repeat (first | refine blk_drewN ?_ _ | refine blk_drew ?_ | refine blk_alloc ?_ _)); refine blk_far ?_ NB135_145.out _; (with_reducible repeat (first | refine blk_drewN ?_ _ | refine blk_drew ?_ | refine blk_alloc ?_ _)); refine blk_far ?_ NB135_145.out _; (with_reducible repeat (first | refine blk_drewN ?_ _ | refine blk_drew ?_ | refine blk_alloc ?_ _)); refine blk_far ?_ NB135_145.out _; (with_reducible repeat (first | refine blk_drewN ?_ _ | refine blk_drew ?_ | refine blk_alloc ?_ _)); refine blk_far ?_ NB135_145.out _; (with_reducible repeat (first | refine blk_drewN ?_ _ | refine blk_drew ?_ | refine blk_alloc ?_ _)); exact BK135.out⟩, ⟨by (with_reducible repeat (first | refine blk_drewN ?_ _ | refine blk_drew ?_ | refine blk_alloc ?_ _)); refine blk_put (cs := #[.int .i64 t140, .int .u8 t141, .int .i64 t142, .int .i64 t143, .bool false]) ?_ 4 _ rfl; (with_reducible repeat (first | refine blk_drewN ?_ _ | refine blk_drew ?_ | refine blk_alloc ?_ _)); refine blk_put (cs := #[.int .i64 t140, .int .u8 t141, .int .i64 t142, .int .i64 0, .bool false]) ?_ 3 _ rfl; (with_reducible repeat (first | refine blk_drewN ?_ _ | refine blk_drew ?_ | refine blk_alloc ?_ _)); refine blk_put (cs := #[.int .i64 t140, .int .u8 t141, .int .i64 0, .int .i64 0, .bool false]) ?_ 2 _ rfl; (with_reducible repeat (first | refine blk_drewN ?_ _ | refine blk_drew ?_ | refine blk_alloc ?_ _)); refine blk_put (cs := #[.int .i64 t140, .int .u8 0, .int .i64 0, .int .i64 0, .bool false]) ?_ 1 _ rfl; (with_reducible repeat (first | refine blk_drewN ?_ _ | refine blk_drew ?_ | refine blk_alloc ?_ _)); refine blk_put (cs := #[.int .i64 0, .int .u8 0, .int .i64 0, .int .i64 0, .bool false]) ?_ 0 _ rfl; (with_reducible repeat (first | refine blk_drewN ?_ _ | refine blk_drew ?_ | refine blk_alloc ?_ _)); exact BK145.out⟩, ⟨by repeat (first | (with_reducible first | exact HB.out | apply below_alloc | apply pw_below_drewN | apply below_drew1 | refine below_set ?_ GE135.out | refine below_set ?_ GE145.out) | exact HB.out)⟩⟩
          case rest =>
            clear HC23
            try clear c1
            try clear c2
            try clear p2
            try clear c3
            try clear c4
            try clear c6
            try clear c9
            try clear c10
            try clear c11
            try clear c11b0
            try clear c11b1
            try clear c13
            try clear c16
            try clear c16b0
            try clear c16b1
            try clear c18
            try clear c18b0
            try clear c18b1
            try clear c27
            try clear c29
            try clear c29b0
            try clear c29b1
            try clear c30
            try clear c30b0
            try clear c30b1
            try clear c31
            try clear c33
            try clear c33b0
            try clear c33b1
            try clear c34
            try clear c36
            try clear c36b0
            try clear c36b1
            try clear c37
            try clear c37b0
            try clear c37b1
            try clear c38
            try clear c40
            try clear c42
            try clear hcz10_0
            try clear hcz10_1
            try clear hcz10_2
            try clear hcz10_3
            try clear hcz10_4
            try clear hcz14_0
            try clear hcz14_1
            try clear hcz14_2
            try clear hcz14_3
            try clear hcz14_4
            try clear hcz17_0
            try clear hcz17_1
            try clear hcz17_2
            try clear hcz17_3
            try clear hcz17_4
            try clear hcz19_0
            try clear hcz19_1
            try clear hcz19_2
            try clear hcz19_3
            try clear hcz19_4
            try clear hcz20_0
            try clear hcz20_1
            try clear hcz20_2
            try clear hcz20_3
            try clear hcz20_4
            try clear hcz28_0
            try clear hcz28_1
            try clear hcz28_2
            try clear hcz28_3
            try clear hcz28_4
            try clear hcz32_0
            try clear hcz32_1
            try clear hcz32_2
            try clear hcz32_3
            try clear hcz32_4
            try clear hcz35_0
            try clear hcz35_1
            try clear hcz35_2
            try clear hcz35_3
            try clear hcz35_4
            try clear hcz39_0
            try clear hcz39_1
            try clear hcz39_2
            try clear hcz39_3
            try clear hcz39_4
            try clear hcz41_0
            try clear hcz41_1
            try clear hcz41_2
            try clear hcz41_3
            try clear hcz41_4
            try clear hcz43_0
            try clear hcz43_1
            try clear hcz43_2
            try clear hcz43_3
            try clear hcz43_4
            try clear hfz10_0
            try clear hfz10_1
            try clear hfz10_2
            try clear hfz10_3
            try clear hfz10_4
            try clear hfz14_0
            try clear hfz14_1
            try clear hfz14_2
            try clear hfz14_3
            try clear hfz14_4
            try clear hfz17_0
            try clear hfz17_1
            try clear hfz17_2
            try clear hfz17_3
            try clear hfz17_4
            try clear hfz19_0
            try clear hfz19_1
            try clear hfz19_2
            try clear hfz19_3
            try clear hfz19_4
            try clear hfz20_0
            try clear hfz20_1
            try clear hfz20_2
            try clear hfz20_3
            try clear hfz20_4
            try clear hfz28_0
            try clear hfz28_1
            try clear hfz28_2
            try clear hfz28_3
            try clear hfz28_4
            try clear hfz32_0
            try clear hfz32_1
            try clear hfz32_2
            try clear hfz32_3
            try clear hfz32_4
            try clear hfz35_0
            try clear hfz35_1
            try clear hfz35_2
            try clear hfz35_3
            try clear hfz35_4
            try clear hfz39_0
            try clear hfz39_1
            try clear hfz39_2
            try clear hfz39_3
            try clear hfz39_4
            try clear hfz41_0
            try clear hfz41_1
            try clear hfz41_2
            try clear hfz41_3
            try clear hfz41_4
            try clear hfz43_0
            try clear hfz43_1
            try clear hfz43_2
            try clear hfz43_3
            try clear hfz43_4
            try clear p2
            obtain ⟨kq, x16_22, rfl, HA, HJ22, BK135, BK145, HB⟩ := hcut
            cases kq with
            | zero => exact absurd HA.out (by simp [clavierlaw09_KeysBack.j2])
            | succ kj22 =>
              have H := HA.out
              clear HA
              simp only [clavierlaw09_KeysBack.j2] at H
              have HC44 := Aside0.mk H
              clear H
              go_upto_region 11 with (fail)
              go_cut [6] (fun v6 wc => ∃ (kq : Nat) (x6_43 : Bool), v6 = .bool x6_43 ∧ Aside0 (clavierlaw09_KeysBack.j3 kq x6_43 = some r) ∧ Aside0 (kq ≤ kj22) ∧ Aside0 (wc.heap[gb135]? = some (.cells #[.int .i64 t130, .int .u8 t131, .int .i64 t132, .int .i64 t133, .bool t134] 24 (0, 0))) ∧ Aside0 (wc.heap[gb145]? = some (.cells #[.int .i64 t140, .int .u8 t141, .int .i64 t142, .int .i64 t143, .bool t144] 24 (0, 0))) ∧ Aside0 (Below w.heap.size w wc))
              case first =>
                have H := HC44.out
                clear HC44
                by_cases c45 : t129 = true
                · subst c45
                  have H1 : (if x12_12 = true then (if t137 = true then (if t136 = a0 then (if t139 = true then (if x16_22 = true then (clavierlaw09_KeysBack.j3 kj22 (!t144)) else (clavierlaw09_KeysBack.j3 kj22 false)) else (clavierlaw09_KeysBack.j3 kj22 true)) else (clavierlaw09_KeysBack.j3 kj22 false)) else (clavierlaw09_KeysBack.j3 kj22 false)) else (if t139 = true then (if x16_22 = true then (clavierlaw09_KeysBack.j3 kj22 (!t144)) else (clavierlaw09_KeysBack.j3 kj22 false)) else (clavierlaw09_KeysBack.j3 kj22 true))) = some r := by rw [if_pos rfl] at H; exact H
                  clear H
                  have H := H1
                  clear H1
                  by_cases c46 : x12_12 = true
                  · subst c46
                    have H1 : (if t137 = true then (if t136 = a0 then (if t139 = true then (if x16_22 = true then (clavierlaw09_KeysBack.j3 kj22 (!t144)) else (clavierlaw09_KeysBack.j3 kj22 false)) else (clavierlaw09_KeysBack.j3 kj22 true)) else (clavierlaw09_KeysBack.j3 kj22 false)) else (clavierlaw09_KeysBack.j3 kj22 false)) = some r := by rw [if_pos rfl] at H; exact H
                    clear H
                    have H := H1
                    clear H1
                    by_cases c47 : t137 = true
                    · subst c47
                      have H1 : (if t136 = a0 then (if t139 = true then (if x16_22 = true then (clavierlaw09_KeysBack.j3 kj22 (!t144)) else (clavierlaw09_KeysBack.j3 kj22 false)) else (clavierlaw09_KeysBack.j3 kj22 true)) else (clavierlaw09_KeysBack.j3 kj22 false)) = some r := by rw [if_pos rfl] at H; exact H
                      clear H
                      have H := H1
                      clear H1
                      by_cases c48 : t136 = a0
                      · rw [if_pos c48] at H
                        have c48b0 : (t136 == a0) = true := beq_iff_eq.mpr c48
                        have c48b1 : (t136 != a0) = false := bne_eq_false_iff_eq.mpr c48
                        clear c48
                        (first | rw [c48b0] | (simp only [i64_w, i32_w]; rw [c48b0]) | skip)
                        by_cases c49 : t139 = true
                        · subst c49
                          have H1 : (if x16_22 = true then (clavierlaw09_KeysBack.j3 kj22 (!t144)) else (clavierlaw09_KeysBack.j3 kj22 false)) = some r := by rw [if_pos rfl] at H; exact H
                          clear H
                          have H := H1
                          clear H1
                          by_cases c50 : x16_22 = true
                          · subst c50
                            have H1 : (clavierlaw09_KeysBack.j3 kj22 (!t144)) = some r := by rw [if_pos rfl] at H; exact H
                            clear H
                            have H := H1
                            clear H1
                            have H' := Aside0.mk H
                            clear H
                            have hnb51 := NB145_135.out
                            have hnc51 := NB135_145.out
                            have hcz52_0 : wc.cell? ⟨gb145, 0, none⟩ = some (.int .i64 t140) := (blk_cell BK145.out 0).trans rfl
                            have hcz52_1 : wc.cell? ⟨gb145, 1, none⟩ = some (.int .u8 t141) := (blk_cell BK145.out 1).trans rfl
                            have hcz52_2 : wc.cell? ⟨gb145, 2, none⟩ = some (.int .i64 t142) := (blk_cell BK145.out 2).trans rfl
                            have hcz52_3 : wc.cell? ⟨gb145, 3, none⟩ = some (.int .i64 t143) := (blk_cell BK145.out 3).trans rfl
                            have hcz52_4 : wc.cell? ⟨gb145, 4, none⟩ = some (.bool t144) := (blk_cell BK145.out 4).trans rfl
                            have hfz52_0 := blk_frozen BK145.out 0
                            have hfz52_1 := blk_frozen BK145.out 1
                            have hfz52_2 := blk_frozen BK145.out 2
                            have hfz52_3 := blk_frozen BK145.out 3
                            have hfz52_4 := blk_frozen BK145.out 4
                            go_wp2
                            go_meet
                            case rel => exact ⟨_, (!t144), (by first | rfl | (simp; done) | (simp [*]; done)), H', ⟨by have := HJ5.out; have := HJ12.out; have := HJ22.out; first | omega | exact Nat.le_refl _⟩, ⟨by (with_reducible repeat (first | refine blk_drewN ?_ _ | refine blk_drew ?_ | refine blk_alloc ?_ _)); exact BK135.out⟩, ⟨by (with_reducible repeat (first | refine blk_drewN ?_ _ | refine blk_drew ?_ | refine blk_alloc ?_ _)); exact BK145.out⟩, ⟨by repeat (first | (with_reducible first | exact HB.out | apply below_alloc | apply pw_below_drewN | apply below_drew1 | refine below_set ?_ GE135.out | refine below_set ?_ GE145.out) | exact HB.out)⟩⟩
                          · replace c50 := Bool.eq_false_iff.mpr c50
                            subst c50
                            have H1 : (clavierlaw09_KeysBack.j3 kj22 false) = some r := by rw [if_neg (show ¬ (false = true) by decide)] at H; exact H
                            clear H
                            have H := H1
                            clear H1
                            have H' := Aside0.mk H
                            clear H
                            go_wp2
                            go_meet
                            case rel => exact ⟨_, (false), (by first | rfl | (simp; done) | (simp [*]; done)), H', ⟨by have := HJ5.out; have := HJ12.out; have := HJ22.out; first | omega | exact Nat.le_refl _⟩, ⟨by (with_reducible repeat (first | refine blk_drewN ?_ _ | refine blk_drew ?_ | refine blk_alloc ?_ _)); exact BK135.out⟩, ⟨by (with_reducible repeat (first | refine blk_drewN ?_ _ | refine blk_drew ?_ | refine blk_alloc ?_ _)); exact BK145.out⟩, ⟨by repeat (first | (with_reducible first | exact HB.out | apply below_alloc | apply pw_below_drewN | apply below_drew1 | refine below_set ?_ GE135.out | refine below_set ?_ GE145.out) | exact HB.out)⟩⟩
                        · replace c49 := Bool.eq_false_iff.mpr c49
                          subst c49
                          have H1 : (clavierlaw09_KeysBack.j3 kj22 true) = some r := by rw [if_neg (show ¬ (false = true) by decide)] at H; exact H
                          clear H
                          have H := H1
                          clear H1
                          have H' := Aside0.mk H
                          clear H
                          go_wp2
                          go_meet
                          case rel => exact ⟨_, (true), (by first | rfl | (simp; done) | (simp [*]; done)), H', ⟨by have := HJ5.out; have := HJ12.out; have := HJ22.out; first | omega | exact Nat.le_refl _⟩, ⟨by (with_reducible repeat (first | refine blk_drewN ?_ _ | refine blk_drew ?_ | refine blk_alloc ?_ _)); exact BK135.out⟩, ⟨by (with_reducible repeat (first | refine blk_drewN ?_ _ | refine blk_drew ?_ | refine blk_alloc ?_ _)); exact BK145.out⟩, ⟨by repeat (first | (with_reducible first | exact HB.out | apply below_alloc | apply pw_below_drewN | apply below_drew1 | refine below_set ?_ GE135.out | refine below_set ?_ GE145.out) | exact HB.out)⟩⟩
                      · rw [if_neg c48] at H
                        have c48b0 : (t136 == a0) = false := beq_eq_false_iff_ne.mpr c48
                        have c48b1 : (t136 != a0) = true := bne_iff_ne.mpr c48
                        (first | rw [c48b0] | (simp only [i64_w, i32_w]; rw [c48b0]) | skip)
                        have H' := Aside0.mk H
                        clear H
                        go_wp2
                        go_meet
                        case rel => exact ⟨_, (false), (by first | rfl | (simp; done) | (simp [*]; done)), H', ⟨by have := HJ5.out; have := HJ12.out; have := HJ22.out; first | omega | exact Nat.le_refl _⟩, ⟨by (with_reducible repeat (first | refine blk_drewN ?_ _ | refine blk_drew ?_ | refine blk_alloc ?_ _)); exact BK135.out⟩, ⟨by (with_reducible repeat (first | refine blk_drewN ?_ _ | refine blk_drew ?_ | refine blk_alloc ?_ _)); exact BK145.out⟩, ⟨by repeat (first | (with_reducible first | exact HB.out | apply below_alloc | apply pw_below_drewN | apply below_drew1 | refine below_set ?_ GE135.out | refine below_set ?_ GE145.out) | exact HB.out)⟩⟩
                    · replace c47 := Bool.eq_false_iff.mpr c47
                      subst c47
                      have H1 : (clavierlaw09_KeysBack.j3 kj22 false) = some r := by rw [if_neg (show ¬ (false = true) by decide)] at H; exact H
                      clear H
                      have H := H1
                      clear H1
                      have H' := Aside0.mk H
                      clear H
                      go_wp2
                      go_meet
                      case rel => exact ⟨_, (false), (by first | rfl | (simp; done) | (simp [*]; done)), H', ⟨by have := HJ5.out; have := HJ12.out; have := HJ22.out; first | omega | exact Nat.le_refl _⟩, ⟨by (with_reducible repeat (first | refine blk_drewN ?_ _ | refine blk_drew ?_ | refine blk_alloc ?_ _)); exact BK135.out⟩, ⟨by (with_reducible repeat (first | refine blk_drewN ?_ _ | refine blk_drew ?_ | refine blk_alloc ?_ _)); exact BK145.out⟩, ⟨by repeat (first | (with_reducible first | exact HB.out | apply below_alloc | apply pw_below_drewN | apply below_drew1 | refine below_set ?_ GE135.out | refine below_set ?_ GE145.out) | exact HB.out)⟩⟩
                  · replace c46 := Bool.eq_false_iff.mpr c46
                    subst c46
                    have H1 : (if t139 = true then (if x16_22 = true then (clavierlaw09_KeysBack.j3 kj22 (!t144)) else (clavierlaw09_KeysBack.j3 kj22 false)) else (clavierlaw09_KeysBack.j3 kj22 true)) = some r := by rw [if_neg (show ¬ (false = true) by decide)] at H; exact H
                    clear H
                    have H := H1
                    clear H1
                    by_cases c53 : t139 = true
                    · subst c53
                      have H1 : (if x16_22 = true then (clavierlaw09_KeysBack.j3 kj22 (!t144)) else (clavierlaw09_KeysBack.j3 kj22 false)) = some r := by rw [if_pos rfl] at H; exact H
                      clear H
                      have H := H1
                      clear H1
                      by_cases c54 : x16_22 = true
                      · subst c54
                        have H1 : (clavierlaw09_KeysBack.j3 kj22 (!t144)) = some r := by rw [if_pos rfl] at H; exact H
                        clear H
                        have H := H1
                        clear H1
                        have H' := Aside0.mk H
                        clear H
                        have hnb55 := NB145_135.out
                        have hnc55 := NB135_145.out
                        have hcz56_0 : wc.cell? ⟨gb145, 0, none⟩ = some (.int .i64 t140) := (blk_cell BK145.out 0).trans rfl
                        have hcz56_1 : wc.cell? ⟨gb145, 1, none⟩ = some (.int .u8 t141) := (blk_cell BK145.out 1).trans rfl
                        have hcz56_2 : wc.cell? ⟨gb145, 2, none⟩ = some (.int .i64 t142) := (blk_cell BK145.out 2).trans rfl
                        have hcz56_3 : wc.cell? ⟨gb145, 3, none⟩ = some (.int .i64 t143) := (blk_cell BK145.out 3).trans rfl
                        have hcz56_4 : wc.cell? ⟨gb145, 4, none⟩ = some (.bool t144) := (blk_cell BK145.out 4).trans rfl
                        have hfz56_0 := blk_frozen BK145.out 0
                        have hfz56_1 := blk_frozen BK145.out 1
                        have hfz56_2 := blk_frozen BK145.out 2
                        have hfz56_3 := blk_frozen BK145.out 3
                        have hfz56_4 := blk_frozen BK145.out 4
                        go_wp2
                        go_meet
                        case rel => exact ⟨_, (!t144), (by first | rfl | (simp; done) | (simp [*]; done)), H', ⟨by have := HJ5.out; have := HJ12.out; have := HJ22.out; first | omega | exact Nat.le_refl _⟩, ⟨by (with_reducible repeat (first | refine blk_drewN ?_ _ | refine blk_drew ?_ | refine blk_alloc ?_ _)); exact BK135.out⟩, ⟨by (with_reducible repeat (first | refine blk_drewN ?_ _ | refine blk_drew ?_ | refine blk_alloc ?_ _)); exact BK145.out⟩, ⟨by repeat (first | (with_reducible first | exact HB.out | apply below_alloc | apply pw_below_drewN | apply below_drew1 | refine below_set ?_ GE135.out | refine below_set ?_ GE145.out) | exact HB.out)⟩⟩
                      · replace c54 := Bool.eq_false_iff.mpr c54
                        subst c54
                        have H1 : (clavierlaw09_KeysBack.j3 kj22 false) = some r := by rw [if_neg (show ¬ (false = true) by decide)] at H; exact H
                        clear H
                        have H := H1
                        clear H1
                        have H' := Aside0.mk H
                        clear H
                        go_wp2
                        go_meet
                        case rel => exact ⟨_, (false), (by first | rfl | (simp; done) | (simp [*]; done)), H', ⟨by have := HJ5.out; have := HJ12.out; have := HJ22.out; first | omega | exact Nat.le_refl _⟩, ⟨by (with_reducible repeat (first | refine blk_drewN ?_ _ | refine blk_drew ?_ | refine blk_alloc ?_ _)); exact BK135.out⟩, ⟨by (with_reducible repeat (first | refine blk_drewN ?_ _ | refine blk_drew ?_ | refine blk_alloc ?_ _)); exact BK145.out⟩, ⟨by repeat (first | (with_reducible first | exact HB.out | apply below_alloc | apply pw_below_drewN | apply below_drew1 | refine below_set ?_ GE135.out | refine below_set ?_ GE145.out) | exact HB.out)⟩⟩
                    · replace c53 := Bool.eq_false_iff.mpr c53
                      subst c53
                      have H1 : (clavierlaw09_KeysBack.j3 kj22 true) = some r := by rw [if_neg (show ¬ (false = true) by decide)] at H; exact H
                      clear H
                      have H := H1
                      clear H1
                      have H' := Aside0.mk H
                      clear H
                      go_wp2
                      go_meet
                      case rel => exact ⟨_, (true), (by first | rfl | (simp; done) | (simp [*]; done)), H', ⟨by have := HJ5.out; have := HJ12.out; have := HJ22.out; first | omega | exact Nat.le_refl _⟩, ⟨by (with_reducible repeat (first | refine blk_drewN ?_ _ | refine blk_drew ?_ | refine blk_alloc ?_ _)); exact BK135.out⟩, ⟨by (with_reducible repeat (first | refine blk_drewN ?_ _ | refine blk_drew ?_ | refine blk_alloc ?_ _)); exact BK145.out⟩, ⟨by repeat (first | (with_reducible first | exact HB.out | apply below_alloc | apply pw_below_drewN | apply below_drew1 | refine below_set ?_ GE135.out | refine below_set ?_ GE145.out) | exact HB.out)⟩⟩
                · replace c45 := Bool.eq_false_iff.mpr c45
                  subst c45
                  have H1 : (clavierlaw09_KeysBack.j3 kj22 false) = some r := by rw [if_neg (show ¬ (false = true) by decide)] at H; exact H
                  clear H
                  have H := H1
                  clear H1
                  have H' := Aside0.mk H
                  clear H
                  go_wp2
                  go_meet
                  case rel => exact ⟨_, (false), (by first | rfl | (simp; done) | (simp [*]; done)), H', ⟨by have := HJ5.out; have := HJ12.out; have := HJ22.out; first | omega | exact Nat.le_refl _⟩, ⟨by (with_reducible repeat (first | refine blk_drewN ?_ _ | refine blk_drew ?_ | refine blk_alloc ?_ _)); exact BK135.out⟩, ⟨by (with_reducible repeat (first | refine blk_drewN ?_ _ | refine blk_drew ?_ | refine blk_alloc ?_ _)); exact BK145.out⟩, ⟨by repeat (first | (with_reducible first | exact HB.out | apply below_alloc | apply pw_below_drewN | apply below_drew1 | refine below_set ?_ GE135.out | refine below_set ?_ GE145.out) | exact HB.out)⟩⟩
              case rest =>
                clear HC44
                try clear c1
                try clear c2
                try clear p2
                try clear c3
                try clear c4
                try clear c5
                try clear c6
                try clear c9
                try clear c10
                try clear c11
                try clear c11b0
                try clear c11b1
                try clear c13
                try clear c16
                try clear c16b0
                try clear c16b1
                try clear c18
                try clear c18b0
                try clear c18b1
                try clear c27
                try clear c29
                try clear c29b0
                try clear c29b1
                try clear c30
                try clear c30b0
                try clear c30b1
                try clear c31
                try clear c33
                try clear c33b0
                try clear c33b1
                try clear c34
                try clear c36
                try clear c36b0
                try clear c36b1
                try clear c37
                try clear c37b0
                try clear c37b1
                try clear c38
                try clear c40
                try clear c42
                try clear c45
                try clear c46
                try clear c47
                try clear c48
                try clear c48b0
                try clear c48b1
                try clear c49
                try clear c50
                try clear c51
                try clear c53
                try clear c54
                try clear c55
                try clear hcz10_0
                try clear hcz10_1
                try clear hcz10_2
                try clear hcz10_3
                try clear hcz10_4
                try clear hcz14_0
                try clear hcz14_1
                try clear hcz14_2
                try clear hcz14_3
                try clear hcz14_4
                try clear hcz17_0
                try clear hcz17_1
                try clear hcz17_2
                try clear hcz17_3
                try clear hcz17_4
                try clear hcz19_0
                try clear hcz19_1
                try clear hcz19_2
                try clear hcz19_3
                try clear hcz19_4
                try clear hcz20_0
                try clear hcz20_1
                try clear hcz20_2
                try clear hcz20_3
                try clear hcz20_4
                try clear hcz28_0
                try clear hcz28_1
                try clear hcz28_2
                try clear hcz28_3
                try clear hcz28_4
                try clear hcz32_0
                try clear hcz32_1
                try clear hcz32_2
                try clear hcz32_3
                try clear hcz32_4
                try clear hcz35_0
                try clear hcz35_1
                try clear hcz35_2
                try clear hcz35_3
                try clear hcz35_4
                try clear hcz39_0
                try clear hcz39_1
                try clear hcz39_2
                try clear hcz39_3
                try clear hcz39_4
                try clear hcz41_0
                try clear hcz41_1
                try clear hcz41_2
                try clear hcz41_3
                try clear hcz41_4
                try clear hcz43_0
                try clear hcz43_1
                try clear hcz43_2
                try clear hcz43_3
                try clear hcz43_4
                try clear hcz52_0
                try clear hcz52_1
                try clear hcz52_2
                try clear hcz52_3
                try clear hcz52_4
                try clear hcz56_0
                try clear hcz56_1
                try clear hcz56_2
                try clear hcz56_3
                try clear hcz56_4
                try clear hfz10_0
                try clear hfz10_1
                try clear hfz10_2
                try clear hfz10_3
                try clear hfz10_4
                try clear hfz14_0
                try clear hfz14_1
                try clear hfz14_2
                try clear hfz14_3
                try clear hfz14_4
                try clear hfz17_0
                try clear hfz17_1
                try clear hfz17_2
                try clear hfz17_3
                try clear hfz17_4
                try clear hfz19_0
                try clear hfz19_1
                try clear hfz19_2
                try clear hfz19_3
                try clear hfz19_4
                try clear hfz20_0
                try clear hfz20_1
                try clear hfz20_2
                try clear hfz20_3
                try clear hfz20_4
                try clear hfz28_0
                try clear hfz28_1
                try clear hfz28_2
                try clear hfz28_3
                try clear hfz28_4
                try clear hfz32_0
                try clear hfz32_1
                try clear hfz32_2
                try clear hfz32_3
                try clear hfz32_4
                try clear hfz35_0
                try clear hfz35_1
                try clear hfz35_2
                try clear hfz35_3
                try clear hfz35_4
                try clear hfz39_0
                try clear hfz39_1
                try clear hfz39_2
                try clear hfz39_3
                try clear hfz39_4
                try clear hfz41_0
                try clear hfz41_1
                try clear hfz41_2
                try clear hfz41_3
                try clear hfz41_4
                try clear hfz43_0
                try clear hfz43_1
                try clear hfz43_2
                try clear hfz43_3
                try clear hfz43_4
                try clear hfz52_0
                try clear hfz52_1
                try clear hfz52_2
                try clear hfz52_3
                try clear hfz52_4
                try clear hfz56_0
                try clear hfz56_1
                try clear hfz56_2
                try clear hfz56_3
                try clear hfz56_4
                try clear p2
                obtain ⟨kq, x6_43, rfl, HA, HJ43, BK135, BK145, HB⟩ := hcut
                cases kq with
                | zero => exact absurd HA.out (by simp [clavierlaw09_KeysBack.j3])
                | succ kj43 =>
                  have H := HA.out
                  clear HA
                  simp only [clavierlaw09_KeysBack.j3] at H
                  obtain rfl := Option.some.inj H
                  go_wp2
                  go_ret
                  exact ⟨by first | rfl | (simp [errW_none, errW_some] <;> rfl) | (simp [*, errW_none, errW_some] <;> rfl), by repeat (first | (with_reducible first | exact HB.out | apply below_alloc | apply pw_below_drewN | apply below_drew1 | refine below_set ?_ GE135.out | refine below_set ?_ GE145.out) | exact HB.out)⟩

end Go.Proofs.Ytkbepgelgcoihaa.B
