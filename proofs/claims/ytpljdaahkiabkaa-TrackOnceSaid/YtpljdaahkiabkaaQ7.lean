-- Written by a program of this session (myprint.py over the kit's printer, some callees given by hand). Lean checks it.
import Derived.Test.YtpljdaahkiabkaaQ0
import Derived.Test.YtpljdaahkiabkaaQ1
import Derived.Test.YtpljdaahkiabkaaQ2
namespace Go.Proofs.Ytpljdaahkiabkaa.Q
open Go.Proofs.Ytpljdaahkiabkaa.H Go.RowKit Go.Proofs.YtpljdaahkiabkaaW.PrintWords Go.Proofs.YtpljdaahkiabkaaW.PrintLast Go.Proofs.YtpljdaahkiabkaaW.PrintMore
attribute [local go_sem] max2_int min2_int max_two min_two max_three min_three max_four min_four   -- for this text's walks alone
set_option linter.unusedVariables false
set_option linter.unusedSimpArgs false

attribute [local go_sem high] eqA27
/-! ### clavierlaw15_TrackOnce: function 5 -/
mutual
def clavierlaw15_TrackOnce.l0 : Nat → Int → List (S25) → Bool → List Int → Int → Int → Int → Option (Bool)
  | 0, _, _, _, _, _, _, _ => none
  | k + 1, x0, x1, x5, x6, x8, x157000, x157001 => if x8 < (x1.length : Int) then (if 0 ≤ (Int.tmod x0 5) then (if (Int.tmod x0 5) < (x6.length : Int) then (if 0 ≤ x8 then ((track_Tell.f (rd x6 (Int.tmod x0 5)) x157000 x157001 ((rd_T25 x1 x8).f0) ((rd_T25 x1 x8).f1) ((rd_T25 x1 x8).f2) ((rd_T25 x1 x8).f3) ((rd_T25 x1 x8).f4)).bind fun bt159 => (if bt159.2.2 = true then (if (!(bt159.1 == ((rd_T25 x1 x8).f2)) || (!(bt159.2.1 == ((rd_T25 x1 x8).f3)))) = true then (clavierlaw15_TrackOnce.j1 k x0 x1 x5 x6 x8 true bt159.1 bt159.2.1) else (if ((rd_T25 x1 x8).f1) = 4 then (if (((rd_T25 x1 x8).f2) == x157000 && (((rd_T25 x1 x8).f3) == x157001)) = true then (clavierlaw15_TrackOnce.j1 k x0 x1 x5 x6 x8 true bt159.1 bt159.2.1) else (clavierlaw15_TrackOnce.j1 k x0 x1 x5 x6 x8 false bt159.1 bt159.2.1)) else (clavierlaw15_TrackOnce.j1 k x0 x1 x5 x6 x8 false bt159.1 bt159.2.1))) else (clavierlaw15_TrackOnce.j1 k x0 x1 x5 x6 x8 (!(bt159.1 == x157000) || (!(bt159.2.1 == x157001))) bt159.1 bt159.2.1))) else (none)) else (none)) else (none)) else (some x5)
def clavierlaw15_TrackOnce.j1 : Nat → Int → List (S25) → Bool → List Int → Int → Bool → Int → Int → Option (Bool)
  | 0, _, _, _, _, _, _, _, _ => none
  | k + 1, x0, x1, x5, x6, x8, x77, x163000, x163001 => if x77 = true then (some false) else (clavierlaw15_TrackOnce.l0 k x0 x1 x5 x6 (wrap64 (x8 + 1)) x163000 x163001)
end
def clavierlaw15_TrackOnce.f (k : Nat) (a0 : Int) (l1 : List (S25)) : Option (Bool) := (clavierlaw15_awake.f k).bind fun t152 => (if (l1.length : Int) > 40 then (some t152) else (clavierlaw15_TrackOnce.l0 k a0 l1 t152 (([9, 1000, 1002, 1003, 0] : List Int)) 0 0 0))
theorem clavierlaw15_TrackOnce.mono_l : ∀ k, (∀ y0 y1 y2 y3 y4 y5 y6, LeO (clavierlaw15_TrackOnce.l0 k y0 y1 y2 y3 y4 y5 y6) (clavierlaw15_TrackOnce.l0 (k + 1) y0 y1 y2 y3 y4 y5 y6)) ∧ (∀ y0 y1 y2 y3 y4 y5 y6 y7, LeO (clavierlaw15_TrackOnce.j1 k y0 y1 y2 y3 y4 y5 y6 y7) (clavierlaw15_TrackOnce.j1 (k + 1) y0 y1 y2 y3 y4 y5 y6 y7))
  | 0 => ⟨fun _ _ _ _ _ _ _ r h => by simp [clavierlaw15_TrackOnce.l0] at h, fun _ _ _ _ _ _ _ _ r h => by simp [clavierlaw15_TrackOnce.j1] at h⟩
  | k + 1 => by
    obtain ⟨ih0, ih1⟩ := clavierlaw15_TrackOnce.mono_l k
    refine ⟨?_, ?_⟩
    · intro y0 y1 y2 y3 y4 y5 y6
      unfold clavierlaw15_TrackOnce.l0
      repeat' first
      | (with_reducible exact ih0 _ _ _ _ _ _ _)
      | (with_reducible exact ih1 _ _ _ _ _ _ _ _)
      | (with_reducible exact clavierlaw15_awake.mono _)
      | (with_reducible exact LeO.refl _)
      | (with_reducible exact LeO.none _)
      | (with_reducible refine LeO.ite ?_ ?_)
      | (with_reducible refine LeO.bind ?_ (fun _ => ?_))
      | exact ih0 _ _ _ _ _ _ _
      | exact ih1 _ _ _ _ _ _ _ _
      | exact clavierlaw15_awake.mono _
      | exact LeO.none _
      | refine LeO.ite ?_ ?_
      | refine LeO.bind ?_ (fun _ => ?_)
    · intro y0 y1 y2 y3 y4 y5 y6 y7
      unfold clavierlaw15_TrackOnce.j1
      repeat' first
      | (with_reducible exact ih0 _ _ _ _ _ _ _)
      | (with_reducible exact ih1 _ _ _ _ _ _ _ _)
      | (with_reducible exact clavierlaw15_awake.mono _)
      | (with_reducible exact LeO.refl _)
      | (with_reducible exact LeO.none _)
      | (with_reducible refine LeO.ite ?_ ?_)
      | (with_reducible refine LeO.bind ?_ (fun _ => ?_))
      | exact ih0 _ _ _ _ _ _ _
      | exact ih1 _ _ _ _ _ _ _ _
      | exact clavierlaw15_awake.mono _
      | exact LeO.none _
      | refine LeO.ite ?_ ?_
      | refine LeO.bind ?_ (fun _ => ?_)
theorem clavierlaw15_TrackOnce.mono : ∀ a0 a1 k, LeO (clavierlaw15_TrackOnce.f k a0 a1) (clavierlaw15_TrackOnce.f (k + 1) a0 a1) := by
  intro a0 a1 k
  obtain ⟨ih0, ih1⟩ := clavierlaw15_TrackOnce.mono_l k
  unfold clavierlaw15_TrackOnce.f
  repeat' first
      | (with_reducible exact ih0 _ _ _ _ _ _ _)
      | (with_reducible exact ih1 _ _ _ _ _ _ _ _)
      | (with_reducible exact clavierlaw15_awake.mono _)
      | (with_reducible exact LeO.refl _)
      | (with_reducible exact LeO.none _)
      | (with_reducible refine LeO.ite ?_ ?_)
      | (with_reducible refine LeO.bind ?_ (fun _ => ?_))
      | exact ih0 _ _ _ _ _ _ _
      | exact ih1 _ _ _ _ _ _ _ _
      | exact clavierlaw15_awake.mono _
      | exact LeO.none _
      | refine LeO.ite ?_ ?_
      | refine LeO.bind ?_ (fun _ => ?_)
def clavierlaw15_TrackOnce.T9 : Bool × List (List Nat × List Nat) := (true, [([], []), ([], []), ([1], [1]), ([0, 2], [0, 2]), ([3], [3]), ([], []), ([], []), ([], []), ([6, 7], [6, 7]), ([8], [8]), ([4, 5, 9], [4, 5, 9]), ([10], [10]), ([11], [11]), ([11], [11]), ([], []), ([14, 12, 10, 0, 1, 2, 3, 4, 5, 6, 7, 8, 9, 10, 11, 12, 14], [12, 14]), ([13, 15, 0, 1, 2, 3, 4, 5, 6, 7, 8, 9, 10, 11, 12, 13, 14, 15], [13])])
def clavierlaw15_TrackOnce.B9 : List Nat := [0, 0, 2, 7, 15, 0, 0, 0, 192, 448, 1023, 2047, 4095, 4095, 0, 24575, 65535]
theorem clavierlaw15_TrackOnce.tab9 : rtab .any (opsOf Try.f5 9) = clavierlaw15_TrackOnce.T9 := by kernel_rfl
theorem clavierlaw15_TrackOnce.bits9 : waitsOk clavierlaw15_TrackOnce.T9.2 clavierlaw15_TrackOnce.B9 = true := by kernel_rfl
def clavierlaw15_TrackOnce.T10 : Bool × List (List Nat × List Nat) := (true, [([], []), ([], []), ([0, 1], [0, 1]), ([2], [2]), ([3], [3]), ([], []), ([], []), ([5, 6], [5, 6]), ([7], [7]), ([8], [8]), ([4, 9], [4, 9]), ([], []), ([11, 10, 0, 1, 2, 3, 4, 5, 6, 7, 8, 9, 10, 11], [10, 11])])
def clavierlaw15_TrackOnce.B10 : List Nat := [0, 0, 3, 7, 15, 0, 0, 96, 224, 480, 1023, 0, 4095]
theorem clavierlaw15_TrackOnce.tab10 : rtab .any (opsOf Try.f5 10) = clavierlaw15_TrackOnce.T10 := by kernel_rfl
theorem clavierlaw15_TrackOnce.bits10 : waitsOk clavierlaw15_TrackOnce.T10.2 clavierlaw15_TrackOnce.B10 = true := by kernel_rfl
set_option maxHeartbeats 8000000 in
set_option maxRecDepth 100000 in
theorem clavierlaw15_TrackOnce.calls (k : Nat) (a0 : Int) (A1 : Option Addr) (c1 : Nat) (l1 : List (S25)) (r : Bool) (w : World) (hr1 : Kd.C k25 w A1 l1.length l1) (hc1 : l1.length ≤ c1) (h : clavierlaw15_TrackOnce.f k a0 l1 = some r) :
    Calls Try.prog 5 #[.int .u8 a0, .slice A1 l1.length c1] w fun e w' => e = .returned (.bool r) ∧ Below w.heap.size w w' := by
  have hu27 := Try.underlying27
  have hu25 := Try.underlying25
  have HR1 := Aside0.mk hr1
  have HC1 := Aside0.mk hc1
  clear hr1 hc1
  have HB := Aside0.mk (Below.refl w.heap.size w)
  have H : ((clavierlaw15_awake.f k).bind fun t152 => (if (l1.length : Int) > 40 then (some t152) else (clavierlaw15_TrackOnce.l0 k a0 l1 t152 (([9, 1000, 1002, 1003, 0] : List Int)) 0 0 0))) = some r := h
  clear h
  replace H := Option.bind_eq_some_iff.mp H
  obtain ⟨t152, A30, H⟩ := H
  replace H : (if (l1.length : Int) > 40 then (some t152) else (clavierlaw15_TrackOnce.l0 k a0 l1 t152 (([9, 1000, 1002, 1003, 0] : List Int)) 0 0 0)) = some r := H
  have A3 := Aside0.mk A30
  clear A30
  by_cases c4 : (l1.length : Int) > 40
  · rw [if_pos c4] at H
    have c4b0 : decide (40 < (l1.length : Int)) = true := decide_eq_true c4
    have c4b1 : decide (40 < l1.length) = true := decide_eq_true (by omega)
    clear c4
    obtain rfl := Option.some.inj H
    go_enter Try.func5, Try.ntmps5
    go_wp2_with (first | ((with_reducible refine gate_callee (f := 9) rfl ?_); refine goesL_ (some 12) rfl rfl Try.func9 (by kernel_rfl) rfl #[] rfl (by (try simp only [List.map_toArray, List.map_cons, List.map_nil]); first | done | rfl | (simp only [List.length_drop, List.length_take]; rfl)) ?_; (with_reducible refine (clavierlaw15_awake.calls k  t152 _ A3.out).mono ?_); rintro e w5 ⟨rfl, hb⟩; refine ⟨_, rfl, ?_⟩; have n0_ := Aside0.mk (below_step (by repeat (first | (with_reducible first | exact HB.out | apply below_alloc | apply pw_below_drewN | apply below_drew1) | exact HB.out)) hb); clear HB; have HB := n0_; clear n0_; (try clear hb); (try clear hb2); (try clear hk); (try clear hi)))
    go_ret
    exact ⟨by first | rfl | (simp [errW_none, errW_some] <;> rfl) | (simp [*, errW_none, errW_some] <;> rfl), by repeat (first | (with_reducible first | exact HB.out | apply below_alloc | apply pw_below_drewN | apply below_drew1) | exact HB.out)⟩
  · rw [if_neg c4] at H
    have c4b0 : decide (40 < (l1.length : Int)) = false := decide_eq_false c4
    have c4b1 : decide (40 < l1.length) = false := decide_eq_false (by omega)
    clear c4
    obtain ⟨y153, hy153⟩ : ∃ y_ : List Int, y_ = (([9, 1000, 1002, 1003, 0] : List Int)) := ⟨_, rfl⟩
    replace H : (clavierlaw15_TrackOnce.l0 k a0 l1 t152 y153 0 0 0) = some r := by first | (rw [hy153]; with_reducible exact H) | (have H2_ := (Option.bind_some _ _).symm.trans H; rw [hy153]; with_reducible exact H2_) | (have H2_ := (Option.bind_some _ _).symm.trans H; with_reducible exact H2_) | with_reducible exact H | (rw [hy153]; exact H) | exact H
    have Ny153 := Aside0.mk hy153
    clear hy153
    have H' := Aside0.mk H
    clear H
    go_enter Try.func5, Try.ntmps5
    go_wp2_with (first | ((with_reducible refine gate_callee (f := 9) rfl ?_); refine goesL_ (some 12) rfl rfl Try.func9 (by kernel_rfl) rfl #[] rfl (by (try simp only [List.map_toArray, List.map_cons, List.map_nil]); first | done | rfl | (simp only [List.length_drop, List.length_take]; rfl)) ?_; (with_reducible refine (clavierlaw15_awake.calls k  t152 _ A3.out).mono ?_); rintro e w6 ⟨rfl, hb⟩; refine ⟨_, rfl, ?_⟩; have n0_ := Aside0.mk (below_step (by repeat (first | (with_reducible first | exact HB.out | apply below_alloc | apply pw_below_drewN | apply below_drew1) | exact HB.out)) hb); clear HB; have HB := n0_; clear n0_; (try clear hb); (try clear hb2); (try clear hk); (try clear hi)) | ((with_reducible refine gate_dst (N := 17) rfl ?_); refine Kd.R_lit (Kd.int .i64) _ 3 ?hg (N := 17) ?hd (xs := ([9, 1000, 1002, 1003, 0] : List Int)) (inner := [.int .i64 9, .int .i64 1000, .int .i64 1002, .int .i64 1003, .int .i64 0]) (ok := fun _ => True) (okp := fun _ => True) ?hr ?hp (fun _ hk => hk) trivial (Below.refl _ _) (Nat.le_refl _) (by simp) ?_; (case hd => rfl); (case hg => rfl); (case hr => first | (go_simp; done) | (go_simp; rfl)); (case hp => exact (Reps.one (show Kd.M (Kd.int .i64) _ _ _ 9 [.int .i64 9] from rfl) (Reps.one (show Kd.M (Kd.int .i64) _ _ _ 1000 [.int .i64 1000] from rfl) (Reps.one (show Kd.M (Kd.int .i64) _ _ _ 1002 [.int .i64 1002] from rfl) (Reps.one (show Kd.M (Kd.int .i64) _ _ _ 1003 [.int .i64 1003] from rfl) (Reps.one (show Kd.M (Kd.int .i64) _ _ _ 0 [.int .i64 0] from rfl) (Reps.none _ _))))))); intro v154 w7 ho8 hb hg_ hnew_; clear hg_ hnew_; (first | rw [← Ny153.out] at ho8 | (simp only [Int.reduceToNat] at ho8; rw [← Ny153.out] at ho8)); have n0_ := Aside0.mk (Kd.R_lower ho8 (below_size (by repeat (first | (with_reducible first | exact HB.out | apply below_alloc | apply pw_below_drewN | apply below_drew1) | exact HB.out)))); have n1_ := Aside0.mk (below_step (by repeat (first | (with_reducible first | exact HB.out | apply below_alloc | apply pw_below_drewN | apply below_drew1) | exact HB.out)) hb); clear HB; have HO155 := n0_; have HB := n1_; clear n0_ n1_; clear hb ho8) | ((with_reducible refine gate_dst (N := 7) rfl ?_); refine box_event ?hg (N := 7) ?hd (cs := #[.int .i64 0, .int .i64 0]) (t := 27) ?hr ?_; (case hd => rfl); (case hg => rfl); (case hr => first | (go_simp; done) | (go_simp; rfl)); intro gb156 hg w9 hbox hb; have n0_ := Aside0.mk (Kd.R_below (by (with_reducible repeat (first | apply Kd.R_alloc | apply Kd.R_drewN | apply Kd.R_drew)); exact HO155.out) hb); have n1_ := Aside0.mk (below_step (by repeat (first | (with_reducible first | exact HB.out | apply below_alloc | apply pw_below_drewN | apply below_drew1) | exact HB.out)) hb); have n2_ := Aside0.mk (hbox); have n3_ := Aside0.mk ((by rw [hg]; exact (below_size (by repeat (first | (with_reducible first | exact HB.out | apply below_alloc | apply pw_below_drewN | apply below_drew1) | exact HB.out))) : w.heap.size ≤ gb156)); have n4_ := Aside0.mk ((by rw [hg]; exact (below_size (by repeat (first | (with_reducible first | exact HB.out | apply below_alloc | apply pw_below_drewN | apply below_drew1) | exact HB.out))) : w.heap.size ≤ gb156)); clear HO155; clear HB; have HO155 := n0_; have HB := n1_; have BK156 := n2_; have GW156 := n3_; have GE156 := n4_; clear n0_ n1_ n2_ n3_ n4_; clear hb hbox hg; have hcz10_0 : w9.cell? ⟨gb156, 0, none⟩ = some (.int .i64 0) := (blk_cell BK156.out 0).trans rfl; have hcz10_1 : w9.cell? ⟨gb156, 1, none⟩ = some (.int .i64 0) := (blk_cell BK156.out 1).trans rfl; have hfz10_0 := blk_frozen BK156.out 0; have hfz10_1 := blk_frozen BK156.out 1))
    go_loopg [8] k (fun kq v8 w' => ∃ (x8_1 : Int) (x157000_1 : Int) (x157001_1 : Int), v8 = .int .i64 x8_1 ∧ Aside0 (clavierlaw15_TrackOnce.l0 kq a0 l1 t152 y153 x8_1 x157000_1 x157001_1 = some r) ∧ Aside0 (kq ≤ k) ∧ Aside0 (Kd.R (Kd.int .i64) 3 w' w.heap.size (fun _ => True) v154 y153) ∧ Aside0 (w'.heap[gb156]? = some (.cells #[.int .i64 x157000_1, .int .i64 x157001_1] 27 (0, 0))) ∧ Aside0 (Below w.heap.size w w'))
    case atStart => exact ⟨(0), (0), (0), (by first | rfl | (simp; done) | (simp [*]; done)), H', ⟨Nat.le_refl _⟩, ⟨by (with_reducible repeat (first | apply Kd.R_alloc | apply Kd.R_drewN | apply Kd.R_drew)); exact Kd.R_mono (Kd.R_far (p := ⟨gb156, 1, none⟩) (Kd.R_far (p := ⟨gb156, 0, none⟩) (Kd.R_types HO155.out BK156.out (by decide)) (fun _ hk => hk.2) (.int .i64 0)) (fun _ hk => hk.2) (.int .i64 0)) (fun _ hk => trivial)⟩, ⟨by (with_reducible repeat (first | refine blk_drewN ?_ _ | refine blk_drew ?_ | refine blk_alloc ?_ _)); refine blk_put (cs := #[.int .i64 0, .int .i64 0]) ?_ 1 _ rfl; (with_reducible repeat (first | refine blk_drewN ?_ _ | refine blk_drew ?_ | refine blk_alloc ?_ _)); refine blk_put (cs := #[.int .i64 0, .int .i64 0]) ?_ 0 _ rfl; (with_reducible repeat (first | refine blk_drewN ?_ _ | refine blk_drew ?_ | refine blk_alloc ?_ _)); exact BK156.out⟩, ⟨by repeat (first | (with_reducible first | exact HB.out | apply below_alloc | apply pw_below_drewN | apply below_drew1 | refine below_set ?_ GE156.out) | exact HB.out)⟩⟩
    case round =>
      clear H'
      try clear c1
      try clear p2
      try clear c4
      try clear c4b0
      try clear c4b1
      try clear c5
      try clear c9
      try clear hcz10_0
      try clear hcz10_1
      try clear hfz10_0
      try clear hfz10_1
      obtain ⟨x8_1, x157000_1, x157001_1, rfl, HA, HK1, HO_6, BK156, HB⟩ := hrel
      cases gk with
      | zero => exact absurd HA.out (by simp [clavierlaw15_TrackOnce.l0])
      | succ k1 =>
        have H := HA.out
        clear HA
        simp only [clavierlaw15_TrackOnce.l0] at H
        by_cases c11 : x8_1 < (l1.length : Int)
        · rw [if_pos c11] at H
          have c11b0 : decide (x8_1 < (l1.length : Int)) = true := decide_eq_true c11
          clear c11
          obtain ⟨ji12, hji12⟩ : ∃ j_ : Int, (Int.tmod a0 5) = j_ := ⟨_, rfl⟩
          replace H : (if 0 ≤ (ji12) then (if (ji12) < (y153.length : Int) then (if 0 ≤ x8_1 then ((track_Tell.f (rd y153 (ji12)) x157000_1 x157001_1 ((rd_T25 l1 x8_1).f0) ((rd_T25 l1 x8_1).f1) ((rd_T25 l1 x8_1).f2) ((rd_T25 l1 x8_1).f3) ((rd_T25 l1 x8_1).f4)).bind fun bt159 => (if bt159.2.2 = true then (if (!(bt159.1 == ((rd_T25 l1 x8_1).f2)) || (!(bt159.2.1 == ((rd_T25 l1 x8_1).f3)))) = true then (clavierlaw15_TrackOnce.j1 k1 a0 l1 t152 y153 x8_1 true bt159.1 bt159.2.1) else (if ((rd_T25 l1 x8_1).f1) = 4 then (if (((rd_T25 l1 x8_1).f2) == x157000_1 && (((rd_T25 l1 x8_1).f3) == x157001_1)) = true then (clavierlaw15_TrackOnce.j1 k1 a0 l1 t152 y153 x8_1 true bt159.1 bt159.2.1) else (clavierlaw15_TrackOnce.j1 k1 a0 l1 t152 y153 x8_1 false bt159.1 bt159.2.1)) else (clavierlaw15_TrackOnce.j1 k1 a0 l1 t152 y153 x8_1 false bt159.1 bt159.2.1))) else (clavierlaw15_TrackOnce.j1 k1 a0 l1 t152 y153 x8_1 (!(bt159.1 == x157000_1) || (!(bt159.2.1 == x157001_1))) bt159.1 bt159.2.1))) else (none)) else (none)) else (none)) = some r := by first | (rw [hji12] at H; exact H) | (simp only [hji12] at H ⊢; exact H)
          by_cases c13 : 0 ≤ (ji12)
          · rw [if_pos c13] at H
            have c13b0 : decide (0 ≤ (ji12)) = true := decide_eq_true c13
            clear c13
            by_cases c14 : (ji12) < (y153.length : Int)
            · rw [if_pos c14] at H
              have c14b0 : decide ((ji12) < (y153.length : Int)) = true := decide_eq_true c14
              clear c14
              by_cases c15 : 0 ≤ x8_1
              · rw [if_pos c15] at H
                have c15b0 : decide (0 ≤ x8_1) = true := decide_eq_true c15
                clear c15
                replace H := Option.bind_eq_some_iff.mp H
                obtain ⟨⟨t159, t160, t161⟩, A160, H⟩ := H
                replace H : (if t161 = true then (if (!(t159 == ((rd_T25 l1 x8_1).f2)) || (!(t160 == ((rd_T25 l1 x8_1).f3)))) = true then (clavierlaw15_TrackOnce.j1 k1 a0 l1 t152 y153 x8_1 true t159 t160) else (if ((rd_T25 l1 x8_1).f1) = 4 then (if (((rd_T25 l1 x8_1).f2) == x157000_1 && (((rd_T25 l1 x8_1).f3) == x157001_1)) = true then (clavierlaw15_TrackOnce.j1 k1 a0 l1 t152 y153 x8_1 true t159 t160) else (clavierlaw15_TrackOnce.j1 k1 a0 l1 t152 y153 x8_1 false t159 t160)) else (clavierlaw15_TrackOnce.j1 k1 a0 l1 t152 y153 x8_1 false t159 t160))) else (clavierlaw15_TrackOnce.j1 k1 a0 l1 t152 y153 x8_1 (!(t159 == x157000_1) || (!(t160 == x157001_1))) t159 t160)) = some r := H
                have A16 := Aside0.mk A160
                clear A160
                have HC17 := Aside0.mk H
                clear H
                try go_wp2
                have n0_ := Aside0.mk (Kd.R_drew HO_6.out)
                have n1_ := Aside0.mk (blk_drew BK156.out)
                have n2_ := Aside0.mk (below_drew1 HB.out)
                clear HO_6
                clear BK156
                clear HB
                have HO_6 := n0_
                have BK156 := n1_
                have HB := n2_
                clear n0_ n1_ n2_
                obtain ⟨Ao19, co19, eo19⟩ := Kd.R_slice HO_6.out
                (first | subst eo19 | (injection eo19 with f1_ f2_ f3_; have f4_ := f1_.symm; have f5_ := f3_.symm; clear f1_ f2_ f3_; subst f4_; subst f5_))
                have p157 : 0 ≤ ((ji12) : Int) := of_decide_eq_true (by first | (with_reducible assumption) | assumption)
                have q157 : (ji12) < (y153.length : Int) := of_decide_eq_true (by first | (with_reducible assumption) | assumption)
                obtain ⟨ad157, e157, hx157_0⟩ := Kd.at_int (Kd.R_reads' HO_6.out).2.2 (ji12) p157 q157
                cases e157
                replace p157 := eq_true p157
                replace q157 := eq_true q157
                have p158 : 0 ≤ (x8_1 : Int) := of_decide_eq_true (by first | (with_reducible assumption) | assumption)
                have q158 : x8_1 < (l1.length : Int) := of_decide_eq_true (by first | (with_reducible assumption) | assumption)
                obtain ⟨ad158, e158, hx158_0, hx158_1, hx158_2, hx158_3, hx158_4⟩ := at_T25 HR1.out x8_1 p158 q158
                have hw158_4 := hx158_4
                have hw158_3 := hx158_3
                have hw158_2 := hx158_2
                have hw158_1 := hx158_1
                have hw158_0 := hx158_0
                cases e158
                replace hx158_0 := (HB.out.cell (World.block_lt_of_cell? w _ hx158_0)).trans hx158_0
                replace hx158_1 := (HB.out.cell (World.block_lt_of_cell? w _ hx158_1)).trans hx158_1
                replace hx158_2 := (HB.out.cell (World.block_lt_of_cell? w _ hx158_2)).trans hx158_2
                replace hx158_3 := (HB.out.cell (World.block_lt_of_cell? w _ hx158_3)).trans hx158_3
                replace hx158_4 := (HB.out.cell (World.block_lt_of_cell? w _ hx158_4)).trans hx158_4
                replace p158 := eq_true p158
                replace q158 := eq_true q158
                refine start_ (n := 17) (S := fun w' => w'.cell? ⟨gb156, 0, none⟩ = some (.int .i64 x157000_1) ∧ w'.cell? ⟨gb156, 1, none⟩ = some (.int .i64 x157001_1) ∧ w'.cell? (ad157.add ((ji12)).toNat) = some (.int .i64 (rd y153 (ji12))) ∧ w'.cell? (ad158.add ((x8_1).toNat * 5)) = some (.int .i64 ((rd_T25 l1 x8_1).f0)) ∧ w'.cell? ⟨(ad158.add ((x8_1).toNat * 5)).block, (ad158.add ((x8_1).toNat * 5)).off + 1, none⟩ = some (.int .i64 ((rd_T25 l1 x8_1).f1)) ∧ w'.cell? ⟨(ad158.add ((x8_1).toNat * 5)).block, (ad158.add ((x8_1).toNat * 5)).off + 2, none⟩ = some (.int .i64 ((rd_T25 l1 x8_1).f2)) ∧ w'.cell? ⟨(ad158.add ((x8_1).toNat * 5)).block, (ad158.add ((x8_1).toNat * 5)).off + 3, none⟩ = some (.int .i64 ((rd_T25 l1 x8_1).f3)) ∧ w'.cell? ⟨(ad158.add ((x8_1).toNat * 5)).block, (ad158.add ((x8_1).toNat * 5)).off + 4, none⟩ = some (.int .i64 ((rd_T25 l1 x8_1).f4))) (ds := []) #[false, false, false, false, false, false, false, false, false, false, false, false, false, false, false, false, false] (by kernel_rfl) rfl rfl ⟨(blk_cell BK156.out 0).trans rfl, (blk_cell BK156.out 1).trans rfl, hx157_0, ((HB.out.cell (World.block_lt_of_cell? w _ hw158_0)).trans hw158_0), ((HB.out.cell (World.block_lt_of_cell? w _ hw158_1)).trans hw158_1), ((HB.out.cell (World.block_lt_of_cell? w _ hw158_2)).trans hw158_2), ((HB.out.cell (World.block_lt_of_cell? w _ hw158_3)).trans hw158_3), ((HB.out.cell (World.block_lt_of_cell? w _ hw158_4)).trans hw158_4)⟩ (fun hHeld => ?_); refine with_tabW clavierlaw15_TrackOnce.tab9 clavierlaw15_TrackOnce.bits9 (fun HT_ HW_ => ?_)
                generalize wr.drew = w18 at HO_6 BK156 HB hx157_0 hx158_0 hx158_1 hx158_2 hx158_3 hx158_4 hHeld ⊢
                refine pure_ (i := 0) (N := some 26) (v := ?_) (a' := ?_) #[true, false, false, false, false, false, false, false, false, false, false, false, false, false, false, false, false] rfl rfl (any_of HT_.out (by kernel_rfl)) (fun _ _ _ h => h) (Or.inl ⟨by rfl, ?_⟩) ?_ ?_
                rotate_left
                · intro w'
                  go_simp
                  with_reducible rfl
                rotate_left
                · simp only [Act.put, List.setIfInBounds_toArray, List.set_cons_zero, List.set_cons_succ, i64_w, i32_w]
                  rfl
                refine pure_ (i := 1) (N := some 27) (v := ?_) (a' := ?_) #[true, true, false, false, false, false, false, false, false, false, false, false, false, false, false, false, false] rfl rfl (any_of HT_.out (by kernel_rfl)) (fun _ _ _ h => h) (Or.inl ⟨by rfl, ?_⟩) ?_ ?_
                rotate_left
                · intro w'
                  go_simp
                  with_reducible rfl
                rotate_left
                · simp only [Act.put, List.setIfInBounds_toArray, List.set_cons_zero, List.set_cons_succ, i64_w, i32_w]
                  rfl
                refine pure_ (i := 2) (N := some 28) (v := ?_) (a' := ?_) #[true, true, true, false, false, false, false, false, false, false, false, false, false, false, false, false, false] rfl rfl (any_of HT_.out (by kernel_rfl)) (fun _ _ _ h => h) (Or.inl ⟨by rfl, ?_⟩) ?_ ?_
                rotate_left
                · intro w'
                  go_simp
                  with_reducible rfl
                rotate_left
                · simp only [Act.put, List.setIfInBounds_toArray, List.set_cons_zero, List.set_cons_succ, i64_w, i32_w]
                  rfl
                refine pure_ (i := 3) (N := some 29) (v := ?_) (a' := ?_) #[true, true, true, true, false, false, false, false, false, false, false, false, false, false, false, false, false] rfl rfl (any_of HT_.out (by kernel_rfl)) (fun _ _ _ h => h) (Or.inl ⟨by rfl, ?_⟩) ?_ ?_
                rotate_left
                · intro w'
                  go_simp
                  with_reducible rfl
                rotate_left
                · simp only [Act.put, List.setIfInBounds_toArray, List.set_cons_zero, List.set_cons_succ, i64_w, i32_w]
                  rfl
                refine pure_ (i := 6) (N := some 32) (v := ?_) (a' := ?_) #[true, true, true, true, false, false, true, false, false, false, false, false, false, false, false, false, false] rfl rfl (any_of HT_.out (by kernel_rfl)) (fun _ _ _ h => h) (Or.inl ⟨by rfl, ?_⟩) ?_ ?_
                rotate_left
                · intro w'
                  go_simp
                  with_reducible rfl
                rotate_left
                · simp only [Act.put, List.setIfInBounds_toArray, List.set_cons_zero, List.set_cons_succ, i64_w, i32_w]
                  rfl
                refine pure_ (i := 7) (N := some 33) (v := ?_) (a' := ?_) #[true, true, true, true, false, false, true, true, false, false, false, false, false, false, false, false, false] rfl rfl (any_of HT_.out (by kernel_rfl)) (fun _ _ _ h => h) (Or.inl ⟨by rfl, ?_⟩) ?_ ?_
                rotate_left
                · intro w'
                  go_simp
                  with_reducible rfl
                rotate_left
                · simp only [Act.put, List.setIfInBounds_toArray, List.set_cons_zero, List.set_cons_succ, i64_w, i32_w]
                  rfl
                refine pure_ (i := 8) (N := some 34) (v := ?_) (a' := ?_) #[true, true, true, true, false, false, true, true, true, false, false, false, false, false, false, false, false] rfl rfl (any_of HT_.out (by kernel_rfl)) (fun _ _ _ h => h) (Or.inl ⟨by rfl, ?_⟩) ?_ ?_
                rotate_left
                · intro w'
                  go_simp
                  with_reducible rfl
                rotate_left
                · simp only [Act.put, List.setIfInBounds_toArray, List.set_cons_zero, List.set_cons_succ, i64_w, i32_w]
                  rfl
                refine take_ (i := 4) (N := some 30) (v := ?_) (a' := ?_) #[true, true, true, true, true, false, true, true, true, false, false, false, false, false, false, false, false] rfl rfl (take_ofW HT_.out HW_.out (by kernel_rfl)) (fun _ _ _ h => h) (Or.inl ⟨by rfl, ?_⟩) hHeld ?_ ?_
                rotate_left
                · rintro w' ⟨s0, s1, s2, s3, s4, s5, s6, s7⟩
                  go_simp
                  with_reducible rfl
                rotate_left
                · simp only [Act.put, List.setIfInBounds_toArray, List.set_cons_zero, List.set_cons_succ, i64_w, i32_w]
                  rfl
                refine take_ (i := 5) (N := some 31) (v := ?_) (a' := ?_) #[true, true, true, true, true, true, true, true, true, false, false, false, false, false, false, false, false] rfl rfl (take_ofW HT_.out HW_.out (by kernel_rfl)) (fun _ _ _ h => h) (Or.inl ⟨by rfl, ?_⟩) hHeld ?_ ?_
                rotate_left
                · rintro w' ⟨s0, s1, s2, s3, s4, s5, s6, s7⟩
                  go_simp
                  with_reducible rfl
                rotate_left
                · simp only [Act.put, List.setIfInBounds_toArray, List.set_cons_zero, List.set_cons_succ, i64_w, i32_w]
                  rfl
                refine take_ (i := 9) (N := some 35) (v := ?_) (a' := ?_) #[true, true, true, true, true, true, true, true, true, true, false, false, false, false, false, false, false] rfl rfl (take_ofW HT_.out HW_.out (by kernel_rfl)) (fun _ _ _ h => h) (Or.inl ⟨by rfl, ?_⟩) hHeld ?_ ?_
                rotate_left
                · rintro w' ⟨s0, s1, s2, s3, s4, s5, s6, s7⟩
                  go_simp
                  with_reducible rfl
                rotate_left
                · simp only [Act.put, List.setIfInBounds_toArray, List.set_cons_zero, List.set_cons_succ, i64_w, i32_w]
                  rfl
                refine join_ (σ := Nat) 2 #[true, true, true, true, true, true, true, true, true, true, true, true, true, true, true, false, false] (fun s_ => [(36, .tuple #[.agg #[.int .i64 t159, .int .i64 t160], .bool t161]), (9, .pointer (some ⟨s_, 0, none⟩)), (25, .tuple #[.agg #[.int .i64 t159, .int .i64 t160], .bool t161]), (37, .agg #[.int .i64 t159, .int .i64 t160]), (38, .bool t161)]) (fun s_ w' => (w'.cell? ⟨gb156, 0, none⟩ = some (.int .i64 x157000_1) ∧ w'.cell? ⟨gb156, 1, none⟩ = some (.int .i64 x157001_1) ∧ w'.cell? (ad157.add ((ji12)).toNat) = some (.int .i64 (rd y153 (ji12))) ∧ w'.cell? (ad158.add ((x8_1).toNat * 5)) = some (.int .i64 ((rd_T25 l1 x8_1).f0)) ∧ w'.cell? ⟨(ad158.add ((x8_1).toNat * 5)).block, (ad158.add ((x8_1).toNat * 5)).off + 1, none⟩ = some (.int .i64 ((rd_T25 l1 x8_1).f1)) ∧ w'.cell? ⟨(ad158.add ((x8_1).toNat * 5)).block, (ad158.add ((x8_1).toNat * 5)).off + 2, none⟩ = some (.int .i64 ((rd_T25 l1 x8_1).f2)) ∧ w'.cell? ⟨(ad158.add ((x8_1).toNat * 5)).block, (ad158.add ((x8_1).toNat * 5)).off + 3, none⟩ = some (.int .i64 ((rd_T25 l1 x8_1).f3)) ∧ w'.cell? ⟨(ad158.add ((x8_1).toNat * 5)).block, (ad158.add ((x8_1).toNat * 5)).off + 4, none⟩ = some (.int .i64 ((rd_T25 l1 x8_1).f4))) ∧ (Kd.R (Kd.int .i64) 3 w' w.heap.size (fun _ => True) (.slice (some ad157) y153.length co19) y153) ∧ (w'.heap[gb156]? = some (.cells #[.int .i64 x157000_1, .int .i64 x157001_1] 27 (0, 0))) ∧ (w'.heap[s_]? = some (.cells #[.int .i64 0, .int .i64 0] 27 (0, 0))) ∧ (w.heap.size ≤ s_) ∧ (w.heap.size ≤ s_) ∧ (gb156 ≠ s_) ∧ (s_ ≠ gb156) ∧ (Below w.heap.size w w')) ?_ ?_
                rotate_left
                · intro hCont
                  refine two_ (i := 10) (j := 14) (Ni := some 36) (Nj := some 9) #[true, true, true, true, true, true, true, true, true, true, true, false, false, false, false, false, false] #[true, true, true, true, true, true, true, true, true, true, false, false, false, false, true, false, false] rfl rfl rfl rfl (two_of HT_.out (by kernel_rfl)) (by decide) (by decide) (fun K hK => ?_) (fun K hK => ?_)
                  · skip
                    refine goes_ Try.func10 (by kernel_rfl) rfl #[.int .i64 (rd y153 (ji12)), .agg #[.int .i64 x157000_1, .int .i64 x157001_1], .agg #[.int .i64 ((rd_T25 l1 x8_1).f0), .int .i64 ((rd_T25 l1 x8_1).f1), .int .i64 ((rd_T25 l1 x8_1).f2), .int .i64 ((rd_T25 l1 x8_1).f3), .int .i64 ((rd_T25 l1 x8_1).f4)]] (by rfl) rfl rfl (by (try simp only [List.map_toArray, List.map_cons, List.map_nil]); first | done | (simp only [hji12]; rfl) | rfl | (simp only [List.length_drop, List.length_take]; rfl)) ?_
                    with_reducible refine (track_Tell.calls (rd y153 (ji12)) x157000_1 x157001_1 ((rd_T25 l1 x8_1).f0) ((rd_T25 l1 x8_1).f1) ((rd_T25 l1 x8_1).f2) ((rd_T25 l1 x8_1).f3) ((rd_T25 l1 x8_1).f4) t159 t160 t161 _ A16.out).mono ?_
                    rintro e w20 ⟨rfl, hb⟩
                    have HS2_ := (hb.cell (World.block_lt_of_cell? _ _ (hHeld.2.2.1))).trans (hHeld.2.2.1)
                    refine ⟨_, rfl, ?_⟩
                    have n0_ := Aside0.mk (Kd.R_below (by (with_reducible repeat (first | apply Kd.R_alloc | apply Kd.R_drewN | apply Kd.R_drew)); exact HO_6.out) hb)
                    have n1_ := Aside0.mk (blk_below (g := gb156) (o := .cells #[.int .i64 x157000_1, .int .i64 x157001_1] 27 (0, 0)) (by (with_reducible repeat (first | refine blk_drewN ?_ _ | refine blk_drew ?_ | refine blk_alloc ?_ _)); exact BK156.out) hb)
                    have n2_ := Aside0.mk (below_step (by repeat (first | (with_reducible first | exact HB.out | apply below_alloc | apply pw_below_drewN | apply below_drew1 | refine below_set ?_ GE156.out) | exact HB.out)) hb)
                    clear HO_6
                    clear BK156
                    clear HB
                    have HO_6 := n0_
                    have BK156 := n1_
                    have HB := n2_
                    clear n0_ n1_ n2_
                    (try clear hb)
                    (try clear hb2)
                    (try clear hk)
                    (try clear hi)
                    refine hK.out _ _ ⟨(blk_cell BK156.out 0).trans rfl, (blk_cell BK156.out 1).trans rfl, HS2_, ((HB.out.cell (World.block_lt_of_cell? w _ hw158_0)).trans hw158_0), ((HB.out.cell (World.block_lt_of_cell? w _ hw158_1)).trans hw158_1), ((HB.out.cell (World.block_lt_of_cell? w _ hw158_2)).trans hw158_2), ((HB.out.cell (World.block_lt_of_cell? w _ hw158_3)).trans hw158_3), ((HB.out.cell (World.block_lt_of_cell? w _ hw158_4)).trans hw158_4)⟩ (fun hHeld => ?_)
                    clear hK K
                    refine norm_ (a' := ?_) ?_ ?_
                    rotate_left
                    · show Act.put _ (some 36) _ = _
                      simp only [Act.put, List.setIfInBounds_toArray, List.set_cons_zero, List.set_cons_succ, i64_w, i32_w]
                      rfl
                    refine pure_ (i := 11) (N := some 25) (v := ?_) (a' := ?_) #[true, true, true, true, true, true, true, true, true, true, true, true, false, false, false, false, false] rfl rfl (any_of HT_.out (by kernel_rfl)) (fun _ _ _ h => h) (Or.inl ⟨by rfl, ?_⟩) ?_ ?_
                    rotate_left
                    · intro w'
                      go_simp
                      with_reducible rfl
                    rotate_left
                    · simp only [Act.put, List.setIfInBounds_toArray, List.set_cons_zero, List.set_cons_succ, i64_w, i32_w]
                      rfl
                    refine pure_ (i := 12) (N := some 37) (v := ?_) (a' := ?_) #[true, true, true, true, true, true, true, true, true, true, true, true, true, false, false, false, false] rfl rfl (any_of HT_.out (by kernel_rfl)) (fun _ _ _ h => h) (Or.inl ⟨by rfl, ?_⟩) ?_ ?_
                    rotate_left
                    · intro w'
                      go_simp
                      with_reducible rfl
                    rotate_left
                    · simp only [Act.put, List.setIfInBounds_toArray, List.set_cons_zero, List.set_cons_succ, i64_w, i32_w]
                      rfl
                    refine pure_ (i := 13) (N := some 38) (v := ?_) (a' := ?_) #[true, true, true, true, true, true, true, true, true, true, true, true, true, true, false, false, false] rfl rfl (any_of HT_.out (by kernel_rfl)) (fun _ _ _ h => h) (Or.inl ⟨by rfl, ?_⟩) ?_ ?_
                    rotate_left
                    · intro w'
                      go_simp
                      with_reducible rfl
                    rotate_left
                    · simp only [Act.put, List.setIfInBounds_toArray, List.set_cons_zero, List.set_cons_succ, i64_w, i32_w]
                      rfl
                    refine one_ (i := 14) (N := some 9) #[true, true, true, true, true, true, true, true, true, true, true, true, true, true, true, false, false] rfl rfl (one_of HT_.out (by kernel_rfl)) (by decide) (fun K hK => ?_)
                    refine box_step ?hg (N := 9) ?hd (cs := #[.int .i64 0, .int .i64 0]) (t := 27) ?hr ?_; (case hd => rfl); (case hg => rfl); (case hr => first | (go_simp; done) | (go_simp; rfl))
                    intro gb162 hg w21 hbox hb
                    have HS2_ := (hb.cell (World.block_lt_of_cell? _ _ (hHeld.2.2.1))).trans (hHeld.2.2.1)
                    have n0_ := Aside0.mk (Kd.R_below (by (with_reducible repeat (first | apply Kd.R_alloc | apply Kd.R_drewN | apply Kd.R_drew)); exact HO_6.out) hb)
                    have n1_ := Aside0.mk (blk_below (g := gb156) (o := .cells #[.int .i64 x157000_1, .int .i64 x157001_1] 27 (0, 0)) (by (with_reducible repeat (first | refine blk_drewN ?_ _ | refine blk_drew ?_ | refine blk_alloc ?_ _)); exact BK156.out) hb)
                    have n2_ := Aside0.mk (below_step (by repeat (first | (with_reducible first | exact HB.out | apply below_alloc | apply pw_below_drewN | apply below_drew1 | refine below_set ?_ GE156.out) | exact HB.out)) hb)
                    have n3_ := Aside0.mk (hbox)
                    have n4_ := Aside0.mk ((by rw [hg]; exact (below_size (by repeat (first | (with_reducible first | exact HB.out | apply below_alloc | apply pw_below_drewN | apply below_drew1 | refine below_set ?_ GE156.out) | exact HB.out))) : w.heap.size ≤ gb162))
                    have n5_ := Aside0.mk ((by rw [hg]; exact (below_size (by repeat (first | (with_reducible first | exact HB.out | apply below_alloc | apply pw_below_drewN | apply below_drew1 | refine below_set ?_ GE156.out) | exact HB.out))) : w.heap.size ≤ gb162))
                    have n6_ := Aside0.mk ((by rw [hg]; exact Nat.ne_of_lt (blk_lt (g := gb156) (o := .cells #[.int .i64 x157000_1, .int .i64 x157001_1] 27 (0, 0)) (by (with_reducible repeat (first | refine blk_drewN ?_ _ | refine blk_drew ?_ | refine blk_alloc ?_ _)); exact BK156.out)) : gb156 ≠ gb162))
                    have n7_ := Aside0.mk ((by rw [hg]; exact Nat.ne_of_gt (blk_lt (g := gb156) (o := .cells #[.int .i64 x157000_1, .int .i64 x157001_1] 27 (0, 0)) (by (with_reducible repeat (first | refine blk_drewN ?_ _ | refine blk_drew ?_ | refine blk_alloc ?_ _)); exact BK156.out)) : gb162 ≠ gb156))
                    clear HO_6
                    clear BK156
                    clear HB
                    have HO_6 := n0_
                    have BK156 := n1_
                    have HB := n2_
                    have BK162 := n3_
                    have GW162 := n4_
                    have GE162 := n5_
                    have NB156_162 := n6_
                    have NB162_156 := n7_
                    clear n0_ n1_ n2_ n3_ n4_ n5_ n6_ n7_
                    clear hb hbox hg
                    refine hK.out _ _ ⟨(blk_cell BK156.out 0).trans rfl, (blk_cell BK156.out 1).trans rfl, HS2_, ((HB.out.cell (World.block_lt_of_cell? w _ hw158_0)).trans hw158_0), ((HB.out.cell (World.block_lt_of_cell? w _ hw158_1)).trans hw158_1), ((HB.out.cell (World.block_lt_of_cell? w _ hw158_2)).trans hw158_2), ((HB.out.cell (World.block_lt_of_cell? w _ hw158_3)).trans hw158_3), ((HB.out.cell (World.block_lt_of_cell? w _ hw158_4)).trans hw158_4)⟩ (fun hHeld => ?_)
                    clear hK K
                    refine norm_ (a' := ?_) ?_ ?_
                    rotate_left
                    · show Act.put _ (some 9) _ = _
                      simp only [Act.put, List.setIfInBounds_toArray, List.set_cons_zero, List.set_cons_succ, i64_w, i32_w]
                      rfl
                    exact norm_ (by simp only [putAll, Act.put, List.setIfInBounds_toArray, List.set_cons_zero, List.set_cons_succ]) (hCont (gb162) _ ⟨hHeld, (by (with_reducible repeat (first | apply Kd.R_alloc | apply Kd.R_drewN | apply Kd.R_drew)); exact HO_6.out), (by (with_reducible repeat (first | refine blk_drewN ?_ _ | refine blk_drew ?_ | refine blk_alloc ?_ _)); exact BK156.out), (by (with_reducible repeat (first | refine blk_drewN ?_ _ | refine blk_drew ?_ | refine blk_alloc ?_ _)); exact BK162.out), GW162.out, GE162.out, NB156_162.out, NB162_156.out, (by repeat (first | (with_reducible first | exact HB.out | apply below_alloc | apply pw_below_drewN | apply below_drew1 | refine below_set ?_ GE156.out | refine below_set ?_ GE162.out) | exact HB.out))⟩)
                  · skip
                    refine box_step ?hg (N := 9) ?hd (cs := #[.int .i64 0, .int .i64 0]) (t := 27) ?hr ?_; (case hd => rfl); (case hg => rfl); (case hr => first | (go_simp; done) | (go_simp; rfl))
                    intro gb162 hg w20 hbox hb
                    have HS2_ := (hb.cell (World.block_lt_of_cell? _ _ (hHeld.2.2.1))).trans (hHeld.2.2.1)
                    have n0_ := Aside0.mk (Kd.R_below (by (with_reducible repeat (first | apply Kd.R_alloc | apply Kd.R_drewN | apply Kd.R_drew)); exact HO_6.out) hb)
                    have n1_ := Aside0.mk (blk_below (g := gb156) (o := .cells #[.int .i64 x157000_1, .int .i64 x157001_1] 27 (0, 0)) (by (with_reducible repeat (first | refine blk_drewN ?_ _ | refine blk_drew ?_ | refine blk_alloc ?_ _)); exact BK156.out) hb)
                    have n2_ := Aside0.mk (below_step (by repeat (first | (with_reducible first | exact HB.out | apply below_alloc | apply pw_below_drewN | apply below_drew1 | refine below_set ?_ GE156.out) | exact HB.out)) hb)
                    have n3_ := Aside0.mk (hbox)
                    have n4_ := Aside0.mk ((by rw [hg]; exact (below_size (by repeat (first | (with_reducible first | exact HB.out | apply below_alloc | apply pw_below_drewN | apply below_drew1 | refine below_set ?_ GE156.out) | exact HB.out))) : w.heap.size ≤ gb162))
                    have n5_ := Aside0.mk ((by rw [hg]; exact (below_size (by repeat (first | (with_reducible first | exact HB.out | apply below_alloc | apply pw_below_drewN | apply below_drew1 | refine below_set ?_ GE156.out) | exact HB.out))) : w.heap.size ≤ gb162))
                    have n6_ := Aside0.mk ((by rw [hg]; exact Nat.ne_of_lt (blk_lt (g := gb156) (o := .cells #[.int .i64 x157000_1, .int .i64 x157001_1] 27 (0, 0)) (by (with_reducible repeat (first | refine blk_drewN ?_ _ | refine blk_drew ?_ | refine blk_alloc ?_ _)); exact BK156.out)) : gb156 ≠ gb162))
                    have n7_ := Aside0.mk ((by rw [hg]; exact Nat.ne_of_gt (blk_lt (g := gb156) (o := .cells #[.int .i64 x157000_1, .int .i64 x157001_1] 27 (0, 0)) (by (with_reducible repeat (first | refine blk_drewN ?_ _ | refine blk_drew ?_ | refine blk_alloc ?_ _)); exact BK156.out)) : gb162 ≠ gb156))
                    clear HO_6
                    clear BK156
                    clear HB
                    have HO_6 := n0_
                    have BK156 := n1_
                    have HB := n2_
                    have BK162 := n3_
                    have GW162 := n4_
                    have GE162 := n5_
                    have NB156_162 := n6_
                    have NB162_156 := n7_
                    clear n0_ n1_ n2_ n3_ n4_ n5_ n6_ n7_
                    clear hb hbox hg
                    refine hK.out _ _ ⟨(blk_cell BK156.out 0).trans rfl, (blk_cell BK156.out 1).trans rfl, HS2_, ((HB.out.cell (World.block_lt_of_cell? w _ hw158_0)).trans hw158_0), ((HB.out.cell (World.block_lt_of_cell? w _ hw158_1)).trans hw158_1), ((HB.out.cell (World.block_lt_of_cell? w _ hw158_2)).trans hw158_2), ((HB.out.cell (World.block_lt_of_cell? w _ hw158_3)).trans hw158_3), ((HB.out.cell (World.block_lt_of_cell? w _ hw158_4)).trans hw158_4)⟩ (fun hHeld => ?_)
                    clear hK K
                    refine norm_ (a' := ?_) ?_ ?_
                    rotate_left
                    · show Act.put _ (some 9) _ = _
                      simp only [Act.put, List.setIfInBounds_toArray, List.set_cons_zero, List.set_cons_succ, i64_w, i32_w]
                      rfl
                    refine one_ (i := 10) (N := some 36) #[true, true, true, true, true, true, true, true, true, true, true, false, false, false, true, false, false] rfl rfl (one_of HT_.out (by kernel_rfl)) (by decide) (fun K hK => ?_)
                    refine goes_ Try.func10 (by kernel_rfl) rfl #[.int .i64 (rd y153 (ji12)), .agg #[.int .i64 x157000_1, .int .i64 x157001_1], .agg #[.int .i64 ((rd_T25 l1 x8_1).f0), .int .i64 ((rd_T25 l1 x8_1).f1), .int .i64 ((rd_T25 l1 x8_1).f2), .int .i64 ((rd_T25 l1 x8_1).f3), .int .i64 ((rd_T25 l1 x8_1).f4)]] (by rfl) rfl rfl (by (try simp only [List.map_toArray, List.map_cons, List.map_nil]); first | done | (simp only [hji12]; rfl) | rfl | (simp only [List.length_drop, List.length_take]; rfl)) ?_
                    with_reducible refine (track_Tell.calls (rd y153 (ji12)) x157000_1 x157001_1 ((rd_T25 l1 x8_1).f0) ((rd_T25 l1 x8_1).f1) ((rd_T25 l1 x8_1).f2) ((rd_T25 l1 x8_1).f3) ((rd_T25 l1 x8_1).f4) t159 t160 t161 _ A16.out).mono ?_
                    rintro e w21 ⟨rfl, hb⟩
                    have HS2_ := (hb.cell (World.block_lt_of_cell? _ _ (hHeld.2.2.1))).trans (hHeld.2.2.1)
                    refine ⟨_, rfl, ?_⟩
                    have n0_ := Aside0.mk (Kd.R_below (by (with_reducible repeat (first | apply Kd.R_alloc | apply Kd.R_drewN | apply Kd.R_drew)); exact HO_6.out) hb)
                    have n1_ := Aside0.mk (blk_below (g := gb156) (o := .cells #[.int .i64 x157000_1, .int .i64 x157001_1] 27 (0, 0)) (by (with_reducible repeat (first | refine blk_drewN ?_ _ | refine blk_drew ?_ | refine blk_alloc ?_ _)); exact BK156.out) hb)
                    have n2_ := Aside0.mk (blk_below (g := gb162) (o := .cells #[.int .i64 0, .int .i64 0] 27 (0, 0)) (by (with_reducible repeat (first | refine blk_drewN ?_ _ | refine blk_drew ?_ | refine blk_alloc ?_ _)); exact BK162.out) hb)
                    have n3_ := Aside0.mk (below_step (by repeat (first | (with_reducible first | exact HB.out | apply below_alloc | apply pw_below_drewN | apply below_drew1 | refine below_set ?_ GE156.out | refine below_set ?_ GE162.out) | exact HB.out)) hb)
                    clear HO_6
                    clear BK156
                    clear BK162
                    clear HB
                    have HO_6 := n0_
                    have BK156 := n1_
                    have BK162 := n2_
                    have HB := n3_
                    clear n0_ n1_ n2_ n3_
                    (try clear hb)
                    (try clear hb2)
                    (try clear hk)
                    (try clear hi)
                    refine hK.out _ _ ⟨(blk_cell BK156.out 0).trans rfl, (blk_cell BK156.out 1).trans rfl, HS2_, ((HB.out.cell (World.block_lt_of_cell? w _ hw158_0)).trans hw158_0), ((HB.out.cell (World.block_lt_of_cell? w _ hw158_1)).trans hw158_1), ((HB.out.cell (World.block_lt_of_cell? w _ hw158_2)).trans hw158_2), ((HB.out.cell (World.block_lt_of_cell? w _ hw158_3)).trans hw158_3), ((HB.out.cell (World.block_lt_of_cell? w _ hw158_4)).trans hw158_4)⟩ (fun hHeld => ?_)
                    clear hK K
                    refine norm_ (a' := ?_) ?_ ?_
                    rotate_left
                    · show Act.put _ (some 36) _ = _
                      simp only [Act.put, List.setIfInBounds_toArray, List.set_cons_zero, List.set_cons_succ, i64_w, i32_w]
                      rfl
                    refine pure_ (i := 11) (N := some 25) (v := ?_) (a' := ?_) #[true, true, true, true, true, true, true, true, true, true, true, true, false, false, true, false, false] rfl rfl (any_of HT_.out (by kernel_rfl)) (fun _ _ _ h => h) (Or.inl ⟨by rfl, ?_⟩) ?_ ?_
                    rotate_left
                    · intro w'
                      go_simp
                      with_reducible rfl
                    rotate_left
                    · simp only [Act.put, List.setIfInBounds_toArray, List.set_cons_zero, List.set_cons_succ, i64_w, i32_w]
                      rfl
                    refine pure_ (i := 12) (N := some 37) (v := ?_) (a' := ?_) #[true, true, true, true, true, true, true, true, true, true, true, true, true, false, true, false, false] rfl rfl (any_of HT_.out (by kernel_rfl)) (fun _ _ _ h => h) (Or.inl ⟨by rfl, ?_⟩) ?_ ?_
                    rotate_left
                    · intro w'
                      go_simp
                      with_reducible rfl
                    rotate_left
                    · simp only [Act.put, List.setIfInBounds_toArray, List.set_cons_zero, List.set_cons_succ, i64_w, i32_w]
                      rfl
                    refine pure_ (i := 13) (N := some 38) (v := ?_) (a' := ?_) #[true, true, true, true, true, true, true, true, true, true, true, true, true, true, true, false, false] rfl rfl (any_of HT_.out (by kernel_rfl)) (fun _ _ _ h => h) (Or.inl ⟨by rfl, ?_⟩) ?_ ?_
                    rotate_left
                    · intro w'
                      go_simp
                      with_reducible rfl
                    rotate_left
                    · simp only [Act.put, List.setIfInBounds_toArray, List.set_cons_zero, List.set_cons_succ, i64_w, i32_w]
                      rfl
                    exact norm_ (by simp only [putAll, Act.put, List.setIfInBounds_toArray, List.set_cons_zero, List.set_cons_succ]) (hCont (gb162) _ ⟨hHeld, (by (with_reducible repeat (first | apply Kd.R_alloc | apply Kd.R_drewN | apply Kd.R_drew)); exact HO_6.out), (by (with_reducible repeat (first | refine blk_drewN ?_ _ | refine blk_drew ?_ | refine blk_alloc ?_ _)); exact BK156.out), (by (with_reducible repeat (first | refine blk_drewN ?_ _ | refine blk_drew ?_ | refine blk_alloc ?_ _)); exact BK162.out), GW162.out, GE162.out, NB156_162.out, NB162_156.out, (by repeat (first | (with_reducible first | exact HB.out | apply below_alloc | apply pw_below_drewN | apply below_drew1 | refine below_set ?_ GE156.out | refine below_set ?_ GE162.out) | exact HB.out))⟩)
                rintro gb162 w22 ⟨hS_, h0_, h1_, h2_, h3_, h4_, h5_, h6_, h7_⟩
                have n0_ : Aside0 (Kd.R (Kd.int .i64) 3 w22 w.heap.size (fun _ => True) (.slice (some ad157) y153.length co19) y153) := ⟨h0_⟩
                have n1_ : Aside0 (w22.heap[gb156]? = some (.cells #[.int .i64 x157000_1, .int .i64 x157001_1] 27 (0, 0))) := ⟨h1_⟩
                have n2_ : Aside0 (w22.heap[gb162]? = some (.cells #[.int .i64 0, .int .i64 0] 27 (0, 0))) := ⟨h2_⟩
                have n3_ : Aside0 (w.heap.size ≤ gb162) := ⟨h3_⟩
                have n4_ : Aside0 (w.heap.size ≤ gb162) := ⟨h4_⟩
                have n5_ : Aside0 (gb156 ≠ gb162) := ⟨h5_⟩
                have n6_ : Aside0 (gb162 ≠ gb156) := ⟨h6_⟩
                have n7_ : Aside0 (Below w.heap.size w w22) := ⟨h7_⟩
                clear HO_6
                clear BK156
                clear HB
                clear h0_ h1_ h2_ h3_ h4_ h5_ h6_ h7_
                have HO_6 := n0_
                have BK156 := n1_
                have BK162 := n2_
                have GW162 := n3_
                have GE162 := n4_
                have NB156_162 := n5_
                have NB162_156 := n6_
                have HB := n7_
                clear n0_ n1_ n2_ n3_ n4_ n5_ n6_ n7_
                have hHeld : w22.cell? ⟨gb156, 0, none⟩ = some (.int .i64 x157000_1) ∧ w22.cell? ⟨gb156, 1, none⟩ = some (.int .i64 x157001_1) ∧ w22.cell? (ad157.add ((ji12)).toNat) = some (.int .i64 (rd y153 (ji12))) ∧ w22.cell? (ad158.add ((x8_1).toNat * 5)) = some (.int .i64 ((rd_T25 l1 x8_1).f0)) ∧ w22.cell? ⟨(ad158.add ((x8_1).toNat * 5)).block, (ad158.add ((x8_1).toNat * 5)).off + 1, none⟩ = some (.int .i64 ((rd_T25 l1 x8_1).f1)) ∧ w22.cell? ⟨(ad158.add ((x8_1).toNat * 5)).block, (ad158.add ((x8_1).toNat * 5)).off + 2, none⟩ = some (.int .i64 ((rd_T25 l1 x8_1).f2)) ∧ w22.cell? ⟨(ad158.add ((x8_1).toNat * 5)).block, (ad158.add ((x8_1).toNat * 5)).off + 3, none⟩ = some (.int .i64 ((rd_T25 l1 x8_1).f3)) ∧ w22.cell? ⟨(ad158.add ((x8_1).toNat * 5)).block, (ad158.add ((x8_1).toNat * 5)).off + 4, none⟩ = some (.int .i64 ((rd_T25 l1 x8_1).f4)) := hS_
                refine norm_ (a' := ?_) ?_ ?_
                rotate_left
                · simp only [putAll, Act.put, List.setIfInBounds_toArray, List.set_cons_zero, List.set_cons_succ]
                  rfl
                refine one_ (i := 15) (N := none) #[true, true, true, true, true, true, true, true, true, true, true, true, true, true, true, true, false] rfl rfl (one_of HT_.out (by kernel_rfl)) (by decide) (fun K hK => ?_)
                have hs23 : w22.cell? ⟨gb162, 0, none⟩ = some (.int .i64 0) := (blk_cell BK162.out 0).trans rfl
                have hfs23 := blk_frozen BK162.out 0
                have hns23_0 := NB156_162.out
                have hms23_0 := NB162_156.out
                have hs24 : w22.cell? ⟨gb162, 1, none⟩ = some (.int .i64 0) := (blk_cell BK162.out 1).trans rfl
                have hfs24 := blk_frozen BK162.out 1
                have hns24_0 := NB156_162.out
                have hms24_0 := NB162_156.out
                refine skip_ (w1 := ?_) (by rfl) rfl ?_ ?_
                rotate_left
                · go_simp
                  rfl
                refine hK.out _ _ ⟨((cell_far (p := ⟨gb162, _, none⟩) NB156_162.out _).trans (((cell_far (p := ⟨gb162, _, none⟩) NB156_162.out _).trans (hHeld.1)))), ((cell_far (p := ⟨gb162, _, none⟩) NB156_162.out _).trans (((cell_far (p := ⟨gb162, _, none⟩) NB156_162.out _).trans (hHeld.2.1)))), ((cell_far (p := ⟨gb162, _, none⟩) (by first | exact Kd.own_blk (Kd.R_ne HO_6.out BK162.out (by decide)) | (rw [add_block]; exact Kd.own_blk (Kd.R_ne HO_6.out BK162.out (by decide))) | (show (Addr.add _ _).block ≠ _; rw [add_block]; exact Kd.own_blk (Kd.R_ne HO_6.out BK162.out (by decide))) | (dsimp only; exact Kd.own_blk (Kd.R_ne HO_6.out BK162.out (by decide)))) _).trans (((cell_far (p := ⟨gb162, _, none⟩) (by first | exact Kd.own_blk (Kd.R_ne HO_6.out BK162.out (by decide)) | (rw [add_block]; exact Kd.own_blk (Kd.R_ne HO_6.out BK162.out (by decide))) | (show (Addr.add _ _).block ≠ _; rw [add_block]; exact Kd.own_blk (Kd.R_ne HO_6.out BK162.out (by decide))) | (dsimp only; exact Kd.own_blk (Kd.R_ne HO_6.out BK162.out (by decide)))) _).trans (hHeld.2.2.1)))), ((cell_far (p := ⟨gb162, _, none⟩) (by first | exact Nat.ne_of_lt (Nat.lt_of_lt_of_le (by have := World.block_lt_of_cell? _ _ hw158_0; first | rwa [add_block] at this | exact this) GW162.out) | (rw [add_block]; exact Nat.ne_of_lt (Nat.lt_of_lt_of_le (by have := World.block_lt_of_cell? _ _ hw158_0; first | rwa [add_block] at this | exact this) GW162.out)) | (show (Addr.add _ _).block ≠ _; rw [add_block]; exact Nat.ne_of_lt (Nat.lt_of_lt_of_le (by have := World.block_lt_of_cell? _ _ hw158_0; first | rwa [add_block] at this | exact this) GW162.out)) | (dsimp only; exact Nat.ne_of_lt (Nat.lt_of_lt_of_le (by have := World.block_lt_of_cell? _ _ hw158_0; first | rwa [add_block] at this | exact this) GW162.out))) _).trans (((cell_far (p := ⟨gb162, _, none⟩) (by first | exact Nat.ne_of_lt (Nat.lt_of_lt_of_le (by have := World.block_lt_of_cell? _ _ hw158_0; first | rwa [add_block] at this | exact this) GW162.out) | (rw [add_block]; exact Nat.ne_of_lt (Nat.lt_of_lt_of_le (by have := World.block_lt_of_cell? _ _ hw158_0; first | rwa [add_block] at this | exact this) GW162.out)) | (show (Addr.add _ _).block ≠ _; rw [add_block]; exact Nat.ne_of_lt (Nat.lt_of_lt_of_le (by have := World.block_lt_of_cell? _ _ hw158_0; first | rwa [add_block] at this | exact this) GW162.out)) | (dsimp only; exact Nat.ne_of_lt (Nat.lt_of_lt_of_le (by have := World.block_lt_of_cell? _ _ hw158_0; first | rwa [add_block] at this | exact this) GW162.out))) _).trans (hHeld.2.2.2.1)))), ((cell_far (p := ⟨gb162, _, none⟩) (by first | exact Nat.ne_of_lt (Nat.lt_of_lt_of_le (by have := World.block_lt_of_cell? _ _ hw158_1; first | rwa [add_block] at this | exact this) GW162.out) | (rw [add_block]; exact Nat.ne_of_lt (Nat.lt_of_lt_of_le (by have := World.block_lt_of_cell? _ _ hw158_1; first | rwa [add_block] at this | exact this) GW162.out)) | (show (Addr.add _ _).block ≠ _; rw [add_block]; exact Nat.ne_of_lt (Nat.lt_of_lt_of_le (by have := World.block_lt_of_cell? _ _ hw158_1; first | rwa [add_block] at this | exact this) GW162.out)) | (dsimp only; exact Nat.ne_of_lt (Nat.lt_of_lt_of_le (by have := World.block_lt_of_cell? _ _ hw158_1; first | rwa [add_block] at this | exact this) GW162.out))) _).trans (((cell_far (p := ⟨gb162, _, none⟩) (by first | exact Nat.ne_of_lt (Nat.lt_of_lt_of_le (by have := World.block_lt_of_cell? _ _ hw158_1; first | rwa [add_block] at this | exact this) GW162.out) | (rw [add_block]; exact Nat.ne_of_lt (Nat.lt_of_lt_of_le (by have := World.block_lt_of_cell? _ _ hw158_1; first | rwa [add_block] at this | exact this) GW162.out)) | (show (Addr.add _ _).block ≠ _; rw [add_block]; exact Nat.ne_of_lt (Nat.lt_of_lt_of_le (by have := World.block_lt_of_cell? _ _ hw158_1; first | rwa [add_block] at this | exact this) GW162.out)) | (dsimp only; exact Nat.ne_of_lt (Nat.lt_of_lt_of_le (by have := World.block_lt_of_cell? _ _ hw158_1; first | rwa [add_block] at this | exact this) GW162.out))) _).trans (hHeld.2.2.2.2.1)))), ((cell_far (p := ⟨gb162, _, none⟩) (by first | exact Nat.ne_of_lt (Nat.lt_of_lt_of_le (by have := World.block_lt_of_cell? _ _ hw158_2; first | rwa [add_block] at this | exact this) GW162.out) | (rw [add_block]; exact Nat.ne_of_lt (Nat.lt_of_lt_of_le (by have := World.block_lt_of_cell? _ _ hw158_2; first | rwa [add_block] at this | exact this) GW162.out)) | (show (Addr.add _ _).block ≠ _; rw [add_block]; exact Nat.ne_of_lt (Nat.lt_of_lt_of_le (by have := World.block_lt_of_cell? _ _ hw158_2; first | rwa [add_block] at this | exact this) GW162.out)) | (dsimp only; exact Nat.ne_of_lt (Nat.lt_of_lt_of_le (by have := World.block_lt_of_cell? _ _ hw158_2; first | rwa [add_block] at this | exact this) GW162.out))) _).trans (((cell_far (p := ⟨gb162, _, none⟩) (by first | exact Nat.ne_of_lt (Nat.lt_of_lt_of_le (by have := World.block_lt_of_cell? _ _ hw158_2; first | rwa [add_block] at this | exact this) GW162.out) | (rw [add_block]; exact Nat.ne_of_lt (Nat.lt_of_lt_of_le (by have := World.block_lt_of_cell? _ _ hw158_2; first | rwa [add_block] at this | exact this) GW162.out)) | (show (Addr.add _ _).block ≠ _; rw [add_block]; exact Nat.ne_of_lt (Nat.lt_of_lt_of_le (by have := World.block_lt_of_cell? _ _ hw158_2; first | rwa [add_block] at this | exact this) GW162.out)) | (dsimp only; exact Nat.ne_of_lt (Nat.lt_of_lt_of_le (by have := World.block_lt_of_cell? _ _ hw158_2; first | rwa [add_block] at this | exact this) GW162.out))) _).trans (hHeld.2.2.2.2.2.1)))), ((cell_far (p := ⟨gb162, _, none⟩) (by first | exact Nat.ne_of_lt (Nat.lt_of_lt_of_le (by have := World.block_lt_of_cell? _ _ hw158_3; first | rwa [add_block] at this | exact this) GW162.out) | (rw [add_block]; exact Nat.ne_of_lt (Nat.lt_of_lt_of_le (by have := World.block_lt_of_cell? _ _ hw158_3; first | rwa [add_block] at this | exact this) GW162.out)) | (show (Addr.add _ _).block ≠ _; rw [add_block]; exact Nat.ne_of_lt (Nat.lt_of_lt_of_le (by have := World.block_lt_of_cell? _ _ hw158_3; first | rwa [add_block] at this | exact this) GW162.out)) | (dsimp only; exact Nat.ne_of_lt (Nat.lt_of_lt_of_le (by have := World.block_lt_of_cell? _ _ hw158_3; first | rwa [add_block] at this | exact this) GW162.out))) _).trans (((cell_far (p := ⟨gb162, _, none⟩) (by first | exact Nat.ne_of_lt (Nat.lt_of_lt_of_le (by have := World.block_lt_of_cell? _ _ hw158_3; first | rwa [add_block] at this | exact this) GW162.out) | (rw [add_block]; exact Nat.ne_of_lt (Nat.lt_of_lt_of_le (by have := World.block_lt_of_cell? _ _ hw158_3; first | rwa [add_block] at this | exact this) GW162.out)) | (show (Addr.add _ _).block ≠ _; rw [add_block]; exact Nat.ne_of_lt (Nat.lt_of_lt_of_le (by have := World.block_lt_of_cell? _ _ hw158_3; first | rwa [add_block] at this | exact this) GW162.out)) | (dsimp only; exact Nat.ne_of_lt (Nat.lt_of_lt_of_le (by have := World.block_lt_of_cell? _ _ hw158_3; first | rwa [add_block] at this | exact this) GW162.out))) _).trans (hHeld.2.2.2.2.2.2.1)))), ((cell_far (p := ⟨gb162, _, none⟩) (by first | exact Nat.ne_of_lt (Nat.lt_of_lt_of_le (by have := World.block_lt_of_cell? _ _ hw158_4; first | rwa [add_block] at this | exact this) GW162.out) | (rw [add_block]; exact Nat.ne_of_lt (Nat.lt_of_lt_of_le (by have := World.block_lt_of_cell? _ _ hw158_4; first | rwa [add_block] at this | exact this) GW162.out)) | (show (Addr.add _ _).block ≠ _; rw [add_block]; exact Nat.ne_of_lt (Nat.lt_of_lt_of_le (by have := World.block_lt_of_cell? _ _ hw158_4; first | rwa [add_block] at this | exact this) GW162.out)) | (dsimp only; exact Nat.ne_of_lt (Nat.lt_of_lt_of_le (by have := World.block_lt_of_cell? _ _ hw158_4; first | rwa [add_block] at this | exact this) GW162.out))) _).trans (((cell_far (p := ⟨gb162, _, none⟩) (by first | exact Nat.ne_of_lt (Nat.lt_of_lt_of_le (by have := World.block_lt_of_cell? _ _ hw158_4; first | rwa [add_block] at this | exact this) GW162.out) | (rw [add_block]; exact Nat.ne_of_lt (Nat.lt_of_lt_of_le (by have := World.block_lt_of_cell? _ _ hw158_4; first | rwa [add_block] at this | exact this) GW162.out)) | (show (Addr.add _ _).block ≠ _; rw [add_block]; exact Nat.ne_of_lt (Nat.lt_of_lt_of_le (by have := World.block_lt_of_cell? _ _ hw158_4; first | rwa [add_block] at this | exact this) GW162.out)) | (dsimp only; exact Nat.ne_of_lt (Nat.lt_of_lt_of_le (by have := World.block_lt_of_cell? _ _ hw158_4; first | rwa [add_block] at this | exact this) GW162.out))) _).trans (hHeld.2.2.2.2.2.2.2))))⟩ (fun hHeld => ?_)
                clear hK K
                refine pure_ (i := 16) (N := some 10) (v := ?_) (a' := ?_) #[true, true, true, true, true, true, true, true, true, true, true, true, true, true, true, true, true] rfl rfl (any_of HT_.out (by kernel_rfl)) (fun _ _ _ h => h) (Or.inl ⟨by rfl, ?_⟩) ?_ ?_
                rotate_left
                · intro w'
                  go_simp
                  with_reducible rfl
                rotate_left
                · simp only [Act.put, List.setIfInBounds_toArray, List.set_cons_zero, List.set_cons_succ, i64_w, i32_w]
                  rfl
                refine done_ (done_of HT_.out (by kernel_rfl)) ?_
                try go_wp2
                have n0_ : Aside0 (Kd.R (Kd.int .i64) 3 ((w22.setCell ⟨gb162, 0, none⟩ (.int .i64 t159)).setCell ⟨gb162, 1, none⟩ (.int .i64 t160)) w.heap.size (fun _ => True) (.slice (some ad157) y153.length co19) y153) := ⟨by (with_reducible repeat (first | apply Kd.R_alloc | apply Kd.R_drewN | apply Kd.R_drew)); exact Kd.R_mono (Kd.R_far (p := ⟨gb162, 1, none⟩) (Kd.R_far (p := ⟨gb162, 0, none⟩) (Kd.R_types HO_6.out BK162.out (by decide)) (fun _ hk => hk.2) (.int .i64 t159)) (fun _ hk => hk.2) (.int .i64 t160)) (fun _ hk => trivial)⟩
                have n1_ : Aside0 (((w22.setCell ⟨gb162, 0, none⟩ (.int .i64 t159)).setCell ⟨gb162, 1, none⟩ (.int .i64 t160)).heap[gb156]? = some (.cells #[.int .i64 x157000_1, .int .i64 x157001_1] 27 (0, 0))) := ⟨by (with_reducible repeat (first | refine blk_drewN ?_ _ | refine blk_drew ?_ | refine blk_alloc ?_ _)); refine blk_far ?_ NB156_162.out _; (with_reducible repeat (first | refine blk_drewN ?_ _ | refine blk_drew ?_ | refine blk_alloc ?_ _)); refine blk_far ?_ NB156_162.out _; (with_reducible repeat (first | refine blk_drewN ?_ _ | refine blk_drew ?_ | refine blk_alloc ?_ _)); exact BK156.out⟩
                have n2_ : Aside0 (((w22.setCell ⟨gb162, 0, none⟩ (.int .i64 t159)).setCell ⟨gb162, 1, none⟩ (.int .i64 t160)).heap[gb162]? = some (.cells #[.int .i64 t159, .int .i64 t160] 27 (0, 0))) := ⟨by (with_reducible repeat (first | refine blk_drewN ?_ _ | refine blk_drew ?_ | refine blk_alloc ?_ _)); refine blk_put (cs := #[.int .i64 t159, .int .i64 0]) ?_ 1 _ rfl; (with_reducible repeat (first | refine blk_drewN ?_ _ | refine blk_drew ?_ | refine blk_alloc ?_ _)); refine blk_put (cs := #[.int .i64 0, .int .i64 0]) ?_ 0 _ rfl; (with_reducible repeat (first | refine blk_drewN ?_ _ | refine blk_drew ?_ | refine blk_alloc ?_ _)); exact BK162.out⟩
                have n3_ : Aside0 (Below w.heap.size w ((w22.setCell ⟨gb162, 0, none⟩ (.int .i64 t159)).setCell ⟨gb162, 1, none⟩ (.int .i64 t160))) := ⟨by repeat (first | (with_reducible first | exact HB.out | apply below_alloc | apply pw_below_drewN | apply below_drew1 | refine below_set ?_ GE156.out | refine below_set ?_ GE162.out) | exact HB.out)⟩
                (try clear HO_6)
                (try clear BK156)
                (try clear BK162)
                (try clear HB)
                generalize ((w22.setCell ⟨gb162, 0, none⟩ (.int .i64 t159)).setCell ⟨gb162, 1, none⟩ (.int .i64 t160)) = w25 at n0_ n1_ n2_ n3_ ⊢
                have HO_6 := n0_
                have BK156 := n1_
                have BK162 := n2_
                have HB := n3_
                clear n0_ n1_ n2_ n3_
                have n0_ := Aside0.mk (Kd.R_drew HO_6.out)
                have n1_ := Aside0.mk (blk_drew BK156.out)
                have n2_ := Aside0.mk (blk_drew BK162.out)
                have n3_ := Aside0.mk (below_drew1 HB.out)
                clear HO_6
                clear BK156
                clear BK162
                clear HB
                have HO_6 := n0_
                have BK156 := n1_
                have BK162 := n2_
                have HB := n3_
                clear n0_ n1_ n2_ n3_
                have p163 : 0 ≤ (x8_1 : Int) := of_decide_eq_true (by first | (with_reducible assumption) | assumption)
                have q163 : x8_1 < (l1.length : Int) := of_decide_eq_true (by first | (with_reducible assumption) | assumption)
                obtain ⟨ad163, e163, hx163_0, hx163_1, hx163_2, hx163_3, hx163_4⟩ := at_T25 HR1.out x8_1 p163 q163
                have hw163_4 := hx163_4
                have hw163_3 := hx163_3
                have hw163_2 := hx163_2
                have hw163_1 := hx163_1
                have hw163_0 := hx163_0
                obtain rfl : ad158 = ad163 := (by injection e163)
                replace hx163_0 := (HB.out.cell (World.block_lt_of_cell? w _ hx163_0)).trans hx163_0
                replace hx163_1 := (HB.out.cell (World.block_lt_of_cell? w _ hx163_1)).trans hx163_1
                replace hx163_2 := (HB.out.cell (World.block_lt_of_cell? w _ hx163_2)).trans hx163_2
                replace hx163_3 := (HB.out.cell (World.block_lt_of_cell? w _ hx163_3)).trans hx163_3
                replace hx163_4 := (HB.out.cell (World.block_lt_of_cell? w _ hx163_4)).trans hx163_4
                replace p163 := eq_true p163
                replace q163 := eq_true q163
                have p164 : 0 ≤ (x8_1 : Int) := of_decide_eq_true (by first | (with_reducible assumption) | assumption)
                have q164 : x8_1 < (l1.length : Int) := of_decide_eq_true (by first | (with_reducible assumption) | assumption)
                obtain ⟨ad164, e164, hx164_0, hx164_1, hx164_2, hx164_3, hx164_4⟩ := at_T25 HR1.out x8_1 p164 q164
                have hw164_4 := hx164_4
                have hw164_3 := hx164_3
                have hw164_2 := hx164_2
                have hw164_1 := hx164_1
                have hw164_0 := hx164_0
                obtain rfl : ad158 = ad164 := (by injection e164)
                replace hx164_0 := (HB.out.cell (World.block_lt_of_cell? w _ hx164_0)).trans hx164_0
                replace hx164_1 := (HB.out.cell (World.block_lt_of_cell? w _ hx164_1)).trans hx164_1
                replace hx164_2 := (HB.out.cell (World.block_lt_of_cell? w _ hx164_2)).trans hx164_2
                replace hx164_3 := (HB.out.cell (World.block_lt_of_cell? w _ hx164_3)).trans hx164_3
                replace hx164_4 := (HB.out.cell (World.block_lt_of_cell? w _ hx164_4)).trans hx164_4
                replace p164 := eq_true p164
                replace q164 := eq_true q164
                refine start_ (n := 13) (S := fun w' => w'.cell? (ad158.add ((x8_1).toNat * 5)) = some (.int .i64 ((rd_T25 l1 x8_1).f0)) ∧ w'.cell? ⟨(ad158.add ((x8_1).toNat * 5)).block, (ad158.add ((x8_1).toNat * 5)).off + 1, none⟩ = some (.int .i64 ((rd_T25 l1 x8_1).f1)) ∧ w'.cell? ⟨(ad158.add ((x8_1).toNat * 5)).block, (ad158.add ((x8_1).toNat * 5)).off + 2, none⟩ = some (.int .i64 ((rd_T25 l1 x8_1).f2)) ∧ w'.cell? ⟨(ad158.add ((x8_1).toNat * 5)).block, (ad158.add ((x8_1).toNat * 5)).off + 3, none⟩ = some (.int .i64 ((rd_T25 l1 x8_1).f3)) ∧ w'.cell? ⟨(ad158.add ((x8_1).toNat * 5)).block, (ad158.add ((x8_1).toNat * 5)).off + 4, none⟩ = some (.int .i64 ((rd_T25 l1 x8_1).f4)) ∧ w'.cell? (ad158.add ((x8_1).toNat * 5)) = some (.int .i64 ((rd_T25 l1 x8_1).f0)) ∧ w'.cell? ⟨(ad158.add ((x8_1).toNat * 5)).block, (ad158.add ((x8_1).toNat * 5)).off + 1, none⟩ = some (.int .i64 ((rd_T25 l1 x8_1).f1)) ∧ w'.cell? ⟨(ad158.add ((x8_1).toNat * 5)).block, (ad158.add ((x8_1).toNat * 5)).off + 2, none⟩ = some (.int .i64 ((rd_T25 l1 x8_1).f2)) ∧ w'.cell? ⟨(ad158.add ((x8_1).toNat * 5)).block, (ad158.add ((x8_1).toNat * 5)).off + 3, none⟩ = some (.int .i64 ((rd_T25 l1 x8_1).f3)) ∧ w'.cell? ⟨(ad158.add ((x8_1).toNat * 5)).block, (ad158.add ((x8_1).toNat * 5)).off + 4, none⟩ = some (.int .i64 ((rd_T25 l1 x8_1).f4))) (ds := []) #[false, false, false, false, false, false, false, false, false, false, false, false, false] (by kernel_rfl) rfl rfl ⟨((HB.out.cell (World.block_lt_of_cell? w _ hw163_0)).trans hw163_0), ((HB.out.cell (World.block_lt_of_cell? w _ hw163_1)).trans hw163_1), ((HB.out.cell (World.block_lt_of_cell? w _ hw163_2)).trans hw163_2), ((HB.out.cell (World.block_lt_of_cell? w _ hw163_3)).trans hw163_3), ((HB.out.cell (World.block_lt_of_cell? w _ hw163_4)).trans hw163_4), ((HB.out.cell (World.block_lt_of_cell? w _ hw164_0)).trans hw164_0), ((HB.out.cell (World.block_lt_of_cell? w _ hw164_1)).trans hw164_1), ((HB.out.cell (World.block_lt_of_cell? w _ hw164_2)).trans hw164_2), ((HB.out.cell (World.block_lt_of_cell? w _ hw164_3)).trans hw164_3), ((HB.out.cell (World.block_lt_of_cell? w _ hw164_4)).trans hw164_4)⟩ (fun hHeld => ?_); refine with_tabW clavierlaw15_TrackOnce.tab10 clavierlaw15_TrackOnce.bits10 (fun HT_ HW_ => ?_)
                generalize w25.drew = w26 at HO_6 BK156 BK162 HB hx163_0 hx163_1 hx163_2 hx163_3 hx163_4 hx164_0 hx164_1 hx164_2 hx164_3 hx164_4 hHeld ⊢
                refine pure_ (i := 0) (N := some 39) (v := ?_) (a' := ?_) #[true, false, false, false, false, false, false, false, false, false, false, false, false] rfl rfl (any_of HT_.out (by kernel_rfl)) (fun _ _ _ h => h) (Or.inl ⟨by rfl, ?_⟩) ?_ ?_
                rotate_left
                · intro w'
                  go_simp
                  with_reducible rfl
                rotate_left
                · simp only [Act.put, List.setIfInBounds_toArray, List.set_cons_zero, List.set_cons_succ, i64_w, i32_w]
                  rfl
                refine pure_ (i := 1) (N := some 40) (v := ?_) (a' := ?_) #[true, true, false, false, false, false, false, false, false, false, false, false, false] rfl rfl (any_of HT_.out (by kernel_rfl)) (fun _ _ _ h => h) (Or.inl ⟨by rfl, ?_⟩) ?_ ?_
                rotate_left
                · intro w'
                  go_simp
                  with_reducible rfl
                rotate_left
                · simp only [Act.put, List.setIfInBounds_toArray, List.set_cons_zero, List.set_cons_succ, i64_w, i32_w]
                  rfl
                refine pure_ (i := 2) (N := some 41) (v := ?_) (a' := ?_) #[true, true, true, false, false, false, false, false, false, false, false, false, false] rfl rfl (any_of HT_.out (by kernel_rfl)) (fun _ _ _ h => h) (Or.inl ⟨by rfl, ?_⟩) ?_ ?_
                rotate_left
                · intro w'
                  go_simp
                  with_reducible rfl
                rotate_left
                · simp only [Act.put, List.setIfInBounds_toArray, List.set_cons_zero, List.set_cons_succ, i64_w, i32_w]
                  rfl
                refine pure_ (i := 3) (N := some 42) (v := ?_) (a' := ?_) #[true, true, true, true, false, false, false, false, false, false, false, false, false] rfl rfl (any_of HT_.out (by kernel_rfl)) (fun _ _ _ h => h) (Or.inl ⟨by rfl, ?_⟩) ?_ ?_
                rotate_left
                · intro w'
                  go_simp
                  with_reducible rfl
                rotate_left
                · simp only [Act.put, List.setIfInBounds_toArray, List.set_cons_zero, List.set_cons_succ, i64_w, i32_w]
                  rfl
                refine pure_ (i := 5) (N := some 44) (v := ?_) (a' := ?_) #[true, true, true, true, false, true, false, false, false, false, false, false, false] rfl rfl (any_of HT_.out (by kernel_rfl)) (fun _ _ _ h => h) (Or.inl ⟨by rfl, ?_⟩) ?_ ?_
                rotate_left
                · intro w'
                  go_simp
                  with_reducible rfl
                rotate_left
                · simp only [Act.put, List.setIfInBounds_toArray, List.set_cons_zero, List.set_cons_succ, i64_w, i32_w]
                  rfl
                refine pure_ (i := 6) (N := some 45) (v := ?_) (a' := ?_) #[true, true, true, true, false, true, true, false, false, false, false, false, false] rfl rfl (any_of HT_.out (by kernel_rfl)) (fun _ _ _ h => h) (Or.inl ⟨by rfl, ?_⟩) ?_ ?_
                rotate_left
                · intro w'
                  go_simp
                  with_reducible rfl
                rotate_left
                · simp only [Act.put, List.setIfInBounds_toArray, List.set_cons_zero, List.set_cons_succ, i64_w, i32_w]
                  rfl
                refine pure_ (i := 7) (N := some 46) (v := ?_) (a' := ?_) #[true, true, true, true, false, true, true, true, false, false, false, false, false] rfl rfl (any_of HT_.out (by kernel_rfl)) (fun _ _ _ h => h) (Or.inl ⟨by rfl, ?_⟩) ?_ ?_
                rotate_left
                · intro w'
                  go_simp
                  with_reducible rfl
                rotate_left
                · simp only [Act.put, List.setIfInBounds_toArray, List.set_cons_zero, List.set_cons_succ, i64_w, i32_w]
                  rfl
                refine pure_ (i := 8) (N := some 47) (v := ?_) (a' := ?_) #[true, true, true, true, false, true, true, true, true, false, false, false, false] rfl rfl (any_of HT_.out (by kernel_rfl)) (fun _ _ _ h => h) (Or.inl ⟨by rfl, ?_⟩) ?_ ?_
                rotate_left
                · intro w'
                  go_simp
                  with_reducible rfl
                rotate_left
                · simp only [Act.put, List.setIfInBounds_toArray, List.set_cons_zero, List.set_cons_succ, i64_w, i32_w]
                  rfl
                refine take_ (i := 4) (N := some 43) (v := ?_) (a' := ?_) #[true, true, true, true, true, true, true, true, true, false, false, false, false] rfl rfl (take_ofW HT_.out HW_.out (by kernel_rfl)) (fun _ _ _ h => h) (Or.inl ⟨by rfl, ?_⟩) hHeld ?_ ?_
                rotate_left
                · rintro w' ⟨s0, s1, s2, s3, s4, s5, s6, s7, s8, s9⟩
                  go_simp
                  with_reducible rfl
                rotate_left
                · simp only [Act.put, List.setIfInBounds_toArray, List.set_cons_zero, List.set_cons_succ, i64_w, i32_w]
                  rfl
                refine take_ (i := 9) (N := some 48) (v := ?_) (a' := ?_) #[true, true, true, true, true, true, true, true, true, true, false, false, false] rfl rfl (take_ofW HT_.out HW_.out (by kernel_rfl)) (fun _ _ _ h => h) (Or.inl ⟨by rfl, ?_⟩) hHeld ?_ ?_
                rotate_left
                · rintro w' ⟨s0, s1, s2, s3, s4, s5, s6, s7, s8, s9⟩
                  go_simp
                  with_reducible rfl
                rotate_left
                · simp only [Act.put, List.setIfInBounds_toArray, List.set_cons_zero, List.set_cons_succ, i64_w, i32_w]
                  rfl
                refine pure_ (i := 10) (N := some 49) (v := ?_) (a' := ?_) #[true, true, true, true, true, true, true, true, true, true, true, false, false] rfl rfl (any_of HT_.out (by kernel_rfl)) (fun _ _ _ h => h) (Or.inl ⟨by rfl, ?_⟩) ?_ ?_
                rotate_left
                · intro w'
                  go_simp
                  with_reducible rfl
                rotate_left
                · simp only [Act.put, List.setIfInBounds_toArray, List.set_cons_zero, List.set_cons_succ, i64_w, i32_w]
                  rfl
                refine one_ (i := 11) (N := some 11) #[true, true, true, true, true, true, true, true, true, true, true, true, false] rfl rfl (one_of HT_.out (by kernel_rfl)) (by decide) (fun K hK => ?_)
                refine box_step ?hg (N := 11) ?hd (cs := #[.int .i64 0, .int .i64 0]) (t := 27) ?hr ?_; (case hd => rfl); (case hg => rfl); (case hr => first | (go_simp; done) | (go_simp; rfl))
                intro gb165 hg w27 hbox hb
                have n0_ := Aside0.mk (Kd.R_below (by (with_reducible repeat (first | apply Kd.R_alloc | apply Kd.R_drewN | apply Kd.R_drew)); exact HO_6.out) hb)
                have n1_ := Aside0.mk (blk_below (g := gb156) (o := .cells #[.int .i64 x157000_1, .int .i64 x157001_1] 27 (0, 0)) (by (with_reducible repeat (first | refine blk_drewN ?_ _ | refine blk_drew ?_ | refine blk_alloc ?_ _)); exact BK156.out) hb)
                have n2_ := Aside0.mk (blk_below (g := gb162) (o := .cells #[.int .i64 t159, .int .i64 t160] 27 (0, 0)) (by (with_reducible repeat (first | refine blk_drewN ?_ _ | refine blk_drew ?_ | refine blk_alloc ?_ _)); exact BK162.out) hb)
                have n3_ := Aside0.mk (below_step (by repeat (first | (with_reducible first | exact HB.out | apply below_alloc | apply pw_below_drewN | apply below_drew1 | refine below_set ?_ GE156.out | refine below_set ?_ GE162.out) | exact HB.out)) hb)
                have n4_ := Aside0.mk (hbox)
                have n5_ := Aside0.mk ((by rw [hg]; exact (below_size (by repeat (first | (with_reducible first | exact HB.out | apply below_alloc | apply pw_below_drewN | apply below_drew1 | refine below_set ?_ GE156.out | refine below_set ?_ GE162.out) | exact HB.out))) : w.heap.size ≤ gb165))
                have n6_ := Aside0.mk ((by rw [hg]; exact (below_size (by repeat (first | (with_reducible first | exact HB.out | apply below_alloc | apply pw_below_drewN | apply below_drew1 | refine below_set ?_ GE156.out | refine below_set ?_ GE162.out) | exact HB.out))) : w.heap.size ≤ gb165))
                have n7_ := Aside0.mk ((by rw [hg]; exact Nat.ne_of_lt (blk_lt (g := gb156) (o := .cells #[.int .i64 x157000_1, .int .i64 x157001_1] 27 (0, 0)) (by (with_reducible repeat (first | refine blk_drewN ?_ _ | refine blk_drew ?_ | refine blk_alloc ?_ _)); exact BK156.out)) : gb156 ≠ gb165))
                have n8_ := Aside0.mk ((by rw [hg]; exact Nat.ne_of_gt (blk_lt (g := gb156) (o := .cells #[.int .i64 x157000_1, .int .i64 x157001_1] 27 (0, 0)) (by (with_reducible repeat (first | refine blk_drewN ?_ _ | refine blk_drew ?_ | refine blk_alloc ?_ _)); exact BK156.out)) : gb165 ≠ gb156))
                have n9_ := Aside0.mk ((by rw [hg]; exact Nat.ne_of_lt (blk_lt (g := gb162) (o := .cells #[.int .i64 t159, .int .i64 t160] 27 (0, 0)) (by (with_reducible repeat (first | refine blk_drewN ?_ _ | refine blk_drew ?_ | refine blk_alloc ?_ _)); exact BK162.out)) : gb162 ≠ gb165))
                have n10_ := Aside0.mk ((by rw [hg]; exact Nat.ne_of_gt (blk_lt (g := gb162) (o := .cells #[.int .i64 t159, .int .i64 t160] 27 (0, 0)) (by (with_reducible repeat (first | refine blk_drewN ?_ _ | refine blk_drew ?_ | refine blk_alloc ?_ _)); exact BK162.out)) : gb165 ≠ gb162))
                clear HO_6
                clear BK156
                clear BK162
                clear HB
                have HO_6 := n0_
                have BK156 := n1_
                have BK162 := n2_
                have HB := n3_
                have BK165 := n4_
                have GW165 := n5_
                have GE165 := n6_
                have NB156_165 := n7_
                have NB165_156 := n8_
                have NB162_165 := n9_
                have NB165_162 := n10_
                clear n0_ n1_ n2_ n3_ n4_ n5_ n6_ n7_ n8_ n9_ n10_
                clear hb hbox hg
                refine hK.out _ _ ⟨((HB.out.cell (World.block_lt_of_cell? w _ hw163_0)).trans hw163_0), ((HB.out.cell (World.block_lt_of_cell? w _ hw163_1)).trans hw163_1), ((HB.out.cell (World.block_lt_of_cell? w _ hw163_2)).trans hw163_2), ((HB.out.cell (World.block_lt_of_cell? w _ hw163_3)).trans hw163_3), ((HB.out.cell (World.block_lt_of_cell? w _ hw163_4)).trans hw163_4), ((HB.out.cell (World.block_lt_of_cell? w _ hw164_0)).trans hw164_0), ((HB.out.cell (World.block_lt_of_cell? w _ hw164_1)).trans hw164_1), ((HB.out.cell (World.block_lt_of_cell? w _ hw164_2)).trans hw164_2), ((HB.out.cell (World.block_lt_of_cell? w _ hw164_3)).trans hw164_3), ((HB.out.cell (World.block_lt_of_cell? w _ hw164_4)).trans hw164_4)⟩ (fun hHeld => ?_)
                clear hK K
                refine norm_ (a' := ?_) ?_ ?_
                rotate_left
                · show Act.put _ (some 11) _ = _
                  simp only [Act.put, List.setIfInBounds_toArray, List.set_cons_zero, List.set_cons_succ, i64_w, i32_w]
                  rfl
                refine one_ (i := 12) (N := none) #[true, true, true, true, true, true, true, true, true, true, true, true, true] rfl rfl (one_of HT_.out (by kernel_rfl)) (by decide) (fun K hK => ?_)
                have hs28 : w27.cell? ⟨gb165, 0, none⟩ = some (.int .i64 0) := (blk_cell BK165.out 0).trans rfl
                have hfs28 := blk_frozen BK165.out 0
                have hns28_0 := NB156_165.out
                have hns28_1 := NB162_165.out
                have hms28_0 := NB165_156.out
                have hms28_1 := NB165_162.out
                have hs29 : w27.cell? ⟨gb165, 1, none⟩ = some (.int .i64 0) := (blk_cell BK165.out 1).trans rfl
                have hfs29 := blk_frozen BK165.out 1
                have hns29_0 := NB156_165.out
                have hns29_1 := NB162_165.out
                have hms29_0 := NB165_156.out
                have hms29_1 := NB165_162.out
                refine skip_ (w1 := ?_) (by rfl) rfl ?_ ?_
                rotate_left
                · go_simp
                  rfl
                refine hK.out _ _ ⟨((cell_far (p := ⟨gb165, _, none⟩) (by first | exact Nat.ne_of_lt (Nat.lt_of_lt_of_le (by have := World.block_lt_of_cell? _ _ hw163_0; first | rwa [add_block] at this | exact this) GW165.out) | (rw [add_block]; exact Nat.ne_of_lt (Nat.lt_of_lt_of_le (by have := World.block_lt_of_cell? _ _ hw163_0; first | rwa [add_block] at this | exact this) GW165.out)) | (show (Addr.add _ _).block ≠ _; rw [add_block]; exact Nat.ne_of_lt (Nat.lt_of_lt_of_le (by have := World.block_lt_of_cell? _ _ hw163_0; first | rwa [add_block] at this | exact this) GW165.out)) | (dsimp only; exact Nat.ne_of_lt (Nat.lt_of_lt_of_le (by have := World.block_lt_of_cell? _ _ hw163_0; first | rwa [add_block] at this | exact this) GW165.out))) _).trans (((cell_far (p := ⟨gb165, _, none⟩) (by first | exact Nat.ne_of_lt (Nat.lt_of_lt_of_le (by have := World.block_lt_of_cell? _ _ hw163_0; first | rwa [add_block] at this | exact this) GW165.out) | (rw [add_block]; exact Nat.ne_of_lt (Nat.lt_of_lt_of_le (by have := World.block_lt_of_cell? _ _ hw163_0; first | rwa [add_block] at this | exact this) GW165.out)) | (show (Addr.add _ _).block ≠ _; rw [add_block]; exact Nat.ne_of_lt (Nat.lt_of_lt_of_le (by have := World.block_lt_of_cell? _ _ hw163_0; first | rwa [add_block] at this | exact this) GW165.out)) | (dsimp only; exact Nat.ne_of_lt (Nat.lt_of_lt_of_le (by have := World.block_lt_of_cell? _ _ hw163_0; first | rwa [add_block] at this | exact this) GW165.out))) _).trans (hHeld.1)))), ((cell_far (p := ⟨gb165, _, none⟩) (by first | exact Nat.ne_of_lt (Nat.lt_of_lt_of_le (by have := World.block_lt_of_cell? _ _ hw163_1; first | rwa [add_block] at this | exact this) GW165.out) | (rw [add_block]; exact Nat.ne_of_lt (Nat.lt_of_lt_of_le (by have := World.block_lt_of_cell? _ _ hw163_1; first | rwa [add_block] at this | exact this) GW165.out)) | (show (Addr.add _ _).block ≠ _; rw [add_block]; exact Nat.ne_of_lt (Nat.lt_of_lt_of_le (by have := World.block_lt_of_cell? _ _ hw163_1; first | rwa [add_block] at this | exact this) GW165.out)) | (dsimp only; exact Nat.ne_of_lt (Nat.lt_of_lt_of_le (by have := World.block_lt_of_cell? _ _ hw163_1; first | rwa [add_block] at this | exact this) GW165.out))) _).trans (((cell_far (p := ⟨gb165, _, none⟩) (by first | exact Nat.ne_of_lt (Nat.lt_of_lt_of_le (by have := World.block_lt_of_cell? _ _ hw163_1; first | rwa [add_block] at this | exact this) GW165.out) | (rw [add_block]; exact Nat.ne_of_lt (Nat.lt_of_lt_of_le (by have := World.block_lt_of_cell? _ _ hw163_1; first | rwa [add_block] at this | exact this) GW165.out)) | (show (Addr.add _ _).block ≠ _; rw [add_block]; exact Nat.ne_of_lt (Nat.lt_of_lt_of_le (by have := World.block_lt_of_cell? _ _ hw163_1; first | rwa [add_block] at this | exact this) GW165.out)) | (dsimp only; exact Nat.ne_of_lt (Nat.lt_of_lt_of_le (by have := World.block_lt_of_cell? _ _ hw163_1; first | rwa [add_block] at this | exact this) GW165.out))) _).trans (hHeld.2.1)))), ((cell_far (p := ⟨gb165, _, none⟩) (by first | exact Nat.ne_of_lt (Nat.lt_of_lt_of_le (by have := World.block_lt_of_cell? _ _ hw163_2; first | rwa [add_block] at this | exact this) GW165.out) | (rw [add_block]; exact Nat.ne_of_lt (Nat.lt_of_lt_of_le (by have := World.block_lt_of_cell? _ _ hw163_2; first | rwa [add_block] at this | exact this) GW165.out)) | (show (Addr.add _ _).block ≠ _; rw [add_block]; exact Nat.ne_of_lt (Nat.lt_of_lt_of_le (by have := World.block_lt_of_cell? _ _ hw163_2; first | rwa [add_block] at this | exact this) GW165.out)) | (dsimp only; exact Nat.ne_of_lt (Nat.lt_of_lt_of_le (by have := World.block_lt_of_cell? _ _ hw163_2; first | rwa [add_block] at this | exact this) GW165.out))) _).trans (((cell_far (p := ⟨gb165, _, none⟩) (by first | exact Nat.ne_of_lt (Nat.lt_of_lt_of_le (by have := World.block_lt_of_cell? _ _ hw163_2; first | rwa [add_block] at this | exact this) GW165.out) | (rw [add_block]; exact Nat.ne_of_lt (Nat.lt_of_lt_of_le (by have := World.block_lt_of_cell? _ _ hw163_2; first | rwa [add_block] at this | exact this) GW165.out)) | (show (Addr.add _ _).block ≠ _; rw [add_block]; exact Nat.ne_of_lt (Nat.lt_of_lt_of_le (by have := World.block_lt_of_cell? _ _ hw163_2; first | rwa [add_block] at this | exact this) GW165.out)) | (dsimp only; exact Nat.ne_of_lt (Nat.lt_of_lt_of_le (by have := World.block_lt_of_cell? _ _ hw163_2; first | rwa [add_block] at this | exact this) GW165.out))) _).trans (hHeld.2.2.1)))), ((cell_far (p := ⟨gb165, _, none⟩) (by first | exact Nat.ne_of_lt (Nat.lt_of_lt_of_le (by have := World.block_lt_of_cell? _ _ hw163_3; first | rwa [add_block] at this | exact this) GW165.out) | (rw [add_block]; exact Nat.ne_of_lt (Nat.lt_of_lt_of_le (by have := World.block_lt_of_cell? _ _ hw163_3; first | rwa [add_block] at this | exact this) GW165.out)) | (show (Addr.add _ _).block ≠ _; rw [add_block]; exact Nat.ne_of_lt (Nat.lt_of_lt_of_le (by have := World.block_lt_of_cell? _ _ hw163_3; first | rwa [add_block] at this | exact this) GW165.out)) | (dsimp only; exact Nat.ne_of_lt (Nat.lt_of_lt_of_le (by have := World.block_lt_of_cell? _ _ hw163_3; first | rwa [add_block] at this | exact this) GW165.out))) _).trans (((cell_far (p := ⟨gb165, _, none⟩) (by first | exact Nat.ne_of_lt (Nat.lt_of_lt_of_le (by have := World.block_lt_of_cell? _ _ hw163_3; first | rwa [add_block] at this | exact this) GW165.out) | (rw [add_block]; exact Nat.ne_of_lt (Nat.lt_of_lt_of_le (by have := World.block_lt_of_cell? _ _ hw163_3; first | rwa [add_block] at this | exact this) GW165.out)) | (show (Addr.add _ _).block ≠ _; rw [add_block]; exact Nat.ne_of_lt (Nat.lt_of_lt_of_le (by have := World.block_lt_of_cell? _ _ hw163_3; first | rwa [add_block] at this | exact this) GW165.out)) | (dsimp only; exact Nat.ne_of_lt (Nat.lt_of_lt_of_le (by have := World.block_lt_of_cell? _ _ hw163_3; first | rwa [add_block] at this | exact this) GW165.out))) _).trans (hHeld.2.2.2.1)))), ((cell_far (p := ⟨gb165, _, none⟩) (by first | exact Nat.ne_of_lt (Nat.lt_of_lt_of_le (by have := World.block_lt_of_cell? _ _ hw163_4; first | rwa [add_block] at this | exact this) GW165.out) | (rw [add_block]; exact Nat.ne_of_lt (Nat.lt_of_lt_of_le (by have := World.block_lt_of_cell? _ _ hw163_4; first | rwa [add_block] at this | exact this) GW165.out)) | (show (Addr.add _ _).block ≠ _; rw [add_block]; exact Nat.ne_of_lt (Nat.lt_of_lt_of_le (by have := World.block_lt_of_cell? _ _ hw163_4; first | rwa [add_block] at this | exact this) GW165.out)) | (dsimp only; exact Nat.ne_of_lt (Nat.lt_of_lt_of_le (by have := World.block_lt_of_cell? _ _ hw163_4; first | rwa [add_block] at this | exact this) GW165.out))) _).trans (((cell_far (p := ⟨gb165, _, none⟩) (by first | exact Nat.ne_of_lt (Nat.lt_of_lt_of_le (by have := World.block_lt_of_cell? _ _ hw163_4; first | rwa [add_block] at this | exact this) GW165.out) | (rw [add_block]; exact Nat.ne_of_lt (Nat.lt_of_lt_of_le (by have := World.block_lt_of_cell? _ _ hw163_4; first | rwa [add_block] at this | exact this) GW165.out)) | (show (Addr.add _ _).block ≠ _; rw [add_block]; exact Nat.ne_of_lt (Nat.lt_of_lt_of_le (by have := World.block_lt_of_cell? _ _ hw163_4; first | rwa [add_block] at this | exact this) GW165.out)) | (dsimp only; exact Nat.ne_of_lt (Nat.lt_of_lt_of_le (by have := World.block_lt_of_cell? _ _ hw163_4; first | rwa [add_block] at this | exact this) GW165.out))) _).trans (hHeld.2.2.2.2.1)))), ((cell_far (p := ⟨gb165, _, none⟩) (by first | exact Nat.ne_of_lt (Nat.lt_of_lt_of_le (by have := World.block_lt_of_cell? _ _ hw164_0; first | rwa [add_block] at this | exact this) GW165.out) | (rw [add_block]; exact Nat.ne_of_lt (Nat.lt_of_lt_of_le (by have := World.block_lt_of_cell? _ _ hw164_0; first | rwa [add_block] at this | exact this) GW165.out)) | (show (Addr.add _ _).block ≠ _; rw [add_block]; exact Nat.ne_of_lt (Nat.lt_of_lt_of_le (by have := World.block_lt_of_cell? _ _ hw164_0; first | rwa [add_block] at this | exact this) GW165.out)) | (dsimp only; exact Nat.ne_of_lt (Nat.lt_of_lt_of_le (by have := World.block_lt_of_cell? _ _ hw164_0; first | rwa [add_block] at this | exact this) GW165.out))) _).trans (((cell_far (p := ⟨gb165, _, none⟩) (by first | exact Nat.ne_of_lt (Nat.lt_of_lt_of_le (by have := World.block_lt_of_cell? _ _ hw164_0; first | rwa [add_block] at this | exact this) GW165.out) | (rw [add_block]; exact Nat.ne_of_lt (Nat.lt_of_lt_of_le (by have := World.block_lt_of_cell? _ _ hw164_0; first | rwa [add_block] at this | exact this) GW165.out)) | (show (Addr.add _ _).block ≠ _; rw [add_block]; exact Nat.ne_of_lt (Nat.lt_of_lt_of_le (by have := World.block_lt_of_cell? _ _ hw164_0; first | rwa [add_block] at this | exact this) GW165.out)) | (dsimp only; exact Nat.ne_of_lt (Nat.lt_of_lt_of_le (by have := World.block_lt_of_cell? _ _ hw164_0; first | rwa [add_block] at this | exact this) GW165.out))) _).trans (hHeld.2.2.2.2.2.1)))), ((cell_far (p := ⟨gb165, _, none⟩) (by first | exact Nat.ne_of_lt (Nat.lt_of_lt_of_le (by have := World.block_lt_of_cell? _ _ hw164_1; first | rwa [add_block] at this | exact this) GW165.out) | (rw [add_block]; exact Nat.ne_of_lt (Nat.lt_of_lt_of_le (by have := World.block_lt_of_cell? _ _ hw164_1; first | rwa [add_block] at this | exact this) GW165.out)) | (show (Addr.add _ _).block ≠ _; rw [add_block]; exact Nat.ne_of_lt (Nat.lt_of_lt_of_le (by have := World.block_lt_of_cell? _ _ hw164_1; first | rwa [add_block] at this | exact this) GW165.out)) | (dsimp only; exact Nat.ne_of_lt (Nat.lt_of_lt_of_le (by have := World.block_lt_of_cell? _ _ hw164_1; first | rwa [add_block] at this | exact this) GW165.out))) _).trans (((cell_far (p := ⟨gb165, _, none⟩) (by first | exact Nat.ne_of_lt (Nat.lt_of_lt_of_le (by have := World.block_lt_of_cell? _ _ hw164_1; first | rwa [add_block] at this | exact this) GW165.out) | (rw [add_block]; exact Nat.ne_of_lt (Nat.lt_of_lt_of_le (by have := World.block_lt_of_cell? _ _ hw164_1; first | rwa [add_block] at this | exact this) GW165.out)) | (show (Addr.add _ _).block ≠ _; rw [add_block]; exact Nat.ne_of_lt (Nat.lt_of_lt_of_le (by have := World.block_lt_of_cell? _ _ hw164_1; first | rwa [add_block] at this | exact this) GW165.out)) | (dsimp only; exact Nat.ne_of_lt (Nat.lt_of_lt_of_le (by have := World.block_lt_of_cell? _ _ hw164_1; first | rwa [add_block] at this | exact this) GW165.out))) _).trans (hHeld.2.2.2.2.2.2.1)))), ((cell_far (p := ⟨gb165, _, none⟩) (by first | exact Nat.ne_of_lt (Nat.lt_of_lt_of_le (by have := World.block_lt_of_cell? _ _ hw164_2; first | rwa [add_block] at this | exact this) GW165.out) | (rw [add_block]; exact Nat.ne_of_lt (Nat.lt_of_lt_of_le (by have := World.block_lt_of_cell? _ _ hw164_2; first | rwa [add_block] at this | exact this) GW165.out)) | (show (Addr.add _ _).block ≠ _; rw [add_block]; exact Nat.ne_of_lt (Nat.lt_of_lt_of_le (by have := World.block_lt_of_cell? _ _ hw164_2; first | rwa [add_block] at this | exact this) GW165.out)) | (dsimp only; exact Nat.ne_of_lt (Nat.lt_of_lt_of_le (by have := World.block_lt_of_cell? _ _ hw164_2; first | rwa [add_block] at this | exact this) GW165.out))) _).trans (((cell_far (p := ⟨gb165, _, none⟩) (by first | exact Nat.ne_of_lt (Nat.lt_of_lt_of_le (by have := World.block_lt_of_cell? _ _ hw164_2; first | rwa [add_block] at this | exact this) GW165.out) | (rw [add_block]; exact Nat.ne_of_lt (Nat.lt_of_lt_of_le (by have := World.block_lt_of_cell? _ _ hw164_2; first | rwa [add_block] at this | exact this) GW165.out)) | (show (Addr.add _ _).block ≠ _; rw [add_block]; exact Nat.ne_of_lt (Nat.lt_of_lt_of_le (by have := World.block_lt_of_cell? _ _ hw164_2; first | rwa [add_block] at this | exact this) GW165.out)) | (dsimp only; exact Nat.ne_of_lt (Nat.lt_of_lt_of_le (by have := World.block_lt_of_cell? _ _ hw164_2; first | rwa [add_block] at this | exact this) GW165.out))) _).trans (hHeld.2.2.2.2.2.2.2.1)))), ((cell_far (p := ⟨gb165, _, none⟩) (by first | exact Nat.ne_of_lt (Nat.lt_of_lt_of_le (by have := World.block_lt_of_cell? _ _ hw164_3; first | rwa [add_block] at this | exact this) GW165.out) | (rw [add_block]; exact Nat.ne_of_lt (Nat.lt_of_lt_of_le (by have := World.block_lt_of_cell? _ _ hw164_3; first | rwa [add_block] at this | exact this) GW165.out)) | (show (Addr.add _ _).block ≠ _; rw [add_block]; exact Nat.ne_of_lt (Nat.lt_of_lt_of_le (by have := World.block_lt_of_cell? _ _ hw164_3; first | rwa [add_block] at this | exact this) GW165.out)) | (dsimp only; exact Nat.ne_of_lt (Nat.lt_of_lt_of_le (by have := World.block_lt_of_cell? _ _ hw164_3; first | rwa [add_block] at this | exact this) GW165.out))) _).trans (((cell_far (p := ⟨gb165, _, none⟩) (by first | exact Nat.ne_of_lt (Nat.lt_of_lt_of_le (by have := World.block_lt_of_cell? _ _ hw164_3; first | rwa [add_block] at this | exact this) GW165.out) | (rw [add_block]; exact Nat.ne_of_lt (Nat.lt_of_lt_of_le (by have := World.block_lt_of_cell? _ _ hw164_3; first | rwa [add_block] at this | exact this) GW165.out)) | (show (Addr.add _ _).block ≠ _; rw [add_block]; exact Nat.ne_of_lt (Nat.lt_of_lt_of_le (by have := World.block_lt_of_cell? _ _ hw164_3; first | rwa [add_block] at this | exact this) GW165.out)) | (dsimp only; exact Nat.ne_of_lt (Nat.lt_of_lt_of_le (by have := World.block_lt_of_cell? _ _ hw164_3; first | rwa [add_block] at this | exact this) GW165.out))) _).trans (hHeld.2.2.2.2.2.2.2.2.1)))), ((cell_far (p := ⟨gb165, _, none⟩) (by first | exact Nat.ne_of_lt (Nat.lt_of_lt_of_le (by have := World.block_lt_of_cell? _ _ hw164_4; first | rwa [add_block] at this | exact this) GW165.out) | (rw [add_block]; exact Nat.ne_of_lt (Nat.lt_of_lt_of_le (by have := World.block_lt_of_cell? _ _ hw164_4; first | rwa [add_block] at this | exact this) GW165.out)) | (show (Addr.add _ _).block ≠ _; rw [add_block]; exact Nat.ne_of_lt (Nat.lt_of_lt_of_le (by have := World.block_lt_of_cell? _ _ hw164_4; first | rwa [add_block] at this | exact this) GW165.out)) | (dsimp only; exact Nat.ne_of_lt (Nat.lt_of_lt_of_le (by have := World.block_lt_of_cell? _ _ hw164_4; first | rwa [add_block] at this | exact this) GW165.out))) _).trans (((cell_far (p := ⟨gb165, _, none⟩) (by first | exact Nat.ne_of_lt (Nat.lt_of_lt_of_le (by have := World.block_lt_of_cell? _ _ hw164_4; first | rwa [add_block] at this | exact this) GW165.out) | (rw [add_block]; exact Nat.ne_of_lt (Nat.lt_of_lt_of_le (by have := World.block_lt_of_cell? _ _ hw164_4; first | rwa [add_block] at this | exact this) GW165.out)) | (show (Addr.add _ _).block ≠ _; rw [add_block]; exact Nat.ne_of_lt (Nat.lt_of_lt_of_le (by have := World.block_lt_of_cell? _ _ hw164_4; first | rwa [add_block] at this | exact this) GW165.out)) | (dsimp only; exact Nat.ne_of_lt (Nat.lt_of_lt_of_le (by have := World.block_lt_of_cell? _ _ hw164_4; first | rwa [add_block] at this | exact this) GW165.out))) _).trans (hHeld.2.2.2.2.2.2.2.2.2))))⟩ (fun hHeld => ?_)
                clear hK K
                refine done_ (done_of HT_.out (by kernel_rfl)) ?_
                go_upto_region 11 with (fail)
                go_cut [77] (fun v77 wc => ∃ (kq : Nat) (x77_16 : Bool), v77 = .bool x77_16 ∧ Aside0 (clavierlaw15_TrackOnce.j1 kq a0 l1 t152 y153 x8_1 x77_16 t159 t160 = some r) ∧ Aside0 (kq ≤ k1) ∧ Aside0 (Kd.R (Kd.int .i64) 3 wc w.heap.size (fun _ => True) (.slice (some ad157) y153.length co19) y153) ∧ Aside0 (wc.heap[gb156]? = some (.cells #[.int .i64 x157000_1, .int .i64 x157001_1] 27 (0, 0))) ∧ Aside0 (wc.heap[gb162]? = some (.cells #[.int .i64 t159, .int .i64 t160] 27 (0, 0))) ∧ Aside0 (wc.heap[gb165]? = some (.cells #[.int .i64 ((rd_T25 l1 x8_1).f2), .int .i64 ((rd_T25 l1 x8_1).f3)] 27 (0, 0))) ∧ Aside0 (Below w.heap.size w wc))
                case first =>
                  have H := HC17.out
                  clear HC17
                  by_cases c30 : t161 = true
                  · subst c30
                    have H1 : (if (!(t159 == ((rd_T25 l1 x8_1).f2)) || (!(t160 == ((rd_T25 l1 x8_1).f3)))) = true then (clavierlaw15_TrackOnce.j1 k1 a0 l1 t152 y153 x8_1 true t159 t160) else (if ((rd_T25 l1 x8_1).f1) = 4 then (if (((rd_T25 l1 x8_1).f2) == x157000_1 && (((rd_T25 l1 x8_1).f3) == x157001_1)) = true then (clavierlaw15_TrackOnce.j1 k1 a0 l1 t152 y153 x8_1 true t159 t160) else (clavierlaw15_TrackOnce.j1 k1 a0 l1 t152 y153 x8_1 false t159 t160)) else (clavierlaw15_TrackOnce.j1 k1 a0 l1 t152 y153 x8_1 false t159 t160))) = some r := by rw [if_pos rfl] at H; exact H
                    clear H
                    have H := H1
                    clear H1
                    by_cases c31 : (!(t159 == ((rd_T25 l1 x8_1).f2)) || (!(t160 == ((rd_T25 l1 x8_1).f3)))) = true
                    · rw [if_pos c31] at H
                      have c31b0 : (!(t159 == ((rd_T25 l1 x8_1).f2)) || (!(t160 == ((rd_T25 l1 x8_1).f3)))) = true := c31
                      clear c31
                      (first | rw [c31b0] | (simp only [i64_w, i32_w]; rw [c31b0]) | skip)
                      have H' := Aside0.mk H
                      clear H
                      have hnb32 := NB162_156.out
                      have hnc32 := NB156_162.out
                      have hnb33 := NB162_165.out
                      have hnc33 := NB165_162.out
                      have hcz34_0 : w27.cell? ⟨gb162, 0, none⟩ = some (.int .i64 t159) := (blk_cell BK162.out 0).trans rfl
                      have hcz34_1 : w27.cell? ⟨gb162, 1, none⟩ = some (.int .i64 t160) := (blk_cell BK162.out 1).trans rfl
                      have hfz34_0 := blk_frozen BK162.out 0
                      have hfz34_1 := blk_frozen BK162.out 1
                      have hnb35 := NB165_156.out
                      have hnc35 := NB156_165.out
                      have hcz36_0 : w27.cell? ⟨gb165, 0, none⟩ = some (.int .i64 0) := (blk_cell BK165.out 0).trans rfl
                      have hcz36_1 : w27.cell? ⟨gb165, 1, none⟩ = some (.int .i64 0) := (blk_cell BK165.out 1).trans rfl
                      have hfz36_0 := blk_frozen BK165.out 0
                      have hfz36_1 := blk_frozen BK165.out 1
                      go_wp2
                      go_meet
                      case rel => exact ⟨_, (true), (by first | rfl | (simp; done) | (simp [*]; done)), H', ⟨by have := HK1.out; first | omega | exact Nat.le_refl _⟩, ⟨by (with_reducible repeat (first | apply Kd.R_alloc | apply Kd.R_drewN | apply Kd.R_drew)); exact Kd.R_mono (Kd.R_far (p := ⟨gb165, 1, none⟩) (Kd.R_far (p := ⟨gb165, 0, none⟩) (Kd.R_types HO_6.out BK165.out (by decide)) (fun _ hk => hk.2) (.int .i64 ((rd_T25 l1 x8_1).f2))) (fun _ hk => hk.2) (.int .i64 ((rd_T25 l1 x8_1).f3))) (fun _ hk => trivial)⟩, ⟨by (with_reducible repeat (first | refine blk_drewN ?_ _ | refine blk_drew ?_ | refine blk_alloc ?_ _)); refine blk_far ?_ NB156_165.out _; (with_reducible repeat (first | refine blk_drewN ?_ _ | refine blk_drew ?_ | refine blk_alloc ?_ _)); refine blk_far ?_ NB156_165.out _; (with_reducible repeat (first | refine blk_drewN ?_ _ | refine blk_drew ?_ | refine blk_alloc ?_ _)); exact BK156.out⟩, ⟨by (with_reducible repeat (first | refine blk_drewN ?_ _ | refine blk_drew ?_ | refine blk_alloc ?_ _)); refine blk_far ?_ NB162_165.out _; (with_reducible repeat (first | refine blk_drewN ?_ _ | refine blk_drew ?_ | refine blk_alloc ?_ _)); refine blk_far ?_ NB162_165.out _; (with_reducible repeat (first | refine blk_drewN ?_ _ | refine blk_drew ?_ | refine blk_alloc ?_ _)); exact BK162.out⟩, ⟨by (with_reducible repeat (first | refine blk_drewN ?_ _ | refine blk_drew ?_ | refine blk_alloc ?_ _)); refine blk_put (cs := #[.int .i64 ((rd_T25 l1 x8_1).f2), .int .i64 0]) ?_ 1 _ rfl; (with_reducible repeat (first | refine blk_drewN ?_ _ | refine blk_drew ?_ | refine blk_alloc ?_ _)); refine blk_put (cs := #[.int .i64 0, .int .i64 0]) ?_ 0 _ rfl; (with_reducible repeat (first | refine blk_drewN ?_ _ | refine blk_drew ?_ | refine blk_alloc ?_ _)); exact BK165.out⟩, ⟨by repeat (first | (with_reducible first | exact HB.out | apply below_alloc | apply pw_below_drewN | apply below_drew1 | refine below_set ?_ GE156.out | refine below_set ?_ GE162.out | refine below_set ?_ GE165.out) | exact HB.out)⟩⟩
                    · rw [if_neg c31] at H
                      have c31b0 : (!(t159 == ((rd_T25 l1 x8_1).f2)) || (!(t160 == ((rd_T25 l1 x8_1).f3)))) = false := by simpa using c31
                      clear c31
                      (first | rw [c31b0] | (simp only [i64_w, i32_w]; rw [c31b0]) | skip)
                      by_cases c37 : ((rd_T25 l1 x8_1).f1) = 4
                      · rw [if_pos c37] at H
                        have c37b0 : (((rd_T25 l1 x8_1).f1) == 4) = true := beq_iff_eq.mpr c37
                        have c37b1 : (((rd_T25 l1 x8_1).f1) != 4) = false := bne_eq_false_iff_eq.mpr c37
                        clear c37
                        by_cases c38 : (((rd_T25 l1 x8_1).f2) == x157000_1 && (((rd_T25 l1 x8_1).f3) == x157001_1)) = true
                        · rw [if_pos c38] at H
                          have c38b0 : (((rd_T25 l1 x8_1).f2) == x157000_1 && (((rd_T25 l1 x8_1).f3) == x157001_1)) = true := c38
                          (try (have c38b1 : decide (((rd_T25 l1 x8_1).f2) = x157000_1 && (((rd_T25 l1 x8_1).f3) == x157001_1)) = true := by simpa using c38))
                          (try (have c38b2 : (((rd_T25 l1 x8_1).f2) == x157000_1 && (((rd_T25 l1 x8_1).f3) == x157001_1)) = true := by simpa using c38))
                          clear c38
                          have H' := Aside0.mk H
                          clear H
                          have hnb39 := NB162_156.out
                          have hnc39 := NB156_162.out
                          have hnb40 := NB162_165.out
                          have hnc40 := NB165_162.out
                          have hcz41_0 : w27.cell? ⟨gb162, 0, none⟩ = some (.int .i64 t159) := (blk_cell BK162.out 0).trans rfl
                          have hcz41_1 : w27.cell? ⟨gb162, 1, none⟩ = some (.int .i64 t160) := (blk_cell BK162.out 1).trans rfl
                          have hfz41_0 := blk_frozen BK162.out 0
                          have hfz41_1 := blk_frozen BK162.out 1
                          have hnb42 := NB165_156.out
                          have hnc42 := NB156_165.out
                          have hcz43_0 : w27.cell? ⟨gb165, 0, none⟩ = some (.int .i64 0) := (blk_cell BK165.out 0).trans rfl
                          have hcz43_1 : w27.cell? ⟨gb165, 1, none⟩ = some (.int .i64 0) := (blk_cell BK165.out 1).trans rfl
                          have hfz43_0 := blk_frozen BK165.out 0
                          have hfz43_1 := blk_frozen BK165.out 1
                          have p166 : 0 ≤ (x8_1 : Int) := of_decide_eq_true (by first | (with_reducible assumption) | assumption)
                          have q166 : x8_1 < (l1.length : Int) := of_decide_eq_true (by first | (with_reducible assumption) | assumption)
                          obtain ⟨ad166, e166, hx166_0, hx166_1, hx166_2, hx166_3, hx166_4⟩ := at_T25 HR1.out x8_1 p166 q166
                          obtain rfl : ad158 = ad166 := (by injection e166)
                          have hn166_0 : ad158.block ≠ gb165 := Nat.ne_of_lt (Nat.lt_of_lt_of_le (by have := World.block_lt_of_cell? _ _ hx166_0; first | rwa [add_block] at this | exact this) GW165.out)
                          have hn166_1 : ad158.block ≠ gb165 := Nat.ne_of_lt (Nat.lt_of_lt_of_le (by have := World.block_lt_of_cell? _ _ hx166_0; first | rwa [add_block] at this | exact this) GW165.out)
                          replace hx166_0 := (HB.out.cell (World.block_lt_of_cell? w _ hx166_0)).trans hx166_0
                          replace hx166_1 := (HB.out.cell (World.block_lt_of_cell? w _ hx166_1)).trans hx166_1
                          replace hx166_2 := (HB.out.cell (World.block_lt_of_cell? w _ hx166_2)).trans hx166_2
                          replace hx166_3 := (HB.out.cell (World.block_lt_of_cell? w _ hx166_3)).trans hx166_3
                          replace hx166_4 := (HB.out.cell (World.block_lt_of_cell? w _ hx166_4)).trans hx166_4
                          replace hx166_0 := (cell_far (p := ⟨gb165, 0, none⟩) (by first | (rw [add_block]; exact hn166_0) | (show (Addr.add _ _).block ≠ _; rw [add_block]; exact hn166_0) | exact hn166_0) (.int .i64 ((rd_T25 l1 x8_1).f2))).trans hx166_0
                          replace hx166_1 := (cell_far (p := ⟨gb165, 0, none⟩) (by first | (rw [add_block]; exact hn166_0) | (show (Addr.add _ _).block ≠ _; rw [add_block]; exact hn166_0) | exact hn166_0) (.int .i64 ((rd_T25 l1 x8_1).f2))).trans hx166_1
                          replace hx166_2 := (cell_far (p := ⟨gb165, 0, none⟩) (by first | (rw [add_block]; exact hn166_0) | (show (Addr.add _ _).block ≠ _; rw [add_block]; exact hn166_0) | exact hn166_0) (.int .i64 ((rd_T25 l1 x8_1).f2))).trans hx166_2
                          replace hx166_3 := (cell_far (p := ⟨gb165, 0, none⟩) (by first | (rw [add_block]; exact hn166_0) | (show (Addr.add _ _).block ≠ _; rw [add_block]; exact hn166_0) | exact hn166_0) (.int .i64 ((rd_T25 l1 x8_1).f2))).trans hx166_3
                          replace hx166_4 := (cell_far (p := ⟨gb165, 0, none⟩) (by first | (rw [add_block]; exact hn166_0) | (show (Addr.add _ _).block ≠ _; rw [add_block]; exact hn166_0) | exact hn166_0) (.int .i64 ((rd_T25 l1 x8_1).f2))).trans hx166_4
                          replace hx166_0 := (cell_far (p := ⟨gb165, 1, none⟩) (by first | (rw [add_block]; exact hn166_1) | (show (Addr.add _ _).block ≠ _; rw [add_block]; exact hn166_1) | exact hn166_1) (.int .i64 ((rd_T25 l1 x8_1).f3))).trans hx166_0
                          replace hx166_1 := (cell_far (p := ⟨gb165, 1, none⟩) (by first | (rw [add_block]; exact hn166_1) | (show (Addr.add _ _).block ≠ _; rw [add_block]; exact hn166_1) | exact hn166_1) (.int .i64 ((rd_T25 l1 x8_1).f3))).trans hx166_1
                          replace hx166_2 := (cell_far (p := ⟨gb165, 1, none⟩) (by first | (rw [add_block]; exact hn166_1) | (show (Addr.add _ _).block ≠ _; rw [add_block]; exact hn166_1) | exact hn166_1) (.int .i64 ((rd_T25 l1 x8_1).f3))).trans hx166_2
                          replace hx166_3 := (cell_far (p := ⟨gb165, 1, none⟩) (by first | (rw [add_block]; exact hn166_1) | (show (Addr.add _ _).block ≠ _; rw [add_block]; exact hn166_1) | exact hn166_1) (.int .i64 ((rd_T25 l1 x8_1).f3))).trans hx166_3
                          replace hx166_4 := (cell_far (p := ⟨gb165, 1, none⟩) (by first | (rw [add_block]; exact hn166_1) | (show (Addr.add _ _).block ≠ _; rw [add_block]; exact hn166_1) | exact hn166_1) (.int .i64 ((rd_T25 l1 x8_1).f3))).trans hx166_4
                          clear hn166_0
                          clear hn166_1
                          replace p166 := eq_true p166
                          replace q166 := eq_true q166
                          have hcz44_0 : w27.cell? ⟨gb156, 0, none⟩ = some (.int .i64 x157000_1) := (blk_cell BK156.out 0).trans rfl
                          have hcz44_1 : w27.cell? ⟨gb156, 1, none⟩ = some (.int .i64 x157001_1) := (blk_cell BK156.out 1).trans rfl
                          have hfz44_0 := blk_frozen BK156.out 0
                          have hfz44_1 := blk_frozen BK156.out 1
                          go_wp2
                          go_meet
                          case rel => exact ⟨_, (true), (by first | rfl | (simp; done) | (simp [*]; done)), H', ⟨by have := HK1.out; first | omega | exact Nat.le_refl _⟩, ⟨by (with_reducible repeat (first | apply Kd.R_alloc | apply Kd.R_drewN | apply Kd.R_drew)); exact Kd.R_mono (Kd.R_far (p := ⟨gb165, 1, none⟩) (Kd.R_far (p := ⟨gb165, 0, none⟩) (Kd.R_types HO_6.out BK165.out (by decide)) (fun _ hk => hk.2) (.int .i64 ((rd_T25 l1 x8_1).f2))) (fun _ hk => hk.2) (.int .i64 ((rd_T25 l1 x8_1).f3))) (fun _ hk => trivial)⟩, ⟨by (with_reducible repeat (first | refine blk_drewN ?_ _ | refine blk_drew ?_ | refine blk_alloc ?_ _)); refine blk_far ?_ NB156_165.out _; (with_reducible repeat (first | refine blk_drewN ?_ _ | refine blk_drew ?_ | refine blk_alloc ?_ _)); refine blk_far ?_ NB156_165.out _; (with_reducible repeat (first | refine blk_drewN ?_ _ | refine blk_drew ?_ | refine blk_alloc ?_ _)); exact BK156.out⟩, ⟨by (with_reducible repeat (first | refine blk_drewN ?_ _ | refine blk_drew ?_ | refine blk_alloc ?_ _)); refine blk_far ?_ NB162_165.out _; (with_reducible repeat (first | refine blk_drewN ?_ _ | refine blk_drew ?_ | refine blk_alloc ?_ _)); refine blk_far ?_ NB162_165.out _; (with_reducible repeat (first | refine blk_drewN ?_ _ | refine blk_drew ?_ | refine blk_alloc ?_ _)); exact BK162.out⟩, ⟨by (with_reducible repeat (first | refine blk_drewN ?_ _ | refine blk_drew ?_ | refine blk_alloc ?_ _)); refine blk_put (cs := #[.int .i64 ((rd_T25 l1 x8_1).f2), .int .i64 0]) ?_ 1 _ rfl; (with_reducible repeat (first | refine blk_drewN ?_ _ | refine blk_drew ?_ | refine blk_alloc ?_ _)); refine blk_put (cs := #[.int .i64 0, .int .i64 0]) ?_ 0 _ rfl; (with_reducible repeat (first | refine blk_drewN ?_ _ | refine blk_drew ?_ | refine blk_alloc ?_ _)); exact BK165.out⟩, ⟨by repeat (first | (with_reducible first | exact HB.out | apply below_alloc | apply pw_below_drewN | apply below_drew1 | refine below_set ?_ GE156.out | refine below_set ?_ GE162.out | refine below_set ?_ GE165.out) | exact HB.out)⟩⟩
                        · rw [if_neg c38] at H
                          have c38b0 : (((rd_T25 l1 x8_1).f2) == x157000_1 && (((rd_T25 l1 x8_1).f3) == x157001_1)) = false := by simpa using c38
                          (try (have c38b1 : decide (((rd_T25 l1 x8_1).f2) = x157000_1 && (((rd_T25 l1 x8_1).f3) == x157001_1)) = false := by simpa using c38))
                          (try (have c38b2 : (((rd_T25 l1 x8_1).f2) == x157000_1 && (((rd_T25 l1 x8_1).f3) == x157001_1)) = false := by simpa using c38))
                          (try (have c38b3 : ¬ (((rd_T25 l1 x8_1).f2) = x157000_1 && (((rd_T25 l1 x8_1).f3) == x157001_1)) := by simpa using c38))
                          clear c38
                          have H' := Aside0.mk H
                          clear H
                          have hnb45 := NB162_156.out
                          have hnc45 := NB156_162.out
                          have hnb46 := NB162_165.out
                          have hnc46 := NB165_162.out
                          have hcz47_0 : w27.cell? ⟨gb162, 0, none⟩ = some (.int .i64 t159) := (blk_cell BK162.out 0).trans rfl
                          have hcz47_1 : w27.cell? ⟨gb162, 1, none⟩ = some (.int .i64 t160) := (blk_cell BK162.out 1).trans rfl
                          have hfz47_0 := blk_frozen BK162.out 0
                          have hfz47_1 := blk_frozen BK162.out 1
                          have hnb48 := NB165_156.out
                          have hnc48 := NB156_165.out
                          have hcz49_0 : w27.cell? ⟨gb165, 0, none⟩ = some (.int .i64 0) := (blk_cell BK165.out 0).trans rfl
                          have hcz49_1 : w27.cell? ⟨gb165, 1, none⟩ = some (.int .i64 0) := (blk_cell BK165.out 1).trans rfl
                          have hfz49_0 := blk_frozen BK165.out 0
                          have hfz49_1 := blk_frozen BK165.out 1
                          have p166 : 0 ≤ (x8_1 : Int) := of_decide_eq_true (by first | (with_reducible assumption) | assumption)
                          have q166 : x8_1 < (l1.length : Int) := of_decide_eq_true (by first | (with_reducible assumption) | assumption)
                          obtain ⟨ad166, e166, hx166_0, hx166_1, hx166_2, hx166_3, hx166_4⟩ := at_T25 HR1.out x8_1 p166 q166
                          obtain rfl : ad158 = ad166 := (by injection e166)
                          have hn166_0 : ad158.block ≠ gb165 := Nat.ne_of_lt (Nat.lt_of_lt_of_le (by have := World.block_lt_of_cell? _ _ hx166_0; first | rwa [add_block] at this | exact this) GW165.out)
                          have hn166_1 : ad158.block ≠ gb165 := Nat.ne_of_lt (Nat.lt_of_lt_of_le (by have := World.block_lt_of_cell? _ _ hx166_0; first | rwa [add_block] at this | exact this) GW165.out)
                          replace hx166_0 := (HB.out.cell (World.block_lt_of_cell? w _ hx166_0)).trans hx166_0
                          replace hx166_1 := (HB.out.cell (World.block_lt_of_cell? w _ hx166_1)).trans hx166_1
                          replace hx166_2 := (HB.out.cell (World.block_lt_of_cell? w _ hx166_2)).trans hx166_2
                          replace hx166_3 := (HB.out.cell (World.block_lt_of_cell? w _ hx166_3)).trans hx166_3
                          replace hx166_4 := (HB.out.cell (World.block_lt_of_cell? w _ hx166_4)).trans hx166_4
                          replace hx166_0 := (cell_far (p := ⟨gb165, 0, none⟩) (by first | (rw [add_block]; exact hn166_0) | (show (Addr.add _ _).block ≠ _; rw [add_block]; exact hn166_0) | exact hn166_0) (.int .i64 ((rd_T25 l1 x8_1).f2))).trans hx166_0
                          replace hx166_1 := (cell_far (p := ⟨gb165, 0, none⟩) (by first | (rw [add_block]; exact hn166_0) | (show (Addr.add _ _).block ≠ _; rw [add_block]; exact hn166_0) | exact hn166_0) (.int .i64 ((rd_T25 l1 x8_1).f2))).trans hx166_1
                          replace hx166_2 := (cell_far (p := ⟨gb165, 0, none⟩) (by first | (rw [add_block]; exact hn166_0) | (show (Addr.add _ _).block ≠ _; rw [add_block]; exact hn166_0) | exact hn166_0) (.int .i64 ((rd_T25 l1 x8_1).f2))).trans hx166_2
                          replace hx166_3 := (cell_far (p := ⟨gb165, 0, none⟩) (by first | (rw [add_block]; exact hn166_0) | (show (Addr.add _ _).block ≠ _; rw [add_block]; exact hn166_0) | exact hn166_0) (.int .i64 ((rd_T25 l1 x8_1).f2))).trans hx166_3
                          replace hx166_4 := (cell_far (p := ⟨gb165, 0, none⟩) (by first | (rw [add_block]; exact hn166_0) | (show (Addr.add _ _).block ≠ _; rw [add_block]; exact hn166_0) | exact hn166_0) (.int .i64 ((rd_T25 l1 x8_1).f2))).trans hx166_4
                          replace hx166_0 := (cell_far (p := ⟨gb165, 1, none⟩) (by first | (rw [add_block]; exact hn166_1) | (show (Addr.add _ _).block ≠ _; rw [add_block]; exact hn166_1) | exact hn166_1) (.int .i64 ((rd_T25 l1 x8_1).f3))).trans hx166_0
                          replace hx166_1 := (cell_far (p := ⟨gb165, 1, none⟩) (by first | (rw [add_block]; exact hn166_1) | (show (Addr.add _ _).block ≠ _; rw [add_block]; exact hn166_1) | exact hn166_1) (.int .i64 ((rd_T25 l1 x8_1).f3))).trans hx166_1
                          replace hx166_2 := (cell_far (p := ⟨gb165, 1, none⟩) (by first | (rw [add_block]; exact hn166_1) | (show (Addr.add _ _).block ≠ _; rw [add_block]; exact hn166_1) | exact hn166_1) (.int .i64 ((rd_T25 l1 x8_1).f3))).trans hx166_2
                          replace hx166_3 := (cell_far (p := ⟨gb165, 1, none⟩) (by first | (rw [add_block]; exact hn166_1) | (show (Addr.add _ _).block ≠ _; rw [add_block]; exact hn166_1) | exact hn166_1) (.int .i64 ((rd_T25 l1 x8_1).f3))).trans hx166_3
                          replace hx166_4 := (cell_far (p := ⟨gb165, 1, none⟩) (by first | (rw [add_block]; exact hn166_1) | (show (Addr.add _ _).block ≠ _; rw [add_block]; exact hn166_1) | exact hn166_1) (.int .i64 ((rd_T25 l1 x8_1).f3))).trans hx166_4
                          clear hn166_0
                          clear hn166_1
                          replace p166 := eq_true p166
                          replace q166 := eq_true q166
                          have hcz50_0 : w27.cell? ⟨gb156, 0, none⟩ = some (.int .i64 x157000_1) := (blk_cell BK156.out 0).trans rfl
                          have hcz50_1 : w27.cell? ⟨gb156, 1, none⟩ = some (.int .i64 x157001_1) := (blk_cell BK156.out 1).trans rfl
                          have hfz50_0 := blk_frozen BK156.out 0
                          have hfz50_1 := blk_frozen BK156.out 1
                          go_wp2
                          go_meet
                          case rel => exact ⟨_, (false), (by first | rfl | (simp; done) | (simp [*]; done)), H', ⟨by have := HK1.out; first | omega | exact Nat.le_refl _⟩, ⟨by (with_reducible repeat (first | apply Kd.R_alloc | apply Kd.R_drewN | apply Kd.R_drew)); exact Kd.R_mono (Kd.R_far (p := ⟨gb165, 1, none⟩) (Kd.R_far (p := ⟨gb165, 0, none⟩) (Kd.R_types HO_6.out BK165.out (by decide)) (fun _ hk => hk.2) (.int .i64 ((rd_T25 l1 x8_1).f2))) (fun _ hk => hk.2) (.int .i64 ((rd_T25 l1 x8_1).f3))) (fun _ hk => trivial)⟩, ⟨by (with_reducible repeat (first | refine blk_drewN ?_ _ | refine blk_drew ?_ | refine blk_alloc ?_ _)); refine blk_far ?_ NB156_165.out _; (with_reducible repeat (first | refine blk_drewN ?_ _ | refine blk_drew ?_ | refine blk_alloc ?_ _)); refine blk_far ?_ NB156_165.out _; (with_reducible repeat (first | refine blk_drewN ?_ _ | refine blk_drew ?_ | refine blk_alloc ?_ _)); exact BK156.out⟩, ⟨by (with_reducible repeat (first | refine blk_drewN ?_ _ | refine blk_drew ?_ | refine blk_alloc ?_ _)); refine blk_far ?_ NB162_165.out _; (with_reducible repeat (first | refine blk_drewN ?_ _ | refine blk_drew ?_ | refine blk_alloc ?_ _)); refine blk_far ?_ NB162_165.out _; (with_reducible repeat (first | refine blk_drewN ?_ _ | refine blk_drew ?_ | refine blk_alloc ?_ _)); exact BK162.out⟩, ⟨by (with_reducible repeat (first | refine blk_drewN ?_ _ | refine blk_drew ?_ | refine blk_alloc ?_ _)); refine blk_put (cs := #[.int .i64 ((rd_T25 l1 x8_1).f2), .int .i64 0]) ?_ 1 _ rfl; (with_reducible repeat (first | refine blk_drewN ?_ _ | refine blk_drew ?_ | refine blk_alloc ?_ _)); refine blk_put (cs := #[.int .i64 0, .int .i64 0]) ?_ 0 _ rfl; (with_reducible repeat (first | refine blk_drewN ?_ _ | refine blk_drew ?_ | refine blk_alloc ?_ _)); exact BK165.out⟩, ⟨by repeat (first | (with_reducible first | exact HB.out | apply below_alloc | apply pw_below_drewN | apply below_drew1 | refine below_set ?_ GE156.out | refine below_set ?_ GE162.out | refine below_set ?_ GE165.out) | exact HB.out)⟩⟩
                      · rw [if_neg c37] at H
                        have c37b0 : (((rd_T25 l1 x8_1).f1) == 4) = false := beq_eq_false_iff_ne.mpr c37
                        have c37b1 : (((rd_T25 l1 x8_1).f1) != 4) = true := bne_iff_ne.mpr c37
                        have H' := Aside0.mk H
                        clear H
                        have hnb51 := NB162_156.out
                        have hnc51 := NB156_162.out
                        have hnb52 := NB162_165.out
                        have hnc52 := NB165_162.out
                        have hcz53_0 : w27.cell? ⟨gb162, 0, none⟩ = some (.int .i64 t159) := (blk_cell BK162.out 0).trans rfl
                        have hcz53_1 : w27.cell? ⟨gb162, 1, none⟩ = some (.int .i64 t160) := (blk_cell BK162.out 1).trans rfl
                        have hfz53_0 := blk_frozen BK162.out 0
                        have hfz53_1 := blk_frozen BK162.out 1
                        have hnb54 := NB165_156.out
                        have hnc54 := NB156_165.out
                        have hcz55_0 : w27.cell? ⟨gb165, 0, none⟩ = some (.int .i64 0) := (blk_cell BK165.out 0).trans rfl
                        have hcz55_1 : w27.cell? ⟨gb165, 1, none⟩ = some (.int .i64 0) := (blk_cell BK165.out 1).trans rfl
                        have hfz55_0 := blk_frozen BK165.out 0
                        have hfz55_1 := blk_frozen BK165.out 1
                        have p166 : 0 ≤ (x8_1 : Int) := of_decide_eq_true (by first | (with_reducible assumption) | assumption)
                        have q166 : x8_1 < (l1.length : Int) := of_decide_eq_true (by first | (with_reducible assumption) | assumption)
                        obtain ⟨ad166, e166, hx166_0, hx166_1, hx166_2, hx166_3, hx166_4⟩ := at_T25 HR1.out x8_1 p166 q166
                        obtain rfl : ad158 = ad166 := (by injection e166)
                        have hn166_0 : ad158.block ≠ gb165 := Nat.ne_of_lt (Nat.lt_of_lt_of_le (by have := World.block_lt_of_cell? _ _ hx166_0; first | rwa [add_block] at this | exact this) GW165.out)
                        have hn166_1 : ad158.block ≠ gb165 := Nat.ne_of_lt (Nat.lt_of_lt_of_le (by have := World.block_lt_of_cell? _ _ hx166_0; first | rwa [add_block] at this | exact this) GW165.out)
                        replace hx166_0 := (HB.out.cell (World.block_lt_of_cell? w _ hx166_0)).trans hx166_0
                        replace hx166_1 := (HB.out.cell (World.block_lt_of_cell? w _ hx166_1)).trans hx166_1
                        replace hx166_2 := (HB.out.cell (World.block_lt_of_cell? w _ hx166_2)).trans hx166_2
                        replace hx166_3 := (HB.out.cell (World.block_lt_of_cell? w _ hx166_3)).trans hx166_3
                        replace hx166_4 := (HB.out.cell (World.block_lt_of_cell? w _ hx166_4)).trans hx166_4
                        replace hx166_0 := (cell_far (p := ⟨gb165, 0, none⟩) (by first | (rw [add_block]; exact hn166_0) | (show (Addr.add _ _).block ≠ _; rw [add_block]; exact hn166_0) | exact hn166_0) (.int .i64 ((rd_T25 l1 x8_1).f2))).trans hx166_0
                        replace hx166_1 := (cell_far (p := ⟨gb165, 0, none⟩) (by first | (rw [add_block]; exact hn166_0) | (show (Addr.add _ _).block ≠ _; rw [add_block]; exact hn166_0) | exact hn166_0) (.int .i64 ((rd_T25 l1 x8_1).f2))).trans hx166_1
                        replace hx166_2 := (cell_far (p := ⟨gb165, 0, none⟩) (by first | (rw [add_block]; exact hn166_0) | (show (Addr.add _ _).block ≠ _; rw [add_block]; exact hn166_0) | exact hn166_0) (.int .i64 ((rd_T25 l1 x8_1).f2))).trans hx166_2
                        replace hx166_3 := (cell_far (p := ⟨gb165, 0, none⟩) (by first | (rw [add_block]; exact hn166_0) | (show (Addr.add _ _).block ≠ _; rw [add_block]; exact hn166_0) | exact hn166_0) (.int .i64 ((rd_T25 l1 x8_1).f2))).trans hx166_3
                        replace hx166_4 := (cell_far (p := ⟨gb165, 0, none⟩) (by first | (rw [add_block]; exact hn166_0) | (show (Addr.add _ _).block ≠ _; rw [add_block]; exact hn166_0) | exact hn166_0) (.int .i64 ((rd_T25 l1 x8_1).f2))).trans hx166_4
                        replace hx166_0 := (cell_far (p := ⟨gb165, 1, none⟩) (by first | (rw [add_block]; exact hn166_1) | (show (Addr.add _ _).block ≠ _; rw [add_block]; exact hn166_1) | exact hn166_1) (.int .i64 ((rd_T25 l1 x8_1).f3))).trans hx166_0
                        replace hx166_1 := (cell_far (p := ⟨gb165, 1, none⟩) (by first | (rw [add_block]; exact hn166_1) | (show (Addr.add _ _).block ≠ _; rw [add_block]; exact hn166_1) | exact hn166_1) (.int .i64 ((rd_T25 l1 x8_1).f3))).trans hx166_1
                        replace hx166_2 := (cell_far (p := ⟨gb165, 1, none⟩) (by first | (rw [add_block]; exact hn166_1) | (show (Addr.add _ _).block ≠ _; rw [add_block]; exact hn166_1) | exact hn166_1) (.int .i64 ((rd_T25 l1 x8_1).f3))).trans hx166_2
                        replace hx166_3 := (cell_far (p := ⟨gb165, 1, none⟩) (by first | (rw [add_block]; exact hn166_1) | (show (Addr.add _ _).block ≠ _; rw [add_block]; exact hn166_1) | exact hn166_1) (.int .i64 ((rd_T25 l1 x8_1).f3))).trans hx166_3
                        replace hx166_4 := (cell_far (p := ⟨gb165, 1, none⟩) (by first | (rw [add_block]; exact hn166_1) | (show (Addr.add _ _).block ≠ _; rw [add_block]; exact hn166_1) | exact hn166_1) (.int .i64 ((rd_T25 l1 x8_1).f3))).trans hx166_4
                        clear hn166_0
                        clear hn166_1
                        replace p166 := eq_true p166
                        replace q166 := eq_true q166
                        go_wp2
                        go_meet
                        case rel => exact ⟨_, (false), (by first | rfl | (simp; done) | (simp [*]; done)), H', ⟨by have := HK1.out; first | omega | exact Nat.le_refl _⟩, ⟨by (with_reducible repeat (first | apply Kd.R_alloc | apply Kd.R_drewN | apply Kd.R_drew)); exact Kd.R_mono (Kd.R_far (p := ⟨gb165, 1, none⟩) (Kd.R_far (p := ⟨gb165, 0, none⟩) (Kd.R_types HO_6.out BK165.out (by decide)) (fun _ hk => hk.2) (.int .i64 ((rd_T25 l1 x8_1).f2))) (fun _ hk => hk.2) (.int .i64 ((rd_T25 l1 x8_1).f3))) (fun _ hk => trivial)⟩, ⟨by (with_reducible repeat (first | refine blk_drewN ?_ _ | refine blk_drew ?_ | refine blk_alloc ?_ _)); refine blk_far ?_ NB156_165.out _; (with_reducible repeat (first | refine blk_drewN ?_ _ | refine blk_drew ?_ | refine blk_alloc ?_ _)); refine blk_far ?_ NB156_165.out _; (with_reducible repeat (first | refine blk_drewN ?_ _ | refine blk_drew ?_ | refine blk_alloc ?_ _)); exact BK156.out⟩, ⟨by (with_reducible repeat (first | refine blk_drewN ?_ _ | refine blk_drew ?_ | refine blk_alloc ?_ _)); refine blk_far ?_ NB162_165.out _; (with_reducible repeat (first | refine blk_drewN ?_ _ | refine blk_drew ?_ | refine blk_alloc ?_ _)); refine blk_far ?_ NB162_165.out _; (with_reducible repeat (first | refine blk_drewN ?_ _ | refine blk_drew ?_ | refine blk_alloc ?_ _)); exact BK162.out⟩, ⟨by (with_reducible repeat (first | refine blk_drewN ?_ _ | refine blk_drew ?_ | refine blk_alloc ?_ _)); refine blk_put (cs := #[.int .i64 ((rd_T25 l1 x8_1).f2), .int .i64 0]) ?_ 1 _ rfl; (with_reducible repeat (first | refine blk_drewN ?_ _ | refine blk_drew ?_ | refine blk_alloc ?_ _)); refine blk_put (cs := #[.int .i64 0, .int .i64 0]) ?_ 0 _ rfl; (with_reducible repeat (first | refine blk_drewN ?_ _ | refine blk_drew ?_ | refine blk_alloc ?_ _)); exact BK165.out⟩, ⟨by repeat (first | (with_reducible first | exact HB.out | apply below_alloc | apply pw_below_drewN | apply below_drew1 | refine below_set ?_ GE156.out | refine below_set ?_ GE162.out | refine below_set ?_ GE165.out) | exact HB.out)⟩⟩
                  · replace c30 := Bool.eq_false_iff.mpr c30
                    subst c30
                    have H1 : (clavierlaw15_TrackOnce.j1 k1 a0 l1 t152 y153 x8_1 (!(t159 == x157000_1) || (!(t160 == x157001_1))) t159 t160) = some r := by rw [if_neg (show ¬ (false = true) by decide)] at H; exact H
                    clear H
                    have H := H1
                    clear H1
                    have H' := Aside0.mk H
                    clear H
                    have hnb56 := NB162_156.out
                    have hnc56 := NB156_162.out
                    have hnb57 := NB162_165.out
                    have hnc57 := NB165_162.out
                    have hcz58_0 : w27.cell? ⟨gb162, 0, none⟩ = some (.int .i64 t159) := (blk_cell BK162.out 0).trans rfl
                    have hcz58_1 : w27.cell? ⟨gb162, 1, none⟩ = some (.int .i64 t160) := (blk_cell BK162.out 1).trans rfl
                    have hfz58_0 := blk_frozen BK162.out 0
                    have hfz58_1 := blk_frozen BK162.out 1
                    have hnb59 := NB156_165.out
                    have hnc59 := NB165_156.out
                    have hcz60_0 : w27.cell? ⟨gb156, 0, none⟩ = some (.int .i64 x157000_1) := (blk_cell BK156.out 0).trans rfl
                    have hcz60_1 : w27.cell? ⟨gb156, 1, none⟩ = some (.int .i64 x157001_1) := (blk_cell BK156.out 1).trans rfl
                    have hfz60_0 := blk_frozen BK156.out 0
                    have hfz60_1 := blk_frozen BK156.out 1
                    go_wp2
                    go_meet
                    case rel => exact ⟨_, ((!(t159 == x157000_1) || (!(t160 == x157001_1)))), (by first | rfl | (simp; done) | (simp [*]; done)), H', ⟨by have := HK1.out; first | omega | exact Nat.le_refl _⟩, ⟨by (with_reducible repeat (first | apply Kd.R_alloc | apply Kd.R_drewN | apply Kd.R_drew)); exact Kd.R_mono (Kd.R_far (p := ⟨gb165, 1, none⟩) (Kd.R_far (p := ⟨gb165, 0, none⟩) (Kd.R_types HO_6.out BK165.out (by decide)) (fun _ hk => hk.2) (.int .i64 ((rd_T25 l1 x8_1).f2))) (fun _ hk => hk.2) (.int .i64 ((rd_T25 l1 x8_1).f3))) (fun _ hk => trivial)⟩, ⟨by (with_reducible repeat (first | refine blk_drewN ?_ _ | refine blk_drew ?_ | refine blk_alloc ?_ _)); refine blk_far ?_ NB156_165.out _; (with_reducible repeat (first | refine blk_drewN ?_ _ | refine blk_drew ?_ | refine blk_alloc ?_ _)); refine blk_far ?_ NB156_165.out _; (with_reducible repeat (first | refine blk_drewN ?_ _ | refine blk_drew ?_ | refine blk_alloc ?_ _)); exact BK156.out⟩, ⟨by (with_reducible repeat (first | refine blk_drewN ?_ _ | refine blk_drew ?_ | refine blk_alloc ?_ _)); refine blk_far ?_ NB162_165.out _; (with_reducible repeat (first | refine blk_drewN ?_ _ | refine blk_drew ?_ | refine blk_alloc ?_ _)); refine blk_far ?_ NB162_165.out _; (with_reducible repeat (first | refine blk_drewN ?_ _ | refine blk_drew ?_ | refine blk_alloc ?_ _)); exact BK162.out⟩, ⟨by (with_reducible repeat (first | refine blk_drewN ?_ _ | refine blk_drew ?_ | refine blk_alloc ?_ _)); refine blk_put (cs := #[.int .i64 ((rd_T25 l1 x8_1).f2), .int .i64 0]) ?_ 1 _ rfl; (with_reducible repeat (first | refine blk_drewN ?_ _ | refine blk_drew ?_ | refine blk_alloc ?_ _)); refine blk_put (cs := #[.int .i64 0, .int .i64 0]) ?_ 0 _ rfl; (with_reducible repeat (first | refine blk_drewN ?_ _ | refine blk_drew ?_ | refine blk_alloc ?_ _)); exact BK165.out⟩, ⟨by repeat (first | (with_reducible first | exact HB.out | apply below_alloc | apply pw_below_drewN | apply below_drew1 | refine below_set ?_ GE156.out | refine below_set ?_ GE162.out | refine below_set ?_ GE165.out) | exact HB.out)⟩⟩
                case rest =>
                  clear HC17
                  try clear c1
                  try clear p1
                  try clear q1
                  try clear hx1
                  try clear p2
                  try clear c3
                  try clear c4
                  try clear c5
                  try clear c10
                  try clear p16
                  try clear q16
                  try clear hx16
                  try clear c30
                  try clear c31
                  try clear c31b0
                  try clear c32
                  try clear c33
                  try clear c35
                  try clear c37
                  try clear c37b0
                  try clear c37b1
                  try clear c38
                  try clear c38b0
                  try clear c38b1
                  try clear c38b2
                  try clear c39
                  try clear c40
                  try clear c42
                  try clear c45
                  try clear c46
                  try clear c48
                  try clear c51
                  try clear c52
                  try clear c54
                  try clear c56
                  try clear c57
                  try clear c59
                  try clear hcz34_0
                  try clear hcz34_1
                  try clear hcz36_0
                  try clear hcz36_1
                  try clear hcz41_0
                  try clear hcz41_1
                  try clear hcz43_0
                  try clear hcz43_1
                  try clear hcz44_0
                  try clear hcz44_1
                  try clear hcz47_0
                  try clear hcz47_1
                  try clear hcz49_0
                  try clear hcz49_1
                  try clear hcz50_0
                  try clear hcz50_1
                  try clear hcz53_0
                  try clear hcz53_1
                  try clear hcz55_0
                  try clear hcz55_1
                  try clear hcz58_0
                  try clear hcz58_1
                  try clear hcz60_0
                  try clear hcz60_1
                  try clear hfz34_0
                  try clear hfz34_1
                  try clear hfz36_0
                  try clear hfz36_1
                  try clear hfz41_0
                  try clear hfz41_1
                  try clear hfz43_0
                  try clear hfz43_1
                  try clear hfz44_0
                  try clear hfz44_1
                  try clear hfz47_0
                  try clear hfz47_1
                  try clear hfz49_0
                  try clear hfz49_1
                  try clear hfz50_0
                  try clear hfz50_1
                  try clear hfz53_0
                  try clear hfz53_1
                  try clear hfz55_0
                  try clear hfz55_1
                  try clear hfz58_0
                  try clear hfz58_1
                  try clear hfz60_0
                  try clear hfz60_1
                  try clear hx163_0
                  try clear hx163_1
                  try clear hx163_2
                  try clear hx163_3
                  try clear hx163_4
                  try clear hx164_0
                  try clear hx164_1
                  try clear hx164_2
                  try clear hx164_3
                  try clear hx164_4
                  try clear hx166_0
                  try clear hx166_1
                  try clear hx166_2
                  try clear hx166_3
                  try clear hx166_4
                  try clear p163
                  try clear p164
                  try clear p166
                  try clear q163
                  try clear q164
                  try clear q166
                  obtain ⟨kq, x77_16, rfl, HA, HJ16, HO_6, BK156, BK162, BK165, HB⟩ := hcut
                  cases kq with
                  | zero => exact absurd HA.out (by simp [clavierlaw15_TrackOnce.j1])
                  | succ kj16 =>
                    have H := HA.out
                    clear HA
                    simp only [clavierlaw15_TrackOnce.j1] at H
                    by_cases c61 : x77_16 = true
                    · subst c61
                      have H1 : (some false) = some r := by rw [if_pos rfl] at H; exact H
                      clear H
                      have H := H1
                      clear H1
                      obtain rfl := Option.some.inj H
                      go_wp2
                      go_ret
                      exact ⟨by first | rfl | (simp [errW_none, errW_some] <;> rfl) | (simp only [← hji12]; first | rfl | (simp [errW_none, errW_some] <;> rfl)) | (simp [*, errW_none, errW_some] <;> rfl), by repeat (first | (with_reducible first | exact HB.out | apply below_alloc | apply pw_below_drewN | apply below_drew1 | refine below_set ?_ GE156.out | refine below_set ?_ GE162.out | refine below_set ?_ GE165.out) | exact HB.out)⟩
                    · replace c61 := Bool.eq_false_iff.mpr c61
                      subst c61
                      have H1 : (clavierlaw15_TrackOnce.l0 kj16 a0 l1 t152 y153 (wrap64 (x8_1 + 1)) t159 t160) = some r := by rw [if_neg (show ¬ (false = true) by decide)] at H; exact H
                      clear H
                      have H := H1
                      clear H1
                      have H' := Aside0.mk H
                      clear H
                      have hnb62 := NB162_156.out
                      have hnc62 := NB156_162.out
                      have hnb63 := NB162_165.out
                      have hnc63 := NB165_162.out
                      have hcz64_0 : wc.cell? ⟨gb162, 0, none⟩ = some (.int .i64 t159) := (blk_cell BK162.out 0).trans rfl
                      have hcz64_1 : wc.cell? ⟨gb162, 1, none⟩ = some (.int .i64 t160) := (blk_cell BK162.out 1).trans rfl
                      have hfz64_0 := blk_frozen BK162.out 0
                      have hfz64_1 := blk_frozen BK162.out 1
                      have hnb65 := NB156_165.out
                      have hnc65 := NB165_156.out
                      have hcz66_0 : wc.cell? ⟨gb156, 0, none⟩ = some (.int .i64 x157000_1) := (blk_cell BK156.out 0).trans rfl
                      have hcz66_1 : wc.cell? ⟨gb156, 1, none⟩ = some (.int .i64 x157001_1) := (blk_cell BK156.out 1).trans rfl
                      have hfz66_0 := blk_frozen BK156.out 0
                      have hfz66_1 := blk_frozen BK156.out 1
                      go_wp2
                      go_roundg kj16
                      case measure => have := HK1.out; have := HJ16.out; omega
                      case rel => exact ⟨(wrap64 (x8_1 + 1)), (t159), (t160), (by first | rfl | (simp; done) | (simp [*]; done)), H', ⟨by have := HK1.out; have := HJ16.out; omega⟩, ⟨by (with_reducible repeat (first | apply Kd.R_alloc | apply Kd.R_drewN | apply Kd.R_drew)); exact Kd.R_mono (Kd.R_far (p := ⟨gb156, 1, none⟩) (Kd.R_far (p := ⟨gb156, 0, none⟩) (Kd.R_types HO_6.out BK156.out (by decide)) (fun _ hk => hk.2) (.int .i64 t159)) (fun _ hk => hk.2) (.int .i64 t160)) (fun _ hk => trivial)⟩, ⟨by (with_reducible repeat (first | refine blk_drewN ?_ _ | refine blk_drew ?_ | refine blk_alloc ?_ _)); refine blk_put (cs := #[.int .i64 t159, .int .i64 x157001_1]) ?_ 1 _ rfl; (with_reducible repeat (first | refine blk_drewN ?_ _ | refine blk_drew ?_ | refine blk_alloc ?_ _)); refine blk_put (cs := #[.int .i64 x157000_1, .int .i64 x157001_1]) ?_ 0 _ rfl; (with_reducible repeat (first | refine blk_drewN ?_ _ | refine blk_drew ?_ | refine blk_alloc ?_ _)); exact BK156.out⟩, ⟨by repeat (first | (with_reducible first | exact HB.out | apply below_alloc | apply pw_below_drewN | apply below_drew1 | refine below_set ?_ GE156.out | refine below_set ?_ GE162.out | refine below_set ?_ GE165.out) | exact HB.out)⟩⟩
              · rw [if_neg c15] at H
                exact absurd H (by simp)
            · rw [if_neg c14] at H
              exact absurd H (by simp)
          · rw [if_neg c13] at H
            exact absurd H (by simp)
        · rw [if_neg c11] at H
          have c11b0 : decide (x8_1 < (l1.length : Int)) = false := decide_eq_false c11
          clear c11
          obtain rfl := Option.some.inj H
          go_wp2
          go_ret
          exact ⟨by first | rfl | (simp [errW_none, errW_some] <;> rfl) | (simp [*, errW_none, errW_some] <;> rfl), by repeat (first | (with_reducible first | exact HB.out | apply below_alloc | apply pw_below_drewN | apply below_drew1 | refine below_set ?_ GE156.out) | exact HB.out)⟩

end Go.Proofs.Ytpljdaahkiabkaa.Q
