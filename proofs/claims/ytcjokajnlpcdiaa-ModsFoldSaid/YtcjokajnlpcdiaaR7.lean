-- Written by a program of this session (myprint.py over the kit's printer, some callees given by hand). Lean checks it.
import Derived.Test.YtcjokajnlpcdiaaR0
import Derived.Test.YtcjokajnlpcdiaaR1
import Derived.Test.YtcjokajnlpcdiaaR6
namespace Go.Proofs.Ytcjokajnlpcdiaa.R
open Go.Proofs.Ytcjokajnlpcdiaa.H Go.RowKit Go.Proofs.YtcjokajnlpcdiaaW.PrintWords Go.Proofs.YtcjokajnlpcdiaaW.PrintLast Go.Proofs.YtcjokajnlpcdiaaW.PrintMore
attribute [local go_sem] max2_int min2_int max_two min_two max_three min_three max_four min_four   -- for this text's walks alone
set_option linter.unusedVariables false
set_option linter.unusedSimpArgs false

/-! ### clavierlaw10_ModsMay: function 3 -/
def clavierlaw10_ModsMay.f (k : Nat) (a0_0 : Int) (a0_1 : Int) (a0_2 : Int) (a0_3 : Int) (a0_4 : Int) (a0_5 : ByteArray) : Option (Bool) := (clavierlaw10_awake.f).bind fun t181 => (if (a0_5.size : Int) > 100 then (some t181) else (if t181 = true then ((mods_May.f a0_0 a0_1 a0_2 a0_3 a0_4 a0_5).bind fun t182 => ((clavierref10_May.f k a0_0 a0_1 a0_2 a0_3 a0_4 a0_5).bind fun t183 => (if (t182 == t183) = true then ((mods_Shown.f a0_0 a0_1 a0_2 a0_3 a0_4 a0_5).bind fun t184 => ((clavierref10_Shown.f a0_0 a0_1 a0_2 a0_3 a0_4 a0_5).bind fun t185 => (some (t184 == t185)))) else (none)))) else (none)))
theorem clavierlaw10_ModsMay.mono : ∀ a0 a1 a2 a3 a4 a5 k, LeO (clavierlaw10_ModsMay.f k a0 a1 a2 a3 a4 a5) (clavierlaw10_ModsMay.f (k + 1) a0 a1 a2 a3 a4 a5) := by
  intro a0 a1 a2 a3 a4 a5 k
  unfold clavierlaw10_ModsMay.f
  repeat' first
      | (with_reducible exact clavierref10_May.mono _ _ _ _ _ _ _)
      | (with_reducible exact LeO.refl _)
      | (with_reducible exact LeO.none _)
      | (with_reducible refine LeO.ite ?_ ?_)
      | (with_reducible refine LeO.bind ?_ (fun _ => ?_))
      | exact clavierref10_May.mono _ _ _ _ _ _ _
      | exact LeO.none _
      | refine LeO.ite ?_ ?_
      | refine LeO.bind ?_ (fun _ => ?_)
def clavierlaw10_ModsMay.T4 : Bool × List (List Nat × List Nat) := (true, [([], []), ([0], [0]), ([1], [1]), ([2, 1, 1], [1, 2]), ([1], [1]), ([4, 3, 1], [1, 4]), ([3, 5, 1], [1, 3, 5]), ([1, 6], [1, 6]), ([7, 5], [7]), ([8], [8]), ([9, 8, 8], [8, 9]), ([8], [8]), ([11, 10, 8], [8, 11]), ([10, 12, 8], [8, 10, 12]), ([8, 13], [8, 13]), ([14, 12, 0, 1, 2, 3, 4, 5, 6, 7, 8, 9, 10, 11, 12, 13, 14], [14])])
def clavierlaw10_ModsMay.B4 : List Nat := [0, 1, 3, 7, 3, 31, 63, 127, 255, 511, 1023, 511, 4095, 8191, 16383, 32767]
theorem clavierlaw10_ModsMay.tab4 : rtab .any (opsOf Try.f3 4) = clavierlaw10_ModsMay.T4 := by kernel_rfl
theorem clavierlaw10_ModsMay.bits4 : waitsOk clavierlaw10_ModsMay.T4.2 clavierlaw10_ModsMay.B4 = true := by kernel_rfl
set_option maxHeartbeats 8000000 in
set_option maxRecDepth 100000 in
theorem clavierlaw10_ModsMay.calls (k : Nat) (a0_0 : Int) (a0_1 : Int) (a0_2 : Int) (a0_3 : Int) (a0_4 : Int) (a0_5 : ByteArray) (r : Bool) (w : World) (h : clavierlaw10_ModsMay.f k a0_0 a0_1 a0_2 a0_3 a0_4 a0_5 = some r) :
    Calls Try.prog 3 #[.agg #[.int .i64 a0_0, .int .i64 a0_1, .int .i64 a0_2, .int .i64 a0_3, .int .i64 a0_4, .string a0_5]] w fun e w' => e = .returned (.bool r) ∧ Below w.heap.size w w' := by
  have hu23 := Try.underlying23
  have HB := Aside0.mk (Below.refl w.heap.size w)
  have H : ((clavierlaw10_awake.f).bind fun t181 => (if (a0_5.size : Int) > 100 then (some t181) else (if t181 = true then ((mods_May.f a0_0 a0_1 a0_2 a0_3 a0_4 a0_5).bind fun t182 => ((clavierref10_May.f k a0_0 a0_1 a0_2 a0_3 a0_4 a0_5).bind fun t183 => (if (t182 == t183) = true then ((mods_Shown.f a0_0 a0_1 a0_2 a0_3 a0_4 a0_5).bind fun t184 => ((clavierref10_Shown.f a0_0 a0_1 a0_2 a0_3 a0_4 a0_5).bind fun t185 => (some (t184 == t185)))) else (none)))) else (none)))) = some r := h
  clear h
  replace H := Option.bind_eq_some_iff.mp H
  obtain ⟨t181, A20, H⟩ := H
  replace H : (if (a0_5.size : Int) > 100 then (some t181) else (if t181 = true then ((mods_May.f a0_0 a0_1 a0_2 a0_3 a0_4 a0_5).bind fun t182 => ((clavierref10_May.f k a0_0 a0_1 a0_2 a0_3 a0_4 a0_5).bind fun t183 => (if (t182 == t183) = true then ((mods_Shown.f a0_0 a0_1 a0_2 a0_3 a0_4 a0_5).bind fun t184 => ((clavierref10_Shown.f a0_0 a0_1 a0_2 a0_3 a0_4 a0_5).bind fun t185 => (some (t184 == t185)))) else (none)))) else (none))) = some r := H
  have A2 := Aside0.mk A20
  clear A20
  by_cases c3 : (a0_5.size : Int) > 100
  · rw [if_pos c3] at H
    have c3b0 : decide (100 < (a0_5.size : Int)) = true := decide_eq_true c3
    have c3b1 : decide (100 < a0_5.size) = true := decide_eq_true (by omega)
    clear c3
    obtain rfl := Option.some.inj H
    go_enter Try.func3, Try.ntmps3
    go_wp2_with (first | ((with_reducible refine gate_dst (N := 1) rfl ?_); refine box_event ?hg (N := 1) ?hd (cs := #[.int .i64 a0_0, .int .i64 a0_1, .int .i64 a0_2, .int .i64 a0_3, .int .i64 a0_4, .string a0_5]) (t := 23) ?hr ?_; (case hd => rfl); (case hg => rfl); (case hr => first | (go_simp; done) | (go_simp; rfl)); intro gb180 hg w4 hbox hb; have n0_ := Aside0.mk (below_step (by repeat (first | (with_reducible first | exact HB.out | apply below_alloc | apply pw_below_drewN | apply below_drew1) | exact HB.out)) hb); have n1_ := Aside0.mk (hbox); have n2_ := Aside0.mk ((by rw [hg]; exact (below_size (by repeat (first | (with_reducible first | exact HB.out | apply below_alloc | apply pw_below_drewN | apply below_drew1) | exact HB.out))) : w.heap.size ≤ gb180)); have n3_ := Aside0.mk ((by rw [hg]; exact (below_size (by repeat (first | (with_reducible first | exact HB.out | apply below_alloc | apply pw_below_drewN | apply below_drew1) | exact HB.out))) : w.heap.size ≤ gb180)); clear HB; have HB := n0_; have BK180 := n1_; have GW180 := n2_; have GE180 := n3_; clear n0_ n1_ n2_ n3_; clear hb hbox hg) | ((with_reducible refine gate_callee (f := 9) rfl ?_); refine goesL_ (some 4) rfl rfl Try.func9 (by kernel_rfl) rfl #[] rfl (by (try simp only [List.map_toArray, List.map_cons, List.map_nil]); first | done | rfl | (simp only [List.length_drop, List.length_take]; rfl)) ?_; (with_reducible refine (clavierlaw10_awake.calls  t181 _ A2.out).mono ?_); rintro e w5 ⟨rfl, hb⟩; refine ⟨_, rfl, ?_⟩; have n0_ := Aside0.mk (blk_below (g := gb180) (o := .cells #[.int .i64 a0_0, .int .i64 a0_1, .int .i64 a0_2, .int .i64 a0_3, .int .i64 a0_4, .string a0_5] 23 (0, 0)) (by (with_reducible repeat (first | refine blk_drewN ?_ _ | refine blk_drew ?_ | refine blk_alloc ?_ _)); exact BK180.out) hb); have n1_ := Aside0.mk (below_step (by repeat (first | (with_reducible first | exact HB.out | apply below_alloc | apply pw_below_drewN | apply below_drew1 | refine below_set ?_ GE180.out) | exact HB.out)) hb); clear BK180; clear HB; have BK180 := n0_; have HB := n1_; clear n0_ n1_; (try clear hb); (try clear hb2); (try clear hk); (try clear hi); have hcz6_0 : w5.cell? ⟨gb180, 0, none⟩ = some (.int .i64 a0_0) := (blk_cell BK180.out 0).trans rfl; have hcz6_1 : w5.cell? ⟨gb180, 1, none⟩ = some (.int .i64 a0_1) := (blk_cell BK180.out 1).trans rfl; have hcz6_2 : w5.cell? ⟨gb180, 2, none⟩ = some (.int .i64 a0_2) := (blk_cell BK180.out 2).trans rfl; have hcz6_3 : w5.cell? ⟨gb180, 3, none⟩ = some (.int .i64 a0_3) := (blk_cell BK180.out 3).trans rfl; have hcz6_4 : w5.cell? ⟨gb180, 4, none⟩ = some (.int .i64 a0_4) := (blk_cell BK180.out 4).trans rfl; have hcz6_5 : w5.cell? ⟨gb180, 5, none⟩ = some (.string a0_5) := (blk_cell BK180.out 5).trans rfl; have hfz6_0 := blk_frozen BK180.out 0; have hfz6_1 := blk_frozen BK180.out 1; have hfz6_2 := blk_frozen BK180.out 2; have hfz6_3 := blk_frozen BK180.out 3; have hfz6_4 := blk_frozen BK180.out 4; have hfz6_5 := blk_frozen BK180.out 5))
    go_ret
    exact ⟨by first | rfl | (simp [errW_none, errW_some] <;> rfl) | (simp [*, errW_none, errW_some] <;> rfl), by repeat (first | (with_reducible first | exact HB.out | apply below_alloc | apply pw_below_drewN | apply below_drew1 | refine below_set ?_ GE180.out) | exact HB.out)⟩
  · rw [if_neg c3] at H
    have c3b0 : decide (100 < (a0_5.size : Int)) = false := decide_eq_false c3
    have c3b1 : decide (100 < a0_5.size) = false := decide_eq_false (by omega)
    clear c3
    by_cases c7 : t181 = true
    · subst c7
      have H1 : ((mods_May.f a0_0 a0_1 a0_2 a0_3 a0_4 a0_5).bind fun t182 => ((clavierref10_May.f k a0_0 a0_1 a0_2 a0_3 a0_4 a0_5).bind fun t183 => (if (t182 == t183) = true then ((mods_Shown.f a0_0 a0_1 a0_2 a0_3 a0_4 a0_5).bind fun t184 => ((clavierref10_Shown.f a0_0 a0_1 a0_2 a0_3 a0_4 a0_5).bind fun t185 => (some (t184 == t185)))) else (none)))) = some r := by rw [if_pos rfl] at H; exact H
      clear H
      have H := H1
      clear H1
      replace H := Option.bind_eq_some_iff.mp H
      obtain ⟨t182, A80, H⟩ := H
      replace H : ((clavierref10_May.f k a0_0 a0_1 a0_2 a0_3 a0_4 a0_5).bind fun t183 => (if (t182 == t183) = true then ((mods_Shown.f a0_0 a0_1 a0_2 a0_3 a0_4 a0_5).bind fun t184 => ((clavierref10_Shown.f a0_0 a0_1 a0_2 a0_3 a0_4 a0_5).bind fun t185 => (some (t184 == t185)))) else (none))) = some r := H
      have A8 := Aside0.mk A80
      clear A80
      replace H := Option.bind_eq_some_iff.mp H
      obtain ⟨t183, A90, H⟩ := H
      replace H : (if (t182 == t183) = true then ((mods_Shown.f a0_0 a0_1 a0_2 a0_3 a0_4 a0_5).bind fun t184 => ((clavierref10_Shown.f a0_0 a0_1 a0_2 a0_3 a0_4 a0_5).bind fun t185 => (some (t184 == t185)))) else (none)) = some r := H
      have A9 := Aside0.mk A90
      clear A90
      by_cases c10 : (t182 == t183) = true
      · rw [if_pos c10] at H
        have c10b0 : (t182 == t183) = true := c10
        (try (have c10b1 : decide (t182 = t183) = true := by simpa using c10))
        (try (have c10b2 : (t182 == t183) = true := by simpa using c10))
        clear c10
        replace H := Option.bind_eq_some_iff.mp H
        obtain ⟨t184, A110, H⟩ := H
        replace H : ((clavierref10_Shown.f a0_0 a0_1 a0_2 a0_3 a0_4 a0_5).bind fun t185 => (some (t184 == t185))) = some r := H
        have A11 := Aside0.mk A110
        clear A110
        replace H := Option.bind_eq_some_iff.mp H
        obtain ⟨t185, A120, H⟩ := H
        replace H : (some (t184 == t185)) = some r := H
        have A12 := Aside0.mk A120
        clear A120
        obtain rfl := Option.some.inj H
        go_enter Try.func3, Try.ntmps3
        try go_wp2_with (first | ((with_reducible refine gate_dst (N := 1) rfl ?_); refine box_event ?hg (N := 1) ?hd (cs := #[.int .i64 a0_0, .int .i64 a0_1, .int .i64 a0_2, .int .i64 a0_3, .int .i64 a0_4, .string a0_5]) (t := 23) ?hr ?_; (case hd => rfl); (case hg => rfl); (case hr => first | (go_simp; done) | (go_simp; rfl)); intro gb180 hg w13 hbox hb; have n0_ := Aside0.mk (below_step (by repeat (first | (with_reducible first | exact HB.out | apply below_alloc | apply pw_below_drewN | apply below_drew1) | exact HB.out)) hb); have n1_ := Aside0.mk (hbox); have n2_ := Aside0.mk ((by rw [hg]; exact (below_size (by repeat (first | (with_reducible first | exact HB.out | apply below_alloc | apply pw_below_drewN | apply below_drew1) | exact HB.out))) : w.heap.size ≤ gb180)); have n3_ := Aside0.mk ((by rw [hg]; exact (below_size (by repeat (first | (with_reducible first | exact HB.out | apply below_alloc | apply pw_below_drewN | apply below_drew1) | exact HB.out))) : w.heap.size ≤ gb180)); clear HB; have HB := n0_; have BK180 := n1_; have GW180 := n2_; have GE180 := n3_; clear n0_ n1_ n2_ n3_; clear hb hbox hg) | ((with_reducible refine gate_callee (f := 9) rfl ?_); refine goesL_ (some 4) rfl rfl Try.func9 (by kernel_rfl) rfl #[] rfl (by (try simp only [List.map_toArray, List.map_cons, List.map_nil]); first | done | rfl | (simp only [List.length_drop, List.length_take]; rfl)) ?_; (with_reducible refine (clavierlaw10_awake.calls  true _ A2.out).mono ?_); rintro e w14 ⟨rfl, hb⟩; refine ⟨_, rfl, ?_⟩; have n0_ := Aside0.mk (blk_below (g := gb180) (o := .cells #[.int .i64 a0_0, .int .i64 a0_1, .int .i64 a0_2, .int .i64 a0_3, .int .i64 a0_4, .string a0_5] 23 (0, 0)) (by (with_reducible repeat (first | refine blk_drewN ?_ _ | refine blk_drew ?_ | refine blk_alloc ?_ _)); exact BK180.out) hb); have n1_ := Aside0.mk (below_step (by repeat (first | (with_reducible first | exact HB.out | apply below_alloc | apply pw_below_drewN | apply below_drew1 | refine below_set ?_ GE180.out) | exact HB.out)) hb); clear BK180; clear HB; have BK180 := n0_; have HB := n1_; clear n0_ n1_; (try clear hb); (try clear hb2); (try clear hk); (try clear hi); have hcz15_0 : w14.cell? ⟨gb180, 0, none⟩ = some (.int .i64 a0_0) := (blk_cell BK180.out 0).trans rfl; have hcz15_1 : w14.cell? ⟨gb180, 1, none⟩ = some (.int .i64 a0_1) := (blk_cell BK180.out 1).trans rfl; have hcz15_2 : w14.cell? ⟨gb180, 2, none⟩ = some (.int .i64 a0_2) := (blk_cell BK180.out 2).trans rfl; have hcz15_3 : w14.cell? ⟨gb180, 3, none⟩ = some (.int .i64 a0_3) := (blk_cell BK180.out 3).trans rfl; have hcz15_4 : w14.cell? ⟨gb180, 4, none⟩ = some (.int .i64 a0_4) := (blk_cell BK180.out 4).trans rfl; have hcz15_5 : w14.cell? ⟨gb180, 5, none⟩ = some (.string a0_5) := (blk_cell BK180.out 5).trans rfl; have hfz15_0 := blk_frozen BK180.out 0; have hfz15_1 := blk_frozen BK180.out 1; have hfz15_2 := blk_frozen BK180.out 2; have hfz15_3 := blk_frozen BK180.out 3; have hfz15_4 := blk_frozen BK180.out 4; have hfz15_5 := blk_frozen BK180.out 5))
        have n0_ := Aside0.mk (blk_drew BK180.out)
        have n1_ := Aside0.mk (below_drew1 HB.out)
        clear BK180
        clear HB
        have BK180 := n0_
        have HB := n1_
        clear n0_ n1_
        refine start_ (n := 16) (S := fun w' => w'.cell? ⟨gb180, 0, none⟩ = some (.int .i64 a0_0) ∧ w'.cell? ⟨gb180, 1, none⟩ = some (.int .i64 a0_1) ∧ w'.cell? ⟨gb180, 2, none⟩ = some (.int .i64 a0_2) ∧ w'.cell? ⟨gb180, 3, none⟩ = some (.int .i64 a0_3) ∧ w'.cell? ⟨gb180, 4, none⟩ = some (.int .i64 a0_4) ∧ w'.cell? ⟨gb180, 5, none⟩ = some (.string a0_5)) (ds := []) #[false, false, false, false, false, false, false, false, false, false, false, false, false, false, false, false] (by kernel_rfl) rfl rfl ⟨(blk_cell BK180.out 0).trans rfl, (blk_cell BK180.out 1).trans rfl, (blk_cell BK180.out 2).trans rfl, (blk_cell BK180.out 3).trans rfl, (blk_cell BK180.out 4).trans rfl, (blk_cell BK180.out 5).trans rfl⟩ (fun hHeld => ?_); refine with_tabW clavierlaw10_ModsMay.tab4 clavierlaw10_ModsMay.bits4 (fun HT_ HW_ => ?_)
        generalize w14.drew = w16 at BK180 HB hHeld ⊢
        refine pure_ (i := 0) (N := some 10) (v := ?_) (a' := ?_) #[true, false, false, false, false, false, false, false, false, false, false, false, false, false, false, false] rfl rfl (any_of HT_.out (by kernel_rfl)) (fun _ _ _ h => h) (Or.inl ⟨by rfl, ?_⟩) ?_ ?_
        rotate_left
        · intro w'
          go_simp
          with_reducible rfl
        rotate_left
        · simp only [Act.put, List.setIfInBounds_toArray, List.set_cons_zero, List.set_cons_succ, i64_w, i32_w]
          rfl
        refine pure_ (i := 1) (N := some 11) (v := ?_) (a' := ?_) #[true, true, false, false, false, false, false, false, false, false, false, false, false, false, false, false] rfl rfl (any_of HT_.out (by kernel_rfl)) (fun _ _ _ h => h) (Or.inl ⟨by rfl, ?_⟩) ?_ ?_
        rotate_left
        · intro w'
          go_simp
          with_reducible rfl
        rotate_left
        · simp only [Act.put, List.setIfInBounds_toArray, List.set_cons_zero, List.set_cons_succ, i64_w, i32_w]
          rfl
        refine take_ (i := 2) (N := some 12) (v := ?_) (a' := ?_) #[true, true, true, false, false, false, false, false, false, false, false, false, false, false, false, false] rfl rfl (take_ofW HT_.out HW_.out (by kernel_rfl)) (fun _ _ _ h => h) (Or.inl ⟨by rfl, ?_⟩) hHeld ?_ ?_
        rotate_left
        · rintro w' ⟨s0, s1, s2, s3, s4, s5⟩
          go_simp
          with_reducible rfl
        rotate_left
        · simp only [Act.put, List.setIfInBounds_toArray, List.set_cons_zero, List.set_cons_succ, i64_w, i32_w]
          rfl
        refine take_ (i := 4) (N := some 14) (v := ?_) (a' := ?_) #[true, true, true, false, true, false, false, false, false, false, false, false, false, false, false, false] rfl rfl (take_ofW HT_.out HW_.out (by kernel_rfl)) (fun _ _ _ h => h) (Or.inl ⟨by rfl, ?_⟩) hHeld ?_ ?_
        rotate_left
        · rintro w' ⟨s0, s1, s2, s3, s4, s5⟩
          go_simp
          with_reducible rfl
        rotate_left
        · simp only [Act.put, List.setIfInBounds_toArray, List.set_cons_zero, List.set_cons_succ, i64_w, i32_w]
          rfl
        refine one_ (i := 3) (N := some 13) #[true, true, true, true, true, false, false, false, false, false, false, false, false, false, false, false] rfl rfl (one_of HT_.out (by kernel_rfl)) (by decide) (fun K hK => ?_)
        refine goes_ Try.func10 (by kernel_rfl) rfl #[.agg #[.int .i64 a0_0, .int .i64 a0_1, .int .i64 a0_2, .int .i64 a0_3, .int .i64 a0_4, .string a0_5]] (by rfl) rfl rfl (by (try simp only [List.map_toArray, List.map_cons, List.map_nil]); first | done | rfl | (simp only [List.length_drop, List.length_take]; rfl)) ?_
        with_reducible refine (mods_May.calls a0_0 a0_1 a0_2 a0_3 a0_4 a0_5 t182 _ A8.out).mono ?_
        rintro e w17 ⟨rfl, hb⟩
        refine ⟨_, rfl, ?_⟩
        have n0_ := Aside0.mk (blk_below (g := gb180) (o := .cells #[.int .i64 a0_0, .int .i64 a0_1, .int .i64 a0_2, .int .i64 a0_3, .int .i64 a0_4, .string a0_5] 23 (0, 0)) (by (with_reducible repeat (first | refine blk_drewN ?_ _ | refine blk_drew ?_ | refine blk_alloc ?_ _)); exact BK180.out) hb)
        have n1_ := Aside0.mk (below_step (by repeat (first | (with_reducible first | exact HB.out | apply below_alloc | apply pw_below_drewN | apply below_drew1 | refine below_set ?_ GE180.out) | exact HB.out)) hb)
        clear BK180
        clear HB
        have BK180 := n0_
        have HB := n1_
        clear n0_ n1_
        (try clear hb)
        (try clear hb2)
        (try clear hk)
        (try clear hi)
        refine hK.out _ _ ⟨(blk_cell BK180.out 0).trans rfl, (blk_cell BK180.out 1).trans rfl, (blk_cell BK180.out 2).trans rfl, (blk_cell BK180.out 3).trans rfl, (blk_cell BK180.out 4).trans rfl, (blk_cell BK180.out 5).trans rfl⟩ (fun hHeld => ?_)
        clear hK K
        refine norm_ (a' := ?_) ?_ ?_
        rotate_left
        · show Act.put _ (some 13) _ = _
          simp only [Act.put, List.setIfInBounds_toArray, List.set_cons_zero, List.set_cons_succ, i64_w, i32_w]
          rfl
        refine one_ (i := 5) (N := some 15) #[true, true, true, true, true, true, false, false, false, false, false, false, false, false, false, false] rfl rfl (one_of HT_.out (by kernel_rfl)) (by decide) (fun K hK => ?_)
        refine goes_ Try.func11 (by kernel_rfl) rfl #[.agg #[.int .i64 a0_0, .int .i64 a0_1, .int .i64 a0_2, .int .i64 a0_3, .int .i64 a0_4, .string a0_5]] (by rfl) rfl rfl (by (try simp only [List.map_toArray, List.map_cons, List.map_nil]); first | done | rfl | (simp only [List.length_drop, List.length_take]; rfl)) ?_
        with_reducible refine (clavierref10_May.calls k a0_0 a0_1 a0_2 a0_3 a0_4 a0_5 t183 _ A9.out).mono ?_
        rintro e w18 ⟨rfl, hb⟩
        refine ⟨_, rfl, ?_⟩
        have n0_ := Aside0.mk (blk_below (g := gb180) (o := .cells #[.int .i64 a0_0, .int .i64 a0_1, .int .i64 a0_2, .int .i64 a0_3, .int .i64 a0_4, .string a0_5] 23 (0, 0)) (by (with_reducible repeat (first | refine blk_drewN ?_ _ | refine blk_drew ?_ | refine blk_alloc ?_ _)); exact BK180.out) hb)
        have n1_ := Aside0.mk (below_step (by repeat (first | (with_reducible first | exact HB.out | apply below_alloc | apply pw_below_drewN | apply below_drew1 | refine below_set ?_ GE180.out) | exact HB.out)) hb)
        clear BK180
        clear HB
        have BK180 := n0_
        have HB := n1_
        clear n0_ n1_
        (try clear hb)
        (try clear hb2)
        (try clear hk)
        (try clear hi)
        refine hK.out _ _ ⟨(blk_cell BK180.out 0).trans rfl, (blk_cell BK180.out 1).trans rfl, (blk_cell BK180.out 2).trans rfl, (blk_cell BK180.out 3).trans rfl, (blk_cell BK180.out 4).trans rfl, (blk_cell BK180.out 5).trans rfl⟩ (fun hHeld => ?_)
        clear hK K
        refine norm_ (a' := ?_) ?_ ?_
        rotate_left
        · show Act.put _ (some 15) _ = _
          simp only [Act.put, List.setIfInBounds_toArray, List.set_cons_zero, List.set_cons_succ, i64_w, i32_w]
          rfl
        refine pure_ (i := 6) (N := some 16) (v := ?_) (a' := ?_) #[true, true, true, true, true, true, true, false, false, false, false, false, false, false, false, false] rfl rfl (any_of HT_.out (by kernel_rfl)) (fun _ _ _ h => h) (Or.inl ⟨by rfl, ?_⟩) ?_ ?_
        rotate_left
        · intro w'
          go_simp
          with_reducible rfl
        rotate_left
        · simp only [Act.put, List.setIfInBounds_toArray, List.set_cons_zero, List.set_cons_succ, i64_w, i32_w]
          rfl
        refine pure_ (i := 7) (N := some 17) (v := ?_) (a' := ?_) #[true, true, true, true, true, true, true, true, false, false, false, false, false, false, false, false] rfl rfl (any_of HT_.out (by kernel_rfl)) (fun _ _ _ h => h) (Or.inl ⟨by rfl, ?_⟩) ?_ ?_
        rotate_left
        · intro w'
          go_simp
          with_reducible rfl
        rotate_left
        · simp only [Act.put, List.setIfInBounds_toArray, List.set_cons_zero, List.set_cons_succ, i64_w, i32_w]
          rfl
        refine pure_ (i := 8) (N := some 18) (v := ?_) (a' := ?_) #[true, true, true, true, true, true, true, true, true, false, false, false, false, false, false, false] rfl rfl (any_of HT_.out (by kernel_rfl)) (fun _ _ _ h => h) (Or.inl ⟨by rfl, ?_⟩) ?_ ?_
        rotate_left
        · intro w'
          go_simp
          with_reducible rfl
        rotate_left
        · simp only [Act.put, List.setIfInBounds_toArray, List.set_cons_zero, List.set_cons_succ, i64_w, i32_w]
          rfl
        refine take_ (i := 9) (N := some 19) (v := ?_) (a' := ?_) #[true, true, true, true, true, true, true, true, true, true, false, false, false, false, false, false] rfl rfl (take_ofW HT_.out HW_.out (by kernel_rfl)) (fun _ _ _ h => h) (Or.inl ⟨by rfl, ?_⟩) hHeld ?_ ?_
        rotate_left
        · rintro w' ⟨s0, s1, s2, s3, s4, s5⟩
          go_simp
          with_reducible rfl
        rotate_left
        · simp only [Act.put, List.setIfInBounds_toArray, List.set_cons_zero, List.set_cons_succ, i64_w, i32_w]
          rfl
        refine take_ (i := 11) (N := some 21) (v := ?_) (a' := ?_) #[true, true, true, true, true, true, true, true, true, true, false, true, false, false, false, false] rfl rfl (take_ofW HT_.out HW_.out (by kernel_rfl)) (fun _ _ _ h => h) (Or.inl ⟨by rfl, ?_⟩) hHeld ?_ ?_
        rotate_left
        · rintro w' ⟨s0, s1, s2, s3, s4, s5⟩
          go_simp
          with_reducible rfl
        rotate_left
        · simp only [Act.put, List.setIfInBounds_toArray, List.set_cons_zero, List.set_cons_succ, i64_w, i32_w]
          rfl
        refine one_ (i := 10) (N := some 20) #[true, true, true, true, true, true, true, true, true, true, true, true, false, false, false, false] rfl rfl (one_of HT_.out (by kernel_rfl)) (by decide) (fun K hK => ?_)
        refine goes_ Try.func12 (by kernel_rfl) rfl #[.agg #[.int .i64 a0_0, .int .i64 a0_1, .int .i64 a0_2, .int .i64 a0_3, .int .i64 a0_4, .string a0_5]] (by rfl) rfl rfl (by (try simp only [List.map_toArray, List.map_cons, List.map_nil]); first | done | rfl | (simp only [List.length_drop, List.length_take]; rfl)) ?_
        with_reducible refine (mods_Shown.calls a0_0 a0_1 a0_2 a0_3 a0_4 a0_5 t184 _ A11.out).mono ?_
        rintro e w19 ⟨rfl, hb⟩
        refine ⟨_, rfl, ?_⟩
        have n0_ := Aside0.mk (blk_below (g := gb180) (o := .cells #[.int .i64 a0_0, .int .i64 a0_1, .int .i64 a0_2, .int .i64 a0_3, .int .i64 a0_4, .string a0_5] 23 (0, 0)) (by (with_reducible repeat (first | refine blk_drewN ?_ _ | refine blk_drew ?_ | refine blk_alloc ?_ _)); exact BK180.out) hb)
        have n1_ := Aside0.mk (below_step (by repeat (first | (with_reducible first | exact HB.out | apply below_alloc | apply pw_below_drewN | apply below_drew1 | refine below_set ?_ GE180.out) | exact HB.out)) hb)
        clear BK180
        clear HB
        have BK180 := n0_
        have HB := n1_
        clear n0_ n1_
        (try clear hb)
        (try clear hb2)
        (try clear hk)
        (try clear hi)
        refine hK.out _ _ ⟨(blk_cell BK180.out 0).trans rfl, (blk_cell BK180.out 1).trans rfl, (blk_cell BK180.out 2).trans rfl, (blk_cell BK180.out 3).trans rfl, (blk_cell BK180.out 4).trans rfl, (blk_cell BK180.out 5).trans rfl⟩ (fun hHeld => ?_)
        clear hK K
        refine norm_ (a' := ?_) ?_ ?_
        rotate_left
        · show Act.put _ (some 20) _ = _
          simp only [Act.put, List.setIfInBounds_toArray, List.set_cons_zero, List.set_cons_succ, i64_w, i32_w]
          rfl
        refine one_ (i := 12) (N := some 22) #[true, true, true, true, true, true, true, true, true, true, true, true, true, false, false, false] rfl rfl (one_of HT_.out (by kernel_rfl)) (by decide) (fun K hK => ?_)
        refine goes_ Try.func13 (by kernel_rfl) rfl #[.agg #[.int .i64 a0_0, .int .i64 a0_1, .int .i64 a0_2, .int .i64 a0_3, .int .i64 a0_4, .string a0_5]] (by rfl) rfl rfl (by (try simp only [List.map_toArray, List.map_cons, List.map_nil]); first | done | rfl | (simp only [List.length_drop, List.length_take]; rfl)) ?_
        with_reducible refine (clavierref10_Shown.calls a0_0 a0_1 a0_2 a0_3 a0_4 a0_5 t185 _ A12.out).mono ?_
        rintro e w20 ⟨rfl, hb⟩
        refine ⟨_, rfl, ?_⟩
        have n0_ := Aside0.mk (blk_below (g := gb180) (o := .cells #[.int .i64 a0_0, .int .i64 a0_1, .int .i64 a0_2, .int .i64 a0_3, .int .i64 a0_4, .string a0_5] 23 (0, 0)) (by (with_reducible repeat (first | refine blk_drewN ?_ _ | refine blk_drew ?_ | refine blk_alloc ?_ _)); exact BK180.out) hb)
        have n1_ := Aside0.mk (below_step (by repeat (first | (with_reducible first | exact HB.out | apply below_alloc | apply pw_below_drewN | apply below_drew1 | refine below_set ?_ GE180.out) | exact HB.out)) hb)
        clear BK180
        clear HB
        have BK180 := n0_
        have HB := n1_
        clear n0_ n1_
        (try clear hb)
        (try clear hb2)
        (try clear hk)
        (try clear hi)
        refine hK.out _ _ ⟨(blk_cell BK180.out 0).trans rfl, (blk_cell BK180.out 1).trans rfl, (blk_cell BK180.out 2).trans rfl, (blk_cell BK180.out 3).trans rfl, (blk_cell BK180.out 4).trans rfl, (blk_cell BK180.out 5).trans rfl⟩ (fun hHeld => ?_)
        clear hK K
        refine norm_ (a' := ?_) ?_ ?_
        rotate_left
        · show Act.put _ (some 22) _ = _
          simp only [Act.put, List.setIfInBounds_toArray, List.set_cons_zero, List.set_cons_succ, i64_w, i32_w]
          rfl
        refine pure_ (i := 13) (N := some 23) (v := ?_) (a' := ?_) #[true, true, true, true, true, true, true, true, true, true, true, true, true, true, false, false] rfl rfl (any_of HT_.out (by kernel_rfl)) (fun _ _ _ h => h) (Or.inl ⟨by rfl, ?_⟩) ?_ ?_
        rotate_left
        · intro w'
          go_simp
          with_reducible rfl
        rotate_left
        · simp only [Act.put, List.setIfInBounds_toArray, List.set_cons_zero, List.set_cons_succ, i64_w, i32_w]
          rfl
        refine pure_ (i := 14) (N := some 24) (v := ?_) (a' := ?_) #[true, true, true, true, true, true, true, true, true, true, true, true, true, true, true, false] rfl rfl (any_of HT_.out (by kernel_rfl)) (fun _ _ _ h => h) (Or.inl ⟨by rfl, ?_⟩) ?_ ?_
        rotate_left
        · intro w'
          go_simp
          with_reducible rfl
        rotate_left
        · simp only [Act.put, List.setIfInBounds_toArray, List.set_cons_zero, List.set_cons_succ, i64_w, i32_w]
          rfl
        refine pure_ (i := 15) (N := some 2) (v := ?_) (a' := ?_) #[true, true, true, true, true, true, true, true, true, true, true, true, true, true, true, true] rfl rfl (any_of HT_.out (by kernel_rfl)) (fun _ _ _ h => h) (Or.inl ⟨by rfl, ?_⟩) ?_ ?_
        rotate_left
        · intro w'
          go_simp
          with_reducible rfl
        rotate_left
        · simp only [Act.put, List.setIfInBounds_toArray, List.set_cons_zero, List.set_cons_succ, i64_w, i32_w]
          rfl
        refine done_ (done_of HT_.out (by kernel_rfl)) ?_
        try go_wp2
        go_ret
        exact ⟨by first | rfl | (simp [errW_none, errW_some] <;> rfl) | (simp [*, errW_none, errW_some] <;> rfl), by repeat (first | (with_reducible first | exact HB.out | apply below_alloc | apply pw_below_drewN | apply below_drew1 | refine below_set ?_ GE180.out) | exact HB.out)⟩
      · rw [if_neg c10] at H
        have c10b0 : (t182 == t183) = false := by simpa using c10
        (try (have c10b1 : decide (t182 = t183) = false := by simpa using c10))
        (try (have c10b2 : (t182 == t183) = false := by simpa using c10))
        (try (have c10b3 : ¬ (t182 = t183) := by simpa using c10))
        clear c10
        exact absurd H (by simp)
    · replace c7 := Bool.eq_false_iff.mpr c7
      subst c7
      have H1 : (none) = some r := by rw [if_neg (show ¬ (false = true) by decide)] at H; exact H
      clear H
      have H := H1
      clear H1
      exact absurd H (by simp)

/-! ### clavierref10_Fold: function 15 -/
mutual
def clavierref10_Fold.j0 : Nat → Int → Bool → Option (Int × Bool)
  | 0, _, _ => none
  | k + 1, x0, x4 => if x4 = true then (some (0, true)) else (if x0 ≥ 97 then (clavierref10_Fold.j1 k x0 (decide (x0 ≤ 122))) else (clavierref10_Fold.j1 k x0 false))
def clavierref10_Fold.j1 : Nat → Int → Bool → Option (Int × Bool)
  | 0, _, _ => none
  | k + 1, x0, x15 => if x15 = true then (some (wrap64 (x0 - 96), true)) else (if x0 ≥ 65 then (clavierref10_Fold.j2 k x0 (decide (x0 ≤ 95))) else (clavierref10_Fold.j2 k x0 false))
def clavierref10_Fold.j2 : Nat → Int → Bool → Option (Int × Bool)
  | 0, _, _ => none
  | k + 1, x0, x24 => if x24 = true then (some (wrap64 (x0 - 64), true)) else (if x0 ≥ 51 then (clavierref10_Fold.j3 k x0 (decide (x0 ≤ 55))) else (clavierref10_Fold.j3 k x0 false))
def clavierref10_Fold.j3 : Nat → Int → Bool → Option (Int × Bool)
  | 0, _, _ => none
  | k + 1, x0, x33 => if x33 = true then (some (wrap64 ((wrap64 (27 + x0)) - 51), true)) else (if x0 = 47 then (some (31, true)) else (if x0 = 56 then (some (127, true)) else (if x0 = 63 then (some (127, true)) else (some (0, false)))))
end
def clavierref10_Fold.f (k : Nat) (a0 : Int) : Option (Int × Bool) := if a0 = 32 then (clavierref10_Fold.j0 k a0 true) else (if a0 = 50 then (clavierref10_Fold.j0 k a0 true) else (clavierref10_Fold.j0 k a0 (a0 == 64)))
theorem clavierref10_Fold.mono_l : ∀ k, (∀ y0 y1, LeO (clavierref10_Fold.j0 k y0 y1) (clavierref10_Fold.j0 (k + 1) y0 y1)) ∧ (∀ y0 y1, LeO (clavierref10_Fold.j1 k y0 y1) (clavierref10_Fold.j1 (k + 1) y0 y1)) ∧ (∀ y0 y1, LeO (clavierref10_Fold.j2 k y0 y1) (clavierref10_Fold.j2 (k + 1) y0 y1)) ∧ (∀ y0 y1, LeO (clavierref10_Fold.j3 k y0 y1) (clavierref10_Fold.j3 (k + 1) y0 y1))
  | 0 => ⟨fun _ _ r h => by simp [clavierref10_Fold.j0] at h, fun _ _ r h => by simp [clavierref10_Fold.j1] at h, fun _ _ r h => by simp [clavierref10_Fold.j2] at h, fun _ _ r h => by simp [clavierref10_Fold.j3] at h⟩
  | k + 1 => by
    obtain ⟨ih0, ih1, ih2, ih3⟩ := clavierref10_Fold.mono_l k
    refine ⟨?_, ?_, ?_, ?_⟩
    · intro y0 y1
      unfold clavierref10_Fold.j0
      repeat' first
      | (with_reducible exact ih0 _ _)
      | (with_reducible exact ih1 _ _)
      | (with_reducible exact ih2 _ _)
      | (with_reducible exact ih3 _ _)
      | (with_reducible exact LeO.refl _)
      | (with_reducible exact LeO.none _)
      | (with_reducible refine LeO.ite ?_ ?_)
      | (with_reducible refine LeO.bind ?_ (fun _ => ?_))
      | exact ih0 _ _
      | exact ih1 _ _
      | exact ih2 _ _
      | exact ih3 _ _
      | exact LeO.none _
      | refine LeO.ite ?_ ?_
      | refine LeO.bind ?_ (fun _ => ?_)
    · intro y0 y1
      unfold clavierref10_Fold.j1
      repeat' first
      | (with_reducible exact ih0 _ _)
      | (with_reducible exact ih1 _ _)
      | (with_reducible exact ih2 _ _)
      | (with_reducible exact ih3 _ _)
      | (with_reducible exact LeO.refl _)
      | (with_reducible exact LeO.none _)
      | (with_reducible refine LeO.ite ?_ ?_)
      | (with_reducible refine LeO.bind ?_ (fun _ => ?_))
      | exact ih0 _ _
      | exact ih1 _ _
      | exact ih2 _ _
      | exact ih3 _ _
      | exact LeO.none _
      | refine LeO.ite ?_ ?_
      | refine LeO.bind ?_ (fun _ => ?_)
    · intro y0 y1
      unfold clavierref10_Fold.j2
      repeat' first
      | (with_reducible exact ih0 _ _)
      | (with_reducible exact ih1 _ _)
      | (with_reducible exact ih2 _ _)
      | (with_reducible exact ih3 _ _)
      | (with_reducible exact LeO.refl _)
      | (with_reducible exact LeO.none _)
      | (with_reducible refine LeO.ite ?_ ?_)
      | (with_reducible refine LeO.bind ?_ (fun _ => ?_))
      | exact ih0 _ _
      | exact ih1 _ _
      | exact ih2 _ _
      | exact ih3 _ _
      | exact LeO.none _
      | refine LeO.ite ?_ ?_
      | refine LeO.bind ?_ (fun _ => ?_)
    · intro y0 y1
      unfold clavierref10_Fold.j3
      repeat' first
      | (with_reducible exact ih0 _ _)
      | (with_reducible exact ih1 _ _)
      | (with_reducible exact ih2 _ _)
      | (with_reducible exact ih3 _ _)
      | (with_reducible exact LeO.refl _)
      | (with_reducible exact LeO.none _)
      | (with_reducible refine LeO.ite ?_ ?_)
      | (with_reducible refine LeO.bind ?_ (fun _ => ?_))
      | exact ih0 _ _
      | exact ih1 _ _
      | exact ih2 _ _
      | exact ih3 _ _
      | exact LeO.none _
      | refine LeO.ite ?_ ?_
      | refine LeO.bind ?_ (fun _ => ?_)
theorem clavierref10_Fold.mono : ∀ a0 k, LeO (clavierref10_Fold.f k a0) (clavierref10_Fold.f (k + 1) a0) := by
  intro a0 k
  obtain ⟨ih0, ih1, ih2, ih3⟩ := clavierref10_Fold.mono_l k
  unfold clavierref10_Fold.f
  repeat' first
      | (with_reducible exact ih0 _ _)
      | (with_reducible exact ih1 _ _)
      | (with_reducible exact ih2 _ _)
      | (with_reducible exact ih3 _ _)
      | (with_reducible exact LeO.refl _)
      | (with_reducible exact LeO.none _)
      | (with_reducible refine LeO.ite ?_ ?_)
      | (with_reducible refine LeO.bind ?_ (fun _ => ?_))
      | exact ih0 _ _
      | exact ih1 _ _
      | exact ih2 _ _
      | exact ih3 _ _
      | exact LeO.none _
      | refine LeO.ite ?_ ?_
      | refine LeO.bind ?_ (fun _ => ?_)
set_option maxHeartbeats 8000000 in
set_option maxRecDepth 100000 in
theorem clavierref10_Fold.calls (k : Nat) (a0 : Int) (r1 : Int) (r2 : Bool) (w : World) (h : clavierref10_Fold.f k a0 = some (r1, r2)) :
    Calls Try.prog 15 #[.int .i64 a0] w fun e w' => e = .returned (.tuple #[.int .i64 r1, .bool r2]) ∧ Drawn0 w w' := by
  have H : (if a0 = 32 then (clavierref10_Fold.j0 k a0 true) else (if a0 = 50 then (clavierref10_Fold.j0 k a0 true) else (clavierref10_Fold.j0 k a0 (a0 == 64)))) = some (r1, r2) := h
  clear h
  have HC2 := Aside0.mk H
  clear H
  go_enter Try.func15, Try.ntmps15
  go_upto_region 1 with (fail)
  go_cut [4] (fun v4 wc => ∃ (kq : Nat) (x4_1 : Bool), v4 = .bool x4_1 ∧ Aside0 (clavierref10_Fold.j0 kq a0 x4_1 = some (r1, r2)) ∧ Aside0 (kq ≤ k) ∧ Drawn0 w wc)
  case first =>
    have H := HC2.out
    clear HC2
    by_cases c3 : a0 = 32
    · rw [if_pos c3] at H
      have c3b0 : (a0 == 32) = true := beq_iff_eq.mpr c3
      have c3b1 : (a0 != 32) = false := bne_eq_false_iff_eq.mpr c3
      clear c3
      (first | rw [c3b0] | (simp only [i64_w, i32_w]; rw [c3b0]) | skip)
      have H' := Aside0.mk H
      clear H
      go_wp2
      go_meet
      case rel => exact ⟨_, (true), (by first | rfl | (simp; done) | (simp [*]; done)), H', ⟨by first | omega | exact Nat.le_refl _⟩, by repeat (first | exact Drawn0.refl _ | apply Drawn0.step)⟩
    · rw [if_neg c3] at H
      have c3b0 : (a0 == 32) = false := beq_eq_false_iff_ne.mpr c3
      have c3b1 : (a0 != 32) = true := bne_iff_ne.mpr c3
      (first | rw [c3b0] | (simp only [i64_w, i32_w]; rw [c3b0]) | skip)
      by_cases c4 : a0 = 50
      · rw [if_pos c4] at H
        have c4b0 : (a0 == 50) = true := beq_iff_eq.mpr c4
        have c4b1 : (a0 != 50) = false := bne_eq_false_iff_eq.mpr c4
        clear c4
        have H' := Aside0.mk H
        clear H
        go_wp2
        go_meet
        case rel => exact ⟨_, (true), (by first | rfl | (simp; done) | (simp [*]; done)), H', ⟨by first | omega | exact Nat.le_refl _⟩, by repeat (first | exact Drawn0.refl _ | apply Drawn0.step)⟩
      · rw [if_neg c4] at H
        have c4b0 : (a0 == 50) = false := beq_eq_false_iff_ne.mpr c4
        have c4b1 : (a0 != 50) = true := bne_iff_ne.mpr c4
        have H' := Aside0.mk H
        clear H
        go_wp2
        go_meet
        case rel => exact ⟨_, ((a0 == 64)), (by first | rfl | (simp; done) | (simp [*]; done)), H', ⟨by first | omega | exact Nat.le_refl _⟩, by repeat (first | exact Drawn0.refl _ | apply Drawn0.step)⟩
  case rest =>
    clear HC2
    try clear c1
    try clear p2
    try clear c3
    try clear c3b0
    try clear c3b1
    try clear c4
    try clear c4b0
    try clear c4b1
    obtain ⟨kq, x4_1, rfl, HA, HJ1, ⟨mc1, rfl⟩⟩ := hcut
    cases kq with
    | zero => exact absurd HA.out (by simp [clavierref10_Fold.j0])
    | succ kj1 =>
      have H := HA.out
      clear HA
      simp only [clavierref10_Fold.j0] at H
      by_cases c5 : x4_1 = true
      · subst c5
        have H1 : (some (0, true)) = some (r1, r2) := by rw [if_pos rfl] at H; exact H
        clear H
        have H := H1
        clear H1
        simp only [Option.some.injEq, Prod.mk.injEq] at H
        obtain ⟨rfl, rfl⟩ := H
        go_wp2
        go_ret2
        exact ⟨by first | rfl | (simp; done) | (simp [*]; done), by repeat (first | exact Drawn0.refl _ | apply Drawn0.step)⟩
      · replace c5 := Bool.eq_false_iff.mpr c5
        subst c5
        have H1 : (if a0 ≥ 97 then (clavierref10_Fold.j1 kj1 a0 (decide (a0 ≤ 122))) else (clavierref10_Fold.j1 kj1 a0 false)) = some (r1, r2) := by rw [if_neg (show ¬ (false = true) by decide)] at H; exact H
        clear H
        have H := H1
        clear H1
        have HC6 := Aside0.mk H
        clear H
        go_upto_region 3 with (fail)
        go_cut [15] (fun v15 wc => ∃ (kq : Nat) (x15_5 : Bool), v15 = .bool x15_5 ∧ Aside0 (clavierref10_Fold.j1 kq a0 x15_5 = some (r1, r2)) ∧ Aside0 (kq ≤ kj1) ∧ Drawn0 w wc)
        case first =>
          have H := HC6.out
          clear HC6
          by_cases c7 : a0 ≥ 97
          · rw [if_pos c7] at H
            have c7b0 : decide (97 ≤ a0) = true := decide_eq_true c7
            clear c7
            (first | rw [c7b0] | (simp only [i64_w, i32_w]; rw [c7b0]) | skip)
            have H' := Aside0.mk H
            clear H
            go_wp2
            go_meet
            case rel => exact ⟨_, (decide (a0 ≤ 122)), (by first | rfl | (simp; done) | (simp [*]; done)), H', ⟨by have := HJ1.out; first | omega | exact Nat.le_refl _⟩, by repeat (first | exact Drawn0.refl _ | apply Drawn0.step)⟩
          · rw [if_neg c7] at H
            have c7b0 : decide (97 ≤ a0) = false := decide_eq_false c7
            clear c7
            (first | rw [c7b0] | (simp only [i64_w, i32_w]; rw [c7b0]) | skip)
            have H' := Aside0.mk H
            clear H
            go_wp2
            go_meet
            case rel => exact ⟨_, (false), (by first | rfl | (simp; done) | (simp [*]; done)), H', ⟨by have := HJ1.out; first | omega | exact Nat.le_refl _⟩, by repeat (first | exact Drawn0.refl _ | apply Drawn0.step)⟩
        case rest =>
          clear HC6
          try clear c1
          try clear p2
          try clear c3
          try clear c3b0
          try clear c3b1
          try clear c4
          try clear c4b0
          try clear c4b1
          try clear c5
          try clear c7
          try clear c7b0
          try clear p2
          obtain ⟨kq, x15_5, rfl, HA, HJ5, ⟨mc5, rfl⟩⟩ := hcut
          cases kq with
          | zero => exact absurd HA.out (by simp [clavierref10_Fold.j1])
          | succ kj5 =>
            have H := HA.out
            clear HA
            simp only [clavierref10_Fold.j1] at H
            by_cases c8 : x15_5 = true
            · subst c8
              have H1 : (some (wrap64 (a0 - 96), true)) = some (r1, r2) := by rw [if_pos rfl] at H; exact H
              clear H
              have H := H1
              clear H1
              simp only [Option.some.injEq, Prod.mk.injEq] at H
              obtain ⟨rfl, rfl⟩ := H
              go_wp2
              go_ret2
              exact ⟨by first | rfl | (simp; done) | (simp [*]; done), by repeat (first | exact Drawn0.refl _ | apply Drawn0.step)⟩
            · replace c8 := Bool.eq_false_iff.mpr c8
              subst c8
              have H1 : (if a0 ≥ 65 then (clavierref10_Fold.j2 kj5 a0 (decide (a0 ≤ 95))) else (clavierref10_Fold.j2 kj5 a0 false)) = some (r1, r2) := by rw [if_neg (show ¬ (false = true) by decide)] at H; exact H
              clear H
              have H := H1
              clear H1
              have HC9 := Aside0.mk H
              clear H
              go_upto_region 5 with (fail)
              go_cut [24] (fun v24 wc => ∃ (kq : Nat) (x24_8 : Bool), v24 = .bool x24_8 ∧ Aside0 (clavierref10_Fold.j2 kq a0 x24_8 = some (r1, r2)) ∧ Aside0 (kq ≤ kj5) ∧ Drawn0 w wc)
              case first =>
                have H := HC9.out
                clear HC9
                by_cases c10 : a0 ≥ 65
                · rw [if_pos c10] at H
                  have c10b0 : decide (65 ≤ a0) = true := decide_eq_true c10
                  clear c10
                  (first | rw [c10b0] | (simp only [i64_w, i32_w]; rw [c10b0]) | skip)
                  have H' := Aside0.mk H
                  clear H
                  go_wp2
                  go_meet
                  case rel => exact ⟨_, (decide (a0 ≤ 95)), (by first | rfl | (simp; done) | (simp [*]; done)), H', ⟨by have := HJ1.out; have := HJ5.out; first | omega | exact Nat.le_refl _⟩, by repeat (first | exact Drawn0.refl _ | apply Drawn0.step)⟩
                · rw [if_neg c10] at H
                  have c10b0 : decide (65 ≤ a0) = false := decide_eq_false c10
                  clear c10
                  (first | rw [c10b0] | (simp only [i64_w, i32_w]; rw [c10b0]) | skip)
                  have H' := Aside0.mk H
                  clear H
                  go_wp2
                  go_meet
                  case rel => exact ⟨_, (false), (by first | rfl | (simp; done) | (simp [*]; done)), H', ⟨by have := HJ1.out; have := HJ5.out; first | omega | exact Nat.le_refl _⟩, by repeat (first | exact Drawn0.refl _ | apply Drawn0.step)⟩
              case rest =>
                clear HC9
                try clear c1
                try clear p2
                try clear c3
                try clear c3b0
                try clear c3b1
                try clear c4
                try clear c4b0
                try clear c4b1
                try clear c5
                try clear p6
                try clear c7
                try clear c7b0
                try clear c8
                try clear c10
                try clear c10b0
                try clear p2
                obtain ⟨kq, x24_8, rfl, HA, HJ8, ⟨mc8, rfl⟩⟩ := hcut
                cases kq with
                | zero => exact absurd HA.out (by simp [clavierref10_Fold.j2])
                | succ kj8 =>
                  have H := HA.out
                  clear HA
                  simp only [clavierref10_Fold.j2] at H
                  by_cases c11 : x24_8 = true
                  · subst c11
                    have H1 : (some (wrap64 (a0 - 64), true)) = some (r1, r2) := by rw [if_pos rfl] at H; exact H
                    clear H
                    have H := H1
                    clear H1
                    simp only [Option.some.injEq, Prod.mk.injEq] at H
                    obtain ⟨rfl, rfl⟩ := H
                    go_wp2
                    go_ret2
                    exact ⟨by first | rfl | (simp; done) | (simp [*]; done), by repeat (first | exact Drawn0.refl _ | apply Drawn0.step)⟩
                  · replace c11 := Bool.eq_false_iff.mpr c11
                    subst c11
                    have H1 : (if a0 ≥ 51 then (clavierref10_Fold.j3 kj8 a0 (decide (a0 ≤ 55))) else (clavierref10_Fold.j3 kj8 a0 false)) = some (r1, r2) := by rw [if_neg (show ¬ (false = true) by decide)] at H; exact H
                    clear H
                    have H := H1
                    clear H1
                    have HC12 := Aside0.mk H
                    clear H
                    go_upto_region 7 with (fail)
                    go_cut [33] (fun v33 wc => ∃ (kq : Nat) (x33_11 : Bool), v33 = .bool x33_11 ∧ Aside0 (clavierref10_Fold.j3 kq a0 x33_11 = some (r1, r2)) ∧ Aside0 (kq ≤ kj8) ∧ Drawn0 w wc)
                    case first =>
                      have H := HC12.out
                      clear HC12
                      by_cases c13 : a0 ≥ 51
                      · rw [if_pos c13] at H
                        have c13b0 : decide (51 ≤ a0) = true := decide_eq_true c13
                        clear c13
                        (first | rw [c13b0] | (simp only [i64_w, i32_w]; rw [c13b0]) | skip)
                        have H' := Aside0.mk H
                        clear H
                        go_wp2
                        go_meet
                        case rel => exact ⟨_, (decide (a0 ≤ 55)), (by first | rfl | (simp; done) | (simp [*]; done)), H', ⟨by have := HJ1.out; have := HJ5.out; have := HJ8.out; first | omega | exact Nat.le_refl _⟩, by repeat (first | exact Drawn0.refl _ | apply Drawn0.step)⟩
                      · rw [if_neg c13] at H
                        have c13b0 : decide (51 ≤ a0) = false := decide_eq_false c13
                        clear c13
                        (first | rw [c13b0] | (simp only [i64_w, i32_w]; rw [c13b0]) | skip)
                        have H' := Aside0.mk H
                        clear H
                        go_wp2
                        go_meet
                        case rel => exact ⟨_, (false), (by first | rfl | (simp; done) | (simp [*]; done)), H', ⟨by have := HJ1.out; have := HJ5.out; have := HJ8.out; first | omega | exact Nat.le_refl _⟩, by repeat (first | exact Drawn0.refl _ | apply Drawn0.step)⟩
                    case rest =>
                      clear HC12
                      try clear c1
                      try clear p2
                      try clear c3
                      try clear c3b0
                      try clear c3b1
                      try clear c4
                      try clear c4b0
                      try clear c4b1
                      try clear c5
                      try clear p6
                      try clear c7
                      try clear c7b0
                      try clear c8
                      try clear c10
                      try clear c10b0
                      try clear c11
                      try clear c13
                      try clear c13b0
                      try clear p2
                      try clear p6
                      obtain ⟨kq, x33_11, rfl, HA, HJ11, ⟨mc11, rfl⟩⟩ := hcut
                      cases kq with
                      | zero => exact absurd HA.out (by simp [clavierref10_Fold.j3])
                      | succ kj11 =>
                        have H := HA.out
                        clear HA
                        simp only [clavierref10_Fold.j3] at H
                        by_cases c14 : x33_11 = true
                        · subst c14
                          have H1 : (some (wrap64 ((wrap64 (27 + a0)) - 51), true)) = some (r1, r2) := by rw [if_pos rfl] at H; exact H
                          clear H
                          have H := H1
                          clear H1
                          simp only [Option.some.injEq, Prod.mk.injEq] at H
                          obtain ⟨rfl, rfl⟩ := H
                          go_wp2
                          go_ret2
                          exact ⟨by first | rfl | (simp; done) | (simp [*]; done), by repeat (first | exact Drawn0.refl _ | apply Drawn0.step)⟩
                        · replace c14 := Bool.eq_false_iff.mpr c14
                          subst c14
                          have H1 : (if a0 = 47 then (some (31, true)) else (if a0 = 56 then (some (127, true)) else (if a0 = 63 then (some (127, true)) else (some (0, false))))) = some (r1, r2) := by rw [if_neg (show ¬ (false = true) by decide)] at H; exact H
                          clear H
                          have H := H1
                          clear H1
                          by_cases c15 : a0 = 47
                          · rw [if_pos c15] at H
                            have c15b0 : (a0 == 47) = true := beq_iff_eq.mpr c15
                            have c15b1 : (a0 != 47) = false := bne_eq_false_iff_eq.mpr c15
                            clear c15
                            simp only [Option.some.injEq, Prod.mk.injEq] at H
                            obtain ⟨rfl, rfl⟩ := H
                            go_wp2
                            go_ret2
                            exact ⟨by first | rfl | (simp; done) | (simp [*]; done), by repeat (first | exact Drawn0.refl _ | apply Drawn0.step)⟩
                          · rw [if_neg c15] at H
                            have c15b0 : (a0 == 47) = false := beq_eq_false_iff_ne.mpr c15
                            have c15b1 : (a0 != 47) = true := bne_iff_ne.mpr c15
                            by_cases c16 : a0 = 56
                            · rw [if_pos c16] at H
                              have c16b0 : (a0 == 56) = true := beq_iff_eq.mpr c16
                              have c16b1 : (a0 != 56) = false := bne_eq_false_iff_eq.mpr c16
                              clear c16
                              simp only [Option.some.injEq, Prod.mk.injEq] at H
                              obtain ⟨rfl, rfl⟩ := H
                              go_wp2
                              go_ret2
                              exact ⟨by first | rfl | (simp; done) | (simp [*]; done), by repeat (first | exact Drawn0.refl _ | apply Drawn0.step)⟩
                            · rw [if_neg c16] at H
                              have c16b0 : (a0 == 56) = false := beq_eq_false_iff_ne.mpr c16
                              have c16b1 : (a0 != 56) = true := bne_iff_ne.mpr c16
                              by_cases c17 : a0 = 63
                              · rw [if_pos c17] at H
                                have c17b0 : (a0 == 63) = true := beq_iff_eq.mpr c17
                                have c17b1 : (a0 != 63) = false := bne_eq_false_iff_eq.mpr c17
                                clear c17
                                simp only [Option.some.injEq, Prod.mk.injEq] at H
                                obtain ⟨rfl, rfl⟩ := H
                                go_wp2
                                go_ret2
                                exact ⟨by first | rfl | (simp; done) | (simp [*]; done), by repeat (first | exact Drawn0.refl _ | apply Drawn0.step)⟩
                              · rw [if_neg c17] at H
                                have c17b0 : (a0 == 63) = false := beq_eq_false_iff_ne.mpr c17
                                have c17b1 : (a0 != 63) = true := bne_iff_ne.mpr c17
                                simp only [Option.some.injEq, Prod.mk.injEq] at H
                                obtain ⟨rfl, rfl⟩ := H
                                go_wp2
                                go_ret2
                                exact ⟨by first | rfl | (simp; done) | (simp [*]; done), by repeat (first | exact Drawn0.refl _ | apply Drawn0.step)⟩

/-! ### clavierlaw10_ModsFold: function 4 -/
def clavierlaw10_ModsFold.l0 : Nat → Bool → Int → Bool → Int → Bool → Int → Option (Bool)
  | 0, _, _, _, _, _, _ => none
  | k + 1, x3, x4, x5, x6, x7, x8 => if x8 ≤ 200 then ((mods_Fold.f x8).bind fun bt191 => ((clavierref10_Fold.f k x8).bind fun bt193 => (if bt191.1 = bt193.1 then (if (bt191.2 != bt193.2) = true then (none) else (clavierlaw10_ModsFold.l0 k x3 x4 x5 x6 x7 (wrap64 (x8 + 1)))) else (none)))) else (if x3 = true then (if x4 = x6 then (some (x5 == x7)) else (none)) else (none))
def clavierlaw10_ModsFold.f (k : Nat) (a0 : Int) : Option (Bool) := (clavierlaw10_awake.f).bind fun t186 => ((mods_Fold.f a0).bind fun bt187 => ((clavierref10_Fold.f k a0).bind fun bt189 => (clavierlaw10_ModsFold.l0 k t186 bt187.1 bt187.2 bt189.1 bt189.2 0)))
theorem clavierlaw10_ModsFold.mono_l : ∀ k, (∀ y0 y1 y2 y3 y4 y5, LeO (clavierlaw10_ModsFold.l0 k y0 y1 y2 y3 y4 y5) (clavierlaw10_ModsFold.l0 (k + 1) y0 y1 y2 y3 y4 y5))
  | 0 => fun _ _ _ _ _ _ r h => by simp [clavierlaw10_ModsFold.l0] at h
  | k + 1 => by
    have ih0 := clavierlaw10_ModsFold.mono_l k
    · intro y0 y1 y2 y3 y4 y5
      unfold clavierlaw10_ModsFold.l0
      repeat' first
      | (with_reducible exact ih0 _ _ _ _ _ _)
      | (with_reducible exact clavierref10_Fold.mono _ _)
      | (with_reducible exact LeO.refl _)
      | (with_reducible exact LeO.none _)
      | (with_reducible refine LeO.ite ?_ ?_)
      | (with_reducible refine LeO.bind ?_ (fun _ => ?_))
      | exact ih0 _ _ _ _ _ _
      | exact clavierref10_Fold.mono _ _
      | exact LeO.none _
      | refine LeO.ite ?_ ?_
      | refine LeO.bind ?_ (fun _ => ?_)
theorem clavierlaw10_ModsFold.mono : ∀ a0 k, LeO (clavierlaw10_ModsFold.f k a0) (clavierlaw10_ModsFold.f (k + 1) a0) := by
  intro a0 k
  have ih0 := clavierlaw10_ModsFold.mono_l k
  unfold clavierlaw10_ModsFold.f
  repeat' first
      | (with_reducible exact ih0 _ _ _ _ _ _)
      | (with_reducible exact clavierref10_Fold.mono _ _)
      | (with_reducible exact LeO.refl _)
      | (with_reducible exact LeO.none _)
      | (with_reducible refine LeO.ite ?_ ?_)
      | (with_reducible refine LeO.bind ?_ (fun _ => ?_))
      | exact ih0 _ _ _ _ _ _
      | exact clavierref10_Fold.mono _ _
      | exact LeO.none _
      | refine LeO.ite ?_ ?_
      | refine LeO.bind ?_ (fun _ => ?_)
set_option maxHeartbeats 8000000 in
set_option maxRecDepth 100000 in
theorem clavierlaw10_ModsFold.calls (k : Nat) (a0 : Int) (r : Bool) (w : World) (h : clavierlaw10_ModsFold.f k a0 = some r) :
    Calls Try.prog 4 #[.int .i64 a0] w fun e w' => e = .returned (.bool r) ∧ Below w.heap.size w w' := by
  have HB := Aside0.mk (Below.refl w.heap.size w)
  have H : ((clavierlaw10_awake.f).bind fun t186 => ((mods_Fold.f a0).bind fun bt187 => ((clavierref10_Fold.f k a0).bind fun bt189 => (clavierlaw10_ModsFold.l0 k t186 bt187.1 bt187.2 bt189.1 bt189.2 0)))) = some r := h
  clear h
  replace H := Option.bind_eq_some_iff.mp H
  obtain ⟨t186, A20, H⟩ := H
  replace H : ((mods_Fold.f a0).bind fun bt187 => ((clavierref10_Fold.f k a0).bind fun bt189 => (clavierlaw10_ModsFold.l0 k t186 bt187.1 bt187.2 bt189.1 bt189.2 0))) = some r := H
  have A2 := Aside0.mk A20
  clear A20
  replace H := Option.bind_eq_some_iff.mp H
  obtain ⟨⟨t187, t188⟩, A30, H⟩ := H
  replace H : ((clavierref10_Fold.f k a0).bind fun bt189 => (clavierlaw10_ModsFold.l0 k t186 t187 t188 bt189.1 bt189.2 0)) = some r := H
  have A3 := Aside0.mk A30
  clear A30
  replace H := Option.bind_eq_some_iff.mp H
  obtain ⟨⟨t189, t190⟩, A40, H⟩ := H
  replace H : (clavierlaw10_ModsFold.l0 k t186 t187 t188 t189 t190 0) = some r := H
  have A4 := Aside0.mk A40
  clear A40
  have H' := Aside0.mk H
  clear H
  go_enter Try.func4, Try.ntmps4
  go_wp2_with (first | ((with_reducible refine gate_callee (f := 9) rfl ?_); refine goesL_ (some 13) rfl rfl Try.func9 (by kernel_rfl) rfl #[] rfl (by (try simp only [List.map_toArray, List.map_cons, List.map_nil]); first | done | rfl | (simp only [List.length_drop, List.length_take]; rfl)) ?_; (with_reducible refine (clavierlaw10_awake.calls  t186 _ A2.out).mono ?_); rintro e w5 ⟨rfl, hb⟩; refine ⟨_, rfl, ?_⟩; have n0_ := Aside0.mk (below_step (by repeat (first | (with_reducible first | exact HB.out | apply below_alloc | apply pw_below_drewN | apply below_drew1) | exact HB.out)) hb); clear HB; have HB := n0_; clear n0_; (try clear hb); (try clear hb2); (try clear hk); (try clear hi)) | ((with_reducible refine gate_callee (f := 14) rfl ?_); refine goesL_ (some 16) rfl rfl Try.func14 (by kernel_rfl) rfl #[.int .i64 a0] rfl (by (try simp only [List.map_toArray, List.map_cons, List.map_nil]); first | done | rfl | (simp only [List.length_drop, List.length_take]; rfl)) ?_; (with_reducible refine (mods_Fold.calls a0 t187 t188 _ A3.out).mono ?_); rintro e w6 ⟨rfl, hb⟩; refine ⟨_, rfl, ?_⟩; have n0_ := Aside0.mk (below_step (by repeat (first | (with_reducible first | exact HB.out | apply below_alloc | apply pw_below_drewN | apply below_drew1) | exact HB.out)) hb); clear HB; have HB := n0_; clear n0_; (try clear hb); (try clear hb2); (try clear hk); (try clear hi)) | ((with_reducible refine gate_callee (f := 15) rfl ?_); refine goesL_ (some 21) rfl rfl Try.func15 (by kernel_rfl) rfl #[.int .i64 a0] rfl (by (try simp only [List.map_toArray, List.map_cons, List.map_nil]); first | done | rfl | (simp only [List.length_drop, List.length_take]; rfl)) ?_; (with_reducible refine (clavierref10_Fold.calls k a0 t189 t190 _ A4.out).mono ?_); rintro e w' ⟨rfl, ⟨nd, rfl⟩⟩; refine ⟨_, rfl, ?_⟩))
  go_loopg [8] k (fun kq v8 w' => ∃ (x8_1 : Int), v8 = .int .i64 x8_1 ∧ Aside0 (clavierlaw10_ModsFold.l0 kq t186 t187 t188 t189 t190 x8_1 = some r) ∧ Aside0 (kq ≤ k) ∧ Aside0 (Below w.heap.size w w'))
  case atStart => exact ⟨(0), (by first | rfl | (simp; done) | (simp [*]; done)), H', ⟨Nat.le_refl _⟩, ⟨by repeat (first | (with_reducible first | exact HB.out | apply below_alloc | apply pw_below_drewN | apply below_drew1) | exact HB.out)⟩⟩
  case round =>
    clear H'
    try clear c1
    try clear p2
    try clear c4
    obtain ⟨x8_1, rfl, HA, HK1, HB⟩ := hrel
    cases gk with
    | zero => exact absurd HA.out (by simp [clavierlaw10_ModsFold.l0])
    | succ k1 =>
      have H := HA.out
      clear HA
      simp only [clavierlaw10_ModsFold.l0] at H
      by_cases c7 : x8_1 ≤ 200
      · rw [if_pos c7] at H
        have c7b0 : decide (x8_1 ≤ 200) = true := decide_eq_true c7
        clear c7
        replace H := Option.bind_eq_some_iff.mp H
        obtain ⟨⟨t191, t192⟩, A80, H⟩ := H
        replace H : ((clavierref10_Fold.f k1 x8_1).bind fun bt193 => (if t191 = bt193.1 then (if (t192 != bt193.2) = true then (none) else (clavierlaw10_ModsFold.l0 k1 t186 t187 t188 t189 t190 (wrap64 (x8_1 + 1)))) else (none))) = some r := H
        have A8 := Aside0.mk A80
        clear A80
        replace H := Option.bind_eq_some_iff.mp H
        obtain ⟨⟨t193, t194⟩, A90, H⟩ := H
        replace H : (if t191 = t193 then (if (t192 != t194) = true then (none) else (clavierlaw10_ModsFold.l0 k1 t186 t187 t188 t189 t190 (wrap64 (x8_1 + 1)))) else (none)) = some r := H
        have A9 := Aside0.mk A90
        clear A90
        by_cases c10 : t191 = t193
        · rw [if_pos c10] at H
          have c10b0 : (t191 == t193) = true := beq_iff_eq.mpr c10
          have c10b1 : (t191 != t193) = false := bne_eq_false_iff_eq.mpr c10
          clear c10
          by_cases c11 : (t192 != t194) = true
          · rw [if_pos c11] at H
            exact absurd H (by simp)
          · rw [if_neg c11] at H
            have c11b0 : (t192 != t194) = false := by simpa using c11
            (try (have c11b1 : decide (t192 = t194) = true := by simpa using c11))
            (try (have c11b2 : (t192 == t194) = true := by simpa using c11))
            clear c11
            have H' := Aside0.mk H
            clear H
            go_wp2_with (first | ((with_reducible refine gate_callee (f := 14) rfl ?_); refine goesL_ (some 30) rfl rfl Try.func14 (by kernel_rfl) rfl #[.int .i64 x8_1] rfl (by (try simp only [List.map_toArray, List.map_cons, List.map_nil]); first | done | rfl | (simp only [List.length_drop, List.length_take]; rfl)) ?_; (with_reducible refine (mods_Fold.calls x8_1 t191 t192 _ A8.out).mono ?_); rintro e w12 ⟨rfl, hb⟩; refine ⟨_, rfl, ?_⟩; have n0_ := Aside0.mk (below_step (by repeat (first | (with_reducible first | exact HB.out | apply below_alloc | apply pw_below_drewN | apply below_drew1) | exact HB.out)) hb); clear HB; have HB := n0_; clear n0_; (try clear hb); (try clear hb2); (try clear hk); (try clear hi)) | ((with_reducible refine gate_callee (f := 15) rfl ?_); refine goesL_ (some 35) rfl rfl Try.func15 (by kernel_rfl) rfl #[.int .i64 x8_1] rfl (by (try simp only [List.map_toArray, List.map_cons, List.map_nil]); first | done | rfl | (simp only [List.length_drop, List.length_take]; rfl)) ?_; (with_reducible refine (clavierref10_Fold.calls k1 x8_1 t193 t194 _ A9.out).mono ?_); rintro e w' ⟨rfl, ⟨nd, rfl⟩⟩; refine ⟨_, rfl, ?_⟩))
            go_roundg k1
            case measure => have := HK1.out; omega
            case rel => exact ⟨(wrap64 (x8_1 + 1)), (by first | rfl | (simp; done) | (simp [*]; done)), H', ⟨by have := HK1.out; omega⟩, ⟨by repeat (first | (with_reducible first | exact HB.out | apply below_alloc | apply pw_below_drewN | apply below_drew1) | exact HB.out)⟩⟩
        · rw [if_neg c10] at H
          exact absurd H (by simp)
      · rw [if_neg c7] at H
        have c7b0 : decide (x8_1 ≤ 200) = false := decide_eq_false c7
        clear c7
        by_cases c13 : t186 = true
        · subst c13
          have H1 : (if t187 = t189 then (some (t188 == t190)) else (none)) = some r := by rw [if_pos rfl] at H; exact H
          clear H
          have H := H1
          clear H1
          by_cases c14 : t187 = t189
          · rw [if_pos c14] at H
            have c14b0 : (t187 == t189) = true := beq_iff_eq.mpr c14
            have c14b1 : (t187 != t189) = false := bne_eq_false_iff_eq.mpr c14
            clear c14
            obtain rfl := Option.some.inj H
            go_wp2
            go_ret
            exact ⟨by first | rfl | (simp [errW_none, errW_some] <;> rfl) | (simp [*, errW_none, errW_some] <;> rfl), by repeat (first | (with_reducible first | exact HB.out | apply below_alloc | apply pw_below_drewN | apply below_drew1) | exact HB.out)⟩
          · rw [if_neg c14] at H
            exact absurd H (by simp)
        · replace c13 := Bool.eq_false_iff.mpr c13
          subst c13
          have H1 : (none) = some r := by rw [if_neg (show ¬ (false = true) by decide)] at H; exact H
          clear H
          have H := H1
          clear H1
          exact absurd H (by simp)

end Go.Proofs.Ytcjokajnlpcdiaa.R
