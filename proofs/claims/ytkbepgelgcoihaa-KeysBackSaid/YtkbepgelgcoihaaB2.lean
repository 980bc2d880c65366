-- Written by a program of this session (myprint.py over the kit's printer, some callees given by hand). Lean checks it.
import Derived.Test.YtkbepgelgcoihaaB0
import Derived.Test.YtkbepgelgcoihaaB1
namespace Go.Proofs.Ytkbepgelgcoihaa.B
open Go.Proofs.Ytkbepgelgcoihaa.H Go.RowKit Go.Proofs.YtkbepgelgcoihaaW.PrintWords Go.Proofs.YtkbepgelgcoihaaW.PrintLast Go.Proofs.YtkbepgelgcoihaaW.PrintMore
attribute [local go_sem] max2_int min2_int max_two min_two max_three min_three max_four min_four   -- for this text's walks alone
set_option linter.unusedVariables false
set_option linter.unusedSimpArgs false

attribute [local go_sem high] eqA24
-- NOT PRINTED: function 15 (keys_all)

/-! ### utf_is: function 24 -/
def utf_is.j0 : Nat → Bool → Option (Bool)
  | 0, _ => none
  | k + 1, x2 => some x2
def utf_is.f (k : Nat) (a0 : Int) : Option (Bool) := if a0 ≥ 0 then (if a0 ≤ 1114111 then (if a0 < 55296 then (utf_is.j0 k true) else (utf_is.j0 k (decide (a0 > 57343)))) else (utf_is.j0 k false)) else (utf_is.j0 k false)
theorem utf_is.mono_l : ∀ k, (∀ y0, LeO (utf_is.j0 k y0) (utf_is.j0 (k + 1) y0))
  | 0 => fun _ r h => by simp [utf_is.j0] at h
  | k + 1 => by
    have ih0 := utf_is.mono_l k
    · intro y0
      unfold utf_is.j0
      repeat' first
      | (with_reducible exact ih0 _)
      | (with_reducible exact LeO.refl _)
      | (with_reducible exact LeO.none _)
      | (with_reducible refine LeO.ite ?_ ?_)
      | (with_reducible refine LeO.bind ?_ (fun _ => ?_))
      | exact ih0 _
      | exact LeO.none _
      | refine LeO.ite ?_ ?_
      | refine LeO.bind ?_ (fun _ => ?_)
theorem utf_is.mono : ∀ a0 k, LeO (utf_is.f k a0) (utf_is.f (k + 1) a0) := by
  intro a0 k
  have ih0 := utf_is.mono_l k
  unfold utf_is.f
  repeat' first
      | (with_reducible exact ih0 _)
      | (with_reducible exact LeO.refl _)
      | (with_reducible exact LeO.none _)
      | (with_reducible refine LeO.ite ?_ ?_)
      | (with_reducible refine LeO.bind ?_ (fun _ => ?_))
      | exact ih0 _
      | exact LeO.none _
      | refine LeO.ite ?_ ?_
      | refine LeO.bind ?_ (fun _ => ?_)
set_option maxHeartbeats 8000000 in
set_option maxRecDepth 100000 in
theorem utf_is.calls (k : Nat) (a0 : Int) (r : Bool) (w : World) (h : utf_is.f k a0 = some r) :
    Calls Try.prog 24 #[.int .i64 a0] w fun e w' => e = .returned (.bool r) ∧ Drawn0 w w' := by
  have H : (if a0 ≥ 0 then (if a0 ≤ 1114111 then (if a0 < 55296 then (utf_is.j0 k true) else (utf_is.j0 k (decide (a0 > 57343)))) else (utf_is.j0 k false)) else (utf_is.j0 k false)) = some r := h
  clear h
  have HC2 := Aside0.mk H
  clear H
  go_enter Try.func24, Try.ntmps24
  go_upto_region 1 with (fail)
  go_cut [2] (fun v2 wc => ∃ (kq : Nat) (x2_1 : Bool), v2 = .bool x2_1 ∧ Aside0 (utf_is.j0 kq x2_1 = some r) ∧ Aside0 (kq ≤ k) ∧ Drawn0 w wc)
  case first =>
    have H := HC2.out
    clear HC2
    by_cases c3 : a0 ≥ 0
    · rw [if_pos c3] at H
      have c3b0 : decide (0 ≤ a0) = true := decide_eq_true c3
      clear c3
      (first | rw [c3b0] | (simp only [i64_w, i32_w]; rw [c3b0]) | skip)
      by_cases c4 : a0 ≤ 1114111
      · rw [if_pos c4] at H
        have c4b0 : decide (a0 ≤ 1114111) = true := decide_eq_true c4
        clear c4
        by_cases c5 : a0 < 55296
        · rw [if_pos c5] at H
          have c5b0 : decide (a0 < 55296) = true := decide_eq_true c5
          clear c5
          have H' := Aside0.mk H
          clear H
          go_wp2
          go_meet
          case rel => exact ⟨_, (true), (by first | rfl | (simp; done) | (simp [*]; done)), H', ⟨by first | omega | exact Nat.le_refl _⟩, by repeat (first | exact Drawn0.refl _ | apply Drawn0.step)⟩
        · rw [if_neg c5] at H
          have c5b0 : decide (a0 < 55296) = false := decide_eq_false c5
          clear c5
          have H' := Aside0.mk H
          clear H
          go_wp2
          go_meet
          case rel => exact ⟨_, (decide (a0 > 57343)), (by first | rfl | (simp; done) | (simp [*]; done)), H', ⟨by first | omega | exact Nat.le_refl _⟩, by repeat (first | exact Drawn0.refl _ | apply Drawn0.step)⟩
      · rw [if_neg c4] at H
        have c4b0 : decide (a0 ≤ 1114111) = false := decide_eq_false c4
        clear c4
        have H' := Aside0.mk H
        clear H
        go_wp2
        go_meet
        case rel => exact ⟨_, (false), (by first | rfl | (simp; done) | (simp [*]; done)), H', ⟨by first | omega | exact Nat.le_refl _⟩, by repeat (first | exact Drawn0.refl _ | apply Drawn0.step)⟩
    · rw [if_neg c3] at H
      have c3b0 : decide (0 ≤ a0) = false := decide_eq_false c3
      clear c3
      (first | rw [c3b0] | (simp only [i64_w, i32_w]; rw [c3b0]) | skip)
      have H' := Aside0.mk H
      clear H
      go_wp2
      go_meet
      case rel => exact ⟨_, (false), (by first | rfl | (simp; done) | (simp [*]; done)), H', ⟨by first | omega | exact Nat.le_refl _⟩, by repeat (first | exact Drawn0.refl _ | apply Drawn0.step)⟩
  case rest =>
    clear HC2
    try clear c2
    try clear p2
    try clear c3
    try clear c3b0
    try clear c4
    try clear c4b0
    try clear c5
    try clear c5b0
    obtain ⟨kq, x2_1, rfl, HA, HJ1, ⟨mc1, rfl⟩⟩ := hcut
    cases kq with
    | zero => exact absurd HA.out (by simp [utf_is.j0])
    | succ kj1 =>
      have H := HA.out
      clear HA
      simp only [utf_is.j0] at H
      obtain rfl := Option.some.inj H
      go_wp2
      go_ret
      exact ⟨by first | rfl | (simp; done) | (simp [*]; done), by repeat (first | exact Drawn0.refl _ | apply Drawn0.step)⟩

-- NOT PRINTED: function 25 (utf_sizes)

-- NOT PRINTED: function 16 (utf_Put)

-- BY HAND: function 10 (keys_Look)

-- BY HAND: function 13 (keys_Find)

/-! ### clavierlaw09_awake: function 9 -/
def clavierlaw09_awake.j0 : Nat → Bool → Option (Bool)
  | 0, _ => none
  | k + 1, x0 => some x0
def clavierlaw09_awake.f (k : Nat)  : Option (Bool) := (keys_Find.f 126 15).bind fun bt102 => ((keys_Look.f 57352).bind fun bt104 => (if (bt104.1 == 3 && (bt104.2.1 == 65 && (bt104.2.2.1 == 0 && (bt104.2.2.2.1 == 0 && (!bt104.2.2.2.2))))) = true then ((keys_Look.f 97).bind fun bt109 => (if bt109.1 = 1 then ((keys_Look.f 57441).bind fun bt114 => (if bt114.1 = 7 then (if bt102.1 = 57368 then (if bt102.2 = true then ((keys_Look.f 57414).bind fun bt119 => (if bt119.2.2.2.1 = 13 then ((keys_Look.f 57420).bind fun bt124 => (clavierlaw09_awake.j0 k bt124.2.2.2.2)) else (clavierlaw09_awake.j0 k false))) else (clavierlaw09_awake.j0 k false)) else (clavierlaw09_awake.j0 k false)) else (clavierlaw09_awake.j0 k false))) else (clavierlaw09_awake.j0 k false))) else (clavierlaw09_awake.j0 k false)))
theorem clavierlaw09_awake.mono_l : ∀ k, (∀ y0, LeO (clavierlaw09_awake.j0 k y0) (clavierlaw09_awake.j0 (k + 1) y0))
  | 0 => fun _ r h => by simp [clavierlaw09_awake.j0] at h
  | k + 1 => by
    have ih0 := clavierlaw09_awake.mono_l k
    · intro y0
      unfold clavierlaw09_awake.j0
      repeat' first
      | (with_reducible exact ih0 _)
      | (with_reducible exact LeO.refl _)
      | (with_reducible exact LeO.none _)
      | (with_reducible refine LeO.ite ?_ ?_)
      | (with_reducible refine LeO.bind ?_ (fun _ => ?_))
      | exact ih0 _
      | exact LeO.none _
      | refine LeO.ite ?_ ?_
      | refine LeO.bind ?_ (fun _ => ?_)
theorem clavierlaw09_awake.mono : ∀ k, LeO (clavierlaw09_awake.f k ) (clavierlaw09_awake.f (k + 1) ) := by
  intro  k
  have ih0 := clavierlaw09_awake.mono_l k
  unfold clavierlaw09_awake.f
  repeat' first
      | (with_reducible exact ih0 _)
      | (with_reducible exact LeO.refl _)
      | (with_reducible exact LeO.none _)
      | (with_reducible refine LeO.ite ?_ ?_)
      | (with_reducible refine LeO.bind ?_ (fun _ => ?_))
      | exact ih0 _
      | exact LeO.none _
      | refine LeO.ite ?_ ?_
      | refine LeO.bind ?_ (fun _ => ?_)
set_option maxHeartbeats 8000000 in
set_option maxRecDepth 100000 in
theorem clavierlaw09_awake.calls (k : Nat)  (r : Bool) (w : World) (h : clavierlaw09_awake.f k  = some r) :
    Calls Try.prog 9 #[] w fun e w' => e = .returned (.bool r) ∧ Below w.heap.size w w' := by
  have hu24 := Try.underlying24
  have hfd24_0 := field24_0
  have hfd24_3 := field24_3
  have hfd24_4 := field24_4
  have HB := Aside0.mk (Below.refl w.heap.size w)
  have H : ((keys_Find.f 126 15).bind fun bt102 => ((keys_Look.f 57352).bind fun bt104 => (if (bt104.1 == 3 && (bt104.2.1 == 65 && (bt104.2.2.1 == 0 && (bt104.2.2.2.1 == 0 && (!bt104.2.2.2.2))))) = true then ((keys_Look.f 97).bind fun bt109 => (if bt109.1 = 1 then ((keys_Look.f 57441).bind fun bt114 => (if bt114.1 = 7 then (if bt102.1 = 57368 then (if bt102.2 = true then ((keys_Look.f 57414).bind fun bt119 => (if bt119.2.2.2.1 = 13 then ((keys_Look.f 57420).bind fun bt124 => (clavierlaw09_awake.j0 k bt124.2.2.2.2)) else (clavierlaw09_awake.j0 k false))) else (clavierlaw09_awake.j0 k false)) else (clavierlaw09_awake.j0 k false)) else (clavierlaw09_awake.j0 k false))) else (clavierlaw09_awake.j0 k false))) else (clavierlaw09_awake.j0 k false)))) = some r := h
  clear h
  replace H := Option.bind_eq_some_iff.mp H
  obtain ⟨⟨t102, t103⟩, A10, H⟩ := H
  replace H : ((keys_Look.f 57352).bind fun bt104 => (if (bt104.1 == 3 && (bt104.2.1 == 65 && (bt104.2.2.1 == 0 && (bt104.2.2.2.1 == 0 && (!bt104.2.2.2.2))))) = true then ((keys_Look.f 97).bind fun bt109 => (if bt109.1 = 1 then ((keys_Look.f 57441).bind fun bt114 => (if bt114.1 = 7 then (if t102 = 57368 then (if t103 = true then ((keys_Look.f 57414).bind fun bt119 => (if bt119.2.2.2.1 = 13 then ((keys_Look.f 57420).bind fun bt124 => (clavierlaw09_awake.j0 k bt124.2.2.2.2)) else (clavierlaw09_awake.j0 k false))) else (clavierlaw09_awake.j0 k false)) else (clavierlaw09_awake.j0 k false)) else (clavierlaw09_awake.j0 k false))) else (clavierlaw09_awake.j0 k false))) else (clavierlaw09_awake.j0 k false))) = some r := H
  have A1 := Aside0.mk A10
  clear A10
  have HC2 := Aside0.mk H
  clear H
  go_enter Try.func9, Try.ntmps9
  go_upto_region 2 with (first | ((with_reducible refine gate_callee (f := 13) rfl ?_); refine goesL_ (some 4) rfl rfl Try.func13 (by kernel_rfl) rfl #[.int .u8 126, .int .i64 15] rfl (by (try simp only [List.map_toArray, List.map_cons, List.map_nil]); first | done | rfl | (simp only [List.length_drop, List.length_take]; rfl)) ?_; (with_reducible refine (keys_Find.calls 126 15 t102 t103 _ A1.out).mono ?_); rintro e w3 ⟨rfl, hb⟩; refine ⟨_, rfl, ?_⟩; have n0_ := Aside0.mk (below_step (by repeat (first | (with_reducible first | exact HB.out | apply below_alloc | apply pw_below_drewN | apply below_drew1) | exact HB.out)) hb); clear HB; have HB := n0_; clear n0_; (try clear hb); (try clear hb2); (try clear hk); (try clear hi)))
  (try simp only [Act.put, List.setIfInBounds_toArray, List.set_cons_zero, List.set_cons_succ])
  go_cut [0] (fun v0 wc => ∃ (kq : Nat) (x0_1 : Bool), v0 = .bool x0_1 ∧ Aside0 (clavierlaw09_awake.j0 kq x0_1 = some r) ∧ Aside0 (kq ≤ k) ∧ Aside0 (Below w.heap.size w wc))
  case first =>
    have H := HC2.out
    clear HC2
    replace H := Option.bind_eq_some_iff.mp H
    obtain ⟨⟨t104, t105, t106, t107, t108⟩, A40, H⟩ := H
    replace H : (if (t104 == 3 && (t105 == 65 && (t106 == 0 && (t107 == 0 && (!t108))))) = true then ((keys_Look.f 97).bind fun bt109 => (if bt109.1 = 1 then ((keys_Look.f 57441).bind fun bt114 => (if bt114.1 = 7 then (if t102 = 57368 then (if t103 = true then ((keys_Look.f 57414).bind fun bt119 => (if bt119.2.2.2.1 = 13 then ((keys_Look.f 57420).bind fun bt124 => (clavierlaw09_awake.j0 k bt124.2.2.2.2)) else (clavierlaw09_awake.j0 k false))) else (clavierlaw09_awake.j0 k false)) else (clavierlaw09_awake.j0 k false)) else (clavierlaw09_awake.j0 k false))) else (clavierlaw09_awake.j0 k false))) else (clavierlaw09_awake.j0 k false)) = some r := H
    have A4 := Aside0.mk A40
    clear A40
    by_cases c5 : (t104 == 3 && (t105 == 65 && (t106 == 0 && (t107 == 0 && (!t108))))) = true
    · rw [if_pos c5] at H
      have c5b0 : (t104 == 3 && (t105 == 65 && (t106 == 0 && (t107 == 0 && (!t108))))) = true := c5
      (try (have c5b1 : decide (t104 = 3 && (t105 == 65 && (t106 == 0 && (t107 == 0 && (!t108))))) = true := by simpa using c5))
      (try (have c5b2 : (t104 == 3 && (t105 == 65 && (t106 == 0 && (t107 == 0 && (!t108))))) = true := by simpa using c5))
      clear c5
      (first | rw [c5b0] | (simp only [i64_w, i32_w]; rw [c5b0]) | skip)
      replace H := Option.bind_eq_some_iff.mp H
      obtain ⟨⟨t109, t110, t111, t112, t113⟩, A60, H⟩ := H
      replace H : (if t109 = 1 then ((keys_Look.f 57441).bind fun bt114 => (if bt114.1 = 7 then (if t102 = 57368 then (if t103 = true then ((keys_Look.f 57414).bind fun bt119 => (if bt119.2.2.2.1 = 13 then ((keys_Look.f 57420).bind fun bt124 => (clavierlaw09_awake.j0 k bt124.2.2.2.2)) else (clavierlaw09_awake.j0 k false))) else (clavierlaw09_awake.j0 k false)) else (clavierlaw09_awake.j0 k false)) else (clavierlaw09_awake.j0 k false))) else (clavierlaw09_awake.j0 k false)) = some r := H
      have A6 := Aside0.mk A60
      clear A60
      by_cases c7 : t109 = 1
      · rw [if_pos c7] at H
        have c7b0 : (t109 == 1) = true := beq_iff_eq.mpr c7
        have c7b1 : (t109 != 1) = false := bne_eq_false_iff_eq.mpr c7
        clear c7
        replace H := Option.bind_eq_some_iff.mp H
        obtain ⟨⟨t114, t115, t116, t117, t118⟩, A80, H⟩ := H
        replace H : (if t114 = 7 then (if t102 = 57368 then (if t103 = true then ((keys_Look.f 57414).bind fun bt119 => (if bt119.2.2.2.1 = 13 then ((keys_Look.f 57420).bind fun bt124 => (clavierlaw09_awake.j0 k bt124.2.2.2.2)) else (clavierlaw09_awake.j0 k false))) else (clavierlaw09_awake.j0 k false)) else (clavierlaw09_awake.j0 k false)) else (clavierlaw09_awake.j0 k false)) = some r := H
        have A8 := Aside0.mk A80
        clear A80
        by_cases c9 : t114 = 7
        · rw [if_pos c9] at H
          have c9b0 : (t114 == 7) = true := beq_iff_eq.mpr c9
          have c9b1 : (t114 != 7) = false := bne_eq_false_iff_eq.mpr c9
          clear c9
          by_cases c10 : t102 = 57368
          · rw [if_pos c10] at H
            have c10b0 : (t102 == 57368) = true := beq_iff_eq.mpr c10
            have c10b1 : (t102 != 57368) = false := bne_eq_false_iff_eq.mpr c10
            clear c10
            by_cases c11 : t103 = true
            · subst c11
              have H1 : ((keys_Look.f 57414).bind fun bt119 => (if bt119.2.2.2.1 = 13 then ((keys_Look.f 57420).bind fun bt124 => (clavierlaw09_awake.j0 k bt124.2.2.2.2)) else (clavierlaw09_awake.j0 k false))) = some r := by rw [if_pos rfl] at H; exact H
              clear H
              have H := H1
              clear H1
              replace H := Option.bind_eq_some_iff.mp H
              obtain ⟨⟨t119, t120, t121, t122, t123⟩, A120, H⟩ := H
              replace H : (if t122 = 13 then ((keys_Look.f 57420).bind fun bt124 => (clavierlaw09_awake.j0 k bt124.2.2.2.2)) else (clavierlaw09_awake.j0 k false)) = some r := H
              have A12 := Aside0.mk A120
              clear A120
              by_cases c13 : t122 = 13
              · rw [if_pos c13] at H
                have c13b0 : (t122 == 13) = true := beq_iff_eq.mpr c13
                have c13b1 : (t122 != 13) = false := bne_eq_false_iff_eq.mpr c13
                clear c13
                replace H := Option.bind_eq_some_iff.mp H
                obtain ⟨⟨t124, t125, t126, t127, t128⟩, A140, H⟩ := H
                replace H : (clavierlaw09_awake.j0 k t128) = some r := H
                have A14 := Aside0.mk A140
                clear A140
                have H' := Aside0.mk H
                clear H
                go_wp2_with (first | ((with_reducible refine gate_callee (f := 10) rfl ?_); refine goesL_ (some 7) rfl rfl Try.func10 (by kernel_rfl) rfl #[.int .i64 57352] rfl (by (try simp only [List.map_toArray, List.map_cons, List.map_nil]); first | done | rfl | (simp only [List.length_drop, List.length_take]; rfl)) ?_; (with_reducible refine (keys_Look.calls 57352 t104 t105 t106 t107 t108 _ A4.out).mono ?_); rintro e w15 ⟨rfl, hb⟩; refine ⟨_, rfl, ?_⟩; have n0_ := Aside0.mk (below_step (by repeat (first | (with_reducible first | exact HB.out | apply below_alloc | apply pw_below_drewN | apply below_drew1) | exact HB.out)) hb); clear HB; have HB := n0_; clear n0_; (try clear hb); (try clear hb2); (try clear hk); (try clear hi)) | (go_at_call 10; (with_reducible refine (keys_Look.calls 97 t109 t110 t111 t112 t113 _ A6.out).mono ?_); rintro e w16 ⟨rfl, hb⟩; have n0_ := Aside0.mk (below_step (by repeat (first | (with_reducible first | exact HB.out | apply below_alloc | apply pw_below_drewN | apply below_drew1) | exact HB.out)) hb); clear HB; have HB := n0_; clear n0_; (try clear hb); (try clear hb2); (try clear hk); (try clear hi)) | (go_at_call 10; (with_reducible refine (keys_Look.calls 57441 t114 t115 t116 t117 t118 _ A8.out).mono ?_); rintro e w17 ⟨rfl, hb⟩; have n0_ := Aside0.mk (below_step (by repeat (first | (with_reducible first | exact HB.out | apply below_alloc | apply pw_below_drewN | apply below_drew1) | exact HB.out)) hb); clear HB; have HB := n0_; clear n0_; (try clear hb); (try clear hb2); (try clear hk); (try clear hi)) | (go_at_call 10; (with_reducible refine (keys_Look.calls 57414 t119 t120 t121 t122 t123 _ A12.out).mono ?_); rintro e w18 ⟨rfl, hb⟩; have n0_ := Aside0.mk (below_step (by repeat (first | (with_reducible first | exact HB.out | apply below_alloc | apply pw_below_drewN | apply below_drew1) | exact HB.out)) hb); clear HB; have HB := n0_; clear n0_; (try clear hb); (try clear hb2); (try clear hk); (try clear hi)) | (go_at_call 10; (with_reducible refine (keys_Look.calls 57420 t124 t125 t126 t127 t128 _ A14.out).mono ?_); rintro e w19 ⟨rfl, hb⟩; have n0_ := Aside0.mk (below_step (by repeat (first | (with_reducible first | exact HB.out | apply below_alloc | apply pw_below_drewN | apply below_drew1) | exact HB.out)) hb); clear HB; have HB := n0_; clear n0_; (try clear hb); (try clear hb2); (try clear hk); (try clear hi)))
                go_meet
                case rel => exact ⟨_, (t128), (by first | rfl | (simp; done) | (simp [*]; done)), H', ⟨by first | omega | exact Nat.le_refl _⟩, ⟨by repeat (first | (with_reducible first | exact HB.out | apply below_alloc | apply pw_below_drewN | apply below_drew1) | exact HB.out)⟩⟩
              · rw [if_neg c13] at H
                have c13b0 : (t122 == 13) = false := beq_eq_false_iff_ne.mpr c13
                have c13b1 : (t122 != 13) = true := bne_iff_ne.mpr c13
                have H' := Aside0.mk H
                clear H
                go_wp2_with (first | ((with_reducible refine gate_callee (f := 10) rfl ?_); refine goesL_ (some 7) rfl rfl Try.func10 (by kernel_rfl) rfl #[.int .i64 57352] rfl (by (try simp only [List.map_toArray, List.map_cons, List.map_nil]); first | done | rfl | (simp only [List.length_drop, List.length_take]; rfl)) ?_; (with_reducible refine (keys_Look.calls 57352 t104 t105 t106 t107 t108 _ A4.out).mono ?_); rintro e w20 ⟨rfl, hb⟩; refine ⟨_, rfl, ?_⟩; have n0_ := Aside0.mk (below_step (by repeat (first | (with_reducible first | exact HB.out | apply below_alloc | apply pw_below_drewN | apply below_drew1) | exact HB.out)) hb); clear HB; have HB := n0_; clear n0_; (try clear hb); (try clear hb2); (try clear hk); (try clear hi)) | (go_at_call 10; (with_reducible refine (keys_Look.calls 97 t109 t110 t111 t112 t113 _ A6.out).mono ?_); rintro e w21 ⟨rfl, hb⟩; have n0_ := Aside0.mk (below_step (by repeat (first | (with_reducible first | exact HB.out | apply below_alloc | apply pw_below_drewN | apply below_drew1) | exact HB.out)) hb); clear HB; have HB := n0_; clear n0_; (try clear hb); (try clear hb2); (try clear hk); (try clear hi)) | (go_at_call 10; (with_reducible refine (keys_Look.calls 57441 t114 t115 t116 t117 t118 _ A8.out).mono ?_); rintro e w22 ⟨rfl, hb⟩; have n0_ := Aside0.mk (below_step (by repeat (first | (with_reducible first | exact HB.out | apply below_alloc | apply pw_below_drewN | apply below_drew1) | exact HB.out)) hb); clear HB; have HB := n0_; clear n0_; (try clear hb); (try clear hb2); (try clear hk); (try clear hi)) | (go_at_call 10; (with_reducible refine (keys_Look.calls 57414 t119 t120 t121 t122 t123 _ A12.out).mono ?_); rintro e w23 ⟨rfl, hb⟩; have n0_ := Aside0.mk (below_step (by repeat (first | (with_reducible first | exact HB.out | apply below_alloc | apply pw_below_drewN | apply below_drew1) | exact HB.out)) hb); clear HB; have HB := n0_; clear n0_; (try clear hb); (try clear hb2); (try clear hk); (try clear hi)))
                go_meet
                case rel => exact ⟨_, (false), (by first | rfl | (simp; done) | (simp [*]; done)), H', ⟨by first | omega | exact Nat.le_refl _⟩, ⟨by repeat (first | (with_reducible first | exact HB.out | apply below_alloc | apply pw_below_drewN | apply below_drew1) | exact HB.out)⟩⟩
            · replace c11 := Bool.eq_false_iff.mpr c11
              subst c11
              have H1 : (clavierlaw09_awake.j0 k false) = some r := by rw [if_neg (show ¬ (false = true) by decide)] at H; exact H
              clear H
              have H := H1
              clear H1
              have H' := Aside0.mk H
              clear H
              go_wp2_with (first | ((with_reducible refine gate_callee (f := 10) rfl ?_); refine goesL_ (some 7) rfl rfl Try.func10 (by kernel_rfl) rfl #[.int .i64 57352] rfl (by (try simp only [List.map_toArray, List.map_cons, List.map_nil]); first | done | rfl | (simp only [List.length_drop, List.length_take]; rfl)) ?_; (with_reducible refine (keys_Look.calls 57352 t104 t105 t106 t107 t108 _ A4.out).mono ?_); rintro e w24 ⟨rfl, hb⟩; refine ⟨_, rfl, ?_⟩; have n0_ := Aside0.mk (below_step (by repeat (first | (with_reducible first | exact HB.out | apply below_alloc | apply pw_below_drewN | apply below_drew1) | exact HB.out)) hb); clear HB; have HB := n0_; clear n0_; (try clear hb); (try clear hb2); (try clear hk); (try clear hi)) | (go_at_call 10; (with_reducible refine (keys_Look.calls 97 t109 t110 t111 t112 t113 _ A6.out).mono ?_); rintro e w25 ⟨rfl, hb⟩; have n0_ := Aside0.mk (below_step (by repeat (first | (with_reducible first | exact HB.out | apply below_alloc | apply pw_below_drewN | apply below_drew1) | exact HB.out)) hb); clear HB; have HB := n0_; clear n0_; (try clear hb); (try clear hb2); (try clear hk); (try clear hi)) | (go_at_call 10; (with_reducible refine (keys_Look.calls 57441 t114 t115 t116 t117 t118 _ A8.out).mono ?_); rintro e w26 ⟨rfl, hb⟩; have n0_ := Aside0.mk (below_step (by repeat (first | (with_reducible first | exact HB.out | apply below_alloc | apply pw_below_drewN | apply below_drew1) | exact HB.out)) hb); clear HB; have HB := n0_; clear n0_; (try clear hb); (try clear hb2); (try clear hk); (try clear hi)))
              go_meet
              case rel => exact ⟨_, (false), (by first | rfl | (simp; done) | (simp [*]; done)), H', ⟨by first | omega | exact Nat.le_refl _⟩, ⟨by repeat (first | (with_reducible first | exact HB.out | apply below_alloc | apply pw_below_drewN | apply below_drew1) | exact HB.out)⟩⟩
          · rw [if_neg c10] at H
            have c10b0 : (t102 == 57368) = false := beq_eq_false_iff_ne.mpr c10
            have c10b1 : (t102 != 57368) = true := bne_iff_ne.mpr c10
            have H' := Aside0.mk H
            clear H
            go_wp2_with (first | ((with_reducible refine gate_callee (f := 10) rfl ?_); refine goesL_ (some 7) rfl rfl Try.func10 (by kernel_rfl) rfl #[.int .i64 57352] rfl (by (try simp only [List.map_toArray, List.map_cons, List.map_nil]); first | done | rfl | (simp only [List.length_drop, List.length_take]; rfl)) ?_; (with_reducible refine (keys_Look.calls 57352 t104 t105 t106 t107 t108 _ A4.out).mono ?_); rintro e w27 ⟨rfl, hb⟩; refine ⟨_, rfl, ?_⟩; have n0_ := Aside0.mk (below_step (by repeat (first | (with_reducible first | exact HB.out | apply below_alloc | apply pw_below_drewN | apply below_drew1) | exact HB.out)) hb); clear HB; have HB := n0_; clear n0_; (try clear hb); (try clear hb2); (try clear hk); (try clear hi)) | (go_at_call 10; (with_reducible refine (keys_Look.calls 97 t109 t110 t111 t112 t113 _ A6.out).mono ?_); rintro e w28 ⟨rfl, hb⟩; have n0_ := Aside0.mk (below_step (by repeat (first | (with_reducible first | exact HB.out | apply below_alloc | apply pw_below_drewN | apply below_drew1) | exact HB.out)) hb); clear HB; have HB := n0_; clear n0_; (try clear hb); (try clear hb2); (try clear hk); (try clear hi)) | (go_at_call 10; (with_reducible refine (keys_Look.calls 57441 t114 t115 t116 t117 t118 _ A8.out).mono ?_); rintro e w29 ⟨rfl, hb⟩; have n0_ := Aside0.mk (below_step (by repeat (first | (with_reducible first | exact HB.out | apply below_alloc | apply pw_below_drewN | apply below_drew1) | exact HB.out)) hb); clear HB; have HB := n0_; clear n0_; (try clear hb); (try clear hb2); (try clear hk); (try clear hi)))
            go_meet
            case rel => exact ⟨_, (false), (by first | rfl | (simp; done) | (simp [*]; done)), H', ⟨by first | omega | exact Nat.le_refl _⟩, ⟨by repeat (first | (with_reducible first | exact HB.out | apply below_alloc | apply pw_below_drewN | apply below_drew1) | exact HB.out)⟩⟩
        · rw [if_neg c9] at H
          have c9b0 : (t114 == 7) = false := beq_eq_false_iff_ne.mpr c9
          have c9b1 : (t114 != 7) = true := bne_iff_ne.mpr c9
          have H' := Aside0.mk H
          clear H
          go_wp2_with (first | ((with_reducible refine gate_callee (f := 10) rfl ?_); refine goesL_ (some 7) rfl rfl Try.func10 (by kernel_rfl) rfl #[.int .i64 57352] rfl (by (try simp only [List.map_toArray, List.map_cons, List.map_nil]); first | done | rfl | (simp only [List.length_drop, List.length_take]; rfl)) ?_; (with_reducible refine (keys_Look.calls 57352 t104 t105 t106 t107 t108 _ A4.out).mono ?_); rintro e w30 ⟨rfl, hb⟩; refine ⟨_, rfl, ?_⟩; have n0_ := Aside0.mk (below_step (by repeat (first | (with_reducible first | exact HB.out | apply below_alloc | apply pw_below_drewN | apply below_drew1) | exact HB.out)) hb); clear HB; have HB := n0_; clear n0_; (try clear hb); (try clear hb2); (try clear hk); (try clear hi)) | (go_at_call 10; (with_reducible refine (keys_Look.calls 97 t109 t110 t111 t112 t113 _ A6.out).mono ?_); rintro e w31 ⟨rfl, hb⟩; have n0_ := Aside0.mk (below_step (by repeat (first | (with_reducible first | exact HB.out | apply below_alloc | apply pw_below_drewN | apply below_drew1) | exact HB.out)) hb); clear HB; have HB := n0_; clear n0_; (try clear hb); (try clear hb2); (try clear hk); (try clear hi)) | (go_at_call 10; (with_reducible refine (keys_Look.calls 57441 t114 t115 t116 t117 t118 _ A8.out).mono ?_); rintro e w32 ⟨rfl, hb⟩; have n0_ := Aside0.mk (below_step (by repeat (first | (with_reducible first | exact HB.out | apply below_alloc | apply pw_below_drewN | apply below_drew1) | exact HB.out)) hb); clear HB; have HB := n0_; clear n0_; (try clear hb); (try clear hb2); (try clear hk); (try clear hi)))
          go_meet
          case rel => exact ⟨_, (false), (by first | rfl | (simp; done) | (simp [*]; done)), H', ⟨by first | omega | exact Nat.le_refl _⟩, ⟨by repeat (first | (with_reducible first | exact HB.out | apply below_alloc | apply pw_below_drewN | apply below_drew1) | exact HB.out)⟩⟩
      · rw [if_neg c7] at H
        have c7b0 : (t109 == 1) = false := beq_eq_false_iff_ne.mpr c7
        have c7b1 : (t109 != 1) = true := bne_iff_ne.mpr c7
        have H' := Aside0.mk H
        clear H
        go_wp2_with (first | ((with_reducible refine gate_callee (f := 10) rfl ?_); refine goesL_ (some 7) rfl rfl Try.func10 (by kernel_rfl) rfl #[.int .i64 57352] rfl (by (try simp only [List.map_toArray, List.map_cons, List.map_nil]); first | done | rfl | (simp only [List.length_drop, List.length_take]; rfl)) ?_; (with_reducible refine (keys_Look.calls 57352 t104 t105 t106 t107 t108 _ A4.out).mono ?_); rintro e w33 ⟨rfl, hb⟩; refine ⟨_, rfl, ?_⟩; have n0_ := Aside0.mk (below_step (by repeat (first | (with_reducible first | exact HB.out | apply below_alloc | apply pw_below_drewN | apply below_drew1) | exact HB.out)) hb); clear HB; have HB := n0_; clear n0_; (try clear hb); (try clear hb2); (try clear hk); (try clear hi)) | (go_at_call 10; (with_reducible refine (keys_Look.calls 97 t109 t110 t111 t112 t113 _ A6.out).mono ?_); rintro e w34 ⟨rfl, hb⟩; have n0_ := Aside0.mk (below_step (by repeat (first | (with_reducible first | exact HB.out | apply below_alloc | apply pw_below_drewN | apply below_drew1) | exact HB.out)) hb); clear HB; have HB := n0_; clear n0_; (try clear hb); (try clear hb2); (try clear hk); (try clear hi)))
        go_meet
        case rel => exact ⟨_, (false), (by first | rfl | (simp; done) | (simp [*]; done)), H', ⟨by first | omega | exact Nat.le_refl _⟩, ⟨by repeat (first | (with_reducible first | exact HB.out | apply below_alloc | apply pw_below_drewN | apply below_drew1) | exact HB.out)⟩⟩
    · rw [if_neg c5] at H
      have c5b0 : (t104 == 3 && (t105 == 65 && (t106 == 0 && (t107 == 0 && (!t108))))) = false := by simpa using c5
      (try (have c5b1 : decide (t104 = 3 && (t105 == 65 && (t106 == 0 && (t107 == 0 && (!t108))))) = false := by simpa using c5))
      (try (have c5b2 : (t104 == 3 && (t105 == 65 && (t106 == 0 && (t107 == 0 && (!t108))))) = false := by simpa using c5))
      (try (have c5b3 : ¬ (t104 = 3 && (t105 == 65 && (t106 == 0 && (t107 == 0 && (!t108))))) := by simpa using c5))
      clear c5
      (first | rw [c5b0] | (simp only [i64_w, i32_w]; rw [c5b0]) | skip)
      have H' := Aside0.mk H
      clear H
      go_wp2_with (first | ((with_reducible refine gate_callee (f := 10) rfl ?_); refine goesL_ (some 7) rfl rfl Try.func10 (by kernel_rfl) rfl #[.int .i64 57352] rfl (by (try simp only [List.map_toArray, List.map_cons, List.map_nil]); first | done | rfl | (simp only [List.length_drop, List.length_take]; rfl)) ?_; (with_reducible refine (keys_Look.calls 57352 t104 t105 t106 t107 t108 _ A4.out).mono ?_); rintro e w35 ⟨rfl, hb⟩; refine ⟨_, rfl, ?_⟩; have n0_ := Aside0.mk (below_step (by repeat (first | (with_reducible first | exact HB.out | apply below_alloc | apply pw_below_drewN | apply below_drew1) | exact HB.out)) hb); clear HB; have HB := n0_; clear n0_; (try clear hb); (try clear hb2); (try clear hk); (try clear hi)))
      go_meet
      case rel => exact ⟨_, (false), (by first | rfl | (simp; done) | (simp [*]; done)), H', ⟨by first | omega | exact Nat.le_refl _⟩, ⟨by repeat (first | (with_reducible first | exact HB.out | apply below_alloc | apply pw_below_drewN | apply below_drew1) | exact HB.out)⟩⟩
  case rest =>
    clear HC2
    try clear c1
    try clear p2
    try clear c5
    try clear c5b0
    try clear c5b1
    try clear c5b2
    try clear c7
    try clear c7b0
    try clear c7b1
    try clear c9
    try clear c9b0
    try clear c9b1
    try clear c10
    try clear c10b0
    try clear c10b1
    try clear c11
    try clear c13
    try clear c13b0
    try clear c13b1
    obtain ⟨kq, x0_1, rfl, HA, HJ1, HB⟩ := hcut
    cases kq with
    | zero => exact absurd HA.out (by simp [clavierlaw09_awake.j0])
    | succ kj1 =>
      have H := HA.out
      clear HA
      simp only [clavierlaw09_awake.j0] at H
      obtain rfl := Option.some.inj H
      go_wp2
      go_ret
      exact ⟨by first | rfl | (simp [errW_none, errW_some] <;> rfl) | (simp [*, errW_none, errW_some] <;> rfl), by repeat (first | (with_reducible first | exact HB.out | apply below_alloc | apply pw_below_drewN | apply below_drew1) | exact HB.out)⟩

end Go.Proofs.Ytkbepgelgcoihaa.B
