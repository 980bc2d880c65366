-- Written by a program of this session (myprint.py over the kit's printer, some callees given by hand). Lean checks it.
import Derived.Test.YtkbepgelgcoihaaS0
import Derived.Test.YtkbepgelgcoihaaS1
import Derived.Test.YtkbepgelgcoihaaS2
import Derived.Test.YtkbepgelgcoihaaS3
namespace Go.Proofs.Ytkbepgelgcoihaa.S
open Go.Proofs.Ytkbepgelgcoihaa.H Go.RowKit Go.Proofs.YtkbepgelgcoihaaW.PrintWords Go.Proofs.YtkbepgelgcoihaaW.PrintLast Go.Proofs.YtkbepgelgcoihaaW.PrintMore
attribute [local go_sem] max2_int min2_int max_two min_two max_three min_three max_four min_four   -- for this text's walks alone
set_option linter.unusedVariables false
set_option linter.unusedSimpArgs false

attribute [local go_sem high] eqA24
/-! ### clavierlaw09_KeysRow: function 4 -/
def clavierlaw09_KeysRow.l0 : Nat → Int → Bool → Int → Option (Bool)
  | 0, _, _, _ => none
  | k + 1, x0, x3, x4 => if x4 < 120 then ((keys_Look.f (wrap64 ((wrap64 (57340 + (wrap64 (x0)))) + x4))).bind fun bt175 => ((clavierref09_Look.f k (wrap64 ((wrap64 (57340 + (wrap64 (x0)))) + x4))).bind fun bt180 => ((clavierlaw09_made.f bt180.1 bt180.2.1 bt180.2.2.1 bt180.2.2.2.1 bt180.2.2.2.2).bind fun bt185 => (if (!(bt175.1 == bt185.1) || (!(bt175.2.1 == bt185.2.1) || (!(bt175.2.2.1 == bt185.2.2.1) || (!(bt175.2.2.2.1 == bt185.2.2.2.1) || (!(bt175.2.2.2.2 == bt185.2.2.2.2)))))) = true then (none) else (clavierlaw09_KeysRow.l0 k x0 x3 (wrap64 (x4 + 1))))))) else (if x3 = true then ((keys_Look.f 57343).bind fun bt160 => (if bt160.1 = 0 then ((keys_Look.f 63744).bind fun bt165 => (if bt165.1 = 1 then ((keys_Look.f 63743).bind fun bt170 => (some (bt170.1 == 0))) else (none))) else (none))) else (none))
def clavierlaw09_KeysRow.f (k : Nat) (a0 : Int) : Option (Bool) := (clavierlaw09_awake.f).bind fun t159 => (clavierlaw09_KeysRow.l0 k a0 t159 0)
theorem clavierlaw09_KeysRow.mono_l : ∀ k, (∀ y0 y1 y2, LeO (clavierlaw09_KeysRow.l0 k y0 y1 y2) (clavierlaw09_KeysRow.l0 (k + 1) y0 y1 y2))
  | 0 => fun _ _ _ r h => by simp [clavierlaw09_KeysRow.l0] at h
  | k + 1 => by
    have ih0 := clavierlaw09_KeysRow.mono_l k
    · intro y0 y1 y2
      unfold clavierlaw09_KeysRow.l0
      repeat' first
      | (with_reducible exact ih0 _ _ _)
      | (with_reducible exact clavierref09_Look.mono _ _)
      | (with_reducible exact LeO.refl _)
      | (with_reducible exact LeO.none _)
      | (with_reducible refine LeO.ite ?_ ?_)
      | (with_reducible refine LeO.bind ?_ (fun _ => ?_))
      | exact ih0 _ _ _
      | exact clavierref09_Look.mono _ _
      | exact LeO.none _
      | refine LeO.ite ?_ ?_
      | refine LeO.bind ?_ (fun _ => ?_)
theorem clavierlaw09_KeysRow.mono : ∀ a0 k, LeO (clavierlaw09_KeysRow.f k a0) (clavierlaw09_KeysRow.f (k + 1) a0) := by
  intro a0 k
  have ih0 := clavierlaw09_KeysRow.mono_l k
  unfold clavierlaw09_KeysRow.f
  repeat' first
      | (with_reducible exact ih0 _ _ _)
      | (with_reducible exact clavierref09_Look.mono _ _)
      | (with_reducible exact LeO.refl _)
      | (with_reducible exact LeO.none _)
      | (with_reducible refine LeO.ite ?_ ?_)
      | (with_reducible refine LeO.bind ?_ (fun _ => ?_))
      | exact ih0 _ _ _
      | exact clavierref09_Look.mono _ _
      | exact LeO.none _
      | refine LeO.ite ?_ ?_
      | refine LeO.bind ?_ (fun _ => ?_)
set_option maxHeartbeats 8000000 in
set_option maxRecDepth 100000 in
theorem clavierlaw09_KeysRow.calls (k : Nat) (a0 : Int) (r : Bool) (w : World) (h : clavierlaw09_KeysRow.f k a0 = some r) :
    Calls Try.prog 4 #[.int .u8 a0] w fun e w' => e = .returned (.bool r) ∧ Below w.heap.size w w' := by
  have hfd24_0 := field24_0
  have HB := Aside0.mk (Below.refl w.heap.size w)
  have H : ((clavierlaw09_awake.f).bind fun t159 => (clavierlaw09_KeysRow.l0 k a0 t159 0)) = some r := h
  clear h
  replace H := Option.bind_eq_some_iff.mp H
  obtain ⟨t159, A20, H⟩ := H
  replace H : (clavierlaw09_KeysRow.l0 k a0 t159 0) = some r := H
  have A2 := Aside0.mk A20
  clear A20
  have H' := Aside0.mk H
  clear H
  go_enter Try.func4, Try.ntmps4
  go_wp2_with (first | ((with_reducible refine gate_callee (f := 9) rfl ?_); refine goesL_ (some 6) rfl rfl Try.func9 (by kernel_rfl) rfl #[] rfl (by (try simp only [List.map_toArray, List.map_cons, List.map_nil]); first | done | rfl | (simp only [List.length_drop, List.length_take]; rfl)) ?_; (with_reducible refine (clavierlaw09_awake.calls  t159 _ A2.out).mono ?_); rintro e w3 ⟨rfl, hb⟩; refine ⟨_, rfl, ?_⟩; have n0_ := Aside0.mk (below_step (by repeat (first | (with_reducible first | exact HB.out | apply below_alloc | apply pw_below_drewN | apply below_drew1) | exact HB.out)) hb); clear HB; have HB := n0_; clear n0_; (try clear hb); (try clear hb2); (try clear hk); (try clear hi)))
  go_loopg [4] k (fun kq v4 w' => ∃ (x4_1 : Int), v4 = .int .i64 x4_1 ∧ Aside0 (clavierlaw09_KeysRow.l0 kq a0 t159 x4_1 = some r) ∧ Aside0 (kq ≤ k) ∧ Aside0 (Below w.heap.size w w'))
  case atStart => exact ⟨(0), (by first | rfl | (simp; done) | (simp [*]; done)), H', ⟨Nat.le_refl _⟩, ⟨by repeat (first | (with_reducible first | exact HB.out | apply below_alloc | apply pw_below_drewN | apply below_drew1) | exact HB.out)⟩⟩
  case round =>
    clear H'
    try clear p2
    obtain ⟨x4_1, rfl, HA, HK1, HB⟩ := hrel
    cases gk with
    | zero => exact absurd HA.out (by simp [clavierlaw09_KeysRow.l0])
    | succ k1 =>
      have H := HA.out
      clear HA
      simp only [clavierlaw09_KeysRow.l0] at H
      by_cases c4 : x4_1 < 120
      · rw [if_pos c4] at H
        have c4b0 : decide (x4_1 < 120) = true := decide_eq_true c4
        clear c4
        replace H := Option.bind_eq_some_iff.mp H
        obtain ⟨⟨t175, t176, t177, t178, t179⟩, A50, H⟩ := H
        replace H : ((clavierref09_Look.f k1 (wrap64 ((wrap64 (57340 + (wrap64 (a0)))) + x4_1))).bind fun bt180 => ((clavierlaw09_made.f bt180.1 bt180.2.1 bt180.2.2.1 bt180.2.2.2.1 bt180.2.2.2.2).bind fun bt185 => (if (!(t175 == bt185.1) || (!(t176 == bt185.2.1) || (!(t177 == bt185.2.2.1) || (!(t178 == bt185.2.2.2.1) || (!(t179 == bt185.2.2.2.2)))))) = true then (none) else (clavierlaw09_KeysRow.l0 k1 a0 t159 (wrap64 (x4_1 + 1)))))) = some r := H
        have A5 := Aside0.mk A50
        clear A50
        replace H := Option.bind_eq_some_iff.mp H
        obtain ⟨⟨t180, t181, t182, t183, t184⟩, A60, H⟩ := H
        replace H : ((clavierlaw09_made.f t180 t181 t182 t183 t184).bind fun bt185 => (if (!(t175 == bt185.1) || (!(t176 == bt185.2.1) || (!(t177 == bt185.2.2.1) || (!(t178 == bt185.2.2.2.1) || (!(t179 == bt185.2.2.2.2)))))) = true then (none) else (clavierlaw09_KeysRow.l0 k1 a0 t159 (wrap64 (x4_1 + 1))))) = some r := H
        have A6 := Aside0.mk A60
        clear A60
        replace H := Option.bind_eq_some_iff.mp H
        obtain ⟨⟨t185, t186, t187, t188, t189⟩, A70, H⟩ := H
        replace H : (if (!(t175 == t185) || (!(t176 == t186) || (!(t177 == t187) || (!(t178 == t188) || (!(t179 == t189)))))) = true then (none) else (clavierlaw09_KeysRow.l0 k1 a0 t159 (wrap64 (x4_1 + 1)))) = some r := H
        have A7 := Aside0.mk A70
        clear A70
        by_cases c8 : (!(t175 == t185) || (!(t176 == t186) || (!(t177 == t187) || (!(t178 == t188) || (!(t179 == t189)))))) = true
        · rw [if_pos c8] at H
          exact absurd H (by simp)
        · rw [if_neg c8] at H
          have c8b0 : (!(t175 == t185) || (!(t176 == t186) || (!(t177 == t187) || (!(t178 == t188) || (!(t179 == t189)))))) = false := by simpa using c8
          clear c8
          have H' := Aside0.mk H
          clear H
          go_wp2_with (first | ((with_reducible refine gate_callee (f := 10) rfl ?_); refine goesL_ (some 17) rfl rfl Try.func10 (by kernel_rfl) rfl #[.int .i64 (wrap64 ((wrap64 (57340 + (wrap64 (a0)))) + x4_1))] rfl (by (try simp only [List.map_toArray, List.map_cons, List.map_nil]); first | done | rfl | (simp only [List.length_drop, List.length_take]; rfl)) ?_; (with_reducible refine (keys_Look.calls (wrap64 ((wrap64 (57340 + (wrap64 (a0)))) + x4_1)) t175 t176 t177 t178 t179 _ A5.out).mono ?_); rintro e w9 ⟨rfl, hb⟩; refine ⟨_, rfl, ?_⟩; have n0_ := Aside0.mk (below_step (by repeat (first | (with_reducible first | exact HB.out | apply below_alloc | apply pw_below_drewN | apply below_drew1) | exact HB.out)) hb); clear HB; have HB := n0_; clear n0_; (try clear hb); (try clear hb2); (try clear hk); (try clear hi)) | ((with_reducible refine gate_callee (f := 12) rfl ?_); refine goesL_ (some 19) rfl rfl Try.func12 (by kernel_rfl) rfl #[.int .i64 (wrap64 ((wrap64 (57340 + (wrap64 (a0)))) + x4_1))] rfl (by (try simp only [List.map_toArray, List.map_cons, List.map_nil]); first | done | rfl | (simp only [List.length_drop, List.length_take]; rfl)) ?_; (with_reducible refine (clavierref09_Look.calls k1 (wrap64 ((wrap64 (57340 + (wrap64 (a0)))) + x4_1)) t180 t181 t182 t183 t184 _ A6.out).mono ?_); rintro e w10 ⟨rfl, hb⟩; refine ⟨_, rfl, ?_⟩; have n0_ := Aside0.mk (below_step (by repeat (first | (with_reducible first | exact HB.out | apply below_alloc | apply pw_below_drewN | apply below_drew1) | exact HB.out)) hb); clear HB; have HB := n0_; clear n0_; (try clear hb); (try clear hb2); (try clear hk); (try clear hi)) | ((with_reducible refine gate_callee (f := 11) rfl ?_); refine goesL_ (some 20) rfl rfl Try.func11 (by kernel_rfl) rfl #[.agg #[.int .i64 t180, .int .u8 t181, .int .i64 t182, .int .i64 t183, .bool t184]] rfl (by (try simp only [List.map_toArray, List.map_cons, List.map_nil]); first | done | rfl | (simp only [List.length_drop, List.length_take]; rfl)) ?_; (with_reducible refine (clavierlaw09_made.calls t180 t181 t182 t183 t184 t185 t186 t187 t188 t189 _ A7.out).mono ?_); rintro e w11 ⟨rfl, hb⟩; refine ⟨_, rfl, ?_⟩; have n0_ := Aside0.mk (below_step (by repeat (first | (with_reducible first | exact HB.out | apply below_alloc | apply pw_below_drewN | apply below_drew1) | exact HB.out)) hb); clear HB; have HB := n0_; clear n0_; (try clear hb); (try clear hb2); (try clear hk); (try clear hi)))
          go_roundg k1
          case measure => have := HK1.out; omega
          case rel => exact ⟨(wrap64 (x4_1 + 1)), (by first | rfl | (simp; done) | (simp [*]; done)), H', ⟨by have := HK1.out; omega⟩, ⟨by repeat (first | (with_reducible first | exact HB.out | apply below_alloc | apply pw_below_drewN | apply below_drew1) | exact HB.out)⟩⟩
      · rw [if_neg c4] at H
        have c4b0 : decide (x4_1 < 120) = false := decide_eq_false c4
        clear c4
        by_cases c12 : t159 = true
        · subst c12
          have H1 : ((keys_Look.f 57343).bind fun bt160 => (if bt160.1 = 0 then ((keys_Look.f 63744).bind fun bt165 => (if bt165.1 = 1 then ((keys_Look.f 63743).bind fun bt170 => (some (bt170.1 == 0))) else (none))) else (none))) = some r := by rw [if_pos rfl] at H; exact H
          clear H
          have H := H1
          clear H1
          replace H := Option.bind_eq_some_iff.mp H
          obtain ⟨⟨t160, t161, t162, t163, t164⟩, A130, H⟩ := H
          replace H : (if t160 = 0 then ((keys_Look.f 63744).bind fun bt165 => (if bt165.1 = 1 then ((keys_Look.f 63743).bind fun bt170 => (some (bt170.1 == 0))) else (none))) else (none)) = some r := H
          have A13 := Aside0.mk A130
          clear A130
          by_cases c14 : t160 = 0
          · rw [if_pos c14] at H
            have c14b0 : (t160 == 0) = true := beq_iff_eq.mpr c14
            have c14b1 : (t160 != 0) = false := bne_eq_false_iff_eq.mpr c14
            clear c14
            replace H := Option.bind_eq_some_iff.mp H
            obtain ⟨⟨t165, t166, t167, t168, t169⟩, A150, H⟩ := H
            replace H : (if t165 = 1 then ((keys_Look.f 63743).bind fun bt170 => (some (bt170.1 == 0))) else (none)) = some r := H
            have A15 := Aside0.mk A150
            clear A150
            by_cases c16 : t165 = 1
            · rw [if_pos c16] at H
              have c16b0 : (t165 == 1) = true := beq_iff_eq.mpr c16
              have c16b1 : (t165 != 1) = false := bne_eq_false_iff_eq.mpr c16
              clear c16
              replace H := Option.bind_eq_some_iff.mp H
              obtain ⟨⟨t170, t171, t172, t173, t174⟩, A170, H⟩ := H
              replace H : (some (t170 == 0)) = some r := H
              have A17 := Aside0.mk A170
              clear A170
              obtain rfl := Option.some.inj H
              go_wp2_with (first | (go_at_call 10; (with_reducible refine (keys_Look.calls 57343 t160 t161 t162 t163 t164 _ A13.out).mono ?_); rintro e w18 ⟨rfl, hb⟩; have n0_ := Aside0.mk (below_step (by repeat (first | (with_reducible first | exact HB.out | apply below_alloc | apply pw_below_drewN | apply below_drew1) | exact HB.out)) hb); clear HB; have HB := n0_; clear n0_; (try clear hb); (try clear hb2); (try clear hk); (try clear hi)) | (go_at_call 10; (with_reducible refine (keys_Look.calls 63744 t165 t166 t167 t168 t169 _ A15.out).mono ?_); rintro e w19 ⟨rfl, hb⟩; have n0_ := Aside0.mk (below_step (by repeat (first | (with_reducible first | exact HB.out | apply below_alloc | apply pw_below_drewN | apply below_drew1) | exact HB.out)) hb); clear HB; have HB := n0_; clear n0_; (try clear hb); (try clear hb2); (try clear hk); (try clear hi)) | (go_at_call 10; (with_reducible refine (keys_Look.calls 63743 t170 t171 t172 t173 t174 _ A17.out).mono ?_); rintro e w20 ⟨rfl, hb⟩; have n0_ := Aside0.mk (below_step (by repeat (first | (with_reducible first | exact HB.out | apply below_alloc | apply pw_below_drewN | apply below_drew1) | exact HB.out)) hb); clear HB; have HB := n0_; clear n0_; (try clear hb); (try clear hb2); (try clear hk); (try clear hi)))
              go_ret
              exact ⟨by first | rfl | (simp [errW_none, errW_some] <;> rfl) | (simp [*, errW_none, errW_some] <;> rfl), by repeat (first | (with_reducible first | exact HB.out | apply below_alloc | apply pw_below_drewN | apply below_drew1) | exact HB.out)⟩
            · rw [if_neg c16] at H
              exact absurd H (by simp)
          · rw [if_neg c14] at H
            exact absurd H (by simp)
        · replace c12 := Bool.eq_false_iff.mpr c12
          subst c12
          have H1 : (none) = some r := by rw [if_neg (show ¬ (false = true) by decide)] at H; exact H
          clear H
          have H := H1
          clear H1
          exact absurd H (by simp)

/-! ### clavierref09_Find: function 14 -/
def clavierref09_Find.l0 : Nat → Int → Int → Int → Option (Int × Bool)
  | 0, _, _, _ => none
  | k + 1, x0, x1, x6 => if x6 < 57399 then ((clavierref09_Look.f k x6).bind fun bt190 => (if bt190.1 = 3 then (if bt190.2.1 = x0 then (some (x6, true)) else (if bt190.1 = 4 then (none) else (clavierref09_Find.l0 k x0 x1 (wrap64 (x6 + 1))))) else (if bt190.1 = 4 then (if x0 = 126 then (if bt190.2.2.1 = x1 then (some (x6, true)) else (clavierref09_Find.l0 k x0 x1 (wrap64 (x6 + 1)))) else (clavierref09_Find.l0 k x0 x1 (wrap64 (x6 + 1)))) else (clavierref09_Find.l0 k x0 x1 (wrap64 (x6 + 1)))))) else (some (0, false))
def clavierref09_Find.f (k : Nat) (a0 : Int) (a1 : Int) : Option (Int × Bool) := clavierref09_Find.l0 k a0 a1 57344
theorem clavierref09_Find.mono_l : ∀ k, (∀ y0 y1 y2, LeO (clavierref09_Find.l0 k y0 y1 y2) (clavierref09_Find.l0 (k + 1) y0 y1 y2))
  | 0 => fun _ _ _ r h => by simp [clavierref09_Find.l0] at h
  | k + 1 => by
    have ih0 := clavierref09_Find.mono_l k
    · intro y0 y1 y2
      unfold clavierref09_Find.l0
      repeat' first
      | (with_reducible exact ih0 _ _ _)
      | (with_reducible exact clavierref09_Look.mono _ _)
      | (with_reducible exact LeO.refl _)
      | (with_reducible exact LeO.none _)
      | (with_reducible refine LeO.ite ?_ ?_)
      | (with_reducible refine LeO.bind ?_ (fun _ => ?_))
      | exact ih0 _ _ _
      | exact clavierref09_Look.mono _ _
      | exact LeO.none _
      | refine LeO.ite ?_ ?_
      | refine LeO.bind ?_ (fun _ => ?_)
theorem clavierref09_Find.mono : ∀ a0 a1 k, LeO (clavierref09_Find.f k a0 a1) (clavierref09_Find.f (k + 1) a0 a1) := by
  intro a0 a1 k
  have ih0 := clavierref09_Find.mono_l k
  unfold clavierref09_Find.f
  repeat' first
      | (with_reducible exact ih0 _ _ _)
      | (with_reducible exact clavierref09_Look.mono _ _)
      | (with_reducible exact LeO.refl _)
      | (with_reducible exact LeO.none _)
      | (with_reducible refine LeO.ite ?_ ?_)
      | (with_reducible refine LeO.bind ?_ (fun _ => ?_))
      | exact ih0 _ _ _
      | exact clavierref09_Look.mono _ _
      | exact LeO.none _
      | refine LeO.ite ?_ ?_
      | refine LeO.bind ?_ (fun _ => ?_)
set_option maxHeartbeats 8000000 in
set_option maxRecDepth 100000 in
theorem clavierref09_Find.calls (k : Nat) (a0 : Int) (a1 : Int) (r1 : Int) (r2 : Bool) (w : World) (h : clavierref09_Find.f k a0 a1 = some (r1, r2)) :
    Calls Try.prog 14 #[.int .u8 a0, .int .i64 a1] w fun e w' => e = .returned (.tuple #[.int .i64 r1, .bool r2]) ∧ Below w.heap.size w w' := by
  have hu27 := Try.underlying27
  have HB := Aside0.mk (Below.refl w.heap.size w)
  have H : (clavierref09_Find.l0 k a0 a1 57344) = some (r1, r2) := h
  clear h
  have H' := Aside0.mk H
  clear H
  go_enter Try.func14, Try.ntmps14
  go_wp2
  go_loopg [6] k (fun kq v6 w' => ∃ (x6_1 : Int), v6 = .int .i64 x6_1 ∧ Aside0 (clavierref09_Find.l0 kq a0 a1 x6_1 = some (r1, r2)) ∧ Aside0 (kq ≤ k) ∧ Aside0 (Below w.heap.size w w'))
  case atStart => exact ⟨(57344), (by first | rfl | (simp; done) | (simp [*]; done)), H', ⟨Nat.le_refl _⟩, ⟨by repeat (first | (with_reducible first | exact HB.out | apply below_alloc | apply pw_below_drewN | apply below_drew1) | exact HB.out)⟩⟩
  case round =>
    clear H'
    try clear c1
    try clear p2
    obtain ⟨x6_1, rfl, HA, HK1, HB⟩ := hrel
    cases gk with
    | zero => exact absurd HA.out (by simp [clavierref09_Find.l0])
    | succ k1 =>
      have H := HA.out
      clear HA
      simp only [clavierref09_Find.l0] at H
      by_cases c3 : x6_1 < 57399
      · rw [if_pos c3] at H
        have c3b0 : decide (x6_1 < 57399) = true := decide_eq_true c3
        clear c3
        replace H := Option.bind_eq_some_iff.mp H
        obtain ⟨⟨t190, t191, t192, t193, t194⟩, A40, H⟩ := H
        replace H : (if t190 = 3 then (if t191 = a0 then (some (x6_1, true)) else (if t190 = 4 then (none) else (clavierref09_Find.l0 k1 a0 a1 (wrap64 (x6_1 + 1))))) else (if t190 = 4 then (if a0 = 126 then (if t192 = a1 then (some (x6_1, true)) else (clavierref09_Find.l0 k1 a0 a1 (wrap64 (x6_1 + 1)))) else (clavierref09_Find.l0 k1 a0 a1 (wrap64 (x6_1 + 1)))) else (clavierref09_Find.l0 k1 a0 a1 (wrap64 (x6_1 + 1))))) = some (r1, r2) := H
        have A4 := Aside0.mk A40
        clear A40
        by_cases c5 : t190 = 3
        · rw [if_pos c5] at H
          have c5b0 : (t190 == 3) = true := beq_iff_eq.mpr c5
          have c5b1 : (t190 != 3) = false := bne_eq_false_iff_eq.mpr c5
          clear c5
          by_cases c6 : t191 = a0
          · rw [if_pos c6] at H
            have c6b0 : (t191 == a0) = true := beq_iff_eq.mpr c6
            have c6b1 : (t191 != a0) = false := bne_eq_false_iff_eq.mpr c6
            clear c6
            simp only [Option.some.injEq, Prod.mk.injEq] at H
            obtain ⟨rfl, rfl⟩ := H
            go_wp2_with (first | ((with_reducible refine gate_callee (f := 12) rfl ?_); refine goesL_ (some 13) rfl rfl Try.func12 (by kernel_rfl) rfl #[.int .i64 x6_1] rfl (by (try simp only [List.map_toArray, List.map_cons, List.map_nil]); first | done | rfl | (simp only [List.length_drop, List.length_take]; rfl)) ?_; (with_reducible refine (clavierref09_Look.calls k1 x6_1 t190 t191 t192 t193 t194 _ A4.out).mono ?_); rintro e w7 ⟨rfl, hb⟩; refine ⟨_, rfl, ?_⟩; have n0_ := Aside0.mk (below_step (by repeat (first | (with_reducible first | exact HB.out | apply below_alloc | apply pw_below_drewN | apply below_drew1) | exact HB.out)) hb); clear HB; have HB := n0_; clear n0_; (try clear hb); (try clear hb2); (try clear hk); (try clear hi)) | ((with_reducible refine gate_dst (N := 7) rfl ?_); refine box_event ?hg (N := 7) ?hd (cs := #[.int .i64 0, .int .u8 0, .int .i64 0, .int .i64 0, .bool false]) (t := 27) ?hr ?_; (case hd => rfl); (case hg => rfl); (case hr => first | (go_simp; done) | (go_simp; rfl)); intro gb195 hg w8 hbox hb; have n0_ := Aside0.mk (below_step (by repeat (first | (with_reducible first | exact HB.out | apply below_alloc | apply pw_below_drewN | apply below_drew1) | exact HB.out)) hb); have n1_ := Aside0.mk (hbox); have n2_ := Aside0.mk ((by rw [hg]; exact (below_size (by repeat (first | (with_reducible first | exact HB.out | apply below_alloc | apply pw_below_drewN | apply below_drew1) | exact HB.out))) : w.heap.size ≤ gb195)); have n3_ := Aside0.mk ((by rw [hg]; exact (below_size (by repeat (first | (with_reducible first | exact HB.out | apply below_alloc | apply pw_below_drewN | apply below_drew1) | exact HB.out))) : w.heap.size ≤ gb195)); clear HB; have HB := n0_; have BK195 := n1_; have GW195 := n2_; have GE195 := n3_; clear n0_ n1_ n2_ n3_; clear hb hbox hg; have hcz9_0 : w8.cell? ⟨gb195, 0, none⟩ = some (.int .i64 0) := (blk_cell BK195.out 0).trans rfl; have hcz9_1 : w8.cell? ⟨gb195, 1, none⟩ = some (.int .u8 0) := (blk_cell BK195.out 1).trans rfl; have hcz9_2 : w8.cell? ⟨gb195, 2, none⟩ = some (.int .i64 0) := (blk_cell BK195.out 2).trans rfl; have hcz9_3 : w8.cell? ⟨gb195, 3, none⟩ = some (.int .i64 0) := (blk_cell BK195.out 3).trans rfl; have hcz9_4 : w8.cell? ⟨gb195, 4, none⟩ = some (.bool false) := (blk_cell BK195.out 4).trans rfl; have hfz9_0 := blk_frozen BK195.out 0; have hfz9_1 := blk_frozen BK195.out 1; have hfz9_2 := blk_frozen BK195.out 2; have hfz9_3 := blk_frozen BK195.out 3; have hfz9_4 := blk_frozen BK195.out 4))
            go_ret2
            exact ⟨by first | rfl | (simp [errW_none, errW_some] <;> rfl) | (simp [*, errW_none, errW_some] <;> rfl), by repeat (first | (with_reducible first | exact HB.out | apply below_alloc | apply pw_below_drewN | apply below_drew1 | refine below_set ?_ GE195.out) | exact HB.out)⟩
          · rw [if_neg c6] at H
            have c6b0 : (t191 == a0) = false := beq_eq_false_iff_ne.mpr c6
            have c6b1 : (t191 != a0) = true := bne_iff_ne.mpr c6
            by_cases c10 : t190 = 4
            · rw [if_pos c10] at H
              exact absurd H (by simp)
            · rw [if_neg c10] at H
              have c10b0 : (t190 == 4) = false := beq_eq_false_iff_ne.mpr c10
              have c10b1 : (t190 != 4) = true := bne_iff_ne.mpr c10
              have H' := Aside0.mk H
              clear H
              go_wp2_with (first | ((with_reducible refine gate_callee (f := 12) rfl ?_); refine goesL_ (some 13) rfl rfl Try.func12 (by kernel_rfl) rfl #[.int .i64 x6_1] rfl (by (try simp only [List.map_toArray, List.map_cons, List.map_nil]); first | done | rfl | (simp only [List.length_drop, List.length_take]; rfl)) ?_; (with_reducible refine (clavierref09_Look.calls k1 x6_1 t190 t191 t192 t193 t194 _ A4.out).mono ?_); rintro e w11 ⟨rfl, hb⟩; refine ⟨_, rfl, ?_⟩; have n0_ := Aside0.mk (below_step (by repeat (first | (with_reducible first | exact HB.out | apply below_alloc | apply pw_below_drewN | apply below_drew1) | exact HB.out)) hb); clear HB; have HB := n0_; clear n0_; (try clear hb); (try clear hb2); (try clear hk); (try clear hi)) | ((with_reducible refine gate_dst (N := 7) rfl ?_); refine box_event ?hg (N := 7) ?hd (cs := #[.int .i64 0, .int .u8 0, .int .i64 0, .int .i64 0, .bool false]) (t := 27) ?hr ?_; (case hd => rfl); (case hg => rfl); (case hr => first | (go_simp; done) | (go_simp; rfl)); intro gb195 hg w12 hbox hb; have n0_ := Aside0.mk (below_step (by repeat (first | (with_reducible first | exact HB.out | apply below_alloc | apply pw_below_drewN | apply below_drew1) | exact HB.out)) hb); have n1_ := Aside0.mk (hbox); have n2_ := Aside0.mk ((by rw [hg]; exact (below_size (by repeat (first | (with_reducible first | exact HB.out | apply below_alloc | apply pw_below_drewN | apply below_drew1) | exact HB.out))) : w.heap.size ≤ gb195)); have n3_ := Aside0.mk ((by rw [hg]; exact (below_size (by repeat (first | (with_reducible first | exact HB.out | apply below_alloc | apply pw_below_drewN | apply below_drew1) | exact HB.out))) : w.heap.size ≤ gb195)); clear HB; have HB := n0_; have BK195 := n1_; have GW195 := n2_; have GE195 := n3_; clear n0_ n1_ n2_ n3_; clear hb hbox hg; have hcz13_0 : w12.cell? ⟨gb195, 0, none⟩ = some (.int .i64 0) := (blk_cell BK195.out 0).trans rfl; have hcz13_1 : w12.cell? ⟨gb195, 1, none⟩ = some (.int .u8 0) := (blk_cell BK195.out 1).trans rfl; have hcz13_2 : w12.cell? ⟨gb195, 2, none⟩ = some (.int .i64 0) := (blk_cell BK195.out 2).trans rfl; have hcz13_3 : w12.cell? ⟨gb195, 3, none⟩ = some (.int .i64 0) := (blk_cell BK195.out 3).trans rfl; have hcz13_4 : w12.cell? ⟨gb195, 4, none⟩ = some (.bool false) := (blk_cell BK195.out 4).trans rfl; have hfz13_0 := blk_frozen BK195.out 0; have hfz13_1 := blk_frozen BK195.out 1; have hfz13_2 := blk_frozen BK195.out 2; have hfz13_3 := blk_frozen BK195.out 3; have hfz13_4 := blk_frozen BK195.out 4))
              go_roundg k1
              case measure => have := HK1.out; omega
              case rel => exact ⟨(wrap64 (x6_1 + 1)), (by first | rfl | (simp; done) | (simp [*]; done)), H', ⟨by have := HK1.out; omega⟩, ⟨by repeat (first | (with_reducible first | exact HB.out | apply below_alloc | apply pw_below_drewN | apply below_drew1 | refine below_set ?_ GE195.out) | exact HB.out)⟩⟩
        · rw [if_neg c5] at H
          have c5b0 : (t190 == 3) = false := beq_eq_false_iff_ne.mpr c5
          have c5b1 : (t190 != 3) = true := bne_iff_ne.mpr c5
          by_cases c14 : t190 = 4
          · rw [if_pos c14] at H
            have c14b0 : (t190 == 4) = true := beq_iff_eq.mpr c14
            have c14b1 : (t190 != 4) = false := bne_eq_false_iff_eq.mpr c14
            clear c14
            by_cases c15 : a0 = 126
            · rw [if_pos c15] at H
              have c15b0 : (a0 == 126) = true := beq_iff_eq.mpr c15
              have c15b1 : (a0 != 126) = false := bne_eq_false_iff_eq.mpr c15
              clear c15
              by_cases c16 : t192 = a1
              · rw [if_pos c16] at H
                have c16b0 : (t192 == a1) = true := beq_iff_eq.mpr c16
                have c16b1 : (t192 != a1) = false := bne_eq_false_iff_eq.mpr c16
                clear c16
                simp only [Option.some.injEq, Prod.mk.injEq] at H
                obtain ⟨rfl, rfl⟩ := H
                go_wp2_with (first | ((with_reducible refine gate_callee (f := 12) rfl ?_); refine goesL_ (some 13) rfl rfl Try.func12 (by kernel_rfl) rfl #[.int .i64 x6_1] rfl (by (try simp only [List.map_toArray, List.map_cons, List.map_nil]); first | done | rfl | (simp only [List.length_drop, List.length_take]; rfl)) ?_; (with_reducible refine (clavierref09_Look.calls k1 x6_1 t190 t191 t192 t193 t194 _ A4.out).mono ?_); rintro e w17 ⟨rfl, hb⟩; refine ⟨_, rfl, ?_⟩; have n0_ := Aside0.mk (below_step (by repeat (first | (with_reducible first | exact HB.out | apply below_alloc | apply pw_below_drewN | apply below_drew1) | exact HB.out)) hb); clear HB; have HB := n0_; clear n0_; (try clear hb); (try clear hb2); (try clear hk); (try clear hi)) | ((with_reducible refine gate_dst (N := 7) rfl ?_); refine box_event ?hg (N := 7) ?hd (cs := #[.int .i64 0, .int .u8 0, .int .i64 0, .int .i64 0, .bool false]) (t := 27) ?hr ?_; (case hd => rfl); (case hg => rfl); (case hr => first | (go_simp; done) | (go_simp; rfl)); intro gb195 hg w18 hbox hb; have n0_ := Aside0.mk (below_step (by repeat (first | (with_reducible first | exact HB.out | apply below_alloc | apply pw_below_drewN | apply below_drew1) | exact HB.out)) hb); have n1_ := Aside0.mk (hbox); have n2_ := Aside0.mk ((by rw [hg]; exact (below_size (by repeat (first | (with_reducible first | exact HB.out | apply below_alloc | apply pw_below_drewN | apply below_drew1) | exact HB.out))) : w.heap.size ≤ gb195)); have n3_ := Aside0.mk ((by rw [hg]; exact (below_size (by repeat (first | (with_reducible first | exact HB.out | apply below_alloc | apply pw_below_drewN | apply below_drew1) | exact HB.out))) : w.heap.size ≤ gb195)); clear HB; have HB := n0_; have BK195 := n1_; have GW195 := n2_; have GE195 := n3_; clear n0_ n1_ n2_ n3_; clear hb hbox hg; have hcz19_0 : w18.cell? ⟨gb195, 0, none⟩ = some (.int .i64 0) := (blk_cell BK195.out 0).trans rfl; have hcz19_1 : w18.cell? ⟨gb195, 1, none⟩ = some (.int .u8 0) := (blk_cell BK195.out 1).trans rfl; have hcz19_2 : w18.cell? ⟨gb195, 2, none⟩ = some (.int .i64 0) := (blk_cell BK195.out 2).trans rfl; have hcz19_3 : w18.cell? ⟨gb195, 3, none⟩ = some (.int .i64 0) := (blk_cell BK195.out 3).trans rfl; have hcz19_4 : w18.cell? ⟨gb195, 4, none⟩ = some (.bool false) := (blk_cell BK195.out 4).trans rfl; have hfz19_0 := blk_frozen BK195.out 0; have hfz19_1 := blk_frozen BK195.out 1; have hfz19_2 := blk_frozen BK195.out 2; have hfz19_3 := blk_frozen BK195.out 3; have hfz19_4 := blk_frozen BK195.out 4))
                go_ret2
                exact ⟨by first | rfl | (simp [errW_none, errW_some] <;> rfl) | (simp [*, errW_none, errW_some] <;> rfl), by repeat (first | (with_reducible first | exact HB.out | apply below_alloc | apply pw_below_drewN | apply below_drew1 | refine below_set ?_ GE195.out) | exact HB.out)⟩
              · rw [if_neg c16] at H
                have c16b0 : (t192 == a1) = false := beq_eq_false_iff_ne.mpr c16
                have c16b1 : (t192 != a1) = true := bne_iff_ne.mpr c16
                have H' := Aside0.mk H
                clear H
                go_wp2_with (first | ((with_reducible refine gate_callee (f := 12) rfl ?_); refine goesL_ (some 13) rfl rfl Try.func12 (by kernel_rfl) rfl #[.int .i64 x6_1] rfl (by (try simp only [List.map_toArray, List.map_cons, List.map_nil]); first | done | rfl | (simp only [List.length_drop, List.length_take]; rfl)) ?_; (with_reducible refine (clavierref09_Look.calls k1 x6_1 t190 t191 t192 t193 t194 _ A4.out).mono ?_); rintro e w20 ⟨rfl, hb⟩; refine ⟨_, rfl, ?_⟩; have n0_ := Aside0.mk (below_step (by repeat (first | (with_reducible first | exact HB.out | apply below_alloc | apply pw_below_drewN | apply below_drew1) | exact HB.out)) hb); clear HB; have HB := n0_; clear n0_; (try clear hb); (try clear hb2); (try clear hk); (try clear hi)) | ((with_reducible refine gate_dst (N := 7) rfl ?_); refine box_event ?hg (N := 7) ?hd (cs := #[.int .i64 0, .int .u8 0, .int .i64 0, .int .i64 0, .bool false]) (t := 27) ?hr ?_; (case hd => rfl); (case hg => rfl); (case hr => first | (go_simp; done) | (go_simp; rfl)); intro gb195 hg w21 hbox hb; have n0_ := Aside0.mk (below_step (by repeat (first | (with_reducible first | exact HB.out | apply below_alloc | apply pw_below_drewN | apply below_drew1) | exact HB.out)) hb); have n1_ := Aside0.mk (hbox); have n2_ := Aside0.mk ((by rw [hg]; exact (below_size (by repeat (first | (with_reducible first | exact HB.out | apply below_alloc | apply pw_below_drewN | apply below_drew1) | exact HB.out))) : w.heap.size ≤ gb195)); have n3_ := Aside0.mk ((by rw [hg]; exact (below_size (by repeat (first | (with_reducible first | exact HB.out | apply below_alloc | apply pw_below_drewN | apply below_drew1) | exact HB.out))) : w.heap.size ≤ gb195)); clear HB; have HB := n0_; have BK195 := n1_; have GW195 := n2_; have GE195 := n3_; clear n0_ n1_ n2_ n3_; clear hb hbox hg; have hcz22_0 : w21.cell? ⟨gb195, 0, none⟩ = some (.int .i64 0) := (blk_cell BK195.out 0).trans rfl; have hcz22_1 : w21.cell? ⟨gb195, 1, none⟩ = some (.int .u8 0) := (blk_cell BK195.out 1).trans rfl; have hcz22_2 : w21.cell? ⟨gb195, 2, none⟩ = some (.int .i64 0) := (blk_cell BK195.out 2).trans rfl; have hcz22_3 : w21.cell? ⟨gb195, 3, none⟩ = some (.int .i64 0) := (blk_cell BK195.out 3).trans rfl; have hcz22_4 : w21.cell? ⟨gb195, 4, none⟩ = some (.bool false) := (blk_cell BK195.out 4).trans rfl; have hfz22_0 := blk_frozen BK195.out 0; have hfz22_1 := blk_frozen BK195.out 1; have hfz22_2 := blk_frozen BK195.out 2; have hfz22_3 := blk_frozen BK195.out 3; have hfz22_4 := blk_frozen BK195.out 4))
                go_roundg k1
                case measure => have := HK1.out; omega
                case rel => exact ⟨(wrap64 (x6_1 + 1)), (by first | rfl | (simp; done) | (simp [*]; done)), H', ⟨by have := HK1.out; omega⟩, ⟨by repeat (first | (with_reducible first | exact HB.out | apply below_alloc | apply pw_below_drewN | apply below_drew1 | refine below_set ?_ GE195.out) | exact HB.out)⟩⟩
            · rw [if_neg c15] at H
              have c15b0 : (a0 == 126) = false := beq_eq_false_iff_ne.mpr c15
              have c15b1 : (a0 != 126) = true := bne_iff_ne.mpr c15
              have H' := Aside0.mk H
              clear H
              go_wp2_with (first | ((with_reducible refine gate_callee (f := 12) rfl ?_); refine goesL_ (some 13) rfl rfl Try.func12 (by kernel_rfl) rfl #[.int .i64 x6_1] rfl (by (try simp only [List.map_toArray, List.map_cons, List.map_nil]); first | done | rfl | (simp only [List.length_drop, List.length_take]; rfl)) ?_; (with_reducible refine (clavierref09_Look.calls k1 x6_1 t190 t191 t192 t193 t194 _ A4.out).mono ?_); rintro e w23 ⟨rfl, hb⟩; refine ⟨_, rfl, ?_⟩; have n0_ := Aside0.mk (below_step (by repeat (first | (with_reducible first | exact HB.out | apply below_alloc | apply pw_below_drewN | apply below_drew1) | exact HB.out)) hb); clear HB; have HB := n0_; clear n0_; (try clear hb); (try clear hb2); (try clear hk); (try clear hi)) | ((with_reducible refine gate_dst (N := 7) rfl ?_); refine box_event ?hg (N := 7) ?hd (cs := #[.int .i64 0, .int .u8 0, .int .i64 0, .int .i64 0, .bool false]) (t := 27) ?hr ?_; (case hd => rfl); (case hg => rfl); (case hr => first | (go_simp; done) | (go_simp; rfl)); intro gb195 hg w24 hbox hb; have n0_ := Aside0.mk (below_step (by repeat (first | (with_reducible first | exact HB.out | apply below_alloc | apply pw_below_drewN | apply below_drew1) | exact HB.out)) hb); have n1_ := Aside0.mk (hbox); have n2_ := Aside0.mk ((by rw [hg]; exact (below_size (by repeat (first | (with_reducible first | exact HB.out | apply below_alloc | apply pw_below_drewN | apply below_drew1) | exact HB.out))) : w.heap.size ≤ gb195)); have n3_ := Aside0.mk ((by rw [hg]; exact (below_size (by repeat (first | (with_reducible first | exact HB.out | apply below_alloc | apply pw_below_drewN | apply below_drew1) | exact HB.out))) : w.heap.size ≤ gb195)); clear HB; have HB := n0_; have BK195 := n1_; have GW195 := n2_; have GE195 := n3_; clear n0_ n1_ n2_ n3_; clear hb hbox hg; have hcz25_0 : w24.cell? ⟨gb195, 0, none⟩ = some (.int .i64 0) := (blk_cell BK195.out 0).trans rfl; have hcz25_1 : w24.cell? ⟨gb195, 1, none⟩ = some (.int .u8 0) := (blk_cell BK195.out 1).trans rfl; have hcz25_2 : w24.cell? ⟨gb195, 2, none⟩ = some (.int .i64 0) := (blk_cell BK195.out 2).trans rfl; have hcz25_3 : w24.cell? ⟨gb195, 3, none⟩ = some (.int .i64 0) := (blk_cell BK195.out 3).trans rfl; have hcz25_4 : w24.cell? ⟨gb195, 4, none⟩ = some (.bool false) := (blk_cell BK195.out 4).trans rfl; have hfz25_0 := blk_frozen BK195.out 0; have hfz25_1 := blk_frozen BK195.out 1; have hfz25_2 := blk_frozen BK195.out 2; have hfz25_3 := blk_frozen BK195.out 3; have hfz25_4 := blk_frozen BK195.out 4))
              go_roundg k1
              case measure => have := HK1.out; omega
              case rel => exact ⟨(wrap64 (x6_1 + 1)), (by first | rfl | (simp; done) | (simp [*]; done)), H', ⟨by have := HK1.out; omega⟩, ⟨by repeat (first | (with_reducible first | exact HB.out | apply below_alloc | apply pw_below_drewN | apply below_drew1 | refine below_set ?_ GE195.out) | exact HB.out)⟩⟩
          · rw [if_neg c14] at H
            have c14b0 : (t190 == 4) = false := beq_eq_false_iff_ne.mpr c14
            have c14b1 : (t190 != 4) = true := bne_iff_ne.mpr c14
            have H' := Aside0.mk H
            clear H
            go_wp2_with (first | ((with_reducible refine gate_callee (f := 12) rfl ?_); refine goesL_ (some 13) rfl rfl Try.func12 (by kernel_rfl) rfl #[.int .i64 x6_1] rfl (by (try simp only [List.map_toArray, List.map_cons, List.map_nil]); first | done | rfl | (simp only [List.length_drop, List.length_take]; rfl)) ?_; (with_reducible refine (clavierref09_Look.calls k1 x6_1 t190 t191 t192 t193 t194 _ A4.out).mono ?_); rintro e w26 ⟨rfl, hb⟩; refine ⟨_, rfl, ?_⟩; have n0_ := Aside0.mk (below_step (by repeat (first | (with_reducible first | exact HB.out | apply below_alloc | apply pw_below_drewN | apply below_drew1) | exact HB.out)) hb); clear HB; have HB := n0_; clear n0_; (try clear hb); (try clear hb2); (try clear hk); (try clear hi)) | ((with_reducible refine gate_dst (N := 7) rfl ?_); refine box_event ?hg (N := 7) ?hd (cs := #[.int .i64 0, .int .u8 0, .int .i64 0, .int .i64 0, .bool false]) (t := 27) ?hr ?_; (case hd => rfl); (case hg => rfl); (case hr => first | (go_simp; done) | (go_simp; rfl)); intro gb195 hg w27 hbox hb; have n0_ := Aside0.mk (below_step (by repeat (first | (with_reducible first | exact HB.out | apply below_alloc | apply pw_below_drewN | apply below_drew1) | exact HB.out)) hb); have n1_ := Aside0.mk (hbox); have n2_ := Aside0.mk ((by rw [hg]; exact (below_size (by repeat (first | (with_reducible first | exact HB.out | apply below_alloc | apply pw_below_drewN | apply below_drew1) | exact HB.out))) : w.heap.size ≤ gb195)); have n3_ := Aside0.mk ((by rw [hg]; exact (below_size (by repeat (first | (with_reducible first | exact HB.out | apply below_alloc | apply pw_below_drewN | apply below_drew1) | exact HB.out))) : w.heap.size ≤ gb195)); clear HB; have HB := n0_; have BK195 := n1_; have GW195 := n2_; have GE195 := n3_; clear n0_ n1_ n2_ n3_; clear hb hbox hg; have hcz28_0 : w27.cell? ⟨gb195, 0, none⟩ = some (.int .i64 0) := (blk_cell BK195.out 0).trans rfl; have hcz28_1 : w27.cell? ⟨gb195, 1, none⟩ = some (.int .u8 0) := (blk_cell BK195.out 1).trans rfl; have hcz28_2 : w27.cell? ⟨gb195, 2, none⟩ = some (.int .i64 0) := (blk_cell BK195.out 2).trans rfl; have hcz28_3 : w27.cell? ⟨gb195, 3, none⟩ = some (.int .i64 0) := (blk_cell BK195.out 3).trans rfl; have hcz28_4 : w27.cell? ⟨gb195, 4, none⟩ = some (.bool false) := (blk_cell BK195.out 4).trans rfl; have hfz28_0 := blk_frozen BK195.out 0; have hfz28_1 := blk_frozen BK195.out 1; have hfz28_2 := blk_frozen BK195.out 2; have hfz28_3 := blk_frozen BK195.out 3; have hfz28_4 := blk_frozen BK195.out 4))
            go_roundg k1
            case measure => have := HK1.out; omega
            case rel => exact ⟨(wrap64 (x6_1 + 1)), (by first | rfl | (simp; done) | (simp [*]; done)), H', ⟨by have := HK1.out; omega⟩, ⟨by repeat (first | (with_reducible first | exact HB.out | apply below_alloc | apply pw_below_drewN | apply below_drew1 | refine below_set ?_ GE195.out) | exact HB.out)⟩⟩
      · rw [if_neg c3] at H
        have c3b0 : decide (x6_1 < 57399) = false := decide_eq_false c3
        clear c3
        simp only [Option.some.injEq, Prod.mk.injEq] at H
        obtain ⟨rfl, rfl⟩ := H
        go_wp2
        go_ret2
        exact ⟨by first | rfl | (simp [errW_none, errW_some] <;> rfl) | (simp [*, errW_none, errW_some] <;> rfl), by repeat (first | (with_reducible first | exact HB.out | apply below_alloc | apply pw_below_drewN | apply below_drew1) | exact HB.out)⟩

/-! ### clavierlaw09_KeysFind: function 5 -/
def clavierlaw09_KeysFind.f (k : Nat) (a0 : Int) (a1 : Int) : Option (Bool) := (clavierlaw09_awake.f).bind fun t196 => ((keys_Find.f a0 a1).bind fun bt197 => ((clavierref09_Find.f k a0 a1).bind fun bt199 => (if t196 = true then (if bt197.1 = bt199.1 then (some (bt197.2 == bt199.2)) else (none)) else (none))))
theorem clavierlaw09_KeysFind.mono : ∀ a0 a1 k, LeO (clavierlaw09_KeysFind.f k a0 a1) (clavierlaw09_KeysFind.f (k + 1) a0 a1) := by
  intro a0 a1 k
  unfold clavierlaw09_KeysFind.f
  repeat' first
      | (with_reducible exact clavierref09_Find.mono _ _ _)
      | (with_reducible exact LeO.refl _)
      | (with_reducible exact LeO.none _)
      | (with_reducible refine LeO.ite ?_ ?_)
      | (with_reducible refine LeO.bind ?_ (fun _ => ?_))
      | exact clavierref09_Find.mono _ _ _
      | exact LeO.none _
      | refine LeO.ite ?_ ?_
      | refine LeO.bind ?_ (fun _ => ?_)
set_option maxHeartbeats 8000000 in
set_option maxRecDepth 100000 in
theorem clavierlaw09_KeysFind.calls (k : Nat) (a0 : Int) (a1 : Int) (r : Bool) (w : World) (h : clavierlaw09_KeysFind.f k a0 a1 = some r) :
    Calls Try.prog 5 #[.int .u8 a0, .int .i64 a1] w fun e w' => e = .returned (.bool r) ∧ Below w.heap.size w w' := by
  have HB := Aside0.mk (Below.refl w.heap.size w)
  have H : ((clavierlaw09_awake.f).bind fun t196 => ((keys_Find.f a0 a1).bind fun bt197 => ((clavierref09_Find.f k a0 a1).bind fun bt199 => (if t196 = true then (if bt197.1 = bt199.1 then (some (bt197.2 == bt199.2)) else (none)) else (none))))) = some r := h
  clear h
  replace H := Option.bind_eq_some_iff.mp H
  obtain ⟨t196, A30, H⟩ := H
  replace H : ((keys_Find.f a0 a1).bind fun bt197 => ((clavierref09_Find.f k a0 a1).bind fun bt199 => (if t196 = true then (if bt197.1 = bt199.1 then (some (bt197.2 == bt199.2)) else (none)) else (none)))) = some r := H
  have A3 := Aside0.mk A30
  clear A30
  replace H := Option.bind_eq_some_iff.mp H
  obtain ⟨⟨t197, t198⟩, A40, H⟩ := H
  replace H : ((clavierref09_Find.f k a0 a1).bind fun bt199 => (if t196 = true then (if t197 = bt199.1 then (some (t198 == bt199.2)) else (none)) else (none))) = some r := H
  have A4 := Aside0.mk A40
  clear A40
  replace H := Option.bind_eq_some_iff.mp H
  obtain ⟨⟨t199, t200⟩, A50, H⟩ := H
  replace H : (if t196 = true then (if t197 = t199 then (some (t198 == t200)) else (none)) else (none)) = some r := H
  have A5 := Aside0.mk A50
  clear A50
  by_cases c6 : t196 = true
  · subst c6
    have H1 : (if t197 = t199 then (some (t198 == t200)) else (none)) = some r := by rw [if_pos rfl] at H; exact H
    clear H
    have H := H1
    clear H1
    by_cases c7 : t197 = t199
    · rw [if_pos c7] at H
      have c7b0 : (t197 == t199) = true := beq_iff_eq.mpr c7
      have c7b1 : (t197 != t199) = false := bne_eq_false_iff_eq.mpr c7
      clear c7
      obtain rfl := Option.some.inj H
      go_enter Try.func5, Try.ntmps5
      go_wp2_with (first | ((with_reducible refine gate_callee (f := 9) rfl ?_); refine goesL_ (some 10) rfl rfl Try.func9 (by kernel_rfl) rfl #[] rfl (by (try simp only [List.map_toArray, List.map_cons, List.map_nil]); first | done | rfl | (simp only [List.length_drop, List.length_take]; rfl)) ?_; (with_reducible refine (clavierlaw09_awake.calls  true _ A3.out).mono ?_); rintro e w8 ⟨rfl, hb⟩; refine ⟨_, rfl, ?_⟩; have n0_ := Aside0.mk (below_step (by repeat (first | (with_reducible first | exact HB.out | apply below_alloc | apply pw_below_drewN | apply below_drew1) | exact HB.out)) hb); clear HB; have HB := n0_; clear n0_; (try clear hb); (try clear hb2); (try clear hk); (try clear hi)) | ((with_reducible refine gate_callee (f := 13) rfl ?_); refine goesL_ (some 14) rfl rfl Try.func13 (by kernel_rfl) rfl #[.int .u8 a0, .int .i64 a1] rfl (by (try simp only [List.map_toArray, List.map_cons, List.map_nil]); first | done | rfl | (simp only [List.length_drop, List.length_take]; rfl)) ?_; (with_reducible refine (keys_Find.calls a0 a1 t197 t198 _ A4.out).mono ?_); rintro e w9 ⟨rfl, hb⟩; refine ⟨_, rfl, ?_⟩; have n0_ := Aside0.mk (below_step (by repeat (first | (with_reducible first | exact HB.out | apply below_alloc | apply pw_below_drewN | apply below_drew1) | exact HB.out)) hb); clear HB; have HB := n0_; clear n0_; (try clear hb); (try clear hb2); (try clear hk); (try clear hi)) | ((with_reducible refine gate_callee (f := 14) rfl ?_); refine goesL_ (some 20) rfl rfl Try.func14 (by kernel_rfl) rfl #[.int .u8 a0, .int .i64 a1] rfl (by (try simp only [List.map_toArray, List.map_cons, List.map_nil]); first | done | rfl | (simp only [List.length_drop, List.length_take]; rfl)) ?_; (with_reducible refine (clavierref09_Find.calls k a0 a1 t199 t200 _ A5.out).mono ?_); rintro e w10 ⟨rfl, hb⟩; refine ⟨_, rfl, ?_⟩; have n0_ := Aside0.mk (below_step (by repeat (first | (with_reducible first | exact HB.out | apply below_alloc | apply pw_below_drewN | apply below_drew1) | exact HB.out)) hb); clear HB; have HB := n0_; clear n0_; (try clear hb); (try clear hb2); (try clear hk); (try clear hi)))
      go_ret
      exact ⟨by first | rfl | (simp [errW_none, errW_some] <;> rfl) | (simp [*, errW_none, errW_some] <;> rfl), by repeat (first | (with_reducible first | exact HB.out | apply below_alloc | apply pw_below_drewN | apply below_drew1) | exact HB.out)⟩
    · rw [if_neg c7] at H
      exact absurd H (by simp)
  · replace c6 := Bool.eq_false_iff.mpr c6
    subst c6
    have H1 : (none) = some r := by rw [if_neg (show ¬ (false = true) by decide)] at H; exact H
    clear H
    have H := H1
    clear H1
    exact absurd H (by simp)

/-! ### clavierlaw09_KeysKinds: function 7 -/
def clavierlaw09_KeysKinds.f (a0 : Int) : Option (Bool) := (clavierlaw09_awake.f).bind fun t201 => ((keys_Look.f a0).bind fun bt202 => (if bt202.1 = 1 then (if t201 = true then (if a0 ≥ 32 then (if a0 ≤ 1114111 then (if a0 = 127 then (none) else (if a0 < 128 then (some (bt202.1 == 1 && (bt202.2.1 == 0 && (bt202.2.2.1 == 0 && (bt202.2.2.2.1 == 0 && (!bt202.2.2.2.2)))))) else (if a0 > 159 then (some (bt202.1 == 1 && (bt202.2.1 == 0 && (bt202.2.2.1 == 0 && (bt202.2.2.2.1 == 0 && (!bt202.2.2.2.2)))))) else (none)))) else (none)) else (none)) else (none)) else (if bt202.1 = 2 then (if t201 = true then (if a0 = 9 then (some true) else (if a0 = 13 then (some true) else (if a0 = 27 then (some true) else (some (a0 == 127))))) else (none)) else (if bt202.1 = 3 then (if t201 = true then (if a0 ≥ 57348 then (if a0 ≤ 57454 then (if bt202.1 = 5 then (none) else (some true)) else (none)) else (none)) else (none)) else (if bt202.1 = 4 then (if t201 = true then (if a0 ≥ 57348 then (if a0 ≤ 57454 then (if bt202.1 = 5 then (none) else (some true)) else (none)) else (none)) else (none)) else (if bt202.1 = 5 then (if t201 = true then (if a0 ≥ 57348 then (if a0 ≤ 57454 then (if bt202.2.2.2.1 > 0 then (some bt202.2.2.2.2) else (none)) else (none)) else (none)) else (none)) else (if bt202.1 = 6 then (if t201 = true then (if a0 ≥ 57348 then (if a0 ≤ 57454 then (some true) else (none)) else (none)) else (none)) else (if bt202.1 = 7 then (if t201 = true then (if a0 ≥ 57348 then (if a0 ≤ 57454 then (some true) else (none)) else (none)) else (none)) else (if t201 = true then (some (bt202.1 == 0 && (bt202.2.1 == 0 && (bt202.2.2.1 == 0 && (bt202.2.2.2.1 == 0 && (!bt202.2.2.2.2)))))) else (none))))))))))
set_option maxHeartbeats 8000000 in
set_option maxRecDepth 100000 in
theorem clavierlaw09_KeysKinds.calls (a0 : Int) (r : Bool) (w : World) (h : clavierlaw09_KeysKinds.f a0 = some r) :
    Calls Try.prog 7 #[.int .i64 a0] w fun e w' => e = .returned (.bool r) ∧ Below w.heap.size w w' := by
  have hu24 := Try.underlying24
  have HB := Aside0.mk (Below.refl w.heap.size w)
  have H : ((clavierlaw09_awake.f).bind fun t201 => ((keys_Look.f a0).bind fun bt202 => (if bt202.1 = 1 then (if t201 = true then (if a0 ≥ 32 then (if a0 ≤ 1114111 then (if a0 = 127 then (none) else (if a0 < 128 then (some (bt202.1 == 1 && (bt202.2.1 == 0 && (bt202.2.2.1 == 0 && (bt202.2.2.2.1 == 0 && (!bt202.2.2.2.2)))))) else (if a0 > 159 then (some (bt202.1 == 1 && (bt202.2.1 == 0 && (bt202.2.2.1 == 0 && (bt202.2.2.2.1 == 0 && (!bt202.2.2.2.2)))))) else (none)))) else (none)) else (none)) else (none)) else (if bt202.1 = 2 then (if t201 = true then (if a0 = 9 then (some true) else (if a0 = 13 then (some true) else (if a0 = 27 then (some true) else (some (a0 == 127))))) else (none)) else (if bt202.1 = 3 then (if t201 = true then (if a0 ≥ 57348 then (if a0 ≤ 57454 then (if bt202.1 = 5 then (none) else (some true)) else (none)) else (none)) else (none)) else (if bt202.1 = 4 then (if t201 = true then (if a0 ≥ 57348 then (if a0 ≤ 57454 then (if bt202.1 = 5 then (none) else (some true)) else (none)) else (none)) else (none)) else (if bt202.1 = 5 then (if t201 = true then (if a0 ≥ 57348 then (if a0 ≤ 57454 then (if bt202.2.2.2.1 > 0 then (some bt202.2.2.2.2) else (none)) else (none)) else (none)) else (none)) else (if bt202.1 = 6 then (if t201 = true then (if a0 ≥ 57348 then (if a0 ≤ 57454 then (some true) else (none)) else (none)) else (none)) else (if bt202.1 = 7 then (if t201 = true then (if a0 ≥ 57348 then (if a0 ≤ 57454 then (some true) else (none)) else (none)) else (none)) else (if t201 = true then (some (bt202.1 == 0 && (bt202.2.1 == 0 && (bt202.2.2.1 == 0 && (bt202.2.2.2.1 == 0 && (!bt202.2.2.2.2)))))) else (none))))))))))) = some r := h
  clear h
  replace H := Option.bind_eq_some_iff.mp H
  obtain ⟨t201, A20, H⟩ := H
  replace H : ((keys_Look.f a0).bind fun bt202 => (if bt202.1 = 1 then (if t201 = true then (if a0 ≥ 32 then (if a0 ≤ 1114111 then (if a0 = 127 then (none) else (if a0 < 128 then (some (bt202.1 == 1 && (bt202.2.1 == 0 && (bt202.2.2.1 == 0 && (bt202.2.2.2.1 == 0 && (!bt202.2.2.2.2)))))) else (if a0 > 159 then (some (bt202.1 == 1 && (bt202.2.1 == 0 && (bt202.2.2.1 == 0 && (bt202.2.2.2.1 == 0 && (!bt202.2.2.2.2)))))) else (none)))) else (none)) else (none)) else (none)) else (if bt202.1 = 2 then (if t201 = true then (if a0 = 9 then (some true) else (if a0 = 13 then (some true) else (if a0 = 27 then (some true) else (some (a0 == 127))))) else (none)) else (if bt202.1 = 3 then (if t201 = true then (if a0 ≥ 57348 then (if a0 ≤ 57454 then (if bt202.1 = 5 then (none) else (some true)) else (none)) else (none)) else (none)) else (if bt202.1 = 4 then (if t201 = true then (if a0 ≥ 57348 then (if a0 ≤ 57454 then (if bt202.1 = 5 then (none) else (some true)) else (none)) else (none)) else (none)) else (if bt202.1 = 5 then (if t201 = true then (if a0 ≥ 57348 then (if a0 ≤ 57454 then (if bt202.2.2.2.1 > 0 then (some bt202.2.2.2.2) else (none)) else (none)) else (none)) else (none)) else (if bt202.1 = 6 then (if t201 = true then (if a0 ≥ 57348 then (if a0 ≤ 57454 then (some true) else (none)) else (none)) else (none)) else (if bt202.1 = 7 then (if t201 = true then (if a0 ≥ 57348 then (if a0 ≤ 57454 then (some true) else (none)) else (none)) else (none)) else (if t201 = true then (some (bt202.1 == 0 && (bt202.2.1 == 0 && (bt202.2.2.1 == 0 && (bt202.2.2.2.1 == 0 && (!bt202.2.2.2.2)))))) else (none)))))))))) = some r := H
  have A2 := Aside0.mk A20
  clear A20
  replace H := Option.bind_eq_some_iff.mp H
  obtain ⟨⟨t202, t203, t204, t205, t206⟩, A30, H⟩ := H
  replace H : (if t202 = 1 then (if t201 = true then (if a0 ≥ 32 then (if a0 ≤ 1114111 then (if a0 = 127 then (none) else (if a0 < 128 then (some (t202 == 1 && (t203 == 0 && (t204 == 0 && (t205 == 0 && (!t206)))))) else (if a0 > 159 then (some (t202 == 1 && (t203 == 0 && (t204 == 0 && (t205 == 0 && (!t206)))))) else (none)))) else (none)) else (none)) else (none)) else (if t202 = 2 then (if t201 = true then (if a0 = 9 then (some true) else (if a0 = 13 then (some true) else (if a0 = 27 then (some true) else (some (a0 == 127))))) else (none)) else (if t202 = 3 then (if t201 = true then (if a0 ≥ 57348 then (if a0 ≤ 57454 then (if t202 = 5 then (none) else (some true)) else (none)) else (none)) else (none)) else (if t202 = 4 then (if t201 = true then (if a0 ≥ 57348 then (if a0 ≤ 57454 then (if t202 = 5 then (none) else (some true)) else (none)) else (none)) else (none)) else (if t202 = 5 then (if t201 = true then (if a0 ≥ 57348 then (if a0 ≤ 57454 then (if t205 > 0 then (some t206) else (none)) else (none)) else (none)) else (none)) else (if t202 = 6 then (if t201 = true then (if a0 ≥ 57348 then (if a0 ≤ 57454 then (some true) else (none)) else (none)) else (none)) else (if t202 = 7 then (if t201 = true then (if a0 ≥ 57348 then (if a0 ≤ 57454 then (some true) else (none)) else (none)) else (none)) else (if t201 = true then (some (t202 == 0 && (t203 == 0 && (t204 == 0 && (t205 == 0 && (!t206)))))) else (none))))))))) = some r := H
  have A3 := Aside0.mk A30
  clear A30
  by_cases c4 : t202 = 1
  · rw [if_pos c4] at H
    have c4b0 : (t202 == 1) = true := beq_iff_eq.mpr c4
    have c4b1 : (t202 != 1) = false := bne_eq_false_iff_eq.mpr c4
    clear c4
    by_cases c5 : t201 = true
    · subst c5
      have H1 : (if a0 ≥ 32 then (if a0 ≤ 1114111 then (if a0 = 127 then (none) else (if a0 < 128 then (some (t202 == 1 && (t203 == 0 && (t204 == 0 && (t205 == 0 && (!t206)))))) else (if a0 > 159 then (some (t202 == 1 && (t203 == 0 && (t204 == 0 && (t205 == 0 && (!t206)))))) else (none)))) else (none)) else (none)) = some r := by rw [if_pos rfl] at H; exact H
      clear H
      have H := H1
      clear H1
      by_cases c6 : a0 ≥ 32
      · rw [if_pos c6] at H
        have c6b0 : decide (32 ≤ a0) = true := decide_eq_true c6
        clear c6
        by_cases c7 : a0 ≤ 1114111
        · rw [if_pos c7] at H
          have c7b0 : decide (a0 ≤ 1114111) = true := decide_eq_true c7
          clear c7
          by_cases c8 : a0 = 127
          · rw [if_pos c8] at H
            exact absurd H (by simp)
          · rw [if_neg c8] at H
            have c8b0 : (a0 == 127) = false := beq_eq_false_iff_ne.mpr c8
            have c8b1 : (a0 != 127) = true := bne_iff_ne.mpr c8
            by_cases c9 : a0 < 128
            · rw [if_pos c9] at H
              have c9b0 : decide (a0 < 128) = true := decide_eq_true c9
              clear c9
              obtain rfl := Option.some.inj H
              go_enter Try.func7, Try.ntmps7
              go_wp2_with (first | ((with_reducible refine gate_callee (f := 9) rfl ?_); refine goesL_ (some 5) rfl rfl Try.func9 (by kernel_rfl) rfl #[] rfl (by (try simp only [List.map_toArray, List.map_cons, List.map_nil]); first | done | rfl | (simp only [List.length_drop, List.length_take]; rfl)) ?_; (with_reducible refine (clavierlaw09_awake.calls  true _ A2.out).mono ?_); rintro e w10 ⟨rfl, hb⟩; refine ⟨_, rfl, ?_⟩; have n0_ := Aside0.mk (below_step (by repeat (first | (with_reducible first | exact HB.out | apply below_alloc | apply pw_below_drewN | apply below_drew1) | exact HB.out)) hb); clear HB; have HB := n0_; clear n0_; (try clear hb); (try clear hb2); (try clear hk); (try clear hi)) | ((with_reducible refine gate_callee (f := 10) rfl ?_); refine goesL_ (some 7) rfl rfl Try.func10 (by kernel_rfl) rfl #[.int .i64 a0] rfl (by (try simp only [List.map_toArray, List.map_cons, List.map_nil]); first | done | rfl | (simp only [List.length_drop, List.length_take]; rfl)) ?_; (with_reducible refine (keys_Look.calls a0 t202 t203 t204 t205 t206 _ A3.out).mono ?_); rintro e w11 ⟨rfl, hb⟩; refine ⟨_, rfl, ?_⟩; have n0_ := Aside0.mk (below_step (by repeat (first | (with_reducible first | exact HB.out | apply below_alloc | apply pw_below_drewN | apply below_drew1) | exact HB.out)) hb); clear HB; have HB := n0_; clear n0_; (try clear hb); (try clear hb2); (try clear hk); (try clear hi)) | ((with_reducible refine gate_dst (N := 4) rfl ?_); refine box_event ?hg (N := 4) ?hd (cs := #[.int .i64 0, .int .u8 0, .int .i64 0, .int .i64 0, .bool false]) (t := 24) ?hr ?_; (case hd => rfl); (case hg => rfl); (case hr => first | (go_simp; done) | (go_simp; rfl)); intro gb207 hg w12 hbox hb; have n0_ := Aside0.mk (below_step (by repeat (first | (with_reducible first | exact HB.out | apply below_alloc | apply pw_below_drewN | apply below_drew1) | exact HB.out)) hb); have n1_ := Aside0.mk (hbox); have n2_ := Aside0.mk ((by rw [hg]; exact (below_size (by repeat (first | (with_reducible first | exact HB.out | apply below_alloc | apply pw_below_drewN | apply below_drew1) | exact HB.out))) : w.heap.size ≤ gb207)); have n3_ := Aside0.mk ((by rw [hg]; exact (below_size (by repeat (first | (with_reducible first | exact HB.out | apply below_alloc | apply pw_below_drewN | apply below_drew1) | exact HB.out))) : w.heap.size ≤ gb207)); clear HB; have HB := n0_; have BK207 := n1_; have GW207 := n2_; have GE207 := n3_; clear n0_ n1_ n2_ n3_; clear hb hbox hg; have hcz13_0 : w12.cell? ⟨gb207, 0, none⟩ = some (.int .i64 0) := (blk_cell BK207.out 0).trans rfl; have hcz13_1 : w12.cell? ⟨gb207, 1, none⟩ = some (.int .u8 0) := (blk_cell BK207.out 1).trans rfl; have hcz13_2 : w12.cell? ⟨gb207, 2, none⟩ = some (.int .i64 0) := (blk_cell BK207.out 2).trans rfl; have hcz13_3 : w12.cell? ⟨gb207, 3, none⟩ = some (.int .i64 0) := (blk_cell BK207.out 3).trans rfl; have hcz13_4 : w12.cell? ⟨gb207, 4, none⟩ = some (.bool false) := (blk_cell BK207.out 4).trans rfl; have hfz13_0 := blk_frozen BK207.out 0; have hfz13_1 := blk_frozen BK207.out 1; have hfz13_2 := blk_frozen BK207.out 2; have hfz13_3 := blk_frozen BK207.out 3; have hfz13_4 := blk_frozen BK207.out 4))
              go_ret
              exact ⟨by first | rfl | (simp [errW_none, errW_some] <;> rfl) | (simp [*, errW_none, errW_some] <;> rfl), by repeat (first | (with_reducible first | exact HB.out | apply below_alloc | apply pw_below_drewN | apply below_drew1 | refine below_set ?_ GE207.out) | exact HB.out)⟩
            · rw [if_neg c9] at H
              have c9b0 : decide (a0 < 128) = false := decide_eq_false c9
              clear c9
              by_cases c14 : a0 > 159
              · rw [if_pos c14] at H
                have c14b0 : decide (159 < a0) = true := decide_eq_true c14
                clear c14
                obtain rfl := Option.some.inj H
                go_enter Try.func7, Try.ntmps7
                go_wp2_with (first | ((with_reducible refine gate_callee (f := 9) rfl ?_); refine goesL_ (some 5) rfl rfl Try.func9 (by kernel_rfl) rfl #[] rfl (by (try simp only [List.map_toArray, List.map_cons, List.map_nil]); first | done | rfl | (simp only [List.length_drop, List.length_take]; rfl)) ?_; (with_reducible refine (clavierlaw09_awake.calls  true _ A2.out).mono ?_); rintro e w15 ⟨rfl, hb⟩; refine ⟨_, rfl, ?_⟩; have n0_ := Aside0.mk (below_step (by repeat (first | (with_reducible first | exact HB.out | apply below_alloc | apply pw_below_drewN | apply below_drew1) | exact HB.out)) hb); clear HB; have HB := n0_; clear n0_; (try clear hb); (try clear hb2); (try clear hk); (try clear hi)) | ((with_reducible refine gate_callee (f := 10) rfl ?_); refine goesL_ (some 7) rfl rfl Try.func10 (by kernel_rfl) rfl #[.int .i64 a0] rfl (by (try simp only [List.map_toArray, List.map_cons, List.map_nil]); first | done | rfl | (simp only [List.length_drop, List.length_take]; rfl)) ?_; (with_reducible refine (keys_Look.calls a0 t202 t203 t204 t205 t206 _ A3.out).mono ?_); rintro e w16 ⟨rfl, hb⟩; refine ⟨_, rfl, ?_⟩; have n0_ := Aside0.mk (below_step (by repeat (first | (with_reducible first | exact HB.out | apply below_alloc | apply pw_below_drewN | apply below_drew1) | exact HB.out)) hb); clear HB; have HB := n0_; clear n0_; (try clear hb); (try clear hb2); (try clear hk); (try clear hi)) | ((with_reducible refine gate_dst (N := 4) rfl ?_); refine box_event ?hg (N := 4) ?hd (cs := #[.int .i64 0, .int .u8 0, .int .i64 0, .int .i64 0, .bool false]) (t := 24) ?hr ?_; (case hd => rfl); (case hg => rfl); (case hr => first | (go_simp; done) | (go_simp; rfl)); intro gb207 hg w17 hbox hb; have n0_ := Aside0.mk (below_step (by repeat (first | (with_reducible first | exact HB.out | apply below_alloc | apply pw_below_drewN | apply below_drew1) | exact HB.out)) hb); have n1_ := Aside0.mk (hbox); have n2_ := Aside0.mk ((by rw [hg]; exact (below_size (by repeat (first | (with_reducible first | exact HB.out | apply below_alloc | apply pw_below_drewN | apply below_drew1) | exact HB.out))) : w.heap.size ≤ gb207)); have n3_ := Aside0.mk ((by rw [hg]; exact (below_size (by repeat (first | (with_reducible first | exact HB.out | apply below_alloc | apply pw_below_drewN | apply below_drew1) | exact HB.out))) : w.heap.size ≤ gb207)); clear HB; have HB := n0_; have BK207 := n1_; have GW207 := n2_; have GE207 := n3_; clear n0_ n1_ n2_ n3_; clear hb hbox hg; have hcz18_0 : w17.cell? ⟨gb207, 0, none⟩ = some (.int .i64 0) := (blk_cell BK207.out 0).trans rfl; have hcz18_1 : w17.cell? ⟨gb207, 1, none⟩ = some (.int .u8 0) := (blk_cell BK207.out 1).trans rfl; have hcz18_2 : w17.cell? ⟨gb207, 2, none⟩ = some (.int .i64 0) := (blk_cell BK207.out 2).trans rfl; have hcz18_3 : w17.cell? ⟨gb207, 3, none⟩ = some (.int .i64 0) := (blk_cell BK207.out 3).trans rfl; have hcz18_4 : w17.cell? ⟨gb207, 4, none⟩ = some (.bool false) := (blk_cell BK207.out 4).trans rfl; have hfz18_0 := blk_frozen BK207.out 0; have hfz18_1 := blk_frozen BK207.out 1; have hfz18_2 := blk_frozen BK207.out 2; have hfz18_3 := blk_frozen BK207.out 3; have hfz18_4 := blk_frozen BK207.out 4))
                go_ret
                exact ⟨by first | rfl | (simp [errW_none, errW_some] <;> rfl) | (simp [*, errW_none, errW_some] <;> rfl), by repeat (first | (with_reducible first | exact HB.out | apply below_alloc | apply pw_below_drewN | apply below_drew1 | refine below_set ?_ GE207.out) | exact HB.out)⟩
              · rw [if_neg c14] at H
                exact absurd H (by simp)
        · rw [if_neg c7] at H
          exact absurd H (by simp)
      · rw [if_neg c6] at H
        exact absurd H (by simp)
    · replace c5 := Bool.eq_false_iff.mpr c5
      subst c5
      have H1 : (none) = some r := by rw [if_neg (show ¬ (false = true) by decide)] at H; exact H
      clear H
      have H := H1
      clear H1
      exact absurd H (by simp)
  · rw [if_neg c4] at H
    have c4b0 : (t202 == 1) = false := beq_eq_false_iff_ne.mpr c4
    have c4b1 : (t202 != 1) = true := bne_iff_ne.mpr c4
    by_cases c19 : t202 = 2
    · rw [if_pos c19] at H
      have c19b0 : (t202 == 2) = true := beq_iff_eq.mpr c19
      have c19b1 : (t202 != 2) = false := bne_eq_false_iff_eq.mpr c19
      clear c19
      by_cases c20 : t201 = true
      · subst c20
        have H1 : (if a0 = 9 then (some true) else (if a0 = 13 then (some true) else (if a0 = 27 then (some true) else (some (a0 == 127))))) = some r := by rw [if_pos rfl] at H; exact H
        clear H
        have H := H1
        clear H1
        by_cases c21 : a0 = 9
        · rw [if_pos c21] at H
          have c21b0 : (a0 == 9) = true := beq_iff_eq.mpr c21
          have c21b1 : (a0 != 9) = false := bne_eq_false_iff_eq.mpr c21
          clear c21
          obtain rfl := Option.some.inj H
          go_enter Try.func7, Try.ntmps7
          go_wp2_with (first | ((with_reducible refine gate_callee (f := 9) rfl ?_); refine goesL_ (some 5) rfl rfl Try.func9 (by kernel_rfl) rfl #[] rfl (by (try simp only [List.map_toArray, List.map_cons, List.map_nil]); first | done | rfl | (simp only [List.length_drop, List.length_take]; rfl)) ?_; (with_reducible refine (clavierlaw09_awake.calls  true _ A2.out).mono ?_); rintro e w22 ⟨rfl, hb⟩; refine ⟨_, rfl, ?_⟩; have n0_ := Aside0.mk (below_step (by repeat (first | (with_reducible first | exact HB.out | apply below_alloc | apply pw_below_drewN | apply below_drew1) | exact HB.out)) hb); clear HB; have HB := n0_; clear n0_; (try clear hb); (try clear hb2); (try clear hk); (try clear hi)) | ((with_reducible refine gate_callee (f := 10) rfl ?_); refine goesL_ (some 7) rfl rfl Try.func10 (by kernel_rfl) rfl #[.int .i64 a0] rfl (by (try simp only [List.map_toArray, List.map_cons, List.map_nil]); first | done | rfl | (simp only [List.length_drop, List.length_take]; rfl)) ?_; (with_reducible refine (keys_Look.calls a0 t202 t203 t204 t205 t206 _ A3.out).mono ?_); rintro e w23 ⟨rfl, hb⟩; refine ⟨_, rfl, ?_⟩; have n0_ := Aside0.mk (below_step (by repeat (first | (with_reducible first | exact HB.out | apply below_alloc | apply pw_below_drewN | apply below_drew1) | exact HB.out)) hb); clear HB; have HB := n0_; clear n0_; (try clear hb); (try clear hb2); (try clear hk); (try clear hi)) | ((with_reducible refine gate_dst (N := 4) rfl ?_); refine box_event ?hg (N := 4) ?hd (cs := #[.int .i64 0, .int .u8 0, .int .i64 0, .int .i64 0, .bool false]) (t := 24) ?hr ?_; (case hd => rfl); (case hg => rfl); (case hr => first | (go_simp; done) | (go_simp; rfl)); intro gb207 hg w24 hbox hb; have n0_ := Aside0.mk (below_step (by repeat (first | (with_reducible first | exact HB.out | apply below_alloc | apply pw_below_drewN | apply below_drew1) | exact HB.out)) hb); have n1_ := Aside0.mk (hbox); have n2_ := Aside0.mk ((by rw [hg]; exact (below_size (by repeat (first | (with_reducible first | exact HB.out | apply below_alloc | apply pw_below_drewN | apply below_drew1) | exact HB.out))) : w.heap.size ≤ gb207)); have n3_ := Aside0.mk ((by rw [hg]; exact (below_size (by repeat (first | (with_reducible first | exact HB.out | apply below_alloc | apply pw_below_drewN | apply below_drew1) | exact HB.out))) : w.heap.size ≤ gb207)); clear HB; have HB := n0_; have BK207 := n1_; have GW207 := n2_; have GE207 := n3_; clear n0_ n1_ n2_ n3_; clear hb hbox hg; have hcz25_0 : w24.cell? ⟨gb207, 0, none⟩ = some (.int .i64 0) := (blk_cell BK207.out 0).trans rfl; have hcz25_1 : w24.cell? ⟨gb207, 1, none⟩ = some (.int .u8 0) := (blk_cell BK207.out 1).trans rfl; have hcz25_2 : w24.cell? ⟨gb207, 2, none⟩ = some (.int .i64 0) := (blk_cell BK207.out 2).trans rfl; have hcz25_3 : w24.cell? ⟨gb207, 3, none⟩ = some (.int .i64 0) := (blk_cell BK207.out 3).trans rfl; have hcz25_4 : w24.cell? ⟨gb207, 4, none⟩ = some (.bool false) := (blk_cell BK207.out 4).trans rfl; have hfz25_0 := blk_frozen BK207.out 0; have hfz25_1 := blk_frozen BK207.out 1; have hfz25_2 := blk_frozen BK207.out 2; have hfz25_3 := blk_frozen BK207.out 3; have hfz25_4 := blk_frozen BK207.out 4))
          go_ret
          exact ⟨by first | rfl | (simp [errW_none, errW_some] <;> rfl) | (simp [*, errW_none, errW_some] <;> rfl), by repeat (first | (with_reducible first | exact HB.out | apply below_alloc | apply pw_below_drewN | apply below_drew1 | refine below_set ?_ GE207.out) | exact HB.out)⟩
        · rw [if_neg c21] at H
          have c21b0 : (a0 == 9) = false := beq_eq_false_iff_ne.mpr c21
          have c21b1 : (a0 != 9) = true := bne_iff_ne.mpr c21
          by_cases c26 : a0 = 13
          · rw [if_pos c26] at H
            have c26b0 : (a0 == 13) = true := beq_iff_eq.mpr c26
            have c26b1 : (a0 != 13) = false := bne_eq_false_iff_eq.mpr c26
            clear c26
            obtain rfl := Option.some.inj H
            go_enter Try.func7, Try.ntmps7
            go_wp2_with (first | ((with_reducible refine gate_callee (f := 9) rfl ?_); refine goesL_ (some 5) rfl rfl Try.func9 (by kernel_rfl) rfl #[] rfl (by (try simp only [List.map_toArray, List.map_cons, List.map_nil]); first | done | rfl | (simp only [List.length_drop, List.length_take]; rfl)) ?_; (with_reducible refine (clavierlaw09_awake.calls  true _ A2.out).mono ?_); rintro e w27 ⟨rfl, hb⟩; refine ⟨_, rfl, ?_⟩; have n0_ := Aside0.mk (below_step (by repeat (first | (with_reducible first | exact HB.out | apply below_alloc | apply pw_below_drewN | apply below_drew1) | exact HB.out)) hb); clear HB; have HB := n0_; clear n0_; (try clear hb); (try clear hb2); (try clear hk); (try clear hi)) | ((with_reducible refine gate_callee (f := 10) rfl ?_); refine goesL_ (some 7) rfl rfl Try.func10 (by kernel_rfl) rfl #[.int .i64 a0] rfl (by (try simp only [List.map_toArray, List.map_cons, List.map_nil]); first | done | rfl | (simp only [List.length_drop, List.length_take]; rfl)) ?_; (with_reducible refine (keys_Look.calls a0 t202 t203 t204 t205 t206 _ A3.out).mono ?_); rintro e w28 ⟨rfl, hb⟩; refine ⟨_, rfl, ?_⟩; have n0_ := Aside0.mk (below_step (by repeat (first | (with_reducible first | exact HB.out | apply below_alloc | apply pw_below_drewN | apply below_drew1) | exact HB.out)) hb); clear HB; have HB := n0_; clear n0_; (try clear hb); (try clear hb2); (try clear hk); (try clear hi)) | ((with_reducible refine gate_dst (N := 4) rfl ?_); refine box_event ?hg (N := 4) ?hd (cs := #[.int .i64 0, .int .u8 0, .int .i64 0, .int .i64 0, .bool false]) (t := 24) ?hr ?_; (case hd => rfl); (case hg => rfl); (case hr => first | (go_simp; done) | (go_simp; rfl)); intro gb207 hg w29 hbox hb; have n0_ := Aside0.mk (below_step (by repeat (first | (with_reducible first | exact HB.out | apply below_alloc | apply pw_below_drewN | apply below_drew1) | exact HB.out)) hb); have n1_ := Aside0.mk (hbox); have n2_ := Aside0.mk ((by rw [hg]; exact (below_size (by repeat (first | (with_reducible first | exact HB.out | apply below_alloc | apply pw_below_drewN | apply below_drew1) | exact HB.out))) : w.heap.size ≤ gb207)); have n3_ := Aside0.mk ((by rw [hg]; exact (below_size (by repeat (first | (with_reducible first | exact HB.out | apply below_alloc | apply pw_below_drewN | apply below_drew1) | exact HB.out))) : w.heap.size ≤ gb207)); clear HB; have HB := n0_; have BK207 := n1_; have GW207 := n2_; have GE207 := n3_; clear n0_ n1_ n2_ n3_; clear hb hbox hg; have hcz30_0 : w29.cell? ⟨gb207, 0, none⟩ = some (.int .i64 0) := (blk_cell BK207.out 0).trans rfl; have hcz30_1 : w29.cell? ⟨gb207, 1, none⟩ = some (.int .u8 0) := (blk_cell BK207.out 1).trans rfl; have hcz30_2 : w29.cell? ⟨gb207, 2, none⟩ = some (.int .i64 0) := (blk_cell BK207.out 2).trans rfl; have hcz30_3 : w29.cell? ⟨gb207, 3, none⟩ = some (.int .i64 0) := (blk_cell BK207.out 3).trans rfl; have hcz30_4 : w29.cell? ⟨gb207, 4, none⟩ = some (.bool false) := (blk_cell BK207.out 4).trans rfl; have hfz30_0 := blk_frozen BK207.out 0; have hfz30_1 := blk_frozen BK207.out 1; have hfz30_2 := blk_frozen BK207.out 2; have hfz30_3 := blk_frozen BK207.out 3; have hfz30_4 := blk_frozen BK207.out 4))
            go_ret
            exact ⟨by first | rfl | (simp [errW_none, errW_some] <;> rfl) | (simp [*, errW_none, errW_some] <;> rfl), by repeat (first | (with_reducible first | exact HB.out | apply below_alloc | apply pw_below_drewN | apply below_drew1 | refine below_set ?_ GE207.out) | exact HB.out)⟩
          · rw [if_neg c26] at H
            have c26b0 : (a0 == 13) = false := beq_eq_false_iff_ne.mpr c26
            have c26b1 : (a0 != 13) = true := bne_iff_ne.mpr c26
            by_cases c31 : a0 = 27
            · rw [if_pos c31] at H
              have c31b0 : (a0 == 27) = true := beq_iff_eq.mpr c31
              have c31b1 : (a0 != 27) = false := bne_eq_false_iff_eq.mpr c31
              clear c31
              obtain rfl := Option.some.inj H
              go_enter Try.func7, Try.ntmps7
              go_wp2_with (first | ((with_reducible refine gate_callee (f := 9) rfl ?_); refine goesL_ (some 5) rfl rfl Try.func9 (by kernel_rfl) rfl #[] rfl (by (try simp only [List.map_toArray, List.map_cons, List.map_nil]); first | done | rfl | (simp only [List.length_drop, List.length_take]; rfl)) ?_; (with_reducible refine (clavierlaw09_awake.calls  true _ A2.out).mono ?_); rintro e w32 ⟨rfl, hb⟩; refine ⟨_, rfl, ?_⟩; have n0_ := Aside0.mk (below_step (by repeat (first | (with_reducible first | exact HB.out | apply below_alloc | apply pw_below_drewN | apply below_drew1) | exact HB.out)) hb); clear HB; have HB := n0_; clear n0_; (try clear hb); (try clear hb2); (try clear hk); (try clear hi)) | ((with_reducible refine gate_callee (f := 10) rfl ?_); refine goesL_ (some 7) rfl rfl Try.func10 (by kernel_rfl) rfl #[.int .i64 a0] rfl (by (try simp only [List.map_toArray, List.map_cons, List.map_nil]); first | done | rfl | (simp only [List.length_drop, List.length_take]; rfl)) ?_; (with_reducible refine (keys_Look.calls a0 t202 t203 t204 t205 t206 _ A3.out).mono ?_); rintro e w33 ⟨rfl, hb⟩; refine ⟨_, rfl, ?_⟩; have n0_ := Aside0.mk (below_step (by repeat (first | (with_reducible first | exact HB.out | apply below_alloc | apply pw_below_drewN | apply below_drew1) | exact HB.out)) hb); clear HB; have HB := n0_; clear n0_; (try clear hb); (try clear hb2); (try clear hk); (try clear hi)) | ((with_reducible refine gate_dst (N := 4) rfl ?_); refine box_event ?hg (N := 4) ?hd (cs := #[.int .i64 0, .int .u8 0, .int .i64 0, .int .i64 0, .bool false]) (t := 24) ?hr ?_; (case hd => rfl); (case hg => rfl); (case hr => first | (go_simp; done) | (go_simp; rfl)); intro gb207 hg w34 hbox hb; have n0_ := Aside0.mk (below_step (by repeat (first | (with_reducible first | exact HB.out | apply below_alloc | apply pw_below_drewN | apply below_drew1) | exact HB.out)) hb); have n1_ := Aside0.mk (hbox); have n2_ := Aside0.mk ((by rw [hg]; exact (below_size (by repeat (first | (with_reducible first | exact HB.out | apply below_alloc | apply pw_below_drewN | apply below_drew1) | exact HB.out))) : w.heap.size ≤ gb207)); have n3_ := Aside0.mk ((by rw [hg]; exact (below_size (by repeat (first | (with_reducible first | exact HB.out | apply below_alloc | apply pw_below_drewN | apply below_drew1) | exact HB.out))) : w.heap.size ≤ gb207)); clear HB; have HB := n0_; have BK207 := n1_; have GW207 := n2_; have GE207 := n3_; clear n0_ n1_ n2_ n3_; clear hb hbox hg; have hcz35_0 : w34.cell? ⟨gb207, 0, none⟩ = some (.int .i64 0) := (blk_cell BK207.out 0).trans rfl; have hcz35_1 : w34.cell? ⟨gb207, 1, none⟩ = some (.int .u8 0) := (blk_cell BK207.out 1).trans rfl; have hcz35_2 : w34.cell? ⟨gb207, 2, none⟩ = some (.int .i64 0) := (blk_cell BK207.out 2).trans rfl; have hcz35_3 : w34.cell? ⟨gb207, 3, none⟩ = some (.int .i64 0) := (blk_cell BK207.out 3).trans rfl; have hcz35_4 : w34.cell? ⟨gb207, 4, none⟩ = some (.bool false) := (blk_cell BK207.out 4).trans rfl; have hfz35_0 := blk_frozen BK207.out 0; have hfz35_1 := blk_frozen BK207.out 1; have hfz35_2 := blk_frozen BK207.out 2; have hfz35_3 := blk_frozen BK207.out 3; have hfz35_4 := blk_frozen BK207.out 4))
              go_ret
              exact ⟨by first | rfl | (simp [errW_none, errW_some] <;> rfl) | (simp [*, errW_none, errW_some] <;> rfl), by repeat (first | (with_reducible first | exact HB.out | apply below_alloc | apply pw_below_drewN | apply below_drew1 | refine below_set ?_ GE207.out) | exact HB.out)⟩
            · rw [if_neg c31] at H
              have c31b0 : (a0 == 27) = false := beq_eq_false_iff_ne.mpr c31
              have c31b1 : (a0 != 27) = true := bne_iff_ne.mpr c31
              obtain rfl := Option.some.inj H
              go_enter Try.func7, Try.ntmps7
              go_wp2_with (first | ((with_reducible refine gate_callee (f := 9) rfl ?_); refine goesL_ (some 5) rfl rfl Try.func9 (by kernel_rfl) rfl #[] rfl (by (try simp only [List.map_toArray, List.map_cons, List.map_nil]); first | done | rfl | (simp only [List.length_drop, List.length_take]; rfl)) ?_; (with_reducible refine (clavierlaw09_awake.calls  true _ A2.out).mono ?_); rintro e w36 ⟨rfl, hb⟩; refine ⟨_, rfl, ?_⟩; have n0_ := Aside0.mk (below_step (by repeat (first | (with_reducible first | exact HB.out | apply below_alloc | apply pw_below_drewN | apply below_drew1) | exact HB.out)) hb); clear HB; have HB := n0_; clear n0_; (try clear hb); (try clear hb2); (try clear hk); (try clear hi)) | ((with_reducible refine gate_callee (f := 10) rfl ?_); refine goesL_ (some 7) rfl rfl Try.func10 (by kernel_rfl) rfl #[.int .i64 a0] rfl (by (try simp only [List.map_toArray, List.map_cons, List.map_nil]); first | done | rfl | (simp only [List.length_drop, List.length_take]; rfl)) ?_; (with_reducible refine (keys_Look.calls a0 t202 t203 t204 t205 t206 _ A3.out).mono ?_); rintro e w37 ⟨rfl, hb⟩; refine ⟨_, rfl, ?_⟩; have n0_ := Aside0.mk (below_step (by repeat (first | (with_reducible first | exact HB.out | apply below_alloc | apply pw_below_drewN | apply below_drew1) | exact HB.out)) hb); clear HB; have HB := n0_; clear n0_; (try clear hb); (try clear hb2); (try clear hk); (try clear hi)) | ((with_reducible refine gate_dst (N := 4) rfl ?_); refine box_event ?hg (N := 4) ?hd (cs := #[.int .i64 0, .int .u8 0, .int .i64 0, .int .i64 0, .bool false]) (t := 24) ?hr ?_; (case hd => rfl); (case hg => rfl); (case hr => first | (go_simp; done) | (go_simp; rfl)); intro gb207 hg w38 hbox hb; have n0_ := Aside0.mk (below_step (by repeat (first | (with_reducible first | exact HB.out | apply below_alloc | apply pw_below_drewN | apply below_drew1) | exact HB.out)) hb); have n1_ := Aside0.mk (hbox); have n2_ := Aside0.mk ((by rw [hg]; exact (below_size (by repeat (first | (with_reducible first | exact HB.out | apply below_alloc | apply pw_below_drewN | apply below_drew1) | exact HB.out))) : w.heap.size ≤ gb207)); have n3_ := Aside0.mk ((by rw [hg]; exact (below_size (by repeat (first | (with_reducible first | exact HB.out | apply below_alloc | apply pw_below_drewN | apply below_drew1) | exact HB.out))) : w.heap.size ≤ gb207)); clear HB; have HB := n0_; have BK207 := n1_; have GW207 := n2_; have GE207 := n3_; clear n0_ n1_ n2_ n3_; clear hb hbox hg; have hcz39_0 : w38.cell? ⟨gb207, 0, none⟩ = some (.int .i64 0) := (blk_cell BK207.out 0).trans rfl; have hcz39_1 : w38.cell? ⟨gb207, 1, none⟩ = some (.int .u8 0) := (blk_cell BK207.out 1).trans rfl; have hcz39_2 : w38.cell? ⟨gb207, 2, none⟩ = some (.int .i64 0) := (blk_cell BK207.out 2).trans rfl; have hcz39_3 : w38.cell? ⟨gb207, 3, none⟩ = some (.int .i64 0) := (blk_cell BK207.out 3).trans rfl; have hcz39_4 : w38.cell? ⟨gb207, 4, none⟩ = some (.bool false) := (blk_cell BK207.out 4).trans rfl; have hfz39_0 := blk_frozen BK207.out 0; have hfz39_1 := blk_frozen BK207.out 1; have hfz39_2 := blk_frozen BK207.out 2; have hfz39_3 := blk_frozen BK207.out 3; have hfz39_4 := blk_frozen BK207.out 4))
              go_ret
              exact ⟨by first | rfl | (simp [errW_none, errW_some] <;> rfl) | (simp [*, errW_none, errW_some] <;> rfl), by repeat (first | (with_reducible first | exact HB.out | apply below_alloc | apply pw_below_drewN | apply below_drew1 | refine below_set ?_ GE207.out) | exact HB.out)⟩
      · replace c20 := Bool.eq_false_iff.mpr c20
        subst c20
        have H1 : (none) = some r := by rw [if_neg (show ¬ (false = true) by decide)] at H; exact H
        clear H
        have H := H1
        clear H1
        exact absurd H (by simp)
    · rw [if_neg c19] at H
      have c19b0 : (t202 == 2) = false := beq_eq_false_iff_ne.mpr c19
      have c19b1 : (t202 != 2) = true := bne_iff_ne.mpr c19
      by_cases c40 : t202 = 3
      · rw [if_pos c40] at H
        have c40b0 : (t202 == 3) = true := beq_iff_eq.mpr c40
        have c40b1 : (t202 != 3) = false := bne_eq_false_iff_eq.mpr c40
        clear c40
        by_cases c41 : t201 = true
        · subst c41
          have H1 : (if a0 ≥ 57348 then (if a0 ≤ 57454 then (if t202 = 5 then (none) else (some true)) else (none)) else (none)) = some r := by rw [if_pos rfl] at H; exact H
          clear H
          have H := H1
          clear H1
          by_cases c42 : a0 ≥ 57348
          · rw [if_pos c42] at H
            have c42b0 : decide (57348 ≤ a0) = true := decide_eq_true c42
            clear c42
            by_cases c43 : a0 ≤ 57454
            · rw [if_pos c43] at H
              have c43b0 : decide (a0 ≤ 57454) = true := decide_eq_true c43
              clear c43
              by_cases c44 : t202 = 5
              · rw [if_pos c44] at H
                exact absurd H (by simp)
              · rw [if_neg c44] at H
                have c44b0 : (t202 == 5) = false := beq_eq_false_iff_ne.mpr c44
                have c44b1 : (t202 != 5) = true := bne_iff_ne.mpr c44
                obtain rfl := Option.some.inj H
                go_enter Try.func7, Try.ntmps7
                go_wp2_with (first | ((with_reducible refine gate_callee (f := 9) rfl ?_); refine goesL_ (some 5) rfl rfl Try.func9 (by kernel_rfl) rfl #[] rfl (by (try simp only [List.map_toArray, List.map_cons, List.map_nil]); first | done | rfl | (simp only [List.length_drop, List.length_take]; rfl)) ?_; (with_reducible refine (clavierlaw09_awake.calls  true _ A2.out).mono ?_); rintro e w45 ⟨rfl, hb⟩; refine ⟨_, rfl, ?_⟩; have n0_ := Aside0.mk (below_step (by repeat (first | (with_reducible first | exact HB.out | apply below_alloc | apply pw_below_drewN | apply below_drew1) | exact HB.out)) hb); clear HB; have HB := n0_; clear n0_; (try clear hb); (try clear hb2); (try clear hk); (try clear hi)) | ((with_reducible refine gate_callee (f := 10) rfl ?_); refine goesL_ (some 7) rfl rfl Try.func10 (by kernel_rfl) rfl #[.int .i64 a0] rfl (by (try simp only [List.map_toArray, List.map_cons, List.map_nil]); first | done | rfl | (simp only [List.length_drop, List.length_take]; rfl)) ?_; (with_reducible refine (keys_Look.calls a0 t202 t203 t204 t205 t206 _ A3.out).mono ?_); rintro e w46 ⟨rfl, hb⟩; refine ⟨_, rfl, ?_⟩; have n0_ := Aside0.mk (below_step (by repeat (first | (with_reducible first | exact HB.out | apply below_alloc | apply pw_below_drewN | apply below_drew1) | exact HB.out)) hb); clear HB; have HB := n0_; clear n0_; (try clear hb); (try clear hb2); (try clear hk); (try clear hi)) | ((with_reducible refine gate_dst (N := 4) rfl ?_); refine box_event ?hg (N := 4) ?hd (cs := #[.int .i64 0, .int .u8 0, .int .i64 0, .int .i64 0, .bool false]) (t := 24) ?hr ?_; (case hd => rfl); (case hg => rfl); (case hr => first | (go_simp; done) | (go_simp; rfl)); intro gb207 hg w47 hbox hb; have n0_ := Aside0.mk (below_step (by repeat (first | (with_reducible first | exact HB.out | apply below_alloc | apply pw_below_drewN | apply below_drew1) | exact HB.out)) hb); have n1_ := Aside0.mk (hbox); have n2_ := Aside0.mk ((by rw [hg]; exact (below_size (by repeat (first | (with_reducible first | exact HB.out | apply below_alloc | apply pw_below_drewN | apply below_drew1) | exact HB.out))) : w.heap.size ≤ gb207)); have n3_ := Aside0.mk ((by rw [hg]; exact (below_size (by repeat (first | (with_reducible first | exact HB.out | apply below_alloc | apply pw_below_drewN | apply below_drew1) | exact HB.out))) : w.heap.size ≤ gb207)); clear HB; have HB := n0_; have BK207 := n1_; have GW207 := n2_; have GE207 := n3_; clear n0_ n1_ n2_ n3_; clear hb hbox hg; have hcz48_0 : w47.cell? ⟨gb207, 0, none⟩ = some (.int .i64 0) := (blk_cell BK207.out 0).trans rfl; have hcz48_1 : w47.cell? ⟨gb207, 1, none⟩ = some (.int .u8 0) := (blk_cell BK207.out 1).trans rfl; have hcz48_2 : w47.cell? ⟨gb207, 2, none⟩ = some (.int .i64 0) := (blk_cell BK207.out 2).trans rfl; have hcz48_3 : w47.cell? ⟨gb207, 3, none⟩ = some (.int .i64 0) := (blk_cell BK207.out 3).trans rfl; have hcz48_4 : w47.cell? ⟨gb207, 4, none⟩ = some (.bool false) := (blk_cell BK207.out 4).trans rfl; have hfz48_0 := blk_frozen BK207.out 0; have hfz48_1 := blk_frozen BK207.out 1; have hfz48_2 := blk_frozen BK207.out 2; have hfz48_3 := blk_frozen BK207.out 3; have hfz48_4 := blk_frozen BK207.out 4))
                go_ret
                exact ⟨by first | rfl | (simp [errW_none, errW_some] <;> rfl) | (simp [*, errW_none, errW_some] <;> rfl), by repeat (first | (with_reducible first | exact HB.out | apply below_alloc | apply pw_below_drewN | apply below_drew1 | refine below_set ?_ GE207.out) | exact HB.out)⟩
            · rw [if_neg c43] at H
              exact absurd H (by simp)
          · rw [if_neg c42] at H
            exact absurd H (by simp)
        · replace c41 := Bool.eq_false_iff.mpr c41
          subst c41
          have H1 : (none) = some r := by rw [if_neg (show ¬ (false = true) by decide)] at H; exact H
          clear H
          have H := H1
          clear H1
          exact absurd H (by simp)
      · rw [if_neg c40] at H
        have c40b0 : (t202 == 3) = false := beq_eq_false_iff_ne.mpr c40
        have c40b1 : (t202 != 3) = true := bne_iff_ne.mpr c40
        by_cases c49 : t202 = 4
        · rw [if_pos c49] at H
          have c49b0 : (t202 == 4) = true := beq_iff_eq.mpr c49
          have c49b1 : (t202 != 4) = false := bne_eq_false_iff_eq.mpr c49
          clear c49
          by_cases c50 : t201 = true
          · subst c50
            have H1 : (if a0 ≥ 57348 then (if a0 ≤ 57454 then (if t202 = 5 then (none) else (some true)) else (none)) else (none)) = some r := by rw [if_pos rfl] at H; exact H
            clear H
            have H := H1
            clear H1
            by_cases c51 : a0 ≥ 57348
            · rw [if_pos c51] at H
              have c51b0 : decide (57348 ≤ a0) = true := decide_eq_true c51
              clear c51
              by_cases c52 : a0 ≤ 57454
              · rw [if_pos c52] at H
                have c52b0 : decide (a0 ≤ 57454) = true := decide_eq_true c52
                clear c52
                by_cases c53 : t202 = 5
                · rw [if_pos c53] at H
                  exact absurd H (by simp)
                · rw [if_neg c53] at H
                  have c53b0 : (t202 == 5) = false := beq_eq_false_iff_ne.mpr c53
                  have c53b1 : (t202 != 5) = true := bne_iff_ne.mpr c53
                  obtain rfl := Option.some.inj H
                  go_enter Try.func7, Try.ntmps7
                  go_wp2_with (first | ((with_reducible refine gate_callee (f := 9) rfl ?_); refine goesL_ (some 5) rfl rfl Try.func9 (by kernel_rfl) rfl #[] rfl (by (try simp only [List.map_toArray, List.map_cons, List.map_nil]); first | done | rfl | (simp only [List.length_drop, List.length_take]; rfl)) ?_; (with_reducible refine (clavierlaw09_awake.calls  true _ A2.out).mono ?_); rintro e w54 ⟨rfl, hb⟩; refine ⟨_, rfl, ?_⟩; have n0_ := Aside0.mk (below_step (by repeat (first | (with_reducible first | exact HB.out | apply below_alloc | apply pw_below_drewN | apply below_drew1) | exact HB.out)) hb); clear HB; have HB := n0_; clear n0_; (try clear hb); (try clear hb2); (try clear hk); (try clear hi)) | ((with_reducible refine gate_callee (f := 10) rfl ?_); refine goesL_ (some 7) rfl rfl Try.func10 (by kernel_rfl) rfl #[.int .i64 a0] rfl (by (try simp only [List.map_toArray, List.map_cons, List.map_nil]); first | done | rfl | (simp only [List.length_drop, List.length_take]; rfl)) ?_; (with_reducible refine (keys_Look.calls a0 t202 t203 t204 t205 t206 _ A3.out).mono ?_); rintro e w55 ⟨rfl, hb⟩; refine ⟨_, rfl, ?_⟩; have n0_ := Aside0.mk (below_step (by repeat (first | (with_reducible first | exact HB.out | apply below_alloc | apply pw_below_drewN | apply below_drew1) | exact HB.out)) hb); clear HB; have HB := n0_; clear n0_; (try clear hb); (try clear hb2); (try clear hk); (try clear hi)) | ((with_reducible refine gate_dst (N := 4) rfl ?_); refine box_event ?hg (N := 4) ?hd (cs := #[.int .i64 0, .int .u8 0, .int .i64 0, .int .i64 0, .bool false]) (t := 24) ?hr ?_; (case hd => rfl); (case hg => rfl); (case hr => first | (go_simp; done) | (go_simp; rfl)); intro gb207 hg w56 hbox hb; have n0_ := Aside0.mk (below_step (by repeat (first | (with_reducible first | exact HB.out | apply below_alloc | apply pw_below_drewN | apply below_drew1) | exact HB.out)) hb); have n1_ := Aside0.mk (hbox); have n2_ := Aside0.mk ((by rw [hg]; exact (below_size (by repeat (first | (with_reducible first | exact HB.out | apply below_alloc | apply pw_below_drewN | apply below_drew1) | exact HB.out))) : w.heap.size ≤ gb207)); have n3_ := Aside0.mk ((by rw [hg]; exact (below_size (by repeat (first | (with_reducible first | exact HB.out | apply below_alloc | apply pw_below_drewN | apply below_drew1) | exact HB.out))) : w.heap.size ≤ gb207)); clear HB; have HB := n0_; have BK207 := n1_; have GW207 := n2_; have GE207 := n3_; clear n0_ n1_ n2_ n3_; clear hb hbox hg; have hcz57_0 : w56.cell? ⟨gb207, 0, none⟩ = some (.int .i64 0) := (blk_cell BK207.out 0).trans rfl; have hcz57_1 : w56.cell? ⟨gb207, 1, none⟩ = some (.int .u8 0) := (blk_cell BK207.out 1).trans rfl; have hcz57_2 : w56.cell? ⟨gb207, 2, none⟩ = some (.int .i64 0) := (blk_cell BK207.out 2).trans rfl; have hcz57_3 : w56.cell? ⟨gb207, 3, none⟩ = some (.int .i64 0) := (blk_cell BK207.out 3).trans rfl; have hcz57_4 : w56.cell? ⟨gb207, 4, none⟩ = some (.bool false) := (blk_cell BK207.out 4).trans rfl; have hfz57_0 := blk_frozen BK207.out 0; have hfz57_1 := blk_frozen BK207.out 1; have hfz57_2 := blk_frozen BK207.out 2; have hfz57_3 := blk_frozen BK207.out 3; have hfz57_4 := blk_frozen BK207.out 4))
                  go_ret
                  exact ⟨by first | rfl | (simp [errW_none, errW_some] <;> rfl) | (simp [*, errW_none, errW_some] <;> rfl), by repeat (first | (with_reducible first | exact HB.out | apply below_alloc | apply pw_below_drewN | apply below_drew1 | refine below_set ?_ GE207.out) | exact HB.out)⟩
              · rw [if_neg c52] at H
                exact absurd H (by simp)
            · rw [if_neg c51] at H
              exact absurd H (by simp)
          · replace c50 := Bool.eq_false_iff.mpr c50
            subst c50
            have H1 : (none) = some r := by rw [if_neg (show ¬ (false = true) by decide)] at H; exact H
            clear H
            have H := H1
            clear H1
            exact absurd H (by simp)
        · rw [if_neg c49] at H
          have c49b0 : (t202 == 4) = false := beq_eq_false_iff_ne.mpr c49
          have c49b1 : (t202 != 4) = true := bne_iff_ne.mpr c49
          by_cases c58 : t202 = 5
          · rw [if_pos c58] at H
            have c58b0 : (t202 == 5) = true := beq_iff_eq.mpr c58
            have c58b1 : (t202 != 5) = false := bne_eq_false_iff_eq.mpr c58
            clear c58
            by_cases c59 : t201 = true
            · subst c59
              have H1 : (if a0 ≥ 57348 then (if a0 ≤ 57454 then (if t205 > 0 then (some t206) else (none)) else (none)) else (none)) = some r := by rw [if_pos rfl] at H; exact H
              clear H
              have H := H1
              clear H1
              by_cases c60 : a0 ≥ 57348
              · rw [if_pos c60] at H
                have c60b0 : decide (57348 ≤ a0) = true := decide_eq_true c60
                clear c60
                by_cases c61 : a0 ≤ 57454
                · rw [if_pos c61] at H
                  have c61b0 : decide (a0 ≤ 57454) = true := decide_eq_true c61
                  clear c61
                  by_cases c62 : t205 > 0
                  · rw [if_pos c62] at H
                    have c62b0 : decide (0 < t205) = true := decide_eq_true c62
                    clear c62
                    obtain rfl := Option.some.inj H
                    go_enter Try.func7, Try.ntmps7
                    go_wp2_with (first | ((with_reducible refine gate_callee (f := 9) rfl ?_); refine goesL_ (some 5) rfl rfl Try.func9 (by kernel_rfl) rfl #[] rfl (by (try simp only [List.map_toArray, List.map_cons, List.map_nil]); first | done | rfl | (simp only [List.length_drop, List.length_take]; rfl)) ?_; (with_reducible refine (clavierlaw09_awake.calls  true _ A2.out).mono ?_); rintro e w63 ⟨rfl, hb⟩; refine ⟨_, rfl, ?_⟩; have n0_ := Aside0.mk (below_step (by repeat (first | (with_reducible first | exact HB.out | apply below_alloc | apply pw_below_drewN | apply below_drew1) | exact HB.out)) hb); clear HB; have HB := n0_; clear n0_; (try clear hb); (try clear hb2); (try clear hk); (try clear hi)) | ((with_reducible refine gate_callee (f := 10) rfl ?_); refine goesL_ (some 7) rfl rfl Try.func10 (by kernel_rfl) rfl #[.int .i64 a0] rfl (by (try simp only [List.map_toArray, List.map_cons, List.map_nil]); first | done | rfl | (simp only [List.length_drop, List.length_take]; rfl)) ?_; (with_reducible refine (keys_Look.calls a0 t202 t203 t204 t205 t206 _ A3.out).mono ?_); rintro e w64 ⟨rfl, hb⟩; refine ⟨_, rfl, ?_⟩; have n0_ := Aside0.mk (below_step (by repeat (first | (with_reducible first | exact HB.out | apply below_alloc | apply pw_below_drewN | apply below_drew1) | exact HB.out)) hb); clear HB; have HB := n0_; clear n0_; (try clear hb); (try clear hb2); (try clear hk); (try clear hi)) | ((with_reducible refine gate_dst (N := 4) rfl ?_); refine box_event ?hg (N := 4) ?hd (cs := #[.int .i64 0, .int .u8 0, .int .i64 0, .int .i64 0, .bool false]) (t := 24) ?hr ?_; (case hd => rfl); (case hg => rfl); (case hr => first | (go_simp; done) | (go_simp; rfl)); intro gb207 hg w65 hbox hb; have n0_ := Aside0.mk (below_step (by repeat (first | (with_reducible first | exact HB.out | apply below_alloc | apply pw_below_drewN | apply below_drew1) | exact HB.out)) hb); have n1_ := Aside0.mk (hbox); have n2_ := Aside0.mk ((by rw [hg]; exact (below_size (by repeat (first | (with_reducible first | exact HB.out | apply below_alloc | apply pw_below_drewN | apply below_drew1) | exact HB.out))) : w.heap.size ≤ gb207)); have n3_ := Aside0.mk ((by rw [hg]; exact (below_size (by repeat (first | (with_reducible first | exact HB.out | apply below_alloc | apply pw_below_drewN | apply below_drew1) | exact HB.out))) : w.heap.size ≤ gb207)); clear HB; have HB := n0_; have BK207 := n1_; have GW207 := n2_; have GE207 := n3_; clear n0_ n1_ n2_ n3_; clear hb hbox hg; have hcz66_0 : w65.cell? ⟨gb207, 0, none⟩ = some (.int .i64 0) := (blk_cell BK207.out 0).trans rfl; have hcz66_1 : w65.cell? ⟨gb207, 1, none⟩ = some (.int .u8 0) := (blk_cell BK207.out 1).trans rfl; have hcz66_2 : w65.cell? ⟨gb207, 2, none⟩ = some (.int .i64 0) := (blk_cell BK207.out 2).trans rfl; have hcz66_3 : w65.cell? ⟨gb207, 3, none⟩ = some (.int .i64 0) := (blk_cell BK207.out 3).trans rfl; have hcz66_4 : w65.cell? ⟨gb207, 4, none⟩ = some (.bool false) := (blk_cell BK207.out 4).trans rfl; have hfz66_0 := blk_frozen BK207.out 0; have hfz66_1 := blk_frozen BK207.out 1; have hfz66_2 := blk_frozen BK207.out 2; have hfz66_3 := blk_frozen BK207.out 3; have hfz66_4 := blk_frozen BK207.out 4))
                    go_ret
                    exact ⟨by first | rfl | (simp [errW_none, errW_some] <;> rfl) | (simp [*, errW_none, errW_some] <;> rfl), by repeat (first | (with_reducible first | exact HB.out | apply below_alloc | apply pw_below_drewN | apply below_drew1 | refine below_set ?_ GE207.out) | exact HB.out)⟩
                  · rw [if_neg c62] at H
                    exact absurd H (by simp)
                · rw [if_neg c61] at H
                  exact absurd H (by simp)
              · rw [if_neg c60] at H
                exact absurd H (by simp)
            · replace c59 := Bool.eq_false_iff.mpr c59
              subst c59
              have H1 : (none) = some r := by rw [if_neg (show ¬ (false = true) by decide)] at H; exact H
              clear H
              have H := H1
              clear H1
              exact absurd H (by simp)
          · rw [if_neg c58] at H
            have c58b0 : (t202 == 5) = false := beq_eq_false_iff_ne.mpr c58
            have c58b1 : (t202 != 5) = true := bne_iff_ne.mpr c58
            by_cases c67 : t202 = 6
            · rw [if_pos c67] at H
              have c67b0 : (t202 == 6) = true := beq_iff_eq.mpr c67
              have c67b1 : (t202 != 6) = false := bne_eq_false_iff_eq.mpr c67
              clear c67
              by_cases c68 : t201 = true
              · subst c68
                have H1 : (if a0 ≥ 57348 then (if a0 ≤ 57454 then (some true) else (none)) else (none)) = some r := by rw [if_pos rfl] at H; exact H
                clear H
                have H := H1
                clear H1
                by_cases c69 : a0 ≥ 57348
                · rw [if_pos c69] at H
                  have c69b0 : decide (57348 ≤ a0) = true := decide_eq_true c69
                  clear c69
                  by_cases c70 : a0 ≤ 57454
                  · rw [if_pos c70] at H
                    have c70b0 : decide (a0 ≤ 57454) = true := decide_eq_true c70
                    clear c70
                    obtain rfl := Option.some.inj H
                    go_enter Try.func7, Try.ntmps7
                    go_wp2_with (first | ((with_reducible refine gate_callee (f := 9) rfl ?_); refine goesL_ (some 5) rfl rfl Try.func9 (by kernel_rfl) rfl #[] rfl (by (try simp only [List.map_toArray, List.map_cons, List.map_nil]); first | done | rfl | (simp only [List.length_drop, List.length_take]; rfl)) ?_; (with_reducible refine (clavierlaw09_awake.calls  true _ A2.out).mono ?_); rintro e w71 ⟨rfl, hb⟩; refine ⟨_, rfl, ?_⟩; have n0_ := Aside0.mk (below_step (by repeat (first | (with_reducible first | exact HB.out | apply below_alloc | apply pw_below_drewN | apply below_drew1) | exact HB.out)) hb); clear HB; have HB := n0_; clear n0_; (try clear hb); (try clear hb2); (try clear hk); (try clear hi)) | ((with_reducible refine gate_callee (f := 10) rfl ?_); refine goesL_ (some 7) rfl rfl Try.func10 (by kernel_rfl) rfl #[.int .i64 a0] rfl (by (try simp only [List.map_toArray, List.map_cons, List.map_nil]); first | done | rfl | (simp only [List.length_drop, List.length_take]; rfl)) ?_; (with_reducible refine (keys_Look.calls a0 t202 t203 t204 t205 t206 _ A3.out).mono ?_); rintro e w72 ⟨rfl, hb⟩; refine ⟨_, rfl, ?_⟩; have n0_ := Aside0.mk (below_step (by repeat (first | (with_reducible first | exact HB.out | apply below_alloc | apply pw_below_drewN | apply below_drew1) | exact HB.out)) hb); clear HB; have HB := n0_; clear n0_; (try clear hb); (try clear hb2); (try clear hk); (try clear hi)) | ((with_reducible refine gate_dst (N := 4) rfl ?_); refine box_event ?hg (N := 4) ?hd (cs := #[.int .i64 0, .int .u8 0, .int .i64 0, .int .i64 0, .bool false]) (t := 24) ?hr ?_; (case hd => rfl); (case hg => rfl); (case hr => first | (go_simp; done) | (go_simp; rfl)); intro gb207 hg w73 hbox hb; have n0_ := Aside0.mk (below_step (by repeat (first | (with_reducible first | exact HB.out | apply below_alloc | apply pw_below_drewN | apply below_drew1) | exact HB.out)) hb); have n1_ := Aside0.mk (hbox); have n2_ := Aside0.mk ((by rw [hg]; exact (below_size (by repeat (first | (with_reducible first | exact HB.out | apply below_alloc | apply pw_below_drewN | apply below_drew1) | exact HB.out))) : w.heap.size ≤ gb207)); have n3_ := Aside0.mk ((by rw [hg]; exact (below_size (by repeat (first | (with_reducible first | exact HB.out | apply below_alloc | apply pw_below_drewN | apply below_drew1) | exact HB.out))) : w.heap.size ≤ gb207)); clear HB; have HB := n0_; have BK207 := n1_; have GW207 := n2_; have GE207 := n3_; clear n0_ n1_ n2_ n3_; clear hb hbox hg; have hcz74_0 : w73.cell? ⟨gb207, 0, none⟩ = some (.int .i64 0) := (blk_cell BK207.out 0).trans rfl; have hcz74_1 : w73.cell? ⟨gb207, 1, none⟩ = some (.int .u8 0) := (blk_cell BK207.out 1).trans rfl; have hcz74_2 : w73.cell? ⟨gb207, 2, none⟩ = some (.int .i64 0) := (blk_cell BK207.out 2).trans rfl; have hcz74_3 : w73.cell? ⟨gb207, 3, none⟩ = some (.int .i64 0) := (blk_cell BK207.out 3).trans rfl; have hcz74_4 : w73.cell? ⟨gb207, 4, none⟩ = some (.bool false) := (blk_cell BK207.out 4).trans rfl; have hfz74_0 := blk_frozen BK207.out 0; have hfz74_1 := blk_frozen BK207.out 1; have hfz74_2 := blk_frozen BK207.out 2; have hfz74_3 := blk_frozen BK207.out 3; have hfz74_4 := blk_frozen BK207.out 4))
                    go_ret
                    exact ⟨by first | rfl | (simp [errW_none, errW_some] <;> rfl) | (simp [*, errW_none, errW_some] <;> rfl), by repeat (first | (with_reducible first | exact HB.out | apply below_alloc | apply pw_below_drewN | apply below_drew1 | refine below_set ?_ GE207.out) | exact HB.out)⟩
                  · rw [if_neg c70] at H
                    exact absurd H (by simp)
                · rw [if_neg c69] at H
                  exact absurd H (by simp)
              · replace c68 := Bool.eq_false_iff.mpr c68
                subst c68
                have H1 : (none) = some r := by rw [if_neg (show ¬ (false = true) by decide)] at H; exact H
                clear H
                have H := H1
                clear H1
                exact absurd H (by simp)
            · rw [if_neg c67] at H
              have c67b0 : (t202 == 6) = false := beq_eq_false_iff_ne.mpr c67
              have c67b1 : (t202 != 6) = true := bne_iff_ne.mpr c67
              by_cases c75 : t202 = 7
              · rw [if_pos c75] at H
                have c75b0 : (t202 == 7) = true := beq_iff_eq.mpr c75
                have c75b1 : (t202 != 7) = false := bne_eq_false_iff_eq.mpr c75
                clear c75
                by_cases c76 : t201 = true
                · subst c76
                  have H1 : (if a0 ≥ 57348 then (if a0 ≤ 57454 then (some true) else (none)) else (none)) = some r := by rw [if_pos rfl] at H; exact H
                  clear H
                  have H := H1
                  clear H1
                  by_cases c77 : a0 ≥ 57348
                  · rw [if_pos c77] at H
                    have c77b0 : decide (57348 ≤ a0) = true := decide_eq_true c77
                    clear c77
                    by_cases c78 : a0 ≤ 57454
                    · rw [if_pos c78] at H
                      have c78b0 : decide (a0 ≤ 57454) = true := decide_eq_true c78
                      clear c78
                      obtain rfl := Option.some.inj H
                      go_enter Try.func7, Try.ntmps7
                      go_wp2_with (first | ((with_reducible refine gate_callee (f := 9) rfl ?_); refine goesL_ (some 5) rfl rfl Try.func9 (by kernel_rfl) rfl #[] rfl (by (try simp only [List.map_toArray, List.map_cons, List.map_nil]); first | done | rfl | (simp only [List.length_drop, List.length_take]; rfl)) ?_; (with_reducible refine (clavierlaw09_awake.calls  true _ A2.out).mono ?_); rintro e w79 ⟨rfl, hb⟩; refine ⟨_, rfl, ?_⟩; have n0_ := Aside0.mk (below_step (by repeat (first | (with_reducible first | exact HB.out | apply below_alloc | apply pw_below_drewN | apply below_drew1) | exact HB.out)) hb); clear HB; have HB := n0_; clear n0_; (try clear hb); (try clear hb2); (try clear hk); (try clear hi)) | ((with_reducible refine gate_callee (f := 10) rfl ?_); refine goesL_ (some 7) rfl rfl Try.func10 (by kernel_rfl) rfl #[.int .i64 a0] rfl (by (try simp only [List.map_toArray, List.map_cons, List.map_nil]); first | done | rfl | (simp only [List.length_drop, List.length_take]; rfl)) ?_; (with_reducible refine (keys_Look.calls a0 t202 t203 t204 t205 t206 _ A3.out).mono ?_); rintro e w80 ⟨rfl, hb⟩; refine ⟨_, rfl, ?_⟩; have n0_ := Aside0.mk (below_step (by repeat (first | (with_reducible first | exact HB.out | apply below_alloc | apply pw_below_drewN | apply below_drew1) | exact HB.out)) hb); clear HB; have HB := n0_; clear n0_; (try clear hb); (try clear hb2); (try clear hk); (try clear hi)) | ((with_reducible refine gate_dst (N := 4) rfl ?_); refine box_event ?hg (N := 4) ?hd (cs := #[.int .i64 0, .int .u8 0, .int .i64 0, .int .i64 0, .bool false]) (t := 24) ?hr ?_; (case hd => rfl); (case hg => rfl); (case hr => first | (go_simp; done) | (go_simp; rfl)); intro gb207 hg w81 hbox hb; have n0_ := Aside0.mk (below_step (by repeat (first | (with_reducible first | exact HB.out | apply below_alloc | apply pw_below_drewN | apply below_drew1) | exact HB.out)) hb); have n1_ := Aside0.mk (hbox); have n2_ := Aside0.mk ((by rw [hg]; exact (below_size (by repeat (first | (with_reducible first | exact HB.out | apply below_alloc | apply pw_below_drewN | apply below_drew1) | exact HB.out))) : w.heap.size ≤ gb207)); have n3_ := Aside0.mk ((by rw [hg]; exact (below_size (by repeat (first | (with_reducible first | exact HB.out | apply below_alloc | apply pw_below_drewN | apply below_drew1) | exact HB.out))) : w.heap.size ≤ gb207)); clear HB; have HB := n0_; have BK207 := n1_; have GW207 := n2_; have GE207 := n3_; clear n0_ n1_ n2_ n3_; clear hb hbox hg; have hcz82_0 : w81.cell? ⟨gb207, 0, none⟩ = some (.int .i64 0) := (blk_cell BK207.out 0).trans rfl; have hcz82_1 : w81.cell? ⟨gb207, 1, none⟩ = some (.int .u8 0) := (blk_cell BK207.out 1).trans rfl; have hcz82_2 : w81.cell? ⟨gb207, 2, none⟩ = some (.int .i64 0) := (blk_cell BK207.out 2).trans rfl; have hcz82_3 : w81.cell? ⟨gb207, 3, none⟩ = some (.int .i64 0) := (blk_cell BK207.out 3).trans rfl; have hcz82_4 : w81.cell? ⟨gb207, 4, none⟩ = some (.bool false) := (blk_cell BK207.out 4).trans rfl; have hfz82_0 := blk_frozen BK207.out 0; have hfz82_1 := blk_frozen BK207.out 1; have hfz82_2 := blk_frozen BK207.out 2; have hfz82_3 := blk_frozen BK207.out 3; have hfz82_4 := blk_frozen BK207.out 4))
                      go_ret
                      exact ⟨by first | rfl | (simp [errW_none, errW_some] <;> rfl) | (simp [*, errW_none, errW_some] <;> rfl), by repeat (first | (with_reducible first | exact HB.out | apply below_alloc | apply pw_below_drewN | apply below_drew1 | refine below_set ?_ GE207.out) | exact HB.out)⟩
                    · rw [if_neg c78] at H
                      exact absurd H (by simp)
                  · rw [if_neg c77] at H
                    exact absurd H (by simp)
                · replace c76 := Bool.eq_false_iff.mpr c76
                  subst c76
                  have H1 : (none) = some r := by rw [if_neg (show ¬ (false = true) by decide)] at H; exact H
                  clear H
                  have H := H1
                  clear H1
                  exact absurd H (by simp)
              · rw [if_neg c75] at H
                have c75b0 : (t202 == 7) = false := beq_eq_false_iff_ne.mpr c75
                have c75b1 : (t202 != 7) = true := bne_iff_ne.mpr c75
                by_cases c83 : t201 = true
                · subst c83
                  have H1 : (some (t202 == 0 && (t203 == 0 && (t204 == 0 && (t205 == 0 && (!t206)))))) = some r := by rw [if_pos rfl] at H; exact H
                  clear H
                  have H := H1
                  clear H1
                  obtain rfl := Option.some.inj H
                  go_enter Try.func7, Try.ntmps7
                  go_wp2_with (first | ((with_reducible refine gate_callee (f := 9) rfl ?_); refine goesL_ (some 5) rfl rfl Try.func9 (by kernel_rfl) rfl #[] rfl (by (try simp only [List.map_toArray, List.map_cons, List.map_nil]); first | done | rfl | (simp only [List.length_drop, List.length_take]; rfl)) ?_; (with_reducible refine (clavierlaw09_awake.calls  true _ A2.out).mono ?_); rintro e w84 ⟨rfl, hb⟩; refine ⟨_, rfl, ?_⟩; have n0_ := Aside0.mk (below_step (by repeat (first | (with_reducible first | exact HB.out | apply below_alloc | apply pw_below_drewN | apply below_drew1) | exact HB.out)) hb); clear HB; have HB := n0_; clear n0_; (try clear hb); (try clear hb2); (try clear hk); (try clear hi)) | ((with_reducible refine gate_callee (f := 10) rfl ?_); refine goesL_ (some 7) rfl rfl Try.func10 (by kernel_rfl) rfl #[.int .i64 a0] rfl (by (try simp only [List.map_toArray, List.map_cons, List.map_nil]); first | done | rfl | (simp only [List.length_drop, List.length_take]; rfl)) ?_; (with_reducible refine (keys_Look.calls a0 t202 t203 t204 t205 t206 _ A3.out).mono ?_); rintro e w85 ⟨rfl, hb⟩; refine ⟨_, rfl, ?_⟩; have n0_ := Aside0.mk (below_step (by repeat (first | (with_reducible first | exact HB.out | apply below_alloc | apply pw_below_drewN | apply below_drew1) | exact HB.out)) hb); clear HB; have HB := n0_; clear n0_; (try clear hb); (try clear hb2); (try clear hk); (try clear hi)) | ((with_reducible refine gate_dst (N := 4) rfl ?_); refine box_event ?hg (N := 4) ?hd (cs := #[.int .i64 0, .int .u8 0, .int .i64 0, .int .i64 0, .bool false]) (t := 24) ?hr ?_; (case hd => rfl); (case hg => rfl); (case hr => first | (go_simp; done) | (go_simp; rfl)); intro gb207 hg w86 hbox hb; have n0_ := Aside0.mk (below_step (by repeat (first | (with_reducible first | exact HB.out | apply below_alloc | apply pw_below_drewN | apply below_drew1) | exact HB.out)) hb); have n1_ := Aside0.mk (hbox); have n2_ := Aside0.mk ((by rw [hg]; exact (below_size (by repeat (first | (with_reducible first | exact HB.out | apply below_alloc | apply pw_below_drewN | apply below_drew1) | exact HB.out))) : w.heap.size ≤ gb207)); have n3_ := Aside0.mk ((by rw [hg]; exact (below_size (by repeat (first | (with_reducible first | exact HB.out | apply below_alloc | apply pw_below_drewN | apply below_drew1) | exact HB.out))) : w.heap.size ≤ gb207)); clear HB; have HB := n0_; have BK207 := n1_; have GW207 := n2_; have GE207 := n3_; clear n0_ n1_ n2_ n3_; clear hb hbox hg; have hcz87_0 : w86.cell? ⟨gb207, 0, none⟩ = some (.int .i64 0) := (blk_cell BK207.out 0).trans rfl; have hcz87_1 : w86.cell? ⟨gb207, 1, none⟩ = some (.int .u8 0) := (blk_cell BK207.out 1).trans rfl; have hcz87_2 : w86.cell? ⟨gb207, 2, none⟩ = some (.int .i64 0) := (blk_cell BK207.out 2).trans rfl; have hcz87_3 : w86.cell? ⟨gb207, 3, none⟩ = some (.int .i64 0) := (blk_cell BK207.out 3).trans rfl; have hcz87_4 : w86.cell? ⟨gb207, 4, none⟩ = some (.bool false) := (blk_cell BK207.out 4).trans rfl; have hfz87_0 := blk_frozen BK207.out 0; have hfz87_1 := blk_frozen BK207.out 1; have hfz87_2 := blk_frozen BK207.out 2; have hfz87_3 := blk_frozen BK207.out 3; have hfz87_4 := blk_frozen BK207.out 4))
                  go_ret
                  exact ⟨by first | rfl | (simp [errW_none, errW_some] <;> rfl) | (simp [*, errW_none, errW_some] <;> rfl), by repeat (first | (with_reducible first | exact HB.out | apply below_alloc | apply pw_below_drewN | apply below_drew1 | refine below_set ?_ GE207.out) | exact HB.out)⟩
                · replace c83 := Bool.eq_false_iff.mpr c83
                  subst c83
                  have H1 : (none) = some r := by rw [if_neg (show ¬ (false = true) by decide)] at H; exact H
                  clear H
                  have H := H1
                  clear H1
                  exact absurd H (by simp)

end Go.Proofs.Ytkbepgelgcoihaa.S
